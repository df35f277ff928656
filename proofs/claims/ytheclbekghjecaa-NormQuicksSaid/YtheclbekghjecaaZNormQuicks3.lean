/- The law NormQuicks answers true, whatever its arguments: part 4 of 6 of its proof (the machine on trees, the functions' contracts). -/

import Derived.Test.YtheclbekghjecaaZNormQuicks2
section
open Go Go.AM Go.Proofs
set_option maxRecDepth 10000
set_option linter.unusedVariables false
set_option linter.unusedSimpArgs false
namespace Go.AM
def wbig (o : MOp) (l : List Shape) (s : Int) : Bool := bif opE o l == 0 then decide (w64 (s + opW o l) > 131072) else false
def werr (o : MOp) (l : List Shape) (s : Int) : Int := bif wbig o l s then 86 else opE o l
/-- the ops, one behind another -/
def wgo : List MOp → Nat → List Shape → Int → List Shape × Int × Fault
  | [], _, l, s => (l, s, ⟨0, 0, 0⟩)
  | o :: r, k, l, s => bif werr o l s != 0 then ([], 0, ⟨werr o l s, w64 ((k : Int) + 1), 0⟩) else wgo r (k + 1) (l ++ [opS o l]) (w64 (s + opW o l))
def wh1 (m : Model) : Bool := shapeE m.In != 0
def wh2 (m : Model) : Bool := bif !bytesB [m.Lo, m.Hi] then true else decide (m.Lo > m.Hi)
def wh3 (m : Model) : Bool := decide (((m.Ops.map opC).length : Int) > 64)
def wh4 (m : Model) : Bool := bif decide (m.Out < 0) then true else decide (m.Out > ((m.Ops.map opC).length : Int))
/-- shapes, work and fault -/
def wholeF (m : Model) : List Shape × Int × Fault :=
  if wh1 m then ([], 0, ⟨shapeE m.In, 0, 0⟩) else if wh2 m then ([], 0, ⟨85, 0, 0⟩) else if wh3 m then ([], 0, ⟨80, 0, 0⟩) else if wh4 m then ([], 0, ⟨3, 0, 0⟩) else wgo m.Ops 0 [m.In] 0
structure WI (m : Model) where
  (k : Nat) (l : List Shape) (s : Int)
  (hk : k ≤ m.Ops.length)
  (hl : l.length = k + 1)
  (hm : m.Ops.length ≤ 64)
  (h : wholeF m = wgo (m.Ops.drop k) k l s)
theorem wgo_step {m : Model} {k : Nat} {l : List Shape} {s : Int} (hk : k < m.Ops.length) : wgo (m.Ops.drop k) k l s =
    bif werr (m.Ops.getD k default) l s != 0 then ([], 0, ⟨werr (m.Ops.getD k default) l s, w64 ((k : Int) + 1), 0⟩) else wgo (m.Ops.drop (k + 1)) (k + 1) (l ++ [opS (m.Ops.getD k default) l]) (w64 (s + opW (m.Ops.getD k default) l)) := by
  have e : m.Ops.drop k = m.Ops.getD k default :: m.Ops.drop (k + 1) := by rw [List.drop_eq_getElem_cons hk]; simp [hk]
  rw [e, wgo]
theorem werr_big {o : MOp} {l : List Shape} {s : Int} (h : wbig o l s = true) : werr o l s = 86 := by rw [werr, h]; rfl
theorem werr_ok {o : MOp} {l : List Shape} {s : Int} (h : wbig o l s = false) : werr o l s = opE o l := by rw [werr, h]; rfl
theorem wgo_bad {m : Model} {k : Nat} {l : List Shape} {s e : Int} (hk : k < m.Ops.length) (h : werr (m.Ops.getD k default) l s = e) (hn : (e != 0) = true) : wgo (m.Ops.drop k) k l s = ([], 0, ⟨e, w64 ((k : Int) + 1), 0⟩) := by rw [wgo_step hk, h, hn]; rfl
theorem wgo_good {m : Model} {k : Nat} {l : List Shape} {s e : Int} (hk : k < m.Ops.length) (h : werr (m.Ops.getD k default) l s = e) (hn : (e != 0) = false) : wgo (m.Ops.drop k) k l s = wgo (m.Ops.drop (k + 1)) (k + 1) (l ++ [opS (m.Ops.getD k default) l]) (w64 (s + opW (m.Ops.getD k default) l)) := by rw [wgo_step hk, h, hn]; rfl
theorem model_whole (m : Model) : Ok Try.prog 59 [.agg (modelC m)] (.tup [.ro ((wholeF m).1.map shapeC), .int .i64 (wholeF m).2.1, .agg (faultC (wholeF m).2.2)]) := by
  refine fn_ok Tb_ok (fn := Try.f59) Try.func59 rfl rfl (e := [(0, _)]) rfl (by decide) rfl ?_
  refine W_seq ?_
  refine W_region rfl ?_
  refine L_box Tb_ok (cs := [.int _ _, .int _ _, .int _ _, .int _ _, .int _ _, _, .int _ _]) (n := 7) rfl rfl rfl rfl trivial ?_
  refine L_v Tb_ok (v := .nils) (av rfl ⟨trivial, trivial⟩) rfl ?_
  refine L_v Tb_ok (v := .int _ _) (av rfl ⟨trivial, trivial⟩) rfl ?_
  refine L_alloc Tb_ok (z := [.int .i64 0, .int .i64 0, .int .i64 0]) (n := 3) rfl rfl rfl rfl rfl ?_
  refine WL_nil ?_
  refine W_seq ?_
  refine W_region rfl ?_
  refine L_v Tb_ok (v := .ptr _ _ _) (av rfl ⟨trivial, trivial⟩) rfl ?_
  refine L_v Tb_ok (v := .agg [.int _ _, .int _ _, .int _ _]) (av rfl ⟨trivial, rfl⟩) rfl ?_
  refine L_call (hr := shape_Elems m.In) rfl rfl trivial rfl rfl ?_
  refine L_v Tb_ok (v := .tup [_, _]) (av rfl ⟨trivial, trivial⟩) rfl ?_
  refine L_v Tb_ok (v := .int _ _) (av rfl ⟨trivial, trivial⟩) rfl ?_
  refine L_v Tb_ok (v := .int _ _) (av rfl ⟨trivial, trivial⟩) rfl ?_
  refine L_v Tb_ok (v := .int _ _) (av rfl ⟨trivial, trivial⟩) rfl ?_
  refine L_v Tb_ok (v := .int _ _) (av rfl ⟨trivial, trivial⟩) rfl ?_
  refine WL_nil ?_
  refine W_seq ?_
  refine W_block ?_
  refine W_seq ?_
  refine W_region rfl ?_
  refine L_v Tb_ok (v := .int _ _) (av rfl ⟨trivial, trivial⟩) rfl ?_
  refine L_v Tb_ok (v := .bool _) (av rfl ⟨trivial, trivial⟩) rfl ?_
  refine L_v Tb_ok (v := .bool _) (av rfl ⟨trivial, trivial⟩) rfl ?_
  refine WL_nil ?_
  refine W_cond (b := _) rfl (fun h20 => ?_) (fun h20 => ?_)
  · refine W_seq ?_
    refine W_region rfl ?_
    refine L_v Tb_ok (v := .int _ _) (av rfl ⟨trivial, trivial⟩) rfl ?_
    refine L_v Tb_ok (v := .agg [.int _ _, .int _ _, .int _ _]) (av rfl ⟨trivial, rfl⟩) rfl ?_
    refine L_v Tb_ok (v := .nils) (av rfl ⟨trivial, trivial⟩) rfl ?_
    refine L_v Tb_ok (v := .int _ _) (av rfl ⟨trivial, trivial⟩) rfl ?_
    refine L_store Tb_ok (v := .agg [.int _ _, .int _ _, .int _ _]) (cs := [_, _, _]) (es' := [[_, _, _]]) rfl rfl rfl rfl rfl rfl rfl rfl rfl rfl ⟨trivial, trivial⟩ ?_
    refine WL_nil ?_
    refine W_ret ?_
    first | (refine ends (l := [.app _ _, .int _ _, .agg [.int _ _, .int _ _, .int _ _]]) (q := .tup [.ro _, .int _ _, .agg [.int _ _, .int _ _, .int _ _]]) (.inr rfl) rfl ⟨trivial, trivial, rfl, trivial⟩ rfl rfl ?_) | (refine ends (l := [.nils, .int _ _, .agg [.int _ _, .int _ _, .int _ _]]) (q := .tup [.ro _, .int _ _, .agg [.int _ _, .int _ _, .int _ _]]) (.inr rfl) rfl ⟨trivial, trivial, rfl, trivial⟩ rfl rfl ?_) | (refine ends (l := [.ro _, .int _ _, .agg [.int _ _, .int _ _, .int _ _]]) (q := .tup [.ro _, .int _ _, .agg [.int _ _, .int _ _, .int _ _]]) (.inr rfl) rfl ⟨trivial, trivial, rfl, trivial⟩ rfl rfl ?_)
    try replace h20 : wh1 m = true := h20
    try replace h20 : wh1 m = false := h20
    try replace h25 : wh2 m = true := h25
    try replace h25 : wh2 m = false := h25
    try replace h41 : wh3 m = true := h41
    try replace h41 : wh3 m = false := h41
    try replace h47 : wh4 m = true := h47
    try replace h47 : wh4 m = false := h47
    first
    | (simp [wholeF, *, faultC]; done)
    | (simp only [List.length_map] at h67
       rcases Nat.lt_or_ge k m.Ops.length with hlt | hge
       · first
         | (rw [hw, wgo_bad hlt (werr_big (show wbig (m.Ops.getD k default) l s = true from h86)) (show ((86 : Int) != 0) = true from h88)]; rfl)
         | (rw [hw, wgo_bad hlt (werr_ok (show wbig (m.Ops.getD k default) l s = false from h86)) (show (opE (m.Ops.getD k default) l != 0) = true from h88_1)]; rfl)
         | (simp at h67; omega)
       · have he : k = m.Ops.length := Nat.le_antisymm hk hge
         subst he
         first | (rw [hw, List.drop_length, wgo]; rfl) | (simp at h67; done))
  · refine W_seq ?_
    refine W_region rfl ?_
    refine L_v Tb_ok (v := .ptr _ _ _) (av rfl ⟨trivial, trivial⟩) rfl ?_
    refine L_v Tb_ok (v := .int _ _) (av rfl ⟨trivial, rfl⟩) rfl ?_
    refine L_v Tb_ok (v := .ptr _ _ _) (av rfl ⟨trivial, trivial⟩) rfl ?_
    refine L_v Tb_ok (v := .int _ _) (av rfl ⟨trivial, rfl⟩) rfl ?_
    refine L_build Tb_ok (t := 56) (len := 2) (el := 3) (sz := 1) (es := [[_], [_]]) (z := [.int .i64 0]) rfl rfl rfl rfl rfl (by decide) trivial rfl rfl rfl rfl rfl ?_
    refine L_freeze (t := 30) (l := _) rfl rfl rfl rfl rfl rfl rfl ?_
    refine L_call (hr := model_byte8 [m.Lo, m.Hi] (by simp)) rfl rfl trivial rfl rfl ?_
    refine L_v Tb_ok (v := .bool _) (av rfl ⟨trivial, trivial⟩) rfl ?_
    refine L_v Tb_ok (v := .bool _) (av rfl ⟨trivial, trivial⟩) rfl ?_
    refine L_g Tb_ok (v := .ptr _ _ _) rfl rfl ((fun hg => (av rfl ⟨trivial, trivial⟩))) rfl rfl ?_
    refine L_g Tb_ok (v := .int _ _) rfl rfl ((fun hg => (av rfl ⟨⟨⟨(by first | exact hg | (simp_all; done) | (simp at hg ⊢; simp [hg])), True.intro⟩, True.intro⟩, rfl⟩))) rfl rfl ?_
    refine L_g Tb_ok (v := .ptr _ _ _) rfl rfl ((fun hg => (av rfl ⟨trivial, trivial⟩))) rfl rfl ?_
    refine L_g Tb_ok (v := .int _ _) rfl rfl ((fun hg => (av rfl ⟨⟨⟨(by first | exact hg | (simp_all; done) | (simp at hg ⊢; simp [hg])), True.intro⟩, True.intro⟩, rfl⟩))) rfl rfl ?_
    refine L_g Tb_ok (v := .bool _) rfl rfl ((fun hg => (av rfl ⟨⟨⟨(by first | exact hg | (simp_all; done) | (simp at hg ⊢; simp [hg])), True.intro⟩, ⟨⟨(by first | exact hg | (simp_all; done) | (simp at hg ⊢; simp [hg])), True.intro⟩, True.intro⟩⟩, trivial⟩))) rfl rfl ?_
    refine L_v Tb_ok (v := .bool _) (av rfl (by refine ⟨?_, fun h => ?_, fun h => ?_⟩ <;> first | exact True.intro | exact ⟨h, True.intro⟩ | (refine ⟨?_, True.intro⟩; first | (rw [h]; done) | (rw [h]; rfl) | (simp [h]; done) | (simp at h hg ⊢; simp [h, hg]; done) | (simp_all; done) | (simp_all; omega)))) rfl ?_
    refine L_v Tb_ok (v := .bool _) (av rfl ⟨trivial, trivial⟩) rfl ?_
    refine WL_nil ?_
    refine W_cond (b := _) rfl (fun h25 => ?_) (fun h25 => ?_)
    · refine W_seq ?_
      refine W_region rfl ?_
      refine L_v Tb_ok (v := .agg [.int _ _, .int _ _, .int _ _]) (av rfl ⟨trivial, rfl⟩) rfl ?_
      refine L_v Tb_ok (v := .nils) (av rfl ⟨trivial, trivial⟩) rfl ?_
      refine L_v Tb_ok (v := .int _ _) (av rfl ⟨trivial, trivial⟩) rfl ?_
      refine L_store Tb_ok (v := .agg [.int _ _, .int _ _, .int _ _]) (cs := [_, _, _]) (es' := [[_, _, _]]) rfl rfl rfl rfl rfl rfl rfl rfl rfl rfl ⟨trivial, trivial⟩ ?_
      refine WL_nil ?_
      refine W_ret ?_
      first | (refine ends (l := [.app _ _, .int _ _, .agg [.int _ _, .int _ _, .int _ _]]) (q := .tup [.ro _, .int _ _, .agg [.int _ _, .int _ _, .int _ _]]) (.inr rfl) rfl ⟨trivial, trivial, rfl, trivial⟩ rfl rfl ?_) | (refine ends (l := [.nils, .int _ _, .agg [.int _ _, .int _ _, .int _ _]]) (q := .tup [.ro _, .int _ _, .agg [.int _ _, .int _ _, .int _ _]]) (.inr rfl) rfl ⟨trivial, trivial, rfl, trivial⟩ rfl rfl ?_) | (refine ends (l := [.ro _, .int _ _, .agg [.int _ _, .int _ _, .int _ _]]) (q := .tup [.ro _, .int _ _, .agg [.int _ _, .int _ _, .int _ _]]) (.inr rfl) rfl ⟨trivial, trivial, rfl, trivial⟩ rfl rfl ?_)
      try replace h20 : wh1 m = true := h20
      try replace h20 : wh1 m = false := h20
      try replace h25 : wh2 m = true := h25
      try replace h25 : wh2 m = false := h25
      try replace h41 : wh3 m = true := h41
      try replace h41 : wh3 m = false := h41
      try replace h47 : wh4 m = true := h47
      try replace h47 : wh4 m = false := h47
      first
      | (simp [wholeF, *, faultC]; done)
      | (simp only [List.length_map] at h67
         rcases Nat.lt_or_ge k m.Ops.length with hlt | hge
         · first
           | (rw [hw, wgo_bad hlt (werr_big (show wbig (m.Ops.getD k default) l s = true from h86)) (show ((86 : Int) != 0) = true from h88)]; rfl)
           | (rw [hw, wgo_bad hlt (werr_ok (show wbig (m.Ops.getD k default) l s = false from h86)) (show (opE (m.Ops.getD k default) l != 0) = true from h88_1)]; rfl)
           | (simp at h67; omega)
         · have he : k = m.Ops.length := Nat.le_antisymm hk hge
           subst he
           first | (rw [hw, List.drop_length, wgo]; rfl) | (simp at h67; done))
    · refine W_seq ?_
      refine W_region rfl ?_
      refine L_v Tb_ok (v := .ptr _ _ _) (av rfl ⟨trivial, trivial⟩) rfl ?_
      first | (refine L_v Tb_ok (v := .ro _) (av rfl ⟨trivial, rfl⟩) rfl ?_) | (refine L_v Tb_ok (v := .app _ _) (av rfl ⟨trivial, rfl⟩) rfl ?_) | (refine L_v Tb_ok (v := .row _ _ _) (av rfl ⟨trivial, rfl⟩) rfl ?_) | (refine L_v Tb_ok (v := .nils) (av rfl ⟨trivial, rfl⟩) rfl ?_)
      refine L_v Tb_ok (v := .int _ _) (av rfl ⟨trivial, trivial⟩) rfl ?_
      refine L_v Tb_ok (v := .bool _) (av rfl ⟨trivial, trivial⟩) rfl ?_
      refine L_v Tb_ok (v := .bool _) (av rfl ⟨trivial, trivial⟩) rfl ?_
      refine WL_nil ?_
      refine W_cond (b := _) rfl (fun h41 => ?_) (fun h41 => ?_)
      · refine W_seq ?_
        refine W_region rfl ?_
        refine L_v Tb_ok (v := .agg [.int _ _, .int _ _, .int _ _]) (av rfl ⟨trivial, rfl⟩) rfl ?_
        refine L_v Tb_ok (v := .nils) (av rfl ⟨trivial, trivial⟩) rfl ?_
        refine L_v Tb_ok (v := .int _ _) (av rfl ⟨trivial, trivial⟩) rfl ?_
        refine L_store Tb_ok (v := .agg [.int _ _, .int _ _, .int _ _]) (cs := [_, _, _]) (es' := [[_, _, _]]) rfl rfl rfl rfl rfl rfl rfl rfl rfl rfl ⟨trivial, trivial⟩ ?_
        refine WL_nil ?_
        refine W_ret ?_
        first | (refine ends (l := [.app _ _, .int _ _, .agg [.int _ _, .int _ _, .int _ _]]) (q := .tup [.ro _, .int _ _, .agg [.int _ _, .int _ _, .int _ _]]) (.inr rfl) rfl ⟨trivial, trivial, rfl, trivial⟩ rfl rfl ?_) | (refine ends (l := [.nils, .int _ _, .agg [.int _ _, .int _ _, .int _ _]]) (q := .tup [.ro _, .int _ _, .agg [.int _ _, .int _ _, .int _ _]]) (.inr rfl) rfl ⟨trivial, trivial, rfl, trivial⟩ rfl rfl ?_) | (refine ends (l := [.ro _, .int _ _, .agg [.int _ _, .int _ _, .int _ _]]) (q := .tup [.ro _, .int _ _, .agg [.int _ _, .int _ _, .int _ _]]) (.inr rfl) rfl ⟨trivial, trivial, rfl, trivial⟩ rfl rfl ?_)
        try replace h20 : wh1 m = true := h20
        try replace h20 : wh1 m = false := h20
        try replace h25 : wh2 m = true := h25
        try replace h25 : wh2 m = false := h25
        try replace h41 : wh3 m = true := h41
        try replace h41 : wh3 m = false := h41
        try replace h47 : wh4 m = true := h47
        try replace h47 : wh4 m = false := h47
        first
        | (simp [wholeF, *, faultC]; done)
        | (simp only [List.length_map] at h67
           rcases Nat.lt_or_ge k m.Ops.length with hlt | hge
           · first
             | (rw [hw, wgo_bad hlt (werr_big (show wbig (m.Ops.getD k default) l s = true from h86)) (show ((86 : Int) != 0) = true from h88)]; rfl)
             | (rw [hw, wgo_bad hlt (werr_ok (show wbig (m.Ops.getD k default) l s = false from h86)) (show (opE (m.Ops.getD k default) l != 0) = true from h88_1)]; rfl)
             | (simp at h67; omega)
           · have he : k = m.Ops.length := Nat.le_antisymm hk hge
             subst he
             first | (rw [hw, List.drop_length, wgo]; rfl) | (simp at h67; done))
      · refine W_seq ?_
        refine W_region rfl ?_
        refine L_v Tb_ok (v := .ptr _ _ _) (av rfl ⟨trivial, trivial⟩) rfl ?_
        refine L_v Tb_ok (v := .int _ _) (av rfl ⟨trivial, rfl⟩) rfl ?_
        refine L_v Tb_ok (v := .bool _) (av rfl ⟨trivial, trivial⟩) rfl ?_
        refine L_v Tb_ok (v := .bool _) (av rfl ⟨trivial, trivial⟩) rfl ?_
        refine L_g Tb_ok (v := .ptr _ _ _) rfl rfl ((fun hg => (av rfl ⟨trivial, trivial⟩))) rfl rfl ?_
        refine L_g Tb_ok (v := .int _ _) rfl rfl ((fun hg => (av rfl ⟨⟨⟨(by first | exact hg | (simp_all; done) | (simp at hg ⊢; simp [hg])), True.intro⟩, True.intro⟩, rfl⟩))) rfl rfl ?_
        refine L_g Tb_ok (v := .ptr _ _ _) rfl rfl ((fun hg => (av rfl ⟨trivial, trivial⟩))) rfl rfl ?_
        first | (refine L_g Tb_ok (v := .ro _) rfl rfl ((fun hg => (av rfl ⟨⟨⟨(by first | exact hg | (simp_all; done) | (simp at hg ⊢; simp [hg])), True.intro⟩, True.intro⟩, rfl⟩))) rfl rfl ?_) | (refine L_g Tb_ok (v := .app _ _) rfl rfl ((fun hg => (av rfl ⟨⟨⟨(by first | exact hg | (simp_all; done) | (simp at hg ⊢; simp [hg])), True.intro⟩, True.intro⟩, rfl⟩))) rfl rfl ?_) | (refine L_g Tb_ok (v := .row _ _ _) rfl rfl ((fun hg => (av rfl ⟨⟨⟨(by first | exact hg | (simp_all; done) | (simp at hg ⊢; simp [hg])), True.intro⟩, True.intro⟩, rfl⟩))) rfl rfl ?_) | (refine L_g Tb_ok (v := .nils) rfl rfl ((fun hg => (av rfl ⟨⟨⟨(by first | exact hg | (simp_all; done) | (simp at hg ⊢; simp [hg])), True.intro⟩, True.intro⟩, rfl⟩))) rfl rfl ?_)
        refine L_g Tb_ok (v := .int _ _) rfl rfl ((fun hg => (av rfl ⟨⟨⟨(by first | exact hg | (simp_all; done) | (simp at hg ⊢; simp [hg])), True.intro⟩, True.intro⟩, trivial⟩))) rfl rfl ?_
        refine L_g Tb_ok (v := .bool _) rfl rfl ((fun hg => (av rfl ⟨⟨⟨(by first | exact hg | (simp_all; done) | (simp at hg ⊢; simp [hg])), True.intro⟩, ⟨⟨(by first | exact hg | (simp_all; done) | (simp at hg ⊢; simp [hg])), True.intro⟩, True.intro⟩⟩, trivial⟩))) rfl rfl ?_
        refine L_v Tb_ok (v := .bool _) (av rfl (by refine ⟨?_, fun h => ?_, fun h => ?_⟩ <;> first | exact True.intro | exact ⟨h, True.intro⟩ | (refine ⟨?_, True.intro⟩; first | (rw [h]; done) | (rw [h]; rfl) | (simp [h]; done) | (simp at h hg ⊢; simp [h, hg]; done) | (simp_all; done) | (simp_all; omega)))) rfl ?_
        refine L_v Tb_ok (v := .bool _) (av rfl ⟨trivial, trivial⟩) rfl ?_
        refine WL_nil ?_
        refine W_cond (b := _) rfl (fun h47 => ?_) (fun h47 => ?_)
        · refine W_seq ?_
          refine W_region rfl ?_
          refine L_v Tb_ok (v := .agg [.int _ _, .int _ _, .int _ _]) (av rfl ⟨trivial, rfl⟩) rfl ?_
          refine L_v Tb_ok (v := .nils) (av rfl ⟨trivial, trivial⟩) rfl ?_
          refine L_v Tb_ok (v := .int _ _) (av rfl ⟨trivial, trivial⟩) rfl ?_
          refine L_store Tb_ok (v := .agg [.int _ _, .int _ _, .int _ _]) (cs := [_, _, _]) (es' := [[_, _, _]]) rfl rfl rfl rfl rfl rfl rfl rfl rfl rfl ⟨trivial, trivial⟩ ?_
          refine WL_nil ?_
          refine W_ret ?_
          first | (refine ends (l := [.app _ _, .int _ _, .agg [.int _ _, .int _ _, .int _ _]]) (q := .tup [.ro _, .int _ _, .agg [.int _ _, .int _ _, .int _ _]]) (.inr rfl) rfl ⟨trivial, trivial, rfl, trivial⟩ rfl rfl ?_) | (refine ends (l := [.nils, .int _ _, .agg [.int _ _, .int _ _, .int _ _]]) (q := .tup [.ro _, .int _ _, .agg [.int _ _, .int _ _, .int _ _]]) (.inr rfl) rfl ⟨trivial, trivial, rfl, trivial⟩ rfl rfl ?_) | (refine ends (l := [.ro _, .int _ _, .agg [.int _ _, .int _ _, .int _ _]]) (q := .tup [.ro _, .int _ _, .agg [.int _ _, .int _ _, .int _ _]]) (.inr rfl) rfl ⟨trivial, trivial, rfl, trivial⟩ rfl rfl ?_)
          try replace h20 : wh1 m = true := h20
          try replace h20 : wh1 m = false := h20
          try replace h25 : wh2 m = true := h25
          try replace h25 : wh2 m = false := h25
          try replace h41 : wh3 m = true := h41
          try replace h41 : wh3 m = false := h41
          try replace h47 : wh4 m = true := h47
          try replace h47 : wh4 m = false := h47
          first
          | (simp [wholeF, *, faultC]; done)
          | (simp only [List.length_map] at h67
             rcases Nat.lt_or_ge k m.Ops.length with hlt | hge
             · first
               | (rw [hw, wgo_bad hlt (werr_big (show wbig (m.Ops.getD k default) l s = true from h86)) (show ((86 : Int) != 0) = true from h88)]; rfl)
               | (rw [hw, wgo_bad hlt (werr_ok (show wbig (m.Ops.getD k default) l s = false from h86)) (show (opE (m.Ops.getD k default) l != 0) = true from h88_1)]; rfl)
               | (simp at h67; omega)
             · have he : k = m.Ops.length := Nat.le_antisymm hk hge
               subst he
               first | (rw [hw, List.drop_length, wgo]; rfl) | (simp at h67; done))
        · refine W_skip ?_
          refine W_seq ?_
          refine W_region rfl ?_
          refine L_v Tb_ok (v := .ptr _ _ _) (av rfl ⟨trivial, trivial⟩) rfl ?_
          refine L_v Tb_ok (v := .agg [.int _ _, .int _ _, .int _ _]) (av rfl ⟨trivial, rfl⟩) rfl ?_
          refine L_build Tb_ok (t := 88) (len := 1) (el := 23) (sz := 3) (es := [[_, _, _]]) (z := [.int .i64 0, .int .i64 0, .int .i64 0]) rfl rfl rfl rfl rfl (by decide) trivial rfl rfl rfl rfl rfl ?_
          first | (refine L_v Tb_ok (v := .ro _) (av rfl ⟨trivial, trivial⟩) rfl ?_) | (refine L_v Tb_ok (v := .app _ _) (av rfl ⟨trivial, trivial⟩) rfl ?_) | (refine L_v Tb_ok (v := .row _ _ _) (av rfl ⟨trivial, trivial⟩) rfl ?_) | (refine L_v Tb_ok (v := .nils) (av rfl ⟨trivial, trivial⟩) rfl ?_)
          refine L_v Tb_ok (v := .int _ _) (av rfl ⟨trivial, trivial⟩) rfl ?_
          refine WL_nil ?_
          refine W_seq ?_
          refine W_seq ?_
          refine W_region rfl ?_
          refine L_v Tb_ok (v := .ptr _ _ _) (av rfl ⟨trivial, trivial⟩) rfl ?_
          first | (refine L_v Tb_ok (v := .ro _) (av rfl ⟨trivial, rfl⟩) rfl ?_) | (refine L_v Tb_ok (v := .app _ _) (av rfl ⟨trivial, rfl⟩) rfl ?_) | (refine L_v Tb_ok (v := .row _ _ _) (av rfl ⟨trivial, rfl⟩) rfl ?_) | (refine L_v Tb_ok (v := .nils) (av rfl ⟨trivial, rfl⟩) rfl ?_)
          refine L_v Tb_ok (v := .int _ _) (av rfl ⟨trivial, trivial⟩) rfl ?_
          refine L_v Tb_ok (v := .int _ _) (av rfl ⟨trivial, trivial⟩) rfl ?_
          refine WL_nil ?_
          refine W_block ?_
          refine W_tok (t := 7) (id := 4) (ty := 23) (sz := 3) (fz := 0) (es := [shapeC m.In]) (l := [shapeC m.In]) rfl rfl rfl rfl rfl rfl rfl ?_
          refine W_inv (ι := WI m) (fun i => ⟨[(1, .ptr 0 0 0), (4, .ptr 1 0 0), (7, .app 5 (i.l.map shapeC)), (8, .int .i64 i.s), (64, .ro (m.Ops.map opC)), (65, .int .i64 ((m.Ops.map opC).length : Int)), (66, .int .i64 (i.k : Int))], [(0, some ⟨26, 7, 0, [modelC m]⟩), (1, some ⟨90, 3, 0, [[.int .i64 0, .int .i64 0, .int .i64 0]]⟩)], [(5, some (23, 3, i.l.length))], 6⟩) (fun i => m.Ops.length - i.k) ⟨0, [m.In], 0, Nat.zero_le _, rfl, by simp at h41; omega, ?_⟩ (le_fit ⟨rfl, rfl, rfl, rfl, rfl, rfl, rfl, trivial⟩ ⟨.inr rfl, .inr rfl, trivial⟩ ⟨.inr rfl, trivial⟩ rfl rfl rfl rfl rfl) ?_
          · replace h20 : wh1 m = false := h20
            replace h25 : wh2 m = false := h25
            replace h41 : wh3 m = false := h41
            replace h47 : wh4 m = false := h47
            simp [wholeF, *]
          rintro ⟨k, l, s, hk, hl, hm, hw⟩
          refine W_seq ?_
          refine W_region rfl ?_
          refine L_v Tb_ok (v := .bool _) (av rfl ⟨trivial, trivial⟩) rfl ?_
          refine WL_nil ?_
          refine W_seq ?_
          refine W_cond (b := _) rfl (fun h67 => ?_) (fun h67 => ?_)
          · refine W_skip ?_
            refine W_seq ?_
            refine W_block ?_
            refine W_seq ?_
            refine W_region rfl ?_
            refine L_v Tb_ok (v := .int _ _) (av rfl ⟨trivial, trivial⟩) rfl ?_
            first | (refine L_v Tb_ok (v := _) (ave_index_ro rfl rfl rfl (fun _ => rfl) rfl (by first | omega | assumption | decide | (simp_all; done) | (simp_all; omega)) (by first | omega | assumption | decide | (simp_all; done) | (simp_all; omega)) trivial) rfl ?_) | (refine L_v Tb_ok (v := _) (ave_index_app rfl rfl rfl (fun _ => rfl) rfl (by first | omega | assumption | decide | (simp_all; done) | (simp_all; omega)) (by first | omega | assumption | decide | (simp_all; done) | (simp_all; omega)) trivial) rfl ?_) | (refine L_v Tb_ok (v := _) (ave_index_row rfl rfl rfl rfl rfl rfl (by first | omega | assumption | decide | (simp_all; done) | (simp_all; omega)) (by first | omega | assumption | decide | (simp_all; done) | (simp_all; omega)) trivial) rfl ?_) | (refine L_v Tb_ok (v := .rptr _) (av rfl ⟨trivial, ⟨(by first | omega | assumption | decide | (simp_all; done) | (simp_all; omega)), (by first | omega | assumption | decide | (simp_all; done) | (simp_all; omega))⟩, rfl⟩) rfl ?_) | (refine L_v Tb_ok (v := .ptr _ _ _) (av rfl ⟨trivial, ⟨(by first | omega | assumption | decide | (simp_all; done) | (simp_all; omega)), (by first | omega | assumption | decide | (simp_all; done) | (simp_all; omega))⟩, rfl⟩) rfl ?_)
            refine L_v Tb_ok (v := .agg [.int _ _, .int _ _, .int _ _, .int _ _, .int _ _, .int _ _, .int _ _, .int _ _, .int _ _, .int _ _, .int _ _, .int _ _, _, _, .int _ _, .int _ _, .int _ _, .int _ _, .int _ _, .int _ _, .int _ _, .int _ _]) (av rfl ⟨trivial, rfl⟩) rfl ?_
            refine L_alloc Tb_ok (z := [.int .i64 0, .int .i64 0, .int .i64 0, .int .i64 0, .int .i64 0, .int .i64 0, .int .i64 0, .int .i64 0, .int .i64 0, .int .i64 0, .int .i64 0, .int .i64 0, .nils, .nils, .int .i64 0, .int .i64 0, .int .i64 0, .int .i64 0, .int .i64 0, .int .i64 0, .int .i64 0, .int .i64 0]) (n := 22) rfl rfl rfl rfl rfl ?_
            refine L_v Tb_ok (v := .int _ _) (av rfl ⟨trivial, trivial⟩) rfl ?_
            refine L_store Tb_ok (v := .agg [.int _ _, .int _ _, .int _ _, .int _ _, .int _ _, .int _ _, .int _ _, .int _ _, .int _ _, .int _ _, .int _ _, .int _ _, _, _, .int _ _, .int _ _, .int _ _, .int _ _, .int _ _, .int _ _, .int _ _, .int _ _]) (cs := [_, _, _, _, _, _, _, _, _, _, _, _, _, _, _, _, _, _, _, _, _, _]) (es' := [[_, _, _, _, _, _, _, _, _, _, _, _, _, _, _, _, _, _, _, _, _, _]]) rfl rfl rfl rfl rfl rfl rfl rfl rfl rfl ⟨trivial, trivial⟩ ?_
            refine WL_nil ?_
            refine W_seq ?_
            refine W_region rfl ?_
            refine L_v Tb_ok (v := .agg [.int _ _, .int _ _, .int _ _, .int _ _, .int _ _, .int _ _, .int _ _, .int _ _, .int _ _, .int _ _, .int _ _, .int _ _, _, _, .int _ _, .int _ _, .int _ _, .int _ _, .int _ _, .int _ _, .int _ _, .int _ _]) (av rfl ⟨trivial, rfl⟩) rfl ?_
            first | (refine L_v Tb_ok (v := .ro _) (av rfl ⟨trivial, trivial⟩) rfl ?_) | (refine L_v Tb_ok (v := .app _ _) (av rfl ⟨trivial, trivial⟩) rfl ?_) | (refine L_v Tb_ok (v := .row _ _ _) (av rfl ⟨trivial, trivial⟩) rfl ?_) | (refine L_v Tb_ok (v := .nils) (av rfl ⟨trivial, trivial⟩) rfl ?_)
            refine L_call (hr := model_op (m.Ops.getD k default) l) rfl rfl trivial rfl rfl ?_
            refine L_v Tb_ok (v := .tup [_, _, _]) (av rfl ⟨trivial, trivial⟩) rfl ?_
            refine L_v Tb_ok (v := .agg [.int _ _, .int _ _, .int _ _]) (av rfl ⟨trivial, trivial⟩) rfl ?_
            refine L_v Tb_ok (v := .int _ _) (av rfl ⟨trivial, trivial⟩) rfl ?_
            refine L_v Tb_ok (v := .int _ _) (av rfl ⟨trivial, trivial⟩) rfl ?_
            refine L_alloc Tb_ok (z := [.int .i64 0, .int .i64 0, .int .i64 0]) (n := 3) rfl rfl rfl rfl rfl ?_
            refine L_store Tb_ok (v := .agg [.int _ _, .int _ _, .int _ _]) (cs := [_, _, _]) (es' := [[_, _, _]]) rfl rfl rfl rfl rfl rfl rfl rfl rfl rfl ⟨trivial, trivial⟩ ?_
            refine L_v Tb_ok (v := .int _ _) (av rfl ⟨trivial, trivial⟩) rfl ?_
            refine L_v Tb_ok (v := .int _ _) (av rfl ⟨trivial, trivial⟩) rfl ?_
            refine WL_nil ?_
            refine W_seq ?_
            refine W_region rfl ?_
            refine L_v Tb_ok (v := .int _ _) (av rfl ⟨trivial, trivial⟩) rfl ?_
            refine L_v Tb_ok (v := .int _ _) (av rfl ⟨trivial, trivial⟩) rfl ?_
            refine L_v Tb_ok (v := .int _ _) (av rfl ⟨trivial, trivial⟩) rfl ?_
            refine L_v Tb_ok (v := .int _ _) (av rfl ⟨trivial, trivial⟩) rfl ?_
            refine WL_nil ?_
            refine W_seq ?_
            refine W_seq ?_
            refine W_region rfl ?_
            refine L_v Tb_ok (v := .int _ _) (av rfl ⟨trivial, trivial⟩) rfl ?_
            refine L_v Tb_ok (v := .bool _) (av rfl ⟨trivial, trivial⟩) rfl ?_
            refine L_v Tb_ok (v := .bool _) (av rfl ⟨trivial, trivial⟩) rfl ?_
            refine L_g Tb_ok (v := .int _ _) rfl rfl ((fun hg => (av rfl ⟨trivial, trivial⟩))) rfl rfl ?_
            refine L_g Tb_ok (v := .bool _) rfl rfl ((fun hg => (av rfl ⟨⟨⟨(by first | exact hg | (simp_all; done) | (simp at hg ⊢; simp [hg])), True.intro⟩, True.intro⟩, trivial⟩))) rfl rfl ?_
            refine L_v Tb_ok (v := .bool _) (av rfl (by refine ⟨?_, fun h => ?_, fun h => ?_⟩ <;> first | exact True.intro | exact ⟨h, True.intro⟩ | (refine ⟨?_, True.intro⟩; first | (rw [h]; done) | (rw [h]; rfl) | (simp [h]; done) | (simp at h hg ⊢; simp [h, hg]; done) | (simp_all; done) | (simp_all; omega)))) rfl ?_
            refine WL_nil ?_
            refine W_cond (b := _) rfl (fun h86 => ?_) (fun h86 => ?_)
            · refine W_region rfl ?_
              refine L_v Tb_ok (v := .int _ _) (av rfl ⟨trivial, trivial⟩) rfl ?_
              refine WL_nil ?_
              refine W_seq ?_
              refine W_seq ?_
              refine W_region rfl ?_
              refine L_v Tb_ok (v := .int _ _) (av rfl ⟨trivial, trivial⟩) rfl ?_
              refine L_v Tb_ok (v := .bool _) (av rfl ⟨trivial, trivial⟩) rfl ?_
              refine WL_nil ?_
              refine W_cond (b := _) rfl (fun h88 => ?_) (fun h88 => ?_)
              · refine W_seq ?_
                refine W_region rfl ?_
                refine L_v Tb_ok (v := .int _ _) (av rfl ⟨trivial, trivial⟩) rfl ?_
                refine L_v Tb_ok (v := .int _ _) (av rfl ⟨trivial, trivial⟩) rfl ?_
                refine L_v Tb_ok (v := .int _ _) (av rfl ⟨trivial, trivial⟩) rfl ?_
                refine L_v Tb_ok (v := .agg [.int _ _, .int _ _, .int _ _]) (av rfl ⟨trivial, rfl⟩) rfl ?_
                refine L_v Tb_ok (v := .nils) (av rfl ⟨trivial, trivial⟩) rfl ?_
                refine L_v Tb_ok (v := .int _ _) (av rfl ⟨trivial, trivial⟩) rfl ?_
                refine L_store Tb_ok (v := .agg [.int _ _, .int _ _, .int _ _]) (cs := [_, _, _]) (es' := [[_, _, _]]) rfl rfl rfl rfl rfl rfl rfl rfl rfl rfl ⟨trivial, trivial⟩ ?_
                refine WL_nil ?_
                refine W_ret ?_
                first | (refine ends (l := [.app _ _, .int _ _, .agg [.int _ _, .int _ _, .int _ _]]) (q := .tup [.ro _, .int _ _, .agg [.int _ _, .int _ _, .int _ _]]) (.inr rfl) rfl ⟨trivial, trivial, rfl, trivial⟩ rfl rfl ?_) | (refine ends (l := [.nils, .int _ _, .agg [.int _ _, .int _ _, .int _ _]]) (q := .tup [.ro _, .int _ _, .agg [.int _ _, .int _ _, .int _ _]]) (.inr rfl) rfl ⟨trivial, trivial, rfl, trivial⟩ rfl rfl ?_) | (refine ends (l := [.ro _, .int _ _, .agg [.int _ _, .int _ _, .int _ _]]) (q := .tup [.ro _, .int _ _, .agg [.int _ _, .int _ _, .int _ _]]) (.inr rfl) rfl ⟨trivial, trivial, rfl, trivial⟩ rfl rfl ?_)
                try replace h20 : wh1 m = true := h20
                try replace h20 : wh1 m = false := h20
                try replace h25 : wh2 m = true := h25
                try replace h25 : wh2 m = false := h25
                try replace h41 : wh3 m = true := h41
                try replace h41 : wh3 m = false := h41
                try replace h47 : wh4 m = true := h47
                try replace h47 : wh4 m = false := h47
                first
                | (simp [wholeF, *, faultC]; done)
                | (simp only [List.length_map] at h67
                   rcases Nat.lt_or_ge k m.Ops.length with hlt | hge
                   · first
                     | (rw [hw, wgo_bad hlt (werr_big (show wbig (m.Ops.getD k default) l s = true from h86)) (show ((86 : Int) != 0) = true from h88)]; rfl)
                     | (rw [hw, wgo_bad hlt (werr_ok (show wbig (m.Ops.getD k default) l s = false from h86)) (show (opE (m.Ops.getD k default) l != 0) = true from h88_1)]; rfl)
                     | (simp at h67; omega)
                   · have he : k = m.Ops.length := Nat.le_antisymm hk hge
                     subst he
                     first | (rw [hw, List.drop_length, wgo]; rfl) | (simp at h67; done))
              · refine W_skip ?_
                refine W_region rfl ?_
                first | (refine L_v Tb_ok (v := .ro _) (av rfl ⟨trivial, trivial⟩) rfl ?_) | (refine L_v Tb_ok (v := .app _ _) (av rfl ⟨trivial, trivial⟩) rfl ?_) | (refine L_v Tb_ok (v := .row _ _ _) (av rfl ⟨trivial, trivial⟩) rfl ?_) | (refine L_v Tb_ok (v := .nils) (av rfl ⟨trivial, trivial⟩) rfl ?_)
                refine L_v Tb_ok (v := .agg [.int _ _, .int _ _, .int _ _]) (av rfl ⟨trivial, rfl⟩) rfl ?_
                refine L_build Tb_ok (t := 88) (len := 1) (el := 23) (sz := 3) (es := [[_, _, _]]) (z := [.int .i64 0, .int .i64 0, .int .i64 0]) rfl rfl rfl rfl rfl (by decide) trivial rfl rfl rfl rfl rfl ?_
                refine L_app1 Tb_ok (xs := l) (v := opS (m.Ops.getD k default) l) (el := 23) (sz := 3) rfl rfl rfl rfl rfl ⟨trivial, trivial⟩ (fun _ => ⟨rfl, rfl⟩) (by rw [show (Tb.at 23).bytes = 24 from rfl]; omega) rfl ?_
                first | (refine L_v Tb_ok (v := .ro _) (av rfl ⟨trivial, trivial⟩) rfl ?_) | (refine L_v Tb_ok (v := .app _ _) (av rfl ⟨trivial, trivial⟩) rfl ?_) | (refine L_v Tb_ok (v := .row _ _ _) (av rfl ⟨trivial, trivial⟩) rfl ?_) | (refine L_v Tb_ok (v := .nils) (av rfl ⟨trivial, trivial⟩) rfl ?_)
                refine WL_nil ?_
                refine W_region rfl ?_
                refine L_v Tb_ok (v := .int _ _) (av rfl ⟨trivial, trivial⟩) rfl ?_
                refine L_v Tb_ok (v := .int _ _) (av rfl ⟨trivial, trivial⟩) rfl ?_
                refine WL_nil ?_
                have hlt : k < m.Ops.length := by simpa using h67
                refine round_end ⟨k + 1, l ++ [opS (m.Ops.getD k default) l], w64 (s + opW (m.Ops.getD k default) l), hlt, by simp [hl], hm, ?_⟩ (by dsimp only; omega) (le_fit ⟨rfl, rfl, rfl, rfl, rfl, rfl, congrArg _ (w_succ hlt (by omega)), trivial⟩ ⟨.inr rfl, .inr rfl, trivial⟩ ⟨.inr rfl, trivial⟩ rfl rfl rfl rfl rfl)
                first
                | (rw [hw]; exact wgo_good hlt (werr_big (show wbig (m.Ops.getD k default) l s = true from h86)) (show ((86 : Int) != 0) = false from h88))
                | (rw [hw]; exact wgo_good hlt (werr_ok (show wbig (m.Ops.getD k default) l s = false from h86)) (show (opE (m.Ops.getD k default) l != 0) = false from h88_1))
            · refine W_skip ?_
              refine W_seq ?_
              refine W_seq ?_
              refine W_region rfl ?_
              refine L_v Tb_ok (v := .int _ _) (av rfl ⟨trivial, trivial⟩) rfl ?_
              refine L_v Tb_ok (v := .bool _) (av rfl ⟨trivial, trivial⟩) rfl ?_
              refine WL_nil ?_
              refine W_cond (b := _) rfl (fun h88_1 => ?_) (fun h88_1 => ?_)
              · refine W_seq ?_
                refine W_region rfl ?_
                refine L_v Tb_ok (v := .int _ _) (av rfl ⟨trivial, trivial⟩) rfl ?_
                refine L_v Tb_ok (v := .int _ _) (av rfl ⟨trivial, trivial⟩) rfl ?_
                refine L_v Tb_ok (v := .int _ _) (av rfl ⟨trivial, trivial⟩) rfl ?_
                refine L_v Tb_ok (v := .agg [.int _ _, .int _ _, .int _ _]) (av rfl ⟨trivial, rfl⟩) rfl ?_
                refine L_v Tb_ok (v := .nils) (av rfl ⟨trivial, trivial⟩) rfl ?_
                refine L_v Tb_ok (v := .int _ _) (av rfl ⟨trivial, trivial⟩) rfl ?_
                refine L_store Tb_ok (v := .agg [.int _ _, .int _ _, .int _ _]) (cs := [_, _, _]) (es' := [[_, _, _]]) rfl rfl rfl rfl rfl rfl rfl rfl rfl rfl ⟨trivial, trivial⟩ ?_
                refine WL_nil ?_
                refine W_ret ?_
                first | (refine ends (l := [.app _ _, .int _ _, .agg [.int _ _, .int _ _, .int _ _]]) (q := .tup [.ro _, .int _ _, .agg [.int _ _, .int _ _, .int _ _]]) (.inr rfl) rfl ⟨trivial, trivial, rfl, trivial⟩ rfl rfl ?_) | (refine ends (l := [.nils, .int _ _, .agg [.int _ _, .int _ _, .int _ _]]) (q := .tup [.ro _, .int _ _, .agg [.int _ _, .int _ _, .int _ _]]) (.inr rfl) rfl ⟨trivial, trivial, rfl, trivial⟩ rfl rfl ?_) | (refine ends (l := [.ro _, .int _ _, .agg [.int _ _, .int _ _, .int _ _]]) (q := .tup [.ro _, .int _ _, .agg [.int _ _, .int _ _, .int _ _]]) (.inr rfl) rfl ⟨trivial, trivial, rfl, trivial⟩ rfl rfl ?_)
                try replace h20 : wh1 m = true := h20
                try replace h20 : wh1 m = false := h20
                try replace h25 : wh2 m = true := h25
                try replace h25 : wh2 m = false := h25
                try replace h41 : wh3 m = true := h41
                try replace h41 : wh3 m = false := h41
                try replace h47 : wh4 m = true := h47
                try replace h47 : wh4 m = false := h47
                first
                | (simp [wholeF, *, faultC]; done)
                | (simp only [List.length_map] at h67
                   rcases Nat.lt_or_ge k m.Ops.length with hlt | hge
                   · first
                     | (rw [hw, wgo_bad hlt (werr_big (show wbig (m.Ops.getD k default) l s = true from h86)) (show ((86 : Int) != 0) = true from h88)]; rfl)
                     | (rw [hw, wgo_bad hlt (werr_ok (show wbig (m.Ops.getD k default) l s = false from h86)) (show (opE (m.Ops.getD k default) l != 0) = true from h88_1)]; rfl)
                     | (simp at h67; omega)
                   · have he : k = m.Ops.length := Nat.le_antisymm hk hge
                     subst he
                     first | (rw [hw, List.drop_length, wgo]; rfl) | (simp at h67; done))
              · refine W_skip ?_
                refine W_region rfl ?_
                first | (refine L_v Tb_ok (v := .ro _) (av rfl ⟨trivial, trivial⟩) rfl ?_) | (refine L_v Tb_ok (v := .app _ _) (av rfl ⟨trivial, trivial⟩) rfl ?_) | (refine L_v Tb_ok (v := .row _ _ _) (av rfl ⟨trivial, trivial⟩) rfl ?_) | (refine L_v Tb_ok (v := .nils) (av rfl ⟨trivial, trivial⟩) rfl ?_)
                refine L_v Tb_ok (v := .agg [.int _ _, .int _ _, .int _ _]) (av rfl ⟨trivial, rfl⟩) rfl ?_
                refine L_build Tb_ok (t := 88) (len := 1) (el := 23) (sz := 3) (es := [[_, _, _]]) (z := [.int .i64 0, .int .i64 0, .int .i64 0]) rfl rfl rfl rfl rfl (by decide) trivial rfl rfl rfl rfl rfl ?_
                refine L_app1 Tb_ok (xs := l) (v := opS (m.Ops.getD k default) l) (el := 23) (sz := 3) rfl rfl rfl rfl rfl ⟨trivial, trivial⟩ (fun _ => ⟨rfl, rfl⟩) (by rw [show (Tb.at 23).bytes = 24 from rfl]; omega) rfl ?_
                first | (refine L_v Tb_ok (v := .ro _) (av rfl ⟨trivial, trivial⟩) rfl ?_) | (refine L_v Tb_ok (v := .app _ _) (av rfl ⟨trivial, trivial⟩) rfl ?_) | (refine L_v Tb_ok (v := .row _ _ _) (av rfl ⟨trivial, trivial⟩) rfl ?_) | (refine L_v Tb_ok (v := .nils) (av rfl ⟨trivial, trivial⟩) rfl ?_)
                refine WL_nil ?_
                refine W_region rfl ?_
                refine L_v Tb_ok (v := .int _ _) (av rfl ⟨trivial, trivial⟩) rfl ?_
                refine L_v Tb_ok (v := .int _ _) (av rfl ⟨trivial, trivial⟩) rfl ?_
                refine WL_nil ?_
                have hlt : k < m.Ops.length := by simpa using h67
                refine round_end ⟨k + 1, l ++ [opS (m.Ops.getD k default) l], w64 (s + opW (m.Ops.getD k default) l), hlt, by simp [hl], hm, ?_⟩ (by dsimp only; omega) (le_fit ⟨rfl, rfl, rfl, rfl, rfl, rfl, congrArg _ (w_succ hlt (by omega)), trivial⟩ ⟨.inr rfl, .inr rfl, trivial⟩ ⟨.inr rfl, trivial⟩ rfl rfl rfl rfl rfl)
                first
                | (rw [hw]; exact wgo_good hlt (werr_big (show wbig (m.Ops.getD k default) l s = true from h86)) (show ((86 : Int) != 0) = false from h88))
                | (rw [hw]; exact wgo_good hlt (werr_ok (show wbig (m.Ops.getD k default) l s = false from h86)) (show (opE (m.Ops.getD k default) l != 0) = false from h88_1))
          · refine W_exit ?_
            repeat (first | refine pass_then ?_ | refine pass_once ?_ | refine pass_le ?_ | refine pass_round ?_ | refine pass_for ?_ | refine blockQ_miss rfl ?_)
            refine blockQ_hit ?_
            refine W_seq ?_
            refine W_region rfl ?_
            first | (refine L_v Tb_ok (v := .ro _) (av rfl ⟨trivial, trivial⟩) rfl ?_) | (refine L_v Tb_ok (v := .app _ _) (av rfl ⟨trivial, trivial⟩) rfl ?_) | (refine L_v Tb_ok (v := .row _ _ _) (av rfl ⟨trivial, trivial⟩) rfl ?_) | (refine L_v Tb_ok (v := .nils) (av rfl ⟨trivial, trivial⟩) rfl ?_)
            refine L_v Tb_ok (v := .int _ _) (av rfl ⟨trivial, trivial⟩) rfl ?_
            refine L_v Tb_ok (v := .agg [.int _ _, .int _ _, .int _ _]) (av rfl ⟨trivial, rfl⟩) rfl ?_
            first | (refine L_v Tb_ok (v := .ro _) (av rfl ⟨trivial, trivial⟩) rfl ?_) | (refine L_v Tb_ok (v := .app _ _) (av rfl ⟨trivial, trivial⟩) rfl ?_) | (refine L_v Tb_ok (v := .row _ _ _) (av rfl ⟨trivial, trivial⟩) rfl ?_) | (refine L_v Tb_ok (v := .nils) (av rfl ⟨trivial, trivial⟩) rfl ?_)
            refine L_v Tb_ok (v := .int _ _) (av rfl ⟨trivial, trivial⟩) rfl ?_
            refine L_store Tb_ok (v := .agg [.int _ _, .int _ _, .int _ _]) (cs := [_, _, _]) (es' := [[_, _, _]]) rfl rfl rfl rfl rfl rfl rfl rfl rfl rfl ⟨trivial, trivial⟩ ?_
            refine WL_nil ?_
            refine W_ret ?_
            first | (refine ends (l := [.app _ _, .int _ _, .agg [.int _ _, .int _ _, .int _ _]]) (q := .tup [.ro _, .int _ _, .agg [.int _ _, .int _ _, .int _ _]]) (.inr rfl) rfl ⟨trivial, trivial, rfl, trivial⟩ rfl rfl ?_) | (refine ends (l := [.nils, .int _ _, .agg [.int _ _, .int _ _, .int _ _]]) (q := .tup [.ro _, .int _ _, .agg [.int _ _, .int _ _, .int _ _]]) (.inr rfl) rfl ⟨trivial, trivial, rfl, trivial⟩ rfl rfl ?_) | (refine ends (l := [.ro _, .int _ _, .agg [.int _ _, .int _ _, .int _ _]]) (q := .tup [.ro _, .int _ _, .agg [.int _ _, .int _ _, .int _ _]]) (.inr rfl) rfl ⟨trivial, trivial, rfl, trivial⟩ rfl rfl ?_)
            try replace h20 : wh1 m = true := h20
            try replace h20 : wh1 m = false := h20
            try replace h25 : wh2 m = true := h25
            try replace h25 : wh2 m = false := h25
            try replace h41 : wh3 m = true := h41
            try replace h41 : wh3 m = false := h41
            try replace h47 : wh4 m = true := h47
            try replace h47 : wh4 m = false := h47
            first
            | (simp [wholeF, *, faultC]; done)
            | (simp only [List.length_map] at h67
               rcases Nat.lt_or_ge k m.Ops.length with hlt | hge
               · first
                 | (rw [hw, wgo_bad hlt (werr_big (show wbig (m.Ops.getD k default) l s = true from h86)) (show ((86 : Int) != 0) = true from h88)]; rfl)
                 | (rw [hw, wgo_bad hlt (werr_ok (show wbig (m.Ops.getD k default) l s = false from h86)) (show (opE (m.Ops.getD k default) l != 0) = true from h88_1)]; rfl)
                 | (simp at h67; omega)
               · have he : k = m.Ops.length := Nat.le_antisymm hk hge
                 subst he
                 first | (rw [hw, List.drop_length, wgo]; rfl) | (simp at h67; done))
end Go.AM
end
section
open Go Go.AM Go.Proofs
set_option maxRecDepth 10000
set_option linter.unusedVariables false
set_option linter.unusedSimpArgs false
namespace Go.AM
theorem opE_ok {o : MOp} {l : List Shape} (h : opE o l = 0) : op1 o = false ∧ op2 o l = false ∧ op3 o = false ∧ op4 o = false ∧ mkE o (inA o l) = 0 ∧ op6 o l = false ∧ op7 o l = false ∧ op8 o l = false ∧ op9 o = false ∧ op10 o = false := by
  unfold opE at h
  cases h1 : op1 o <;> simp only [h1, if_true, if_false, Bool.false_eq_true] at h <;> try omega
  cases h2 : op2 o l <;> simp only [h2, if_true, if_false, Bool.false_eq_true] at h <;> try omega
  cases h3 : op3 o <;> simp only [h3, if_true, if_false, Bool.false_eq_true] at h <;> try omega
  cases h4 : op4 o <;> simp only [h4, if_true, if_false, Bool.false_eq_true] at h <;> try omega
  cases h5 : op5 o l <;> simp only [h5, if_true, if_false, Bool.false_eq_true] at h
  · have h5' : mkE o (inA o l) = 0 := by simpa [op5] using h5
    cases h6 : op6 o l <;> simp only [h6, if_true, if_false, Bool.false_eq_true] at h <;> try omega
    cases h7 : op7 o l <;> simp only [h7, if_true, if_false, Bool.false_eq_true] at h <;> try omega
    cases h8 : op8 o l <;> simp only [h8, if_true, if_false, Bool.false_eq_true] at h <;> try omega
    cases h9 : op9 o <;> simp only [h9, if_true, if_false, Bool.false_eq_true] at h <;> try omega
    cases h10 : op10 o <;> simp only [h10, if_true, if_false, Bool.false_eq_true] at h <;> try omega
    exact ⟨rfl, rfl, rfl, rfl, h5', rfl, rfl, rfl, rfl, rfl⟩
  · simp [op5, h] at h5
theorem opS_ok {o : MOp} {l : List Shape} (h : opE o l = 0) : opS o l = mkS o (inA o l) := by
  obtain ⟨h1, h2, h3, h4, h5, h6, h7, h8, h9, h10⟩ := opE_ok h
  have h5' : op5 o l = false := by simp [op5, h5]
  simp [opS, h1, h2, h3, h4, h5', h6, h7, h8, h9, h10]
theorem werr_zero {o : MOp} {l : List Shape} {s : Int} (h : (werr o l s != 0) = false) : opE o l = 0 := by
  cases hb : wbig o l s
  · rw [werr_ok hb] at h; simpa using h
  · rw [werr_big hb] at h; simp at h
theorem wgo_ok : ∀ (r : List MOp) (k : Nat) (l : List Shape) (s : Int), k + r.length < 1000 → (wgo r k l s).2.2.Err = 0 → ∃ L, (wgo r k l s).1 = l ++ L ∧ L.length = r.length ∧ ∀ i, i < r.length → opE (r.getD i default) (l ++ L.take i) = 0 ∧ L.getD i default = opS (r.getD i default) (l ++ L.take i)
  | [], k, l, s, _, h => ⟨[], by simp [wgo], rfl, fun i hi => by simp at hi⟩
  | o :: r, k, l, s, hk, h => by
    rw [wgo] at h ⊢
    cases hw : werr o l s != 0 with
    | true =>
      rw [hw] at h
      simp at hw
      exact absurd h hw
    | false =>
      rw [hw] at h
      obtain ⟨L, h1, h2, h3⟩ := wgo_ok r (k + 1) _ _ (by simp at hk; omega) h
      refine ⟨opS o l :: L, ?_, by simp [h2], fun i hi => ?_⟩
      · show (wgo r (k + 1) (l ++ [opS o l]) _).1 = _
        rw [h1]; simp
      · cases i with
        | zero => exact ⟨by simpa using werr_zero hw, by simp⟩
        | succ i =>
          have := h3 i (by simpa using hi)
          simpa using this
/-- a model without fault -/
theorem whole_ok {m : Model} (h : (wholeF m).2.2.Err = 0) : m.Ops.length ≤ 64 ∧ shapeE m.In = 0 ∧ (0 ≤ m.Out ∧ m.Out ≤ m.Ops.length) ∧ (wholeF m).1.length = m.Ops.length + 1 ∧ (wholeF m).1.getD 0 default = m.In ∧
    ∀ i, i < m.Ops.length → opE (m.Ops.getD i default) ((wholeF m).1.take (i + 1)) = 0 ∧ (wholeF m).1.getD (i + 1) default = opS (m.Ops.getD i default) ((wholeF m).1.take (i + 1)) := by
  unfold wholeF at h ⊢
  cases h1 : wh1 m <;> simp only [h1, if_true, if_false, Bool.false_eq_true] at h ⊢
  cases h2 : wh2 m <;> simp only [h2, if_true, if_false, Bool.false_eq_true] at h ⊢
  cases h3 : wh3 m <;> simp only [h3, if_true, if_false, Bool.false_eq_true] at h ⊢
  cases h4 : wh4 m <;> simp only [h4, if_true, if_false, Bool.false_eq_true] at h ⊢
  · have hl : m.Ops.length ≤ 64 := by simp [wh3] at h3; omega
    obtain ⟨L, e1, e2, e3⟩ := wgo_ok m.Ops 0 [m.In] 0 (by omega) h
    refine ⟨hl, by simpa [wh1] using h1, ?_, by rw [e1]; simp [e2], by rw [e1]; simp, fun i hi => ?_⟩
    · simp [wh4] at h4; omega
    · have := e3 i hi
      rw [e1]
      simpa [List.take_succ_cons] using this
  · omega
  · omega
  · omega
  · simp [wh1] at h1; omega
theorem op2_ok {o : MOp} {l : List Shape} (h : op2 o l = false) : 0 ≤ o.A ∧ o.A < l.length ∧ ((ofU o.Kind).b = true → 0 ≤ o.B ∧ o.B < l.length) := by
  unfold op2 at h
  simp at h
  refine ⟨by omega, by omega, fun hb => ?_⟩
  have := h.2 hb
  omega
theorem whole_A {m : Model} (h : (wholeF m).2.2.Err = 0) {i : Nat} (hi : i < m.Ops.length) : 0 ≤ (m.Ops.getD i default).A ∧ (m.Ops.getD i default).A < i + 1 := by
  obtain ⟨_, _, _, h4, _, h6⟩ := whole_ok h
  have h2 := op2_ok (opE_ok (h6 i hi).1).2.1
  rw [List.length_take, h4] at h2
  omega
end Go.AM
end
section
open Go Go.AM Go.Proofs
set_option maxRecDepth 10000
set_option linter.unusedVariables false
set_option linter.unusedSimpArgs false
namespace Go.AM
theorem model_Shapes (m : Model) : Ok Try.prog 45 [.agg (modelC m)] (.tup [.ro ((wholeF m).1.map shapeC), .agg (faultC (wholeF m).2.2)]) := by
  refine fn_ok Tb_ok (fn := Try.f45) Try.func45 rfl rfl (e := [(0, _)]) rfl (by decide) rfl ?_
  refine W_seq ?_
  refine W_region rfl ?_
  refine L_box Tb_ok (cs := [.int _ _, .int _ _, .int _ _, .int _ _, .int _ _, _, .int _ _]) (n := 7) rfl rfl rfl rfl trivial ?_
  refine L_v Tb_ok (v := .nils) (av rfl ⟨trivial, trivial⟩) rfl ?_
  refine L_alloc Tb_ok (z := [.int .i64 0, .int .i64 0, .int .i64 0]) (n := 3) rfl rfl rfl rfl rfl ?_
  refine WL_nil ?_
  refine W_seq ?_
  refine W_region rfl ?_
  refine L_v Tb_ok (v := .agg [.int _ _, .int _ _, .int _ _, .int _ _, .int _ _, _, .int _ _]) (av rfl ⟨trivial, rfl⟩) rfl ?_
  refine L_call (hr := model_whole m) rfl rfl trivial rfl rfl ?_
  refine L_v Tb_ok (v := .tup [_, _, _]) (av rfl ⟨trivial, trivial⟩) rfl ?_
  first | (refine L_v Tb_ok (v := .ro _) (av rfl ⟨trivial, trivial⟩) rfl ?_) | (refine L_v Tb_ok (v := .app _ _) (av rfl ⟨trivial, trivial⟩) rfl ?_) | (refine L_v Tb_ok (v := .row _ _ _) (av rfl ⟨trivial, trivial⟩) rfl ?_) | (refine L_v Tb_ok (v := .nils) (av rfl ⟨trivial, trivial⟩) rfl ?_)
  refine L_v Tb_ok (v := .int _ _) (av rfl ⟨trivial, trivial⟩) rfl ?_
  refine L_v Tb_ok (v := .agg [.int _ _, .int _ _, .int _ _]) (av rfl ⟨trivial, trivial⟩) rfl ?_
  refine L_alloc Tb_ok (z := [.int .i64 0, .int .i64 0, .int .i64 0]) (n := 3) rfl rfl rfl rfl rfl ?_
  first | (refine L_v Tb_ok (v := .ro _) (av rfl ⟨trivial, trivial⟩) rfl ?_) | (refine L_v Tb_ok (v := .app _ _) (av rfl ⟨trivial, trivial⟩) rfl ?_) | (refine L_v Tb_ok (v := .row _ _ _) (av rfl ⟨trivial, trivial⟩) rfl ?_) | (refine L_v Tb_ok (v := .nils) (av rfl ⟨trivial, trivial⟩) rfl ?_)
  refine L_v Tb_ok (v := .int _ _) (av rfl ⟨trivial, trivial⟩) rfl ?_
  refine L_store Tb_ok (v := .agg [.int _ _, .int _ _, .int _ _]) (cs := [_, _, _]) (es' := [[_, _, _]]) rfl rfl rfl rfl rfl rfl rfl rfl rfl rfl ⟨trivial, trivial⟩ ?_
  refine WL_nil ?_
  refine W_seq ?_
  refine W_draw 3 Tb_mixed rfl (by decide) (by kernel_rfl) (by kernel_rfl) ?_
  first | (refine E_v Tb_ok (v := .ro _) (av rfl ⟨trivial, trivial⟩) rfl ?_) | (refine E_v Tb_ok (v := .app _ _) (av rfl ⟨trivial, trivial⟩) rfl ?_) | (refine E_v Tb_ok (v := .row _ _ _) (av rfl ⟨trivial, trivial⟩) rfl ?_) | (refine E_v Tb_ok (v := .nils) (av rfl ⟨trivial, trivial⟩) rfl ?_)
  refine E_v Tb_ok (v := .agg [.int _ _, .int _ _, .int _ _]) (av rfl ⟨trivial, rfl⟩) rfl ?_
  first | (refine E_v Tb_ok (v := .ro _) (av rfl ⟨trivial, trivial⟩) rfl ?_) | (refine E_v Tb_ok (v := .app _ _) (av rfl ⟨trivial, trivial⟩) rfl ?_) | (refine E_v Tb_ok (v := .row _ _ _) (av rfl ⟨trivial, trivial⟩) rfl ?_) | (refine E_v Tb_ok (v := .nils) (av rfl ⟨trivial, trivial⟩) rfl ?_)
  refine LexE_nil ?_
  refine L_store Tb_ok (v := .agg [.int _ _, .int _ _, .int _ _]) (cs := [_, _, _]) (es' := [[_, _, _]]) rfl rfl rfl rfl rfl rfl rfl rfl rfl rfl ⟨trivial, trivial⟩ ?_
  refine WL_nil ?_
  refine W_ret ?_
  first | (refine ends (l := [.app _ _, .agg [.int _ _, .int _ _, .int _ _]]) (q := .tup [.ro _, .agg [.int _ _, .int _ _, .int _ _]]) (.inr rfl) rfl ⟨trivial, rfl, trivial⟩ rfl rfl ?_) | (refine ends (l := [.nils, .agg [.int _ _, .int _ _, .int _ _]]) (q := .tup [.ro _, .agg [.int _ _, .int _ _, .int _ _]]) (.inr rfl) rfl ⟨trivial, rfl, trivial⟩ rfl rfl ?_) | (refine ends (l := [.ro _, .agg [.int _ _, .int _ _, .int _ _]]) (q := .tup [.ro _, .agg [.int _ _, .int _ _, .int _ _]]) (.inr rfl) rfl ⟨trivial, rfl, trivial⟩ rfl rfl ?_)
  rfl
/-- an op that reduces, with its shapes -/
structure Site where
  (Op : MOp) (In Out : Shape) (Len : Int)
  deriving DecidableEq, Inhabited
def siteC (s : Site) : List AV := opC s.Op ++ (shapeC s.In ++ (shapeC s.Out ++ [.int .i64 s.Len]))
def site0 : Site := ⟨⟨0, 0, 0, 0, ⟨0, 0, 0, 0, 0, 0, 0, 0⟩, [], [], ⟨0, 0⟩, ⟨0, 0⟩, 0, 0, 0, 0⟩, ⟨0, 0, 0⟩, ⟨0, 0, 0⟩, 0⟩
def fi1 (m : Model) : Bool := (wholeF m).2.2.Err != 0
def fi2 (m : Model) (op : Int) : Bool := bif decide (op < 1) then true else decide (op > ((m.Ops.map opC).length : Int))
def opAt (m : Model) (op : Int) : MOp := m.Ops.getD (op - 1).toNat default
def fi3 (m : Model) (op : Int) : Bool := !inB (opAt m op).Kind 1 4
def findE (m : Model) (op : Int) : Int := if fi1 m then (wholeF m).2.2.Err else if fi2 m op then 3 else if fi3 m op then 81 else 0
def aAt (m : Model) (op : Int) : Shape := (wholeF m).1.getD (opAt m op).A.toNat default
def lenAt (m : Model) (op : Int) : Int := if (opAt m op).Kind = 1 then w64 (w64 ((aAt m op).H * (aAt m op).W) * (aAt m op).C) else if (opAt m op).Kind = 2 then w64 (w64 ((opAt m op).Win.KH * (opAt m op).Win.KW) * (aAt m op).C) else w64 ((opAt m op).Win.KH * (opAt m op).Win.KW)
def findS (m : Model) (op : Int) : Site := if fi1 m then site0 else if fi2 m op then site0 else if fi3 m op then site0 else ⟨opAt m op, aAt m op, (wholeF m).1.getD op.toNat default, lenAt m op⟩
theorem fi_ok {m : Model} {op : Int} (h1 : fi1 m = false) (h2 : fi2 m op = false) : 1 ≤ op ∧ op ≤ m.Ops.length ∧ IntKind.i64.wrap (op - 1) = op - 1 ∧ op < (wholeF m).1.length ∧ 0 ≤ (opAt m op).A ∧ (opAt m op).A < (wholeF m).1.length := by
  have he : (wholeF m).2.2.Err = 0 := by simpa [fi1] using h1
  obtain ⟨k1, _, _, k4, _, _⟩ := whole_ok he
  have ho : 1 ≤ op ∧ op ≤ m.Ops.length := by simp [fi2] at h2; omega
  have hA := whole_A he (i := (op - 1).toNat) (by omega)
  refine ⟨ho.1, ho.2, by rw [IntKind.wrap_i64]; omega, by rw [k4]; omega, hA.1, ?_⟩
  have := hA.2
  rw [k4]
  show (m.Ops.getD (op - 1).toNat default).A < _
  omega
theorem terms_find (m : Model) (op : Int) : Ok Try.prog 31 [.agg (modelC m), .int .i64 op] (.tup [.agg (siteC (findS m op)), .int .i64 (findE m op)]) := by
  refine fn_ok Tb_ok (fn := Try.f31) Try.func31 rfl rfl (e := [(0, _), (1, _)]) rfl (by decide) rfl ?_
  refine W_seq ?_
  refine W_region rfl ?_
  refine L_box Tb_ok (cs := [.int _ _, .int _ _, .int _ _, .int _ _, .int _ _, _, .int _ _]) (n := 7) rfl rfl rfl rfl trivial ?_
  refine L_alloc Tb_ok (z := [.int .i64 0, .int .i64 0, .int .i64 0, .int .i64 0, .int .i64 0, .int .i64 0, .int .i64 0, .int .i64 0, .int .i64 0, .int .i64 0, .int .i64 0, .int .i64 0, .nils, .nils, .int .i64 0, .int .i64 0, .int .i64 0, .int .i64 0, .int .i64 0, .int .i64 0, .int .i64 0, .int .i64 0, .int .i64 0, .int .i64 0, .int .i64 0, .int .i64 0, .int .i64 0, .int .i64 0, .int .i64 0]) (n := 29) rfl rfl rfl rfl rfl ?_
  refine L_v Tb_ok (v := .int _ _) (av rfl ⟨trivial, trivial⟩) rfl ?_
  refine WL_nil ?_
  refine W_seq ?_
  refine W_region rfl ?_
  refine L_v Tb_ok (v := .agg [.int _ _, .int _ _, .int _ _, .int _ _, .int _ _, _, .int _ _]) (av rfl ⟨trivial, rfl⟩) rfl ?_
  refine L_call (hr := model_Shapes m) rfl rfl trivial rfl rfl ?_
  refine L_v Tb_ok (v := .tup [_, _]) (av rfl ⟨trivial, trivial⟩) rfl ?_
  first | (refine L_v Tb_ok (v := .ro _) (av rfl ⟨trivial, trivial⟩) rfl ?_) | (refine L_v Tb_ok (v := .app _ _) (av rfl ⟨trivial, trivial⟩) rfl ?_) | (refine L_v Tb_ok (v := .row _ _ _) (av rfl ⟨trivial, trivial⟩) rfl ?_) | (refine L_v Tb_ok (v := .nils) (av rfl ⟨trivial, trivial⟩) rfl ?_)
  refine L_v Tb_ok (v := .agg [.int _ _, .int _ _, .int _ _]) (av rfl ⟨trivial, trivial⟩) rfl ?_
  refine L_alloc Tb_ok (z := [.int .i64 0, .int .i64 0, .int .i64 0]) (n := 3) rfl rfl rfl rfl rfl ?_
  first | (refine L_v Tb_ok (v := .ro _) (av rfl ⟨trivial, trivial⟩) rfl ?_) | (refine L_v Tb_ok (v := .app _ _) (av rfl ⟨trivial, trivial⟩) rfl ?_) | (refine L_v Tb_ok (v := .row _ _ _) (av rfl ⟨trivial, trivial⟩) rfl ?_) | (refine L_v Tb_ok (v := .nils) (av rfl ⟨trivial, trivial⟩) rfl ?_)
  refine L_store Tb_ok (v := .agg [.int _ _, .int _ _, .int _ _]) (cs := [_, _, _]) (es' := [[_, _, _]]) rfl rfl rfl rfl rfl rfl rfl rfl rfl rfl ⟨trivial, trivial⟩ ?_
  refine WL_nil ?_
  refine W_seq ?_
  refine W_block ?_
  refine W_seq ?_
  refine W_region rfl ?_
  refine L_v Tb_ok (v := .ptr _ _ _) (av rfl ⟨trivial, trivial⟩) rfl ?_
  refine L_v Tb_ok (v := .int _ _) (av rfl ⟨trivial, rfl⟩) rfl ?_
  refine L_v Tb_ok (v := .bool _) (av rfl ⟨trivial, trivial⟩) rfl ?_
  refine L_v Tb_ok (v := .bool _) (av rfl ⟨trivial, trivial⟩) rfl ?_
  refine WL_nil ?_
  refine W_cond (b := _) rfl (fun h14 => ?_) (fun h14 => ?_)
  · replace h14 : fi1 m = true := h14
    refine W_seq ?_
    refine W_drawF (fun e => [idOf (get e 4)]) 3 [[3, 4]] Tb_mixed rfl (by decide) (by kernel_rfl) ?_
    refine S_v Tb_ok (v := .agg [.int _ _, .int _ _, .int _ _, .int _ _, .int _ _, .int _ _, .int _ _, .int _ _, .int _ _, .int _ _, .int _ _, .int _ _, _, _, .int _ _, .int _ _, .int _ _, .int _ _, .int _ _, .int _ _, .int _ _, .int _ _, .int _ _, .int _ _, .int _ _, .int _ _, .int _ _, .int _ _, .int _ _]) (av rfl ⟨trivial, rfl⟩) rfl ?_
    refine S_v Tb_ok (v := .ptr _ _ _) (av rfl ⟨trivial, trivial⟩) rfl ?_
    refine S_v Tb_ok (v := .int _ _) (av rfl ⟨trivial, rfl⟩) rfl ?_
    refine S_nil ?_
    refine TT_one ?_
    refine TT_store Tb_ok (OSub_forget _ _) rfl (v := .agg [.int _ _, .int _ _, .int _ _, .int _ _, .int _ _, .int _ _, .int _ _, .int _ _, .int _ _, .int _ _, .int _ _, .int _ _, _, _, .int _ _, .int _ _, .int _ _, .int _ _, .int _ _, .int _ _, .int _ _, .int _ _, .int _ _, .int _ _, .int _ _, .int _ _, .int _ _, .int _ _, .int _ _]) (cs := [_, _, _, _, _, _, _, _, _, _, _, _, _, _, _, _, _, _, _, _, _, _, _, _, _, _, _, _, _]) (es' := [[_, _, _, _, _, _, _, _, _, _, _, _, _, _, _, _, _, _, _, _, _, _, _, _, _, _, _, _, _]]) rfl rfl rfl rfl rfl rfl rfl rfl rfl rfl rfl ⟨trivial, trivial⟩ (fun ht1 => ?_)
    refine TT_v Tb_ok ht1 rfl (v := .int _ _) (av rfl ⟨trivial, trivial⟩) rfl (fun ht2 => ?_)
    refine TT_nil ?_
    clear ht1 ht2
    refine W_ret ?_
    refine ends (l := [.agg [.int _ _, .int _ _, .int _ _, .int _ _, .int _ _, .int _ _, .int _ _, .int _ _, .int _ _, .int _ _, .int _ _, .int _ _, _, _, .int _ _, .int _ _, .int _ _, .int _ _, .int _ _, .int _ _, .int _ _, .int _ _, .int _ _, .int _ _, .int _ _, .int _ _, .int _ _, .int _ _, .int _ _], .int _ _]) (q := .tup [.agg [.int _ _, .int _ _, .int _ _, .int _ _, .int _ _, .int _ _, .int _ _, .int _ _, .int _ _, .int _ _, .int _ _, .int _ _, _, _, .int _ _, .int _ _, .int _ _, .int _ _, .int _ _, .int _ _, .int _ _, .int _ _, .int _ _, .int _ _, .int _ _, .int _ _, .int _ _, .int _ _, .int _ _], .int _ _]) (.inr rfl) rfl ⟨rfl, trivial, trivial⟩ rfl rfl ?_
    first | (simp [findS, findE, *, siteC, site0, opC, shapeC, demC]; done) | (simp_all [fi3, findS, findE, siteC, site0, lenAt, opC, shapeC, demC, opAt, aAt, w64]; done)
  · replace h14 : fi1 m = false := h14
    refine W_seq ?_
    refine W_region rfl ?_
    refine L_v Tb_ok (v := .int _ _) (av rfl ⟨trivial, trivial⟩) rfl ?_
    refine L_v Tb_ok (v := .bool _) (av rfl ⟨trivial, trivial⟩) rfl ?_
    refine L_v Tb_ok (v := .bool _) (av rfl ⟨trivial, trivial⟩) rfl ?_
    refine L_g Tb_ok (v := .int _ _) rfl rfl ((fun hg => (av rfl ⟨trivial, trivial⟩))) rfl rfl ?_
    refine L_g Tb_ok (v := .ptr _ _ _) rfl rfl ((fun hg => (av rfl ⟨trivial, trivial⟩))) rfl rfl ?_
    first | (refine L_g Tb_ok (v := .ro _) rfl rfl ((fun hg => (av rfl ⟨⟨⟨(by first | exact hg | (simp_all; done) | (simp at hg ⊢; simp [hg])), True.intro⟩, True.intro⟩, rfl⟩))) rfl rfl ?_) | (refine L_g Tb_ok (v := .app _ _) rfl rfl ((fun hg => (av rfl ⟨⟨⟨(by first | exact hg | (simp_all; done) | (simp at hg ⊢; simp [hg])), True.intro⟩, True.intro⟩, rfl⟩))) rfl rfl ?_) | (refine L_g Tb_ok (v := .row _ _ _) rfl rfl ((fun hg => (av rfl ⟨⟨⟨(by first | exact hg | (simp_all; done) | (simp at hg ⊢; simp [hg])), True.intro⟩, True.intro⟩, rfl⟩))) rfl rfl ?_) | (refine L_g Tb_ok (v := .nils) rfl rfl ((fun hg => (av rfl ⟨⟨⟨(by first | exact hg | (simp_all; done) | (simp at hg ⊢; simp [hg])), True.intro⟩, True.intro⟩, rfl⟩))) rfl rfl ?_)
    refine L_g Tb_ok (v := .int _ _) rfl rfl ((fun hg => (av rfl ⟨⟨⟨(by first | exact hg | (simp_all; done) | (simp at hg ⊢; simp [hg])), True.intro⟩, True.intro⟩, trivial⟩))) rfl rfl ?_
    refine L_g Tb_ok (v := .bool _) rfl rfl ((fun hg => (av rfl ⟨⟨⟨(by first | exact hg | (simp_all; done) | (simp at hg ⊢; simp [hg])), True.intro⟩, ⟨⟨(by first | exact hg | (simp_all; done) | (simp at hg ⊢; simp [hg])), True.intro⟩, True.intro⟩⟩, trivial⟩))) rfl rfl ?_
    refine L_v Tb_ok (v := .bool _) (av rfl (by refine ⟨?_, fun h => ?_, fun h => ?_⟩ <;> first | exact True.intro | exact ⟨h, True.intro⟩ | (refine ⟨?_, True.intro⟩; first | (rw [h]; done) | (rw [h]; rfl) | (simp [h]; done) | (simp at h hg ⊢; simp [h, hg]; done) | (simp_all; done) | (simp_all; omega)))) rfl ?_
    refine L_v Tb_ok (v := .bool _) (av rfl ⟨trivial, trivial⟩) rfl ?_
    refine WL_nil ?_
    refine W_cond (b := _) rfl (fun h21 => ?_) (fun h21 => ?_)
    · replace h21 : fi2 m op = true := h21
      refine W_seq ?_
      refine W_region rfl ?_
      refine L_v Tb_ok (v := .agg [.int _ _, .int _ _, .int _ _, .int _ _, .int _ _, .int _ _, .int _ _, .int _ _, .int _ _, .int _ _, .int _ _, .int _ _, _, _, .int _ _, .int _ _, .int _ _, .int _ _, .int _ _, .int _ _, .int _ _, .int _ _, .int _ _, .int _ _, .int _ _, .int _ _, .int _ _, .int _ _, .int _ _]) (av rfl ⟨trivial, rfl⟩) rfl ?_
      refine L_store Tb_ok (v := .agg [.int _ _, .int _ _, .int _ _, .int _ _, .int _ _, .int _ _, .int _ _, .int _ _, .int _ _, .int _ _, .int _ _, .int _ _, _, _, .int _ _, .int _ _, .int _ _, .int _ _, .int _ _, .int _ _, .int _ _, .int _ _, .int _ _, .int _ _, .int _ _, .int _ _, .int _ _, .int _ _, .int _ _]) (cs := [_, _, _, _, _, _, _, _, _, _, _, _, _, _, _, _, _, _, _, _, _, _, _, _, _, _, _, _, _]) (es' := [[_, _, _, _, _, _, _, _, _, _, _, _, _, _, _, _, _, _, _, _, _, _, _, _, _, _, _, _, _]]) rfl rfl rfl rfl rfl rfl rfl rfl rfl rfl ⟨trivial, trivial⟩ ?_
      refine L_v Tb_ok (v := .int _ _) (av rfl ⟨trivial, trivial⟩) rfl ?_
      refine WL_nil ?_
      refine W_ret ?_
      refine ends (l := [.agg [.int _ _, .int _ _, .int _ _, .int _ _, .int _ _, .int _ _, .int _ _, .int _ _, .int _ _, .int _ _, .int _ _, .int _ _, _, _, .int _ _, .int _ _, .int _ _, .int _ _, .int _ _, .int _ _, .int _ _, .int _ _, .int _ _, .int _ _, .int _ _, .int _ _, .int _ _, .int _ _, .int _ _], .int _ _]) (q := .tup [.agg [.int _ _, .int _ _, .int _ _, .int _ _, .int _ _, .int _ _, .int _ _, .int _ _, .int _ _, .int _ _, .int _ _, .int _ _, _, _, .int _ _, .int _ _, .int _ _, .int _ _, .int _ _, .int _ _, .int _ _, .int _ _, .int _ _, .int _ _, .int _ _, .int _ _, .int _ _, .int _ _, .int _ _], .int _ _]) (.inr rfl) rfl ⟨rfl, trivial, trivial⟩ rfl rfl ?_
      first | (simp [findS, findE, *, siteC, site0, opC, shapeC, demC]; done) | (simp_all [fi3, findS, findE, siteC, site0, lenAt, opC, shapeC, demC, opAt, aAt, w64]; done)
    · replace h21 : fi2 m op = false := h21
      obtain ⟨o1, o2, o3, o4, o5, o6⟩ := fi_ok h14 h21
      have o7 : 0 ≤ (m.Ops.getD (IntKind.i64.wrap (op - 1)).toNat default).A ∧ (m.Ops.getD (IntKind.i64.wrap (op - 1)).toNat default).A < (wholeF m).1.length := by rw [o3]; exact ⟨o5, o6⟩
      obtain ⟨o7, o8⟩ := o7
      refine W_seq ?_
      refine W_region rfl ?_
      refine L_v Tb_ok (v := .ptr _ _ _) (av rfl ⟨trivial, trivial⟩) rfl ?_
      first | (refine L_v Tb_ok (v := .ro _) (av rfl ⟨trivial, rfl⟩) rfl ?_) | (refine L_v Tb_ok (v := .app _ _) (av rfl ⟨trivial, rfl⟩) rfl ?_) | (refine L_v Tb_ok (v := .row _ _ _) (av rfl ⟨trivial, rfl⟩) rfl ?_) | (refine L_v Tb_ok (v := .nils) (av rfl ⟨trivial, rfl⟩) rfl ?_)
      refine L_v Tb_ok (v := .int _ _) (av rfl ⟨trivial, trivial⟩) rfl ?_
      refine L_v Tb_ok (v := .int _ _) (av rfl ⟨trivial, trivial⟩) rfl ?_
      first | (refine L_v Tb_ok (v := _) (ave_index_ro rfl rfl rfl (fun _ => rfl) rfl (by first | omega | assumption | decide | (simp_all; done) | (simp_all; omega)) (by first | omega | assumption | decide | (simp_all; done) | (simp_all; omega)) trivial) rfl ?_) | (refine L_v Tb_ok (v := _) (ave_index_app rfl rfl rfl (fun _ => rfl) rfl (by first | omega | assumption | decide | (simp_all; done) | (simp_all; omega)) (by first | omega | assumption | decide | (simp_all; done) | (simp_all; omega)) trivial) rfl ?_) | (refine L_v Tb_ok (v := _) (ave_index_row rfl rfl rfl rfl rfl rfl (by first | omega | assumption | decide | (simp_all; done) | (simp_all; omega)) (by first | omega | assumption | decide | (simp_all; done) | (simp_all; omega)) trivial) rfl ?_) | (refine L_v Tb_ok (v := .rptr _) (av rfl ⟨trivial, ⟨(by first | omega | assumption | decide | (simp_all; done) | (simp_all; omega)), (by first | omega | assumption | decide | (simp_all; done) | (simp_all; omega))⟩, rfl⟩) rfl ?_) | (refine L_v Tb_ok (v := .ptr _ _ _) (av rfl ⟨trivial, ⟨(by first | omega | assumption | decide | (simp_all; done) | (simp_all; omega)), (by first | omega | assumption | decide | (simp_all; done) | (simp_all; omega))⟩, rfl⟩) rfl ?_)
      first | (refine L_v Tb_ok (v := .ptr _ _ _) (av rfl ⟨trivial, trivial⟩) rfl ?_) | (refine L_v Tb_ok (v := .rptr _) (av rfl ⟨trivial, trivial⟩) rfl ?_)
      refine L_v Tb_ok (v := .int _ _) (av rfl ⟨trivial, rfl⟩) rfl ?_
      refine L_call (hr := model_Reduces _) rfl rfl trivial rfl rfl ?_
      refine L_v Tb_ok (v := .bool _) (av rfl ⟨trivial, trivial⟩) rfl ?_
      refine L_v Tb_ok (v := .bool _) (av rfl ⟨trivial, trivial⟩) rfl ?_
      refine WL_nil ?_
      refine W_cond (b := _) rfl (fun h32 => ?_) (fun h32 => ?_)
      · refine W_seq ?_
        refine W_region rfl ?_
        refine L_v Tb_ok (v := .agg [.int _ _, .int _ _, .int _ _, .int _ _, .int _ _, .int _ _, .int _ _, .int _ _, .int _ _, .int _ _, .int _ _, .int _ _, _, _, .int _ _, .int _ _, .int _ _, .int _ _, .int _ _, .int _ _, .int _ _, .int _ _, .int _ _, .int _ _, .int _ _, .int _ _, .int _ _, .int _ _, .int _ _]) (av rfl ⟨trivial, rfl⟩) rfl ?_
        refine L_store Tb_ok (v := .agg [.int _ _, .int _ _, .int _ _, .int _ _, .int _ _, .int _ _, .int _ _, .int _ _, .int _ _, .int _ _, .int _ _, .int _ _, _, _, .int _ _, .int _ _, .int _ _, .int _ _, .int _ _, .int _ _, .int _ _, .int _ _, .int _ _, .int _ _, .int _ _, .int _ _, .int _ _, .int _ _, .int _ _]) (cs := [_, _, _, _, _, _, _, _, _, _, _, _, _, _, _, _, _, _, _, _, _, _, _, _, _, _, _, _, _]) (es' := [[_, _, _, _, _, _, _, _, _, _, _, _, _, _, _, _, _, _, _, _, _, _, _, _, _, _, _, _, _]]) rfl rfl rfl rfl rfl rfl rfl rfl rfl rfl ⟨trivial, trivial⟩ ?_
        refine L_v Tb_ok (v := .int _ _) (av rfl ⟨trivial, trivial⟩) rfl ?_
        refine WL_nil ?_
        refine W_ret ?_
        refine ends (l := [.agg [.int _ _, .int _ _, .int _ _, .int _ _, .int _ _, .int _ _, .int _ _, .int _ _, .int _ _, .int _ _, .int _ _, .int _ _, _, _, .int _ _, .int _ _, .int _ _, .int _ _, .int _ _, .int _ _, .int _ _, .int _ _, .int _ _, .int _ _, .int _ _, .int _ _, .int _ _, .int _ _, .int _ _], .int _ _]) (q := .tup [.agg [.int _ _, .int _ _, .int _ _, .int _ _, .int _ _, .int _ _, .int _ _, .int _ _, .int _ _, .int _ _, .int _ _, .int _ _, _, _, .int _ _, .int _ _, .int _ _, .int _ _, .int _ _, .int _ _, .int _ _, .int _ _, .int _ _, .int _ _, .int _ _, .int _ _, .int _ _, .int _ _, .int _ _], .int _ _]) (.inr rfl) rfl ⟨rfl, trivial, trivial⟩ rfl rfl ?_
        first | (simp [findS, findE, *, siteC, site0, opC, shapeC, demC]; done) | (simp_all [fi3, findS, findE, siteC, site0, lenAt, opC, shapeC, demC, opAt, aAt, w64]; done)
      · refine W_skip ?_
        refine W_seq ?_
        refine W_drawF (fun e => []) 11 [[11, 12]] Tb_mixed rfl (by decide) (by kernel_rfl) ?_
        refine S_v Tb_ok (v := .ptr _ _ _) (av rfl ⟨trivial, trivial⟩) rfl ?_
        first | (refine S_v Tb_ok (v := .ro _) (av rfl ⟨trivial, rfl⟩) rfl ?_) | (refine S_v Tb_ok (v := .app _ _) (av rfl ⟨trivial, rfl⟩) rfl ?_) | (refine S_v Tb_ok (v := .row _ _ _) (av rfl ⟨trivial, rfl⟩) rfl ?_) | (refine S_v Tb_ok (v := .nils) (av rfl ⟨trivial, rfl⟩) rfl ?_)
        refine S_v Tb_ok (v := .int _ _) (av rfl ⟨trivial, trivial⟩) rfl ?_
        refine S_v Tb_ok (v := .int _ _) (av rfl ⟨trivial, trivial⟩) rfl ?_
        first | (refine S_v Tb_ok (v := _) (ave_index_ro rfl rfl rfl (fun _ => rfl) rfl (by first | omega | assumption | decide | (simp_all; done) | (simp_all; omega)) (by first | omega | assumption | decide | (simp_all; done) | (simp_all; omega)) trivial) rfl ?_) | (refine S_v Tb_ok (v := _) (ave_index_app rfl rfl rfl (fun _ => rfl) rfl (by first | omega | assumption | decide | (simp_all; done) | (simp_all; omega)) (by first | omega | assumption | decide | (simp_all; done) | (simp_all; omega)) trivial) rfl ?_) | (refine S_v Tb_ok (v := _) (ave_index_row rfl rfl rfl rfl rfl rfl (by first | omega | assumption | decide | (simp_all; done) | (simp_all; omega)) (by first | omega | assumption | decide | (simp_all; done) | (simp_all; omega)) trivial) rfl ?_) | (refine S_v Tb_ok (v := .rptr _) (av rfl ⟨trivial, ⟨(by first | omega | assumption | decide | (simp_all; done) | (simp_all; omega)), (by first | omega | assumption | decide | (simp_all; done) | (simp_all; omega))⟩, rfl⟩) rfl ?_) | (refine S_v Tb_ok (v := .ptr _ _ _) (av rfl ⟨trivial, ⟨(by first | omega | assumption | decide | (simp_all; done) | (simp_all; omega)), (by first | omega | assumption | decide | (simp_all; done) | (simp_all; omega))⟩, rfl⟩) rfl ?_)
        refine S_v Tb_ok (v := .agg [.int _ _, .int _ _, .int _ _, .int _ _, .int _ _, .int _ _, .int _ _, .int _ _, .int _ _, .int _ _, .int _ _, .int _ _, _, _, .int _ _, .int _ _, .int _ _, .int _ _, .int _ _, .int _ _, .int _ _, .int _ _]) (av rfl ⟨trivial, rfl⟩) rfl ?_
        first | (refine S_v Tb_ok (v := .ro _) (av rfl ⟨trivial, trivial⟩) rfl ?_) | (refine S_v Tb_ok (v := .app _ _) (av rfl ⟨trivial, trivial⟩) rfl ?_) | (refine S_v Tb_ok (v := .row _ _ _) (av rfl ⟨trivial, trivial⟩) rfl ?_) | (refine S_v Tb_ok (v := .nils) (av rfl ⟨trivial, trivial⟩) rfl ?_)
        refine S_v Tb_ok (v := .int _ _) (av rfl ⟨trivial, trivial⟩) rfl ?_
        first | (refine S_v Tb_ok (v := _) (ave_index_ro rfl rfl rfl (fun _ => rfl) rfl (by first | omega | assumption | decide | (simp_all; done) | (simp_all; omega)) (by first | omega | assumption | decide | (simp_all; done) | (simp_all; omega)) trivial) rfl ?_) | (refine S_v Tb_ok (v := _) (ave_index_app rfl rfl rfl (fun _ => rfl) rfl (by first | omega | assumption | decide | (simp_all; done) | (simp_all; omega)) (by first | omega | assumption | decide | (simp_all; done) | (simp_all; omega)) trivial) rfl ?_) | (refine S_v Tb_ok (v := _) (ave_index_row rfl rfl rfl rfl rfl rfl (by first | omega | assumption | decide | (simp_all; done) | (simp_all; omega)) (by first | omega | assumption | decide | (simp_all; done) | (simp_all; omega)) trivial) rfl ?_) | (refine S_v Tb_ok (v := .rptr _) (av rfl ⟨trivial, ⟨(by first | omega | assumption | decide | (simp_all; done) | (simp_all; omega)), (by first | omega | assumption | decide | (simp_all; done) | (simp_all; omega))⟩, rfl⟩) rfl ?_) | (refine S_v Tb_ok (v := .ptr _ _ _) (av rfl ⟨trivial, ⟨(by first | omega | assumption | decide | (simp_all; done) | (simp_all; omega)), (by first | omega | assumption | decide | (simp_all; done) | (simp_all; omega))⟩, rfl⟩) rfl ?_)
        refine S_v Tb_ok (v := .agg [.int _ _, .int _ _, .int _ _]) (av rfl ⟨trivial, rfl⟩) rfl ?_
        refine S_v Tb_ok (v := .agg [.int _ _, .int _ _, .int _ _, .int _ _, .int _ _, .int _ _, .int _ _, .int _ _, .int _ _, .int _ _, .int _ _, .int _ _, _, _, .int _ _, .int _ _, .int _ _, .int _ _, .int _ _, .int _ _, .int _ _, .int _ _, .int _ _, .int _ _, .int _ _, .int _ _, .int _ _, .int _ _, .int _ _]) (av rfl ⟨trivial, rfl⟩) rfl ?_
        refine S_nil ?_
        refine TT_one ?_
        refine TT_alloc Tb_ok (OSub_forget _ _) rfl (z := [.int .i64 0, .int .i64 0, .int .i64 0, .int .i64 0, .int .i64 0, .int .i64 0, .int .i64 0, .int .i64 0, .int .i64 0, .int .i64 0, .int .i64 0, .int .i64 0, .nils, .nils, .int .i64 0, .int .i64 0, .int .i64 0, .int .i64 0, .int .i64 0, .int .i64 0, .int .i64 0, .int .i64 0, .int .i64 0, .int .i64 0, .int .i64 0, .int .i64 0, .int .i64 0, .int .i64 0, .int .i64 0]) (n := 29) rfl rfl rfl rfl rfl rfl (fun ht1 => ?_)
        refine TT_store Tb_ok ht1 rfl (v := .agg [.int _ _, .int _ _, .int _ _, .int _ _, .int _ _, .int _ _, .int _ _, .int _ _, .int _ _, .int _ _, .int _ _, .int _ _, _, _, .int _ _, .int _ _, .int _ _, .int _ _, .int _ _, .int _ _, .int _ _, .int _ _, .int _ _, .int _ _, .int _ _, .int _ _, .int _ _, .int _ _, .int _ _]) (cs := [_, _, _, _, _, _, _, _, _, _, _, _, _, _, _, _, _, _, _, _, _, _, _, _, _, _, _, _, _]) (es' := [[_, _, _, _, _, _, _, _, _, _, _, _, _, _, _, _, _, _, _, _, _, _, _, _, _, _, _, _, _]]) rfl rfl rfl rfl rfl rfl rfl rfl rfl rfl rfl ⟨trivial, trivial⟩ (fun ht2 => ?_)
        refine TT_nil ?_
        clear ht1 ht2
        refine W_seq ?_
        refine W_region rfl ?_
        first | (refine L_v Tb_ok (v := .ro _) (av rfl ⟨trivial, trivial⟩) rfl ?_) | (refine L_v Tb_ok (v := .app _ _) (av rfl ⟨trivial, trivial⟩) rfl ?_) | (refine L_v Tb_ok (v := .row _ _ _) (av rfl ⟨trivial, trivial⟩) rfl ?_) | (refine L_v Tb_ok (v := .nils) (av rfl ⟨trivial, trivial⟩) rfl ?_)
        refine L_v Tb_ok (v := .ptr _ _ _) (av rfl ⟨trivial, trivial⟩) rfl ?_
        refine L_v Tb_ok (v := .ptr _ _ _) (av rfl ⟨trivial, trivial⟩) rfl ?_
        refine L_v Tb_ok (v := .int _ _) (av rfl ⟨trivial, rfl⟩) rfl ?_
        first | (refine L_v Tb_ok (v := _) (ave_index_ro rfl rfl rfl (fun _ => rfl) rfl (by first | omega | assumption | decide | (simp_all; done) | (simp_all; omega)) (by first | omega | assumption | decide | (simp_all; done) | (simp_all; omega)) trivial) rfl ?_) | (refine L_v Tb_ok (v := _) (ave_index_app rfl rfl rfl (fun _ => rfl) rfl (by first | omega | assumption | decide | (simp_all; done) | (simp_all; omega)) (by first | omega | assumption | decide | (simp_all; done) | (simp_all; omega)) trivial) rfl ?_) | (refine L_v Tb_ok (v := _) (ave_index_row rfl rfl rfl rfl rfl rfl (by first | omega | assumption | decide | (simp_all; done) | (simp_all; omega)) (by first | omega | assumption | decide | (simp_all; done) | (simp_all; omega)) trivial) rfl ?_) | (refine L_v Tb_ok (v := .rptr _) (av rfl ⟨trivial, ⟨(by first | omega | assumption | decide | (simp_all; done) | (simp_all; omega)), (by first | omega | assumption | decide | (simp_all; done) | (simp_all; omega))⟩, rfl⟩) rfl ?_) | (refine L_v Tb_ok (v := .ptr _ _ _) (av rfl ⟨trivial, ⟨(by first | omega | assumption | decide | (simp_all; done) | (simp_all; omega)), (by first | omega | assumption | decide | (simp_all; done) | (simp_all; omega))⟩, rfl⟩) rfl ?_)
        refine L_v Tb_ok (v := .agg [.int _ _, .int _ _, .int _ _]) (av rfl ⟨trivial, rfl⟩) rfl ?_
        refine L_v Tb_ok (v := .ptr _ _ _) (av rfl ⟨trivial, trivial⟩) rfl ?_
        refine L_store Tb_ok (v := .agg [.int _ _, .int _ _, .int _ _]) (cs := [_, _, _]) (es' := [[_, _, _, _, _, _, _, _, _, _, _, _, _, _, _, _, _, _, _, _, _, _, _, _, _, _, _, _, _]]) rfl rfl rfl rfl rfl rfl rfl rfl rfl rfl ⟨trivial, trivial⟩ ?_
        refine WL_nil ?_
        refine W_seq ?_
        refine W_region rfl ?_
        refine L_v Tb_ok (v := .ptr _ _ _) (av rfl ⟨trivial, trivial⟩) rfl ?_
        refine L_v Tb_ok (v := .ptr _ _ _) (av rfl ⟨trivial, trivial⟩) rfl ?_
        refine L_v Tb_ok (v := .ptr _ _ _) (av rfl ⟨trivial, trivial⟩) rfl ?_
        refine L_v Tb_ok (v := .int _ _) (av rfl ⟨trivial, rfl⟩) rfl ?_
        refine L_v Tb_ok (v := .ptr _ _ _) (av rfl ⟨trivial, trivial⟩) rfl ?_
        refine L_v Tb_ok (v := .ptr _ _ _) (av rfl ⟨trivial, trivial⟩) rfl ?_
        refine L_v Tb_ok (v := .ptr _ _ _) (av rfl ⟨trivial, trivial⟩) rfl ?_
        refine L_v Tb_ok (v := .int _ _) (av rfl ⟨trivial, rfl⟩) rfl ?_
        refine L_v Tb_ok (v := .int _ _) (av rfl ⟨trivial, trivial⟩) rfl ?_
        refine L_v Tb_ok (v := .ptr _ _ _) (av rfl ⟨trivial, trivial⟩) rfl ?_
        refine L_store Tb_ok (v := .int _ _) (cs := [_]) (es' := [[_, _, _, _, _, _, _, _, _, _, _, _, _, _, _, _, _, _, _, _, _, _, _, _, _, _, _, _, _]]) rfl rfl rfl rfl rfl rfl rfl rfl rfl rfl ⟨trivial, trivial⟩ ?_
        refine WL_nil ?_
        refine W_seq ?_
        refine W_seq ?_
        refine W_region rfl ?_
        refine L_v Tb_ok (v := .ptr _ _ _) (av rfl ⟨trivial, trivial⟩) rfl ?_
        refine L_v Tb_ok (v := .ptr _ _ _) (av rfl ⟨trivial, trivial⟩) rfl ?_
        refine L_v Tb_ok (v := .int _ _) (av rfl ⟨trivial, rfl⟩) rfl ?_
        refine WL_nil ?_
        refine W_block ?_
        refine W_seq ?_
        refine W_region rfl ?_
        refine L_v Tb_ok (v := .bool _) (av rfl ⟨trivial, trivial⟩) rfl ?_
        refine L_v Tb_ok (v := .bool _) (av rfl ⟨trivial, trivial⟩) rfl ?_
        refine WL_nil ?_
        refine W_cond (b := _) rfl (fun h74 => ?_) (fun h74 => ?_)
        · refine W_region rfl ?_
          refine L_v Tb_ok (v := .ptr _ _ _) (av rfl ⟨trivial, trivial⟩) rfl ?_
          refine L_v Tb_ok (v := .ptr _ _ _) (av rfl ⟨trivial, trivial⟩) rfl ?_
          refine L_v Tb_ok (v := .int _ _) (av rfl ⟨trivial, rfl⟩) rfl ?_
          refine L_v Tb_ok (v := .ptr _ _ _) (av rfl ⟨trivial, trivial⟩) rfl ?_
          refine L_v Tb_ok (v := .ptr _ _ _) (av rfl ⟨trivial, trivial⟩) rfl ?_
          refine L_v Tb_ok (v := .int _ _) (av rfl ⟨trivial, rfl⟩) rfl ?_
          refine L_v Tb_ok (v := .int _ _) (av rfl ⟨trivial, trivial⟩) rfl ?_
          refine L_v Tb_ok (v := .ptr _ _ _) (av rfl ⟨trivial, trivial⟩) rfl ?_
          refine L_v Tb_ok (v := .ptr _ _ _) (av rfl ⟨trivial, trivial⟩) rfl ?_
          refine L_v Tb_ok (v := .int _ _) (av rfl ⟨trivial, rfl⟩) rfl ?_
          refine L_v Tb_ok (v := .int _ _) (av rfl ⟨trivial, trivial⟩) rfl ?_
          refine L_v Tb_ok (v := .ptr _ _ _) (av rfl ⟨trivial, trivial⟩) rfl ?_
          refine L_store Tb_ok (v := .int _ _) (cs := [_]) (es' := [[_, _, _, _, _, _, _, _, _, _, _, _, _, _, _, _, _, _, _, _, _, _, _, _, _, _, _, _, _]]) rfl rfl rfl rfl rfl rfl rfl rfl rfl rfl ⟨trivial, trivial⟩ ?_
          refine WL_nil ?_
          refine W_seq ?_
          refine W_region rfl ?_
          refine L_v Tb_ok (v := .agg [.int _ _, .int _ _, .int _ _, .int _ _, .int _ _, .int _ _, .int _ _, .int _ _, .int _ _, .int _ _, .int _ _, .int _ _, _, _, .int _ _, .int _ _, .int _ _, .int _ _, .int _ _, .int _ _, .int _ _, .int _ _, .int _ _, .int _ _, .int _ _, .int _ _, .int _ _, .int _ _, .int _ _]) (av rfl ⟨trivial, rfl⟩) rfl ?_
          refine L_store Tb_ok (v := .agg [.int _ _, .int _ _, .int _ _, .int _ _, .int _ _, .int _ _, .int _ _, .int _ _, .int _ _, .int _ _, .int _ _, .int _ _, _, _, .int _ _, .int _ _, .int _ _, .int _ _, .int _ _, .int _ _, .int _ _, .int _ _, .int _ _, .int _ _, .int _ _, .int _ _, .int _ _, .int _ _, .int _ _]) (cs := [_, _, _, _, _, _, _, _, _, _, _, _, _, _, _, _, _, _, _, _, _, _, _, _, _, _, _, _, _]) (es' := [[_, _, _, _, _, _, _, _, _, _, _, _, _, _, _, _, _, _, _, _, _, _, _, _, _, _, _, _, _]]) rfl rfl rfl rfl rfl rfl rfl rfl rfl rfl ⟨trivial, trivial⟩ ?_
          refine L_v Tb_ok (v := .int _ _) (av rfl ⟨trivial, trivial⟩) rfl ?_
          refine WL_nil ?_
          refine W_ret ?_
          refine ends (l := [.agg [.int _ _, .int _ _, .int _ _, .int _ _, .int _ _, .int _ _, .int _ _, .int _ _, .int _ _, .int _ _, .int _ _, .int _ _, _, _, .int _ _, .int _ _, .int _ _, .int _ _, .int _ _, .int _ _, .int _ _, .int _ _, .int _ _, .int _ _, .int _ _, .int _ _, .int _ _, .int _ _, .int _ _], .int _ _]) (q := .tup [.agg [.int _ _, .int _ _, .int _ _, .int _ _, .int _ _, .int _ _, .int _ _, .int _ _, .int _ _, .int _ _, .int _ _, .int _ _, _, _, .int _ _, .int _ _, .int _ _, .int _ _, .int _ _, .int _ _, .int _ _, .int _ _, .int _ _, .int _ _, .int _ _, .int _ _, .int _ _, .int _ _, .int _ _], .int _ _]) (.inr rfl) rfl ⟨rfl, trivial, trivial⟩ rfl rfl ?_
          first | (simp [findS, findE, *, siteC, site0, opC, shapeC, demC]; done) | (simp_all [fi3, findS, findE, siteC, site0, lenAt, opC, shapeC, demC, opAt, aAt, w64]; done)
        · refine W_seq ?_
          refine W_region rfl ?_
          refine L_v Tb_ok (v := .bool _) (av rfl ⟨trivial, trivial⟩) rfl ?_
          refine L_v Tb_ok (v := .bool _) (av rfl ⟨trivial, trivial⟩) rfl ?_
          refine WL_nil ?_
          refine W_cond (b := _) rfl (fun h88 => ?_) (fun h88 => ?_)
          · refine W_region rfl ?_
            refine L_v Tb_ok (v := .ptr _ _ _) (av rfl ⟨trivial, trivial⟩) rfl ?_
            refine L_v Tb_ok (v := .int _ _) (av rfl ⟨trivial, rfl⟩) rfl ?_
            refine L_v Tb_ok (v := .ptr _ _ _) (av rfl ⟨trivial, trivial⟩) rfl ?_
            refine L_v Tb_ok (v := .ptr _ _ _) (av rfl ⟨trivial, trivial⟩) rfl ?_
            refine L_v Tb_ok (v := .int _ _) (av rfl ⟨trivial, rfl⟩) rfl ?_
            refine L_v Tb_ok (v := .int _ _) (av rfl ⟨trivial, trivial⟩) rfl ?_
            refine L_v Tb_ok (v := .ptr _ _ _) (av rfl ⟨trivial, trivial⟩) rfl ?_
            refine L_store Tb_ok (v := .int _ _) (cs := [_]) (es' := [[_, _, _, _, _, _, _, _, _, _, _, _, _, _, _, _, _, _, _, _, _, _, _, _, _, _, _, _, _]]) rfl rfl rfl rfl rfl rfl rfl rfl rfl rfl ⟨trivial, trivial⟩ ?_
            refine WL_nil ?_
            refine W_seq ?_
            refine W_region rfl ?_
            refine L_v Tb_ok (v := .agg [.int _ _, .int _ _, .int _ _, .int _ _, .int _ _, .int _ _, .int _ _, .int _ _, .int _ _, .int _ _, .int _ _, .int _ _, _, _, .int _ _, .int _ _, .int _ _, .int _ _, .int _ _, .int _ _, .int _ _, .int _ _, .int _ _, .int _ _, .int _ _, .int _ _, .int _ _, .int _ _, .int _ _]) (av rfl ⟨trivial, rfl⟩) rfl ?_
            refine L_store Tb_ok (v := .agg [.int _ _, .int _ _, .int _ _, .int _ _, .int _ _, .int _ _, .int _ _, .int _ _, .int _ _, .int _ _, .int _ _, .int _ _, _, _, .int _ _, .int _ _, .int _ _, .int _ _, .int _ _, .int _ _, .int _ _, .int _ _, .int _ _, .int _ _, .int _ _, .int _ _, .int _ _, .int _ _, .int _ _]) (cs := [_, _, _, _, _, _, _, _, _, _, _, _, _, _, _, _, _, _, _, _, _, _, _, _, _, _, _, _, _]) (es' := [[_, _, _, _, _, _, _, _, _, _, _, _, _, _, _, _, _, _, _, _, _, _, _, _, _, _, _, _, _]]) rfl rfl rfl rfl rfl rfl rfl rfl rfl rfl ⟨trivial, trivial⟩ ?_
            refine L_v Tb_ok (v := .int _ _) (av rfl ⟨trivial, trivial⟩) rfl ?_
            refine WL_nil ?_
            refine W_ret ?_
            refine ends (l := [.agg [.int _ _, .int _ _, .int _ _, .int _ _, .int _ _, .int _ _, .int _ _, .int _ _, .int _ _, .int _ _, .int _ _, .int _ _, _, _, .int _ _, .int _ _, .int _ _, .int _ _, .int _ _, .int _ _, .int _ _, .int _ _, .int _ _, .int _ _, .int _ _, .int _ _, .int _ _, .int _ _, .int _ _], .int _ _]) (q := .tup [.agg [.int _ _, .int _ _, .int _ _, .int _ _, .int _ _, .int _ _, .int _ _, .int _ _, .int _ _, .int _ _, .int _ _, .int _ _, _, _, .int _ _, .int _ _, .int _ _, .int _ _, .int _ _, .int _ _, .int _ _, .int _ _, .int _ _, .int _ _, .int _ _, .int _ _, .int _ _, .int _ _, .int _ _], .int _ _]) (.inr rfl) rfl ⟨rfl, trivial, trivial⟩ rfl rfl ?_
            first | (simp [findS, findE, *, siteC, site0, opC, shapeC, demC]; done) | (simp_all [fi3, findS, findE, siteC, site0, lenAt, opC, shapeC, demC, opAt, aAt, w64]; done)
          · refine W_skip ?_
            refine W_seq ?_
            refine W_region rfl ?_
            refine L_v Tb_ok (v := .agg [.int _ _, .int _ _, .int _ _, .int _ _, .int _ _, .int _ _, .int _ _, .int _ _, .int _ _, .int _ _, .int _ _, .int _ _, _, _, .int _ _, .int _ _, .int _ _, .int _ _, .int _ _, .int _ _, .int _ _, .int _ _, .int _ _, .int _ _, .int _ _, .int _ _, .int _ _, .int _ _, .int _ _]) (av rfl ⟨trivial, rfl⟩) rfl ?_
            refine L_store Tb_ok (v := .agg [.int _ _, .int _ _, .int _ _, .int _ _, .int _ _, .int _ _, .int _ _, .int _ _, .int _ _, .int _ _, .int _ _, .int _ _, _, _, .int _ _, .int _ _, .int _ _, .int _ _, .int _ _, .int _ _, .int _ _, .int _ _, .int _ _, .int _ _, .int _ _, .int _ _, .int _ _, .int _ _, .int _ _]) (cs := [_, _, _, _, _, _, _, _, _, _, _, _, _, _, _, _, _, _, _, _, _, _, _, _, _, _, _, _, _]) (es' := [[_, _, _, _, _, _, _, _, _, _, _, _, _, _, _, _, _, _, _, _, _, _, _, _, _, _, _, _, _]]) rfl rfl rfl rfl rfl rfl rfl rfl rfl rfl ⟨trivial, trivial⟩ ?_
            refine L_v Tb_ok (v := .int _ _) (av rfl ⟨trivial, trivial⟩) rfl ?_
            refine WL_nil ?_
            refine W_ret ?_
            refine ends (l := [.agg [.int _ _, .int _ _, .int _ _, .int _ _, .int _ _, .int _ _, .int _ _, .int _ _, .int _ _, .int _ _, .int _ _, .int _ _, _, _, .int _ _, .int _ _, .int _ _, .int _ _, .int _ _, .int _ _, .int _ _, .int _ _, .int _ _, .int _ _, .int _ _, .int _ _, .int _ _, .int _ _, .int _ _], .int _ _]) (q := .tup [.agg [.int _ _, .int _ _, .int _ _, .int _ _, .int _ _, .int _ _, .int _ _, .int _ _, .int _ _, .int _ _, .int _ _, .int _ _, _, _, .int _ _, .int _ _, .int _ _, .int _ _, .int _ _, .int _ _, .int _ _, .int _ _, .int _ _, .int _ _, .int _ _, .int _ _, .int _ _, .int _ _, .int _ _], .int _ _]) (.inr rfl) rfl ⟨rfl, trivial, trivial⟩ rfl rfl ?_
            first | (simp [findS, findE, *, siteC, site0, opC, shapeC, demC]; done) | (simp_all [fi3, findS, findE, siteC, site0, lenAt, opC, shapeC, demC, opAt, aAt, w64]; done)
end Go.AM
end
section
open Go Go.AM Go.Proofs
set_option maxRecDepth 10000
set_option linter.unusedVariables false
set_option linter.unusedSimpArgs false
namespace Go.AM
theorem terms_Length (m : Model) (op : Int) : Ok Try.prog 19 [.agg (modelC m), .int .i64 op] (.tup [.int .i64 (findS m op).Len, .int .i64 (findE m op)]) := by
  refine fn_ok Tb_ok (fn := Try.f19) Try.func19 rfl rfl (e := [(0, _), (1, _)]) rfl (by decide) rfl ?_
  refine W_seq ?_
  refine W_region rfl ?_
  refine L_box Tb_ok (cs := [.int _ _, .int _ _, .int _ _, .int _ _, .int _ _, _, .int _ _]) (n := 7) rfl rfl rfl rfl trivial ?_
  refine L_v Tb_ok (v := .int _ _) (av rfl ⟨trivial, trivial⟩) rfl ?_
  refine L_v Tb_ok (v := .int _ _) (av rfl ⟨trivial, trivial⟩) rfl ?_
  refine WL_nil ?_
  refine W_seq ?_
  refine W_region rfl ?_
  refine L_v Tb_ok (v := .agg [.int _ _, .int _ _, .int _ _, .int _ _, .int _ _, _, .int _ _]) (av rfl ⟨trivial, rfl⟩) rfl ?_
  refine L_v Tb_ok (v := .int _ _) (av rfl ⟨trivial, trivial⟩) rfl ?_
  refine L_call (hr := terms_find m op) rfl rfl trivial rfl rfl ?_
  refine L_v Tb_ok (v := .tup [_, _]) (av rfl ⟨trivial, trivial⟩) rfl ?_
  refine L_v Tb_ok (v := .agg [.int _ _, .int _ _, .int _ _, .int _ _, .int _ _, .int _ _, .int _ _, .int _ _, .int _ _, .int _ _, .int _ _, .int _ _, _, _, .int _ _, .int _ _, .int _ _, .int _ _, .int _ _, .int _ _, .int _ _, .int _ _, .int _ _, .int _ _, .int _ _, .int _ _, .int _ _, .int _ _, .int _ _]) (av rfl ⟨trivial, trivial⟩) rfl ?_
  refine L_v Tb_ok (v := .int _ _) (av rfl ⟨trivial, trivial⟩) rfl ?_
  refine L_alloc Tb_ok (z := [.int .i64 0, .int .i64 0, .int .i64 0, .int .i64 0, .int .i64 0, .int .i64 0, .int .i64 0, .int .i64 0, .int .i64 0, .int .i64 0, .int .i64 0, .int .i64 0, .nils, .nils, .int .i64 0, .int .i64 0, .int .i64 0, .int .i64 0, .int .i64 0, .int .i64 0, .int .i64 0, .int .i64 0, .int .i64 0, .int .i64 0, .int .i64 0, .int .i64 0, .int .i64 0, .int .i64 0, .int .i64 0]) (n := 29) rfl rfl rfl rfl rfl ?_
  refine L_store Tb_ok (v := .agg [.int _ _, .int _ _, .int _ _, .int _ _, .int _ _, .int _ _, .int _ _, .int _ _, .int _ _, .int _ _, .int _ _, .int _ _, _, _, .int _ _, .int _ _, .int _ _, .int _ _, .int _ _, .int _ _, .int _ _, .int _ _, .int _ _, .int _ _, .int _ _, .int _ _, .int _ _, .int _ _, .int _ _]) (cs := [_, _, _, _, _, _, _, _, _, _, _, _, _, _, _, _, _, _, _, _, _, _, _, _, _, _, _, _, _]) (es' := [[_, _, _, _, _, _, _, _, _, _, _, _, _, _, _, _, _, _, _, _, _, _, _, _, _, _, _, _, _]]) rfl rfl rfl rfl rfl rfl rfl rfl rfl rfl ⟨trivial, trivial⟩ ?_
  refine L_v Tb_ok (v := .int _ _) (av rfl ⟨trivial, trivial⟩) rfl ?_
  refine WL_nil ?_
  refine W_seq ?_
  refine W_region rfl ?_
  refine L_v Tb_ok (v := .ptr _ _ _) (av rfl ⟨trivial, trivial⟩) rfl ?_
  refine L_v Tb_ok (v := .int _ _) (av rfl ⟨trivial, rfl⟩) rfl ?_
  refine L_v Tb_ok (v := .int _ _) (av rfl ⟨trivial, trivial⟩) rfl ?_
  refine L_v Tb_ok (v := .int _ _) (av rfl ⟨trivial, trivial⟩) rfl ?_
  refine L_v Tb_ok (v := .int _ _) (av rfl ⟨trivial, trivial⟩) rfl ?_
  refine WL_nil ?_
  refine W_ret ?_
  refine ends (l := [.int _ _, .int _ _]) (q := .tup [.int _ _, .int _ _]) (.inr rfl) rfl ⟨trivial, trivial, trivial⟩ rfl rfl ?_
  rfl
theorem terms_Channels (m : Model) (op : Int) : Ok Try.prog 20 [.agg (modelC m), .int .i64 op] (.tup [.int .i64 (findS m op).Out.C, .int .i64 (findE m op)]) := by
  refine fn_ok Tb_ok (fn := Try.f20) Try.func20 rfl rfl (e := [(0, _), (1, _)]) rfl (by decide) rfl ?_
  refine W_seq ?_
  refine W_region rfl ?_
  refine L_box Tb_ok (cs := [.int _ _, .int _ _, .int _ _, .int _ _, .int _ _, _, .int _ _]) (n := 7) rfl rfl rfl rfl trivial ?_
  refine L_v Tb_ok (v := .int _ _) (av rfl ⟨trivial, trivial⟩) rfl ?_
  refine L_v Tb_ok (v := .int _ _) (av rfl ⟨trivial, trivial⟩) rfl ?_
  refine WL_nil ?_
  refine W_seq ?_
  refine W_region rfl ?_
  refine L_v Tb_ok (v := .agg [.int _ _, .int _ _, .int _ _, .int _ _, .int _ _, _, .int _ _]) (av rfl ⟨trivial, rfl⟩) rfl ?_
  refine L_v Tb_ok (v := .int _ _) (av rfl ⟨trivial, trivial⟩) rfl ?_
  refine L_call (hr := terms_find m op) rfl rfl trivial rfl rfl ?_
  refine L_v Tb_ok (v := .tup [_, _]) (av rfl ⟨trivial, trivial⟩) rfl ?_
  refine L_v Tb_ok (v := .agg [.int _ _, .int _ _, .int _ _, .int _ _, .int _ _, .int _ _, .int _ _, .int _ _, .int _ _, .int _ _, .int _ _, .int _ _, _, _, .int _ _, .int _ _, .int _ _, .int _ _, .int _ _, .int _ _, .int _ _, .int _ _, .int _ _, .int _ _, .int _ _, .int _ _, .int _ _, .int _ _, .int _ _]) (av rfl ⟨trivial, trivial⟩) rfl ?_
  refine L_v Tb_ok (v := .int _ _) (av rfl ⟨trivial, trivial⟩) rfl ?_
  refine L_alloc Tb_ok (z := [.int .i64 0, .int .i64 0, .int .i64 0, .int .i64 0, .int .i64 0, .int .i64 0, .int .i64 0, .int .i64 0, .int .i64 0, .int .i64 0, .int .i64 0, .int .i64 0, .nils, .nils, .int .i64 0, .int .i64 0, .int .i64 0, .int .i64 0, .int .i64 0, .int .i64 0, .int .i64 0, .int .i64 0, .int .i64 0, .int .i64 0, .int .i64 0, .int .i64 0, .int .i64 0, .int .i64 0, .int .i64 0]) (n := 29) rfl rfl rfl rfl rfl ?_
  refine L_store Tb_ok (v := .agg [.int _ _, .int _ _, .int _ _, .int _ _, .int _ _, .int _ _, .int _ _, .int _ _, .int _ _, .int _ _, .int _ _, .int _ _, _, _, .int _ _, .int _ _, .int _ _, .int _ _, .int _ _, .int _ _, .int _ _, .int _ _, .int _ _, .int _ _, .int _ _, .int _ _, .int _ _, .int _ _, .int _ _]) (cs := [_, _, _, _, _, _, _, _, _, _, _, _, _, _, _, _, _, _, _, _, _, _, _, _, _, _, _, _, _]) (es' := [[_, _, _, _, _, _, _, _, _, _, _, _, _, _, _, _, _, _, _, _, _, _, _, _, _, _, _, _, _]]) rfl rfl rfl rfl rfl rfl rfl rfl rfl rfl ⟨trivial, trivial⟩ ?_
  refine L_v Tb_ok (v := .int _ _) (av rfl ⟨trivial, trivial⟩) rfl ?_
  refine WL_nil ?_
  refine W_seq ?_
  refine W_region rfl ?_
  refine L_v Tb_ok (v := .ptr _ _ _) (av rfl ⟨trivial, trivial⟩) rfl ?_
  refine L_v Tb_ok (v := .ptr _ _ _) (av rfl ⟨trivial, trivial⟩) rfl ?_
  refine L_v Tb_ok (v := .int _ _) (av rfl ⟨trivial, rfl⟩) rfl ?_
  refine L_v Tb_ok (v := .int _ _) (av rfl ⟨trivial, trivial⟩) rfl ?_
  refine L_v Tb_ok (v := .int _ _) (av rfl ⟨trivial, trivial⟩) rfl ?_
  refine L_v Tb_ok (v := .int _ _) (av rfl ⟨trivial, trivial⟩) rfl ?_
  refine WL_nil ?_
  refine W_ret ?_
  refine ends (l := [.int _ _, .int _ _]) (q := .tup [.int _ _, .int _ _]) (.inr rfl) rfl ⟨trivial, trivial, trivial⟩ rfl rfl ?_
  rfl
theorem terms_Positions (m : Model) (op : Int) : Ok Try.prog 21 [.agg (modelC m), .int .i64 op] (.tup [.int .i64 (w64 ((findS m op).Out.H * (findS m op).Out.W)), .int .i64 (findE m op)]) := by
  refine fn_ok Tb_ok (fn := Try.f21) Try.func21 rfl rfl (e := [(0, _), (1, _)]) rfl (by decide) rfl ?_
  refine W_seq ?_
  refine W_region rfl ?_
  refine L_box Tb_ok (cs := [.int _ _, .int _ _, .int _ _, .int _ _, .int _ _, _, .int _ _]) (n := 7) rfl rfl rfl rfl trivial ?_
  refine L_v Tb_ok (v := .int _ _) (av rfl ⟨trivial, trivial⟩) rfl ?_
  refine L_v Tb_ok (v := .int _ _) (av rfl ⟨trivial, trivial⟩) rfl ?_
  refine WL_nil ?_
  refine W_seq ?_
  refine W_region rfl ?_
  refine L_v Tb_ok (v := .agg [.int _ _, .int _ _, .int _ _, .int _ _, .int _ _, _, .int _ _]) (av rfl ⟨trivial, rfl⟩) rfl ?_
  refine L_v Tb_ok (v := .int _ _) (av rfl ⟨trivial, trivial⟩) rfl ?_
  refine L_call (hr := terms_find m op) rfl rfl trivial rfl rfl ?_
  refine L_v Tb_ok (v := .tup [_, _]) (av rfl ⟨trivial, trivial⟩) rfl ?_
  refine L_v Tb_ok (v := .agg [.int _ _, .int _ _, .int _ _, .int _ _, .int _ _, .int _ _, .int _ _, .int _ _, .int _ _, .int _ _, .int _ _, .int _ _, _, _, .int _ _, .int _ _, .int _ _, .int _ _, .int _ _, .int _ _, .int _ _, .int _ _, .int _ _, .int _ _, .int _ _, .int _ _, .int _ _, .int _ _, .int _ _]) (av rfl ⟨trivial, trivial⟩) rfl ?_
  refine L_v Tb_ok (v := .int _ _) (av rfl ⟨trivial, trivial⟩) rfl ?_
  refine L_alloc Tb_ok (z := [.int .i64 0, .int .i64 0, .int .i64 0, .int .i64 0, .int .i64 0, .int .i64 0, .int .i64 0, .int .i64 0, .int .i64 0, .int .i64 0, .int .i64 0, .int .i64 0, .nils, .nils, .int .i64 0, .int .i64 0, .int .i64 0, .int .i64 0, .int .i64 0, .int .i64 0, .int .i64 0, .int .i64 0, .int .i64 0, .int .i64 0, .int .i64 0, .int .i64 0, .int .i64 0, .int .i64 0, .int .i64 0]) (n := 29) rfl rfl rfl rfl rfl ?_
  refine L_store Tb_ok (v := .agg [.int _ _, .int _ _, .int _ _, .int _ _, .int _ _, .int _ _, .int _ _, .int _ _, .int _ _, .int _ _, .int _ _, .int _ _, _, _, .int _ _, .int _ _, .int _ _, .int _ _, .int _ _, .int _ _, .int _ _, .int _ _, .int _ _, .int _ _, .int _ _, .int _ _, .int _ _, .int _ _, .int _ _]) (cs := [_, _, _, _, _, _, _, _, _, _, _, _, _, _, _, _, _, _, _, _, _, _, _, _, _, _, _, _, _]) (es' := [[_, _, _, _, _, _, _, _, _, _, _, _, _, _, _, _, _, _, _, _, _, _, _, _, _, _, _, _, _]]) rfl rfl rfl rfl rfl rfl rfl rfl rfl rfl ⟨trivial, trivial⟩ ?_
  refine L_v Tb_ok (v := .int _ _) (av rfl ⟨trivial, trivial⟩) rfl ?_
  refine WL_nil ?_
  refine W_seq ?_
  refine W_region rfl ?_
  refine L_v Tb_ok (v := .ptr _ _ _) (av rfl ⟨trivial, trivial⟩) rfl ?_
  refine L_v Tb_ok (v := .ptr _ _ _) (av rfl ⟨trivial, trivial⟩) rfl ?_
  refine L_v Tb_ok (v := .int _ _) (av rfl ⟨trivial, rfl⟩) rfl ?_
  refine L_v Tb_ok (v := .ptr _ _ _) (av rfl ⟨trivial, trivial⟩) rfl ?_
  refine L_v Tb_ok (v := .ptr _ _ _) (av rfl ⟨trivial, trivial⟩) rfl ?_
  refine L_v Tb_ok (v := .int _ _) (av rfl ⟨trivial, rfl⟩) rfl ?_
  refine L_v Tb_ok (v := .int _ _) (av rfl ⟨trivial, trivial⟩) rfl ?_
  refine L_v Tb_ok (v := .int _ _) (av rfl ⟨trivial, trivial⟩) rfl ?_
  refine L_v Tb_ok (v := .int _ _) (av rfl ⟨trivial, trivial⟩) rfl ?_
  refine L_v Tb_ok (v := .int _ _) (av rfl ⟨trivial, trivial⟩) rfl ?_
  refine WL_nil ?_
  refine W_ret ?_
  refine ends (l := [.int _ _, .int _ _]) (q := .tup [.int _ _, .int _ _]) (.inr rfl) rfl ⟨trivial, trivial, trivial⟩ rfl rfl ?_
  rfl
def mPlain : Model := ⟨⟨1, 1, 2⟩, -128, 127, [⟨1, 0, 0, 1, ⟨0, 0, 0, 0, 0, 0, 0, 0⟩, [3, -2], [1], ⟨1, 0⟩, ⟨0, 0⟩, 0, 0, -128, 127⟩], 1⟩
theorem law10_plain : Ok Try.prog 33 [] (.agg (modelC mPlain)) := by
  refine fn_ok Tb_ok (fn := Try.f33) Try.func33 rfl rfl (e := []) rfl (by decide) rfl ?_
  refine W_seq ?_
  refine W_region rfl ?_
  refine L_alloc Tb_ok (z := [.int .i64 0, .int .i64 0, .int .i64 0, .int .i64 0, .int .i64 0, .nils, .int .i64 0]) (n := 7) rfl rfl rfl rfl rfl ?_
  refine WL_nil ?_
  refine W_seq ?_
  refine W_region rfl ?_
  refine L_v Tb_ok (v := .agg [.int _ _, .int _ _, .int _ _]) (av rfl ⟨trivial, rfl⟩) rfl ?_
  refine L_build Tb_ok (t := 35) (len := 2) (el := 57) (sz := 1) (es := [[_], [_]]) (z := [.int .i16 0]) rfl rfl rfl rfl rfl (by decide) trivial rfl rfl rfl rfl rfl ?_
  refine L_build Tb_ok (t := 36) (len := 1) (el := 21) (sz := 1) (es := [[_]]) (z := [.int .i32 0]) rfl rfl rfl rfl rfl (by decide) trivial rfl rfl rfl rfl rfl ?_
  refine L_v Tb_ok (v := .agg [.int _ _, .int _ _]) (av rfl ⟨trivial, rfl⟩) rfl ?_
  refine L_freeze (t := 2) (l := _) rfl rfl rfl rfl rfl rfl rfl ?_
  refine L_freeze (t := 3) (l := _) rfl rfl rfl rfl rfl rfl rfl ?_
  refine L_v Tb_ok (v := .agg [.int _ _, .int _ _, .int _ _, .int _ _, .int _ _, .int _ _, .int _ _, .int _ _, .int _ _, .int _ _, .int _ _, .int _ _, _, _, .int _ _, .int _ _, .int _ _, .int _ _, .int _ _, .int _ _, .int _ _, .int _ _]) (av rfl ⟨trivial, rfl⟩) rfl ?_
  refine L_build Tb_ok (t := 24) (len := 1) (el := 40) (sz := 22) (es := [[_, _, _, _, _, _, _, _, _, _, _, _, _, _, _, _, _, _, _, _, _, _]]) (z := [.int .i64 0, .int .i64 0, .int .i64 0, .int .i64 0, .int .i64 0, .int .i64 0, .int .i64 0, .int .i64 0, .int .i64 0, .int .i64 0, .int .i64 0, .int .i64 0, .nils, .nils, .int .i64 0, .int .i64 0, .int .i64 0, .int .i64 0, .int .i64 0, .int .i64 0, .int .i64 0, .int .i64 0]) rfl rfl rfl rfl rfl (by decide) trivial rfl rfl rfl rfl rfl ?_
  refine L_freeze (t := 6) (l := _) rfl rfl rfl rfl rfl rfl rfl ?_
  refine L_v Tb_ok (v := .agg [.int _ _, .int _ _, .int _ _, .int _ _, .int _ _, _, .int _ _]) (av rfl ⟨trivial, rfl⟩) rfl ?_
  refine L_store Tb_ok (v := .agg [.int _ _, .int _ _, .int _ _, .int _ _, .int _ _, _, .int _ _]) (cs := [_, _, _, _, _, _, _]) (es' := [[_, _, _, _, _, _, _]]) rfl rfl rfl rfl rfl rfl rfl rfl rfl rfl ⟨trivial, trivial⟩ ?_
  refine WL_nil ?_
  refine W_ret ?_
  refine ends (l := [.agg [.int _ _, .int _ _, .int _ _, .int _ _, .int _ _, _, .int _ _]]) (q := .agg [.int _ _, .int _ _, .int _ _, .int _ _, .int _ _, _, .int _ _]) (.inr rfl) rfl ⟨rfl, trivial⟩ rfl rfl ?_
  rfl
theorem term_eq (x y : Term) : (x.W == y.W && (x.At == y.At && true)) = decide (x = y) := by cases x; cases y; simp [Bool.beq_eq_decide_eq, Bool.decide_and]
theorem law10_same (a b : List Term) (ha : a.length ≤ 4611686018427387904) : Ok Try.prog 15 [.ro (a.map termC), .ro (b.map termC)] (.bool (decide (a = b))) := by
  refine fn_ok Tb_ok (fn := Try.f15) Try.func15 rfl rfl (e := [(0, _), (1, _)]) rfl (by decide) rfl ?_
  refine W_seq ?_
  refine W_region rfl ?_
  refine L_v Tb_ok (v := .bool _) (av rfl ⟨trivial, trivial⟩) rfl ?_
  refine WL_nil ?_
  refine W_seq ?_
  refine W_seq ?_
  refine W_region rfl ?_
  first | (refine L_v Tb_ok (v := .ro _) (av rfl ⟨trivial, trivial⟩) rfl ?_) | (refine L_v Tb_ok (v := .app _ _) (av rfl ⟨trivial, trivial⟩) rfl ?_) | (refine L_v Tb_ok (v := .row _ _ _) (av rfl ⟨trivial, trivial⟩) rfl ?_) | (refine L_v Tb_ok (v := .nils) (av rfl ⟨trivial, trivial⟩) rfl ?_)
  refine L_v Tb_ok (v := .int _ _) (av rfl ⟨trivial, trivial⟩) rfl ?_
  first | (refine L_v Tb_ok (v := .ro _) (av rfl ⟨trivial, trivial⟩) rfl ?_) | (refine L_v Tb_ok (v := .app _ _) (av rfl ⟨trivial, trivial⟩) rfl ?_) | (refine L_v Tb_ok (v := .row _ _ _) (av rfl ⟨trivial, trivial⟩) rfl ?_) | (refine L_v Tb_ok (v := .nils) (av rfl ⟨trivial, trivial⟩) rfl ?_)
  refine L_v Tb_ok (v := .int _ _) (av rfl ⟨trivial, trivial⟩) rfl ?_
  refine L_v Tb_ok (v := .bool _) (av rfl ⟨trivial, trivial⟩) rfl ?_
  refine WL_nil ?_
  refine W_cond (b := _) rfl (fun h10 => ?_) (fun h10 => ?_)
  · refine W_seq ?_
    refine W_region rfl ?_
    refine L_v Tb_ok (v := .bool _) (av rfl ⟨trivial, trivial⟩) rfl ?_
    refine WL_nil ?_
    refine W_ret ?_
    refine ends (l := [.bool _]) (q := .bool _) (.inr rfl) rfl ⟨trivial, trivial⟩ rfl rfl ?_
    have hne : ¬ a = b := fun h => (by rw [h] at h10; simp at h10)
    simp [hne]
  · refine W_skip ?_
    refine W_seq ?_
    refine W_seq ?_
    refine W_region rfl ?_
    first | (refine L_v Tb_ok (v := .ro _) (av rfl ⟨trivial, trivial⟩) rfl ?_) | (refine L_v Tb_ok (v := .app _ _) (av rfl ⟨trivial, trivial⟩) rfl ?_) | (refine L_v Tb_ok (v := .row _ _ _) (av rfl ⟨trivial, trivial⟩) rfl ?_) | (refine L_v Tb_ok (v := .nils) (av rfl ⟨trivial, trivial⟩) rfl ?_)
    refine L_v Tb_ok (v := .int _ _) (av rfl ⟨trivial, trivial⟩) rfl ?_
    refine L_v Tb_ok (v := .int _ _) (av rfl ⟨trivial, trivial⟩) rfl ?_
    refine WL_nil ?_
    refine W_block ?_
    have hl : a.length = b.length := by simp at h10; omega
    refine W_inv (ι := {k : Nat // k ≤ a.length ∧ a.take k = b.take k}) (fun k => ⟨[(0, .ro (a.map termC)), (1, .ro (b.map termC)), (12, .int .i64 ((a.map termC).length : Int)), (13, .int .i64 (k.1 : Int))], [], [], 0⟩) (fun k => a.length - k.1) ⟨0, Nat.zero_le _, rfl⟩ (le_fit ⟨rfl, rfl, rfl, rfl, trivial⟩ trivial trivial rfl rfl rfl rfl rfl) ?_
    rintro ⟨k, hk, he⟩
    refine W_seq ?_
    refine W_region rfl ?_
    refine L_v Tb_ok (v := .bool _) (av rfl ⟨trivial, trivial⟩) rfl ?_
    refine WL_nil ?_
    refine W_seq ?_
    refine W_cond (b := _) rfl (fun h14 => ?_) (fun h14 => ?_)
    · have hlt : k < a.length := by simpa using h14
      have hlt' : k < b.length := by omega
      refine W_skip ?_
      refine W_seq ?_
      refine W_block ?_
      refine W_seq ?_
      refine W_region rfl ?_
      refine L_v Tb_ok (v := .int _ _) (av rfl ⟨trivial, trivial⟩) rfl ?_
      refine L_v Tb_ok (v := .int _ _) (av rfl ⟨trivial, trivial⟩) rfl ?_
      refine WL_nil ?_
      refine W_seq ?_
      refine W_draw 9 Tb_mixed rfl (by decide) (by kernel_rfl) (by kernel_rfl) ?_
      first | (refine E_v Tb_ok (v := .ro _) (av rfl ⟨trivial, trivial⟩) rfl ?_) | (refine E_v Tb_ok (v := .app _ _) (av rfl ⟨trivial, trivial⟩) rfl ?_) | (refine E_v Tb_ok (v := .row _ _ _) (av rfl ⟨trivial, trivial⟩) rfl ?_) | (refine E_v Tb_ok (v := .nils) (av rfl ⟨trivial, trivial⟩) rfl ?_)
      refine E_v Tb_ok (v := .int _ _) (av rfl ⟨trivial, trivial⟩) rfl ?_
      first | (refine E_v Tb_ok (v := _) (ave_index_ro rfl rfl rfl (fun _ => rfl) rfl (by first | omega | assumption | decide | (simp_all; done) | (simp_all; omega)) (by first | omega | assumption | decide | (simp_all; done) | (simp_all; omega)) trivial) rfl ?_) | (refine E_v Tb_ok (v := _) (ave_index_app rfl rfl rfl (fun _ => rfl) rfl (by first | omega | assumption | decide | (simp_all; done) | (simp_all; omega)) (by first | omega | assumption | decide | (simp_all; done) | (simp_all; omega)) trivial) rfl ?_) | (refine E_v Tb_ok (v := _) (ave_index_row rfl rfl rfl rfl rfl rfl (by first | omega | assumption | decide | (simp_all; done) | (simp_all; omega)) (by first | omega | assumption | decide | (simp_all; done) | (simp_all; omega)) trivial) rfl ?_) | (refine E_v Tb_ok (v := .rptr _) (av rfl ⟨trivial, ⟨(by first | omega | assumption | decide | (simp_all; done) | (simp_all; omega)), (by first | omega | assumption | decide | (simp_all; done) | (simp_all; omega))⟩, rfl⟩) rfl ?_) | (refine E_v Tb_ok (v := .ptr _ _ _) (av rfl ⟨trivial, ⟨(by first | omega | assumption | decide | (simp_all; done) | (simp_all; omega)), (by first | omega | assumption | decide | (simp_all; done) | (simp_all; omega))⟩, rfl⟩) rfl ?_)
      refine E_v Tb_ok (v := .agg [.int _ _, .int _ _]) (av rfl ⟨trivial, rfl⟩) rfl ?_
      first | (refine E_v Tb_ok (v := .ro _) (av rfl ⟨trivial, trivial⟩) rfl ?_) | (refine E_v Tb_ok (v := .app _ _) (av rfl ⟨trivial, trivial⟩) rfl ?_) | (refine E_v Tb_ok (v := .row _ _ _) (av rfl ⟨trivial, trivial⟩) rfl ?_) | (refine E_v Tb_ok (v := .nils) (av rfl ⟨trivial, trivial⟩) rfl ?_)
      refine E_v Tb_ok (v := .int _ _) (av rfl ⟨trivial, trivial⟩) rfl ?_
      first | (refine E_v Tb_ok (v := _) (ave_index_ro rfl rfl rfl (fun _ => rfl) rfl (by first | omega | assumption | decide | (simp_all; done) | (simp_all; omega)) (by first | omega | assumption | decide | (simp_all; done) | (simp_all; omega)) trivial) rfl ?_) | (refine E_v Tb_ok (v := _) (ave_index_app rfl rfl rfl (fun _ => rfl) rfl (by first | omega | assumption | decide | (simp_all; done) | (simp_all; omega)) (by first | omega | assumption | decide | (simp_all; done) | (simp_all; omega)) trivial) rfl ?_) | (refine E_v Tb_ok (v := _) (ave_index_row rfl rfl rfl rfl rfl rfl (by first | omega | assumption | decide | (simp_all; done) | (simp_all; omega)) (by first | omega | assumption | decide | (simp_all; done) | (simp_all; omega)) trivial) rfl ?_) | (refine E_v Tb_ok (v := .rptr _) (av rfl ⟨trivial, ⟨(by first | omega | assumption | decide | (simp_all; done) | (simp_all; omega)), (by first | omega | assumption | decide | (simp_all; done) | (simp_all; omega))⟩, rfl⟩) rfl ?_) | (refine E_v Tb_ok (v := .ptr _ _ _) (av rfl ⟨trivial, ⟨(by first | omega | assumption | decide | (simp_all; done) | (simp_all; omega)), (by first | omega | assumption | decide | (simp_all; done) | (simp_all; omega))⟩, rfl⟩) rfl ?_)
      refine E_v Tb_ok (v := .agg [.int _ _, .int _ _]) (av rfl ⟨trivial, rfl⟩) rfl ?_
      refine E_v Tb_ok (v := .bool _) (av rfl ⟨trivial, trivial⟩) rfl ?_
      refine LexE_nil ?_
      refine WL_nil ?_
      refine W_cond (b := _) rfl (fun h24 => ?_) (fun h24 => ?_)
      · refine W_seq ?_
        refine W_region rfl ?_
        refine L_v Tb_ok (v := .bool _) (av rfl ⟨trivial, trivial⟩) rfl ?_
        refine WL_nil ?_
        refine W_ret ?_
        refine ends (l := [.bool _]) (q := .bool _) (.inr rfl) rfl ⟨trivial, trivial⟩ rfl rfl ?_
        have hne : ¬ a = b := by
          rintro rfl
          have h24' : (!decide (a.getD k default = a.getD k default)) = true := by rw [← term_eq]; exact h24
          simp at h24'
        simp [hne]
      · refine W_skip ?_
        refine W_region rfl ?_
        refine L_v Tb_ok (v := .int _ _) (av rfl ⟨trivial, trivial⟩) rfl ?_
        refine L_v Tb_ok (v := .int _ _) (av rfl ⟨trivial, trivial⟩) rfl ?_
        refine WL_nil ?_
        refine round_end ⟨k + 1, hlt, ?_⟩ (by dsimp only; omega) (le_fit ⟨rfl, rfl, rfl, congrArg _ (w_succ hlt ha), trivial⟩ trivial trivial rfl rfl rfl rfl rfl)
        rw [List.take_add_one, List.take_add_one, he]
        have h24' : (!decide (a.getD k default = b.getD k default)) = false := by rw [← term_eq]; exact h24
        simp [List.getD_eq_getElem?_getD, hlt, hlt'] at h24'
        simp [hlt, hlt', h24']
    · refine W_exit ?_
      repeat (first | refine pass_then ?_ | refine pass_once ?_ | refine pass_le ?_ | refine pass_round ?_ | refine pass_for ?_ | refine blockQ_miss rfl ?_)
      refine blockQ_hit ?_
      refine W_seq ?_
      refine W_region rfl ?_
      refine L_v Tb_ok (v := .bool _) (av rfl ⟨trivial, trivial⟩) rfl ?_
      refine WL_nil ?_
      refine W_ret ?_
      refine ends (l := [.bool _]) (q := .bool _) (.inr rfl) rfl ⟨trivial, trivial⟩ rfl rfl ?_
      simp at h14
      have hka : k = a.length := by omega
      have hkb : k = b.length := by omega
      have hab : a = b := by rw [hka, List.take_length, ← hka, hkb, List.take_length] at he; exact he
      simp [hab]
end Go.AM
end
section
open Go Go.AM
set_option linter.unusedVariables false
set_option linter.unusedSimpArgs false
namespace Go.AM
theorem shapeE_zero {s : Shape} : shapeE s = 0 ↔ shapeB s = true := by unfold shapeE; cases shapeB s <;> simp
theorem shapeB_iff {s : Shape} : shapeB s = true ↔ (1 ≤ s.H ∧ s.H ≤ 1024) ∧ (1 ≤ s.W ∧ s.W ≤ 1024) ∧ (1 ≤ s.C ∧ s.C ≤ 1024) ∧ s.H * s.W * s.C ≤ 16384 := by
  have key : (1 ≤ s.H ∧ s.H ≤ 1024) → (1 ≤ s.W ∧ s.W ≤ 1024) → (1 ≤ s.C ∧ s.C ≤ 1024) → elems s = s.H * s.W * s.C := by
    intro h1 h2 h3
    have a1 : 0 ≤ s.H * s.W := Int.mul_nonneg (by omega) (by omega)
    have a2 : s.H * s.W ≤ 1024 * 1024 := Int.mul_le_mul h1.2 h2.2 (by omega) (by omega)
    have b1 : 0 ≤ s.H * s.W * s.C := Int.mul_nonneg a1 (by omega)
    have b2 : s.H * s.W * s.C ≤ 1024 * 1024 * 1024 := Int.mul_le_mul a2 h3.2 (by omega) (by omega)
    unfold elems w64
    rw [w64_id (x := s.H * s.W) (by omega), w64_id (by omega)]
  constructor
  · intro h
    simp only [shapeB, inB, Bool.and_eq_true, decide_eq_true_eq] at h
    obtain ⟨⟨⟨h1, h2⟩, h3⟩, h4⟩ := h
    rw [key h1 h2 h3] at h4
    exact ⟨h1, h2, h3, h4⟩
  · rintro ⟨h1, h2, h3, h4⟩
    simp only [shapeB, inB, Bool.and_eq_true, decide_eq_true_eq]
    rw [key h1 h2 h3]
    exact ⟨⟨⟨h1, h2⟩, h3⟩, h4⟩
theorem windowB_iff {w : Window} (h : windowB w = true) : (1 ≤ w.KH ∧ w.KH ≤ 32) ∧ (1 ≤ w.KW ∧ w.KW ≤ 32) ∧ (1 ≤ w.SH ∧ w.SH ≤ 32) ∧ (1 ≤ w.SW ∧ w.SW ≤ 32) ∧ (0 ≤ w.Top ∧ w.Top < w.KH) ∧ (0 ≤ w.Bottom ∧ w.Bottom < w.KH) ∧ (0 ≤ w.Left ∧ w.Left < w.KW) ∧ (0 ≤ w.Right ∧ w.Right < w.KW) := by
  simp only [windowB, sideB, inB, Bool.and_eq_true, decide_eq_true_eq] at h
  obtain ⟨⟨⟨⟨h1, h2⟩, h3⟩, h4⟩, ⟨⟨h5, h6⟩, h7⟩, h8⟩ := h
  have e1 : w64 (w.KH - 1) = w.KH - 1 := w64_id (by omega)
  have e2 : w64 (w.KW - 1) = w.KW - 1 := w64_id (by omega)
  rw [e1] at h3 h4
  rw [e2] at h7 h8
  omega
theorem shapes_ok {m : Model} (h : (wholeF m).2.2.Err = 0) {i : Nat} (hi : i ≤ m.Ops.length) : shapeB ((wholeF m).1.getD i default) = true := by
  obtain ⟨_, h2, _, h4, h5, h6⟩ := whole_ok h
  cases i with
  | zero => rw [h5]; exact shapeE_zero.1 h2
  | succ i =>
    obtain ⟨e1, e2⟩ := h6 i (by omega)
    rw [e2, opS_ok e1]
    have := (opE_ok e1).2.2.2.2.2.1
    unfold op6 at this
    cases hq : (shapeE (mkS (m.Ops.getD i default) (inA (m.Ops.getD i default) ((wholeF m).1.take (i + 1)))) != 0) with
    | true => rw [hq] at this; simp at this
    | false => exact shapeE_zero.1 (by simpa using hq)
theorem outE_zero {s : Shape} {w : Window} (h : outE s w = 0) : shapeB s = true ∧ windowB w = true ∧ 0 ≤ spanH s w ∧ 0 ≤ spanW s w := by
  unfold outE at h
  split at h
  · split at h
    · split at h
      · omega
      · refine ⟨by assumption, by assumption, by omega, by omega⟩
    · omega
  · omega
/-- of an op that reduces -/
structure SiteOk (S : Site) : Prop where
  kind : 1 ≤ S.Op.Kind ∧ S.Op.Kind ≤ 4
  inB : shapeB S.In = true
  outB : shapeB S.Out = true
  len : 1 ≤ S.Len ∧ S.Len ≤ 512
  len1 : S.Op.Kind = 1 → S.Len = S.In.H * S.In.W * S.In.C
  len2 : S.Op.Kind = 2 → S.Len = S.Op.Win.KH * S.Op.Win.KW * S.In.C
  len3 : S.Op.Kind = 3 ∨ S.Op.Kind = 4 → S.Len = S.Op.Win.KH * S.Op.Win.KW
  win : S.Op.Kind ≠ 1 → windowB S.Op.Win = true ∧ outE S.In S.Op.Win = 0 ∧ S.Out.H = outH S.In S.Op.Win ∧ S.Out.W = outW S.In S.Op.Win
  out1 : S.Op.Kind = 1 → S.Out = ⟨1, 1, S.Op.M⟩
  out2 : S.Op.Kind = 2 → S.Out.C = S.Op.M
  out3 : S.Op.Kind = 3 ∨ S.Op.Kind = 4 → S.Out.C = S.In.C
  wl : S.Op.Kind ≠ 4 → (S.Op.Weights.length : Int) = S.Out.C * S.Len
  bl : S.Op.Kind ≠ 4 → (S.Op.Bias.length : Int) = S.Out.C
  emp : op3 S.Op = false
  rng : op10 S.Op = false
  sc : op9 S.Op = false
theorem ofU_kind {k : Int} (h1 : 1 ≤ k) (h2 : k ≤ 4) : (ofU k).win = !(k == 1) ∧ (ofU k).weights = !(k == 4) ∧ (ofU k).b = false := by
  have : k = 1 ∨ k = 2 ∨ k = 3 ∨ k = 4 := by omega
  rcases this with rfl | rfl | rfl | rfl <;> exact ⟨rfl, rfl, rfl⟩
theorem site_ok {m : Model} {op : Int} (h : findE m op = 0) : SiteOk (findS m op) ∧ (1 ≤ op ∧ op ≤ m.Ops.length) ∧ (findS m op).Op = m.Ops.getD (op - 1).toNat default ∧ (wholeF m).2.2.Err = 0 ∧ findS m op = ⟨opAt m op, aAt m op, (wholeF m).1.getD op.toNat default, lenAt m op⟩ := by
  have h1 : fi1 m = false := by
    cases hq : fi1 m with
    | false => rfl
    | true => simp only [findE, hq, if_true] at h; unfold fi1 at hq; rw [h] at hq; simp at hq
  have h2 : fi2 m op = false := by
    cases hq : fi2 m op with
    | false => rfl
    | true => simp [findE, h1, hq] at h
  have h3 : fi3 m op = false := by
    cases hq : fi3 m op with
    | false => rfl
    | true => simp [findE, h1, h2, hq] at h
  have he : (wholeF m).2.2.Err = 0 := by simpa [fi1] using h1
  obtain ⟨o1, o2, o3, o4, o5, o6⟩ := fi_ok h1 h2
  have hS : findS m op = ⟨opAt m op, aAt m op, (wholeF m).1.getD op.toNat default, lenAt m op⟩ := by simp [findS, h1, h2, h3]
  obtain ⟨w1, w2, w3, w4, w5, w6⟩ := whole_ok he
  have hi : (op - 1).toNat < m.Ops.length := by omega
  obtain ⟨e1, e2⟩ := w6 _ hi
  have ei : (op - 1).toNat + 1 = op.toNat := by omega
  rw [ei] at e1 e2
  rw [opS_ok e1] at e2
  have hA := whole_A he hi
  have eA : inA (m.Ops.getD (op - 1).toNat default) ((wholeF m).1.take op.toNat) = aAt m op := by
    unfold inA aAt opAt
    simp only [List.getD_eq_getElem?_getD] at hA ⊢
    rw [List.getElem?_take, if_pos (by omega)]
  obtain ⟨p1, p2, p3, p4, p5, p6, p7, p8, p9, p10⟩ := opE_ok e1
  rw [eA] at e2 p5
  have hk : 1 ≤ (opAt m op).Kind ∧ (opAt m op).Kind ≤ 4 := by simpa [fi3, inB] using h3
  have sA : shapeB (aAt m op) = true := by
    have := shapes_ok he (i := (opAt m op).A.toNat) (by show (m.Ops.getD (op - 1).toNat default).A.toNat ≤ _; omega)
    exact this
  have sO : shapeB ((wholeF m).1.getD op.toNat default) = true := shapes_ok he (by omega)
  rw [e2] at sO
  obtain ⟨u1, u2, u3⟩ := ofU_kind hk.1 hk.2
  have sB := shapeB_iff.1 sA
  have eo : opAt m op = m.Ops.getD (op - 1).toNat default := rfl
  rw [← eo] at e2 p2 p3 p4 p5 p6 p7 p8 p9 p10 sO eA
  simp only [op7, op8, opR, eA, u2] at p7 p8
  have hwin : (opAt m op).Kind ≠ 1 → windowB (opAt m op).Win = true ∧ outE (aAt m op) (opAt m op).Win = 0 := by
    intro hne
    have : outE (aAt m op) (opAt m op).Win = 0 := by
      unfold mkE at p5; rw [u1] at p5
      have : ((opAt m op).Kind == 1) = false := by simpa using hne
      rw [this] at p5; exact p5
    exact ⟨(outE_zero this).2.1, this⟩
  have el : mkL (opAt m op) (aAt m op) = lenAt m op := by
    unfold mkL lenAt
    rw [if_pos p5]
    have hx : (opAt m op).Kind ≠ 1 → mkX (opAt m op) (aAt m op) = (⟨outH (aAt m op) (opAt m op).Win, outW (aAt m op) (opAt m op).Win, (aAt m op).C⟩, w64 ((opAt m op).Win.KH * (opAt m op).Win.KW)) := by
      intro hne
      unfold mkX; rw [u1]
      have : ((opAt m op).Kind == 1) = false := by simpa using hne
      rw [this]; rfl
    by_cases k1 : (opAt m op).Kind = 1
    · simp [k1]
    · rw [if_neg k1, if_neg k1, hx k1]
      by_cases k2 : (opAt m op).Kind = 2
      · simp [k2]
      · rw [if_neg k2, if_neg k2, if_pos (by omega)]
  have eS : mkS (opAt m op) (aAt m op) = if (opAt m op).Kind = 1 then ⟨1, 1, (opAt m op).M⟩ else if (opAt m op).Kind = 2 then ⟨outH (aAt m op) (opAt m op).Win, outW (aAt m op) (opAt m op).Win, (opAt m op).M⟩ else ⟨outH (aAt m op) (opAt m op).Win, outW (aAt m op) (opAt m op).Win, (aAt m op).C⟩ := by
    unfold mkS
    rw [if_pos p5]
    by_cases k1 : (opAt m op).Kind = 1
    · rw [if_pos k1, if_pos k1]
    · rw [if_neg k1, if_neg k1]
      unfold mkX; rw [u1]
      have : ((opAt m op).Kind == 1) = false := by simpa using k1
      rw [this]; rfl
  have sO' := shapeB_iff.1 sO
  have hlen : lenAt m op = (if (opAt m op).Kind = 1 then (aAt m op).H * (aAt m op).W * (aAt m op).C else if (opAt m op).Kind = 2 then (opAt m op).Win.KH * (opAt m op).Win.KW * (aAt m op).C else (opAt m op).Win.KH * (opAt m op).Win.KW) ∧ 1 ≤ lenAt m op := by
    unfold lenAt
    by_cases k1 : (opAt m op).Kind = 1
    · rw [if_pos k1, if_pos k1]
      have a0 : 1 ≤ (aAt m op).H * (aAt m op).W := by
        have := Int.mul_le_mul sB.1.1 sB.2.1.1 (by omega) (by omega); omega
      have a2 : (aAt m op).H * (aAt m op).W ≤ 1024 * 1024 := Int.mul_le_mul sB.1.2 sB.2.1.2 (by omega) (by omega)
      have b0 : 1 ≤ (aAt m op).H * (aAt m op).W * (aAt m op).C := by
        have := Int.mul_le_mul a0 sB.2.2.1.1 (by omega) (by omega); omega
      have b2 := sB.2.2.2
      unfold w64
      rw [w64_id (x := (aAt m op).H * (aAt m op).W) (by omega), w64_id (by omega)]
      exact ⟨rfl, b0⟩
    · obtain ⟨hw, _⟩ := hwin k1
      have W := windowB_iff hw
      rw [if_neg k1, if_neg k1]
      have a0 : 1 ≤ (opAt m op).Win.KH * (opAt m op).Win.KW := by
        have := Int.mul_le_mul W.1.1 W.2.1.1 (by omega) (by omega); omega
      have a2 : (opAt m op).Win.KH * (opAt m op).Win.KW ≤ 32 * 32 := Int.mul_le_mul W.1.2 W.2.1.2 (by omega) (by omega)
      have ew : w64 ((opAt m op).Win.KH * (opAt m op).Win.KW) = (opAt m op).Win.KH * (opAt m op).Win.KW := w64_id (by omega)
      rw [ew]
      by_cases k2 : (opAt m op).Kind = 2
      · rw [if_pos k2, if_pos k2]
        have b0 : 1 ≤ (opAt m op).Win.KH * (opAt m op).Win.KW * (aAt m op).C := by
          have := Int.mul_le_mul a0 sB.2.2.1.1 (by omega) (by omega); omega
        have b2 : (opAt m op).Win.KH * (opAt m op).Win.KW * (aAt m op).C ≤ 32 * 32 * 1024 := Int.mul_le_mul a2 sB.2.2.1.2 (by omega) (by omega)
        exact ⟨w64_id (by omega), by rw [show w64 _ = _ from w64_id (by omega)]; exact b0⟩
      · rw [if_neg k2, if_neg k2]; exact ⟨rfl, a0⟩
  have hl512 : lenAt m op ≤ 512 := by rw [el] at p7; simpa using p7
  refine ⟨⟨by rw [hS]; exact hk, by rw [hS]; exact sA, by rw [hS]; dsimp only; rw [e2]; exact sO, by rw [hS]; exact ⟨hlen.2, hl512⟩, ?_, ?_, ?_, ?_, ?_, ?_, ?_, ?_, ?_, by rw [hS]; exact p3, by rw [hS]; exact p10, by rw [hS]; exact p9⟩, ⟨o1, o2⟩, by rw [hS]; rfl, he, hS⟩
  · intro k; rw [hS] at k ⊢; dsimp only at k ⊢; rw [hlen.1, if_pos k]
  · intro k; rw [hS] at k ⊢; dsimp only at k ⊢; rw [hlen.1, if_neg (by omega), if_pos k]
  · intro k; rw [hS] at k ⊢; dsimp only at k ⊢; rw [hlen.1, if_neg (by omega), if_neg (by omega)]
  · intro k
    rw [hS] at k ⊢; dsimp only at k ⊢
    refine ⟨(hwin k).1, (hwin k).2, ?_, ?_⟩ <;> rw [e2, eS, if_neg k] <;> split <;> rfl
  · intro k; rw [hS] at k ⊢; dsimp only at k ⊢; rw [e2, eS, if_pos k]
  · intro k; rw [hS] at k ⊢; dsimp only at k ⊢; rw [e2, eS, if_neg (by omega), if_pos k]
  · intro k; rw [hS] at k ⊢; dsimp only at k ⊢; rw [e2, eS, if_neg (by omega), if_neg (by omega)]
  · intro k
    rw [hS] at k ⊢; dsimp only at k ⊢
    have k4 : ((opAt m op).Kind == 4) = false := by simpa using k
    rw [k4, el] at p8
    simp only [Bool.not_false, cond_true, List.length_map] at p8
    have hb : 0 ≤ (mkS (opAt m op) (aAt m op)).C * lenAt m op := Int.mul_nonneg (by omega) (by omega)
    have hb2 : (mkS (opAt m op) (aAt m op)).C * lenAt m op ≤ 1024 * 512 := Int.mul_le_mul sO'.2.2.1.2 hl512 (by omega) (by omega)
    rw [show w64 _ = _ from w64_id (by omega)] at p8
    cases hq : ((opAt m op).Weights.length : Int) != (mkS (opAt m op) (aAt m op)).C * lenAt m op with
    | true => rw [hq] at p8; simp at p8
    | false => rw [e2]; simpa using hq
  · intro k
    rw [hS] at k ⊢; dsimp only at k ⊢
    have k4 : ((opAt m op).Kind == 4) = false := by simpa using k
    rw [k4, el] at p8
    simp only [Bool.not_false, cond_true, List.length_map] at p8
    cases hq : ((opAt m op).Weights.length : Int) != w64 ((mkS (opAt m op) (aAt m op)).C * lenAt m op) with
    | true => rw [hq] at p8; simp at p8
    | false => rw [hq] at p8; rw [e2]; simpa using p8
end Go.AM
end
section
open Go Go.AM Go.Proofs
set_option maxRecDepth 10000
set_option linter.unusedVariables false
set_option linter.unusedSimpArgs false
namespace Go.AM
/-- no taps -/
def tapsBad (s : Shape) (w : Window) (at_ : Int) : Bool := bif bif outE s w != 0 then true else decide (at_ < 0) then true else decide (at_ ≥ w64 (outH s w * outW s w))
def tapsTop (s : Shape) (w : Window) (at_ : Int) : Int := w64 (w64 (w64 (at_.tdiv (outW s w)) * w.SH) - w.Top)
def tapsLeft (s : Shape) (w : Window) (at_ : Int) : Int := w64 (w64 (at_.tmod (outW s w) * w.SW) - w.Left)
theorem taps_ne {s : Shape} {w : Window} {at_ : Int} (h : tapsBad s w at_ = false) : outW s w ≠ 0 := by
  intro h0
  simp only [tapsBad, h0, w64, Int.mul_zero] at h
  simp [IntKind.wrap_i64] at h
  omega
theorem window_Taps_no (s : Shape) (w : Window) (at_ : Int) (hc31 : tapsBad s w at_ = true) : Ok Try.prog 40 [.agg (shapeC s), .agg (windowC w), .int .i64 at_] (.fn 55 [] []) := by
  refine fn_ok Tb_ok (fn := Try.f40) Try.func40 rfl rfl (e := [(0, _), (1, _), (2, _)]) rfl (by decide) rfl ?_
  refine W_seq ?_
  refine W_region rfl ?_
  refine L_box Tb_ok (cs := [.int _ _, .int _ _, .int _ _]) (n := 3) rfl rfl rfl rfl trivial ?_
  refine L_box Tb_ok (cs := [.int _ _, .int _ _, .int _ _, .int _ _, .int _ _, .int _ _, .int _ _, .int _ _]) (n := 8) rfl rfl rfl rfl trivial ?_
  refine L_v Tb_ok (v := .nilf) (av rfl ⟨trivial, trivial⟩) rfl ?_
  refine WL_nil ?_
  refine W_seq ?_
  refine W_region rfl ?_
  refine L_v Tb_ok (v := .agg [.int _ _, .int _ _, .int _ _]) (av rfl ⟨trivial, rfl⟩) rfl ?_
  refine L_v Tb_ok (v := .agg [.int _ _, .int _ _, .int _ _, .int _ _, .int _ _, .int _ _, .int _ _, .int _ _]) (av rfl ⟨trivial, rfl⟩) rfl ?_
  refine L_call (hr := window_Out s w) rfl rfl trivial rfl rfl ?_
  refine L_v Tb_ok (v := .tup [_, _, _]) (av rfl ⟨trivial, trivial⟩) rfl ?_
  refine L_v Tb_ok (v := .int _ _) (av rfl ⟨trivial, trivial⟩) rfl ?_
  refine L_v Tb_ok (v := .int _ _) (av rfl ⟨trivial, trivial⟩) rfl ?_
  refine L_v Tb_ok (v := .int _ _) (av rfl ⟨trivial, trivial⟩) rfl ?_
  refine L_v Tb_ok (v := .int _ _) (av rfl ⟨trivial, trivial⟩) rfl ?_
  refine L_v Tb_ok (v := .int _ _) (av rfl ⟨trivial, trivial⟩) rfl ?_
  refine L_v Tb_ok (v := .int _ _) (av rfl ⟨trivial, trivial⟩) rfl ?_
  refine WL_nil ?_
  refine W_seq ?_
  refine W_seq ?_
  refine W_region rfl ?_
  refine L_v Tb_ok (v := .int _ _) (av rfl ⟨trivial, trivial⟩) rfl ?_
  refine L_v Tb_ok (v := .bool _) (av rfl ⟨trivial, trivial⟩) rfl ?_
  refine L_v Tb_ok (v := .bool _) (av rfl ⟨trivial, trivial⟩) rfl ?_
  refine L_g Tb_ok (v := .int _ _) rfl rfl ((fun hg => (av rfl ⟨trivial, trivial⟩))) rfl rfl ?_
  refine L_g Tb_ok (v := .bool _) rfl rfl ((fun hg => (av rfl ⟨⟨⟨(by first | exact hg | (simp_all; done) | (simp at hg ⊢; simp [hg])), True.intro⟩, True.intro⟩, trivial⟩))) rfl rfl ?_
  refine L_v Tb_ok (v := .bool _) (av rfl (by refine ⟨?_, fun h => ?_, fun h => ?_⟩ <;> first | exact True.intro | exact ⟨h, True.intro⟩ | (refine ⟨?_, True.intro⟩; first | (rw [h]; done) | (rw [h]; rfl) | (simp [h]; done) | (simp at h hg ⊢; simp [h, hg]; done) | (simp_all; done) | (simp_all; omega)))) rfl ?_
  refine L_v Tb_ok (v := .bool _) (av rfl ⟨trivial, trivial⟩) rfl ?_
  refine L_g Tb_ok (v := .int _ _) rfl rfl ((fun hg => (av rfl ⟨trivial, trivial⟩))) rfl rfl ?_
  refine L_g Tb_ok (v := .int _ _) rfl rfl ((fun hg => (av rfl ⟨trivial, trivial⟩))) rfl rfl ?_
  refine L_g Tb_ok (v := .int _ _) rfl rfl ((fun hg => (av rfl ⟨trivial, trivial⟩))) rfl rfl ?_
  refine L_g Tb_ok (v := .int _ _) rfl rfl ((fun hg => (av rfl ⟨⟨⟨(by first | exact hg | (simp_all; done) | (simp at hg ⊢; simp [hg])), True.intro⟩, ⟨⟨(by first | exact hg | (simp_all; done) | (simp at hg ⊢; simp [hg])), True.intro⟩, True.intro⟩⟩, trivial⟩))) rfl rfl ?_
  refine L_g Tb_ok (v := .bool _) rfl rfl ((fun hg => (av rfl ⟨⟨⟨(by first | exact hg | (simp_all; done) | (simp at hg ⊢; simp [hg])), True.intro⟩, ⟨⟨(by first | exact hg | (simp_all; done) | (simp at hg ⊢; simp [hg])), True.intro⟩, True.intro⟩⟩, trivial⟩))) rfl rfl ?_
  refine L_v Tb_ok (v := .bool _) (av rfl (by refine ⟨?_, fun h => ?_, fun h => ?_⟩ <;> first | exact True.intro | exact ⟨h, True.intro⟩ | (refine ⟨?_, True.intro⟩; first | (rw [h]; done) | (rw [h]; rfl) | (simp [h]; done) | (simp at h hg ⊢; simp [h, hg]; done) | (simp_all; done) | (simp_all; omega)))) rfl ?_
  refine WL_nil ?_
  refine W_cond_t (b := _) rfl (by first | exact hc31 | rfl | decide | simp_all) ?_
  refine W_seq ?_
  refine W_region rfl ?_
  refine L_v Tb_ok (v := .fn _ [] []) (av rfl ⟨trivial, trivial⟩) rfl ?_
  refine WL_nil ?_
  refine W_ret ?_
  refine ends (l := [.fn _ [] []]) (q := .fn _ [] []) (.inr rfl) rfl ⟨trivial, trivial⟩ rfl rfl ?_
  rfl
theorem window_Taps_yes (s : Shape) (w : Window) (at_ : Int) (hc31 : tapsBad s w at_ = false) : Ok Try.prog 40 [.agg (shapeC s), .agg (windowC w), .int .i64 at_] (.fn 56 [] [.rptr (windowC w), .rptr [.int .i64 (tapsTop s w at_)], .rptr [.int .i64 (tapsLeft s w at_)], .rptr (shapeC s)]) := by
  refine fn_ok Tb_ok (fn := Try.f40) Try.func40 rfl rfl (e := [(0, _), (1, _), (2, _)]) rfl (by decide) rfl ?_
  refine W_seq ?_
  refine W_region rfl ?_
  refine L_box Tb_ok (cs := [.int _ _, .int _ _, .int _ _]) (n := 3) rfl rfl rfl rfl trivial ?_
  refine L_box Tb_ok (cs := [.int _ _, .int _ _, .int _ _, .int _ _, .int _ _, .int _ _, .int _ _, .int _ _]) (n := 8) rfl rfl rfl rfl trivial ?_
  refine L_v Tb_ok (v := .nilf) (av rfl ⟨trivial, trivial⟩) rfl ?_
  refine WL_nil ?_
  refine W_seq ?_
  refine W_region rfl ?_
  refine L_v Tb_ok (v := .agg [.int _ _, .int _ _, .int _ _]) (av rfl ⟨trivial, rfl⟩) rfl ?_
  refine L_v Tb_ok (v := .agg [.int _ _, .int _ _, .int _ _, .int _ _, .int _ _, .int _ _, .int _ _, .int _ _]) (av rfl ⟨trivial, rfl⟩) rfl ?_
  refine L_call (hr := window_Out s w) rfl rfl trivial rfl rfl ?_
  refine L_v Tb_ok (v := .tup [_, _, _]) (av rfl ⟨trivial, trivial⟩) rfl ?_
  refine L_v Tb_ok (v := .int _ _) (av rfl ⟨trivial, trivial⟩) rfl ?_
  refine L_v Tb_ok (v := .int _ _) (av rfl ⟨trivial, trivial⟩) rfl ?_
  refine L_v Tb_ok (v := .int _ _) (av rfl ⟨trivial, trivial⟩) rfl ?_
  refine L_v Tb_ok (v := .int _ _) (av rfl ⟨trivial, trivial⟩) rfl ?_
  refine L_v Tb_ok (v := .int _ _) (av rfl ⟨trivial, trivial⟩) rfl ?_
  refine L_v Tb_ok (v := .int _ _) (av rfl ⟨trivial, trivial⟩) rfl ?_
  refine WL_nil ?_
  refine W_seq ?_
  refine W_seq ?_
  refine W_region rfl ?_
  refine L_v Tb_ok (v := .int _ _) (av rfl ⟨trivial, trivial⟩) rfl ?_
  refine L_v Tb_ok (v := .bool _) (av rfl ⟨trivial, trivial⟩) rfl ?_
  refine L_v Tb_ok (v := .bool _) (av rfl ⟨trivial, trivial⟩) rfl ?_
  refine L_g Tb_ok (v := .int _ _) rfl rfl ((fun hg => (av rfl ⟨trivial, trivial⟩))) rfl rfl ?_
  refine L_g Tb_ok (v := .bool _) rfl rfl ((fun hg => (av rfl ⟨⟨⟨(by first | exact hg | (simp_all; done) | (simp at hg ⊢; simp [hg])), True.intro⟩, True.intro⟩, trivial⟩))) rfl rfl ?_
  refine L_v Tb_ok (v := .bool _) (av rfl (by refine ⟨?_, fun h => ?_, fun h => ?_⟩ <;> first | exact True.intro | exact ⟨h, True.intro⟩ | (refine ⟨?_, True.intro⟩; first | (rw [h]; done) | (rw [h]; rfl) | (simp [h]; done) | (simp at h hg ⊢; simp [h, hg]; done) | (simp_all; done) | (simp_all; omega)))) rfl ?_
  refine L_v Tb_ok (v := .bool _) (av rfl ⟨trivial, trivial⟩) rfl ?_
  refine L_g Tb_ok (v := .int _ _) rfl rfl ((fun hg => (av rfl ⟨trivial, trivial⟩))) rfl rfl ?_
  refine L_g Tb_ok (v := .int _ _) rfl rfl ((fun hg => (av rfl ⟨trivial, trivial⟩))) rfl rfl ?_
  refine L_g Tb_ok (v := .int _ _) rfl rfl ((fun hg => (av rfl ⟨trivial, trivial⟩))) rfl rfl ?_
  refine L_g Tb_ok (v := .int _ _) rfl rfl ((fun hg => (av rfl ⟨⟨⟨(by first | exact hg | (simp_all; done) | (simp at hg ⊢; simp [hg])), True.intro⟩, ⟨⟨(by first | exact hg | (simp_all; done) | (simp at hg ⊢; simp [hg])), True.intro⟩, True.intro⟩⟩, trivial⟩))) rfl rfl ?_
  refine L_g Tb_ok (v := .bool _) rfl rfl ((fun hg => (av rfl ⟨⟨⟨(by first | exact hg | (simp_all; done) | (simp at hg ⊢; simp [hg])), True.intro⟩, ⟨⟨(by first | exact hg | (simp_all; done) | (simp at hg ⊢; simp [hg])), True.intro⟩, True.intro⟩⟩, trivial⟩))) rfl rfl ?_
  refine L_v Tb_ok (v := .bool _) (av rfl (by refine ⟨?_, fun h => ?_, fun h => ?_⟩ <;> first | exact True.intro | exact ⟨h, True.intro⟩ | (refine ⟨?_, True.intro⟩; first | (rw [h]; done) | (rw [h]; rfl) | (simp [h]; done) | (simp at h hg ⊢; simp [h, hg]; done) | (simp_all; done) | (simp_all; omega)))) rfl ?_
  refine WL_nil ?_
  refine W_cond_f (b := _) rfl (by first | exact hc31 | rfl | decide | simp_all) ?_
  refine W_skip ?_
  refine W_seq ?_
  refine W_drawF (fun e => []) 18 [[18, 19, 20, 21], [19, 18, 20, 21]] Tb_mixed rfl (by decide) (by kernel_rfl) ?_
  refine S_v Tb_ok (v := .int _ _) (av rfl ⟨trivial, trivial⟩) rfl ?_
  refine S_v Tb_ok (v := .int _ _) (av rfl ⟨trivial, trivial⟩) rfl ?_
  refine S_v Tb_ok (v := .int _ _) (av rfl ⟨trivial, (by exact taps_ne hc31)⟩) rfl ?_
  refine S_v Tb_ok (v := .ptr _ _ _) (av rfl ⟨trivial, trivial⟩) rfl ?_
  refine S_v Tb_ok (v := .int _ _) (av rfl ⟨trivial, rfl⟩) rfl ?_
  refine S_v Tb_ok (v := .int _ _) (av rfl ⟨trivial, trivial⟩) rfl ?_
  refine S_v Tb_ok (v := .ptr _ _ _) (av rfl ⟨trivial, trivial⟩) rfl ?_
  refine S_v Tb_ok (v := .int _ _) (av rfl ⟨trivial, rfl⟩) rfl ?_
  refine S_v Tb_ok (v := .int _ _) (av rfl ⟨trivial, trivial⟩) rfl ?_
  refine S_v Tb_ok (v := .int _ _) (av rfl ⟨trivial, trivial⟩) rfl ?_
  refine S_v Tb_ok (v := .int _ _) (av rfl ⟨trivial, trivial⟩) rfl ?_
  refine S_v Tb_ok (v := .int _ _) (av rfl ⟨trivial, (by exact taps_ne hc31)⟩) rfl ?_
  refine S_v Tb_ok (v := .ptr _ _ _) (av rfl ⟨trivial, trivial⟩) rfl ?_
  refine S_v Tb_ok (v := .int _ _) (av rfl ⟨trivial, rfl⟩) rfl ?_
  refine S_v Tb_ok (v := .int _ _) (av rfl ⟨trivial, trivial⟩) rfl ?_
  refine S_v Tb_ok (v := .ptr _ _ _) (av rfl ⟨trivial, trivial⟩) rfl ?_
  refine S_v Tb_ok (v := .int _ _) (av rfl ⟨trivial, rfl⟩) rfl ?_
  refine S_v Tb_ok (v := .int _ _) (av rfl ⟨trivial, trivial⟩) rfl ?_
  refine S_nil ?_
  refine TT_two ?_ ?_
  · refine TT_alloc Tb_ok (OSub_forget _ _) rfl (z := [.int .i64 0]) (n := 1) rfl rfl rfl rfl rfl rfl (fun ht1 => ?_)
    refine TT_alloc Tb_ok ht1 rfl (z := [.int .i64 0]) (n := 1) rfl rfl rfl rfl rfl rfl (fun ht2 => ?_)
    refine TT_store Tb_ok ht2 rfl (v := .int _ _) (cs := [_]) (es' := [[_]]) rfl rfl rfl rfl rfl rfl rfl rfl rfl rfl rfl ⟨trivial, trivial⟩ (fun ht3 => ?_)
    refine TT_store Tb_ok ht3 rfl (v := .int _ _) (cs := [_]) (es' := [[_]]) rfl rfl rfl rfl rfl rfl rfl rfl rfl rfl rfl ⟨trivial, trivial⟩ (fun ht4 => ?_)
    refine TT_nil ?_
    clear ht1 ht2 ht3 ht4
    refine W_seq ?_
    refine W_region rfl ?_
    refine L_freezeP (t := 4) (c' := _) rfl rfl rfl rfl ?_
    refine L_freezeP (t := 10) (c' := _) rfl rfl rfl rfl ?_
    refine L_freezeP (t := 11) (c' := _) rfl rfl rfl rfl ?_
    refine L_freezeP (t := 3) (c' := _) rfl rfl rfl rfl ?_
    first | (refine L_v Tb_ok (v := .fn _ _ _) (av rfl ⟨trivial, trivial⟩) rfl ?_) | (refine L_v Tb_ok (v := .nilf) (av rfl ⟨trivial, trivial⟩) rfl ?_) | (refine L_v Tb_ok (v := .yl _) (av rfl ⟨trivial, trivial⟩) rfl ?_)
    first | (refine L_v Tb_ok (v := .fn _ _ _) (av rfl ⟨trivial, trivial⟩) rfl ?_) | (refine L_v Tb_ok (v := .nilf) (av rfl ⟨trivial, trivial⟩) rfl ?_) | (refine L_v Tb_ok (v := .yl _) (av rfl ⟨trivial, trivial⟩) rfl ?_)
    refine WL_nil ?_
    refine W_ret ?_
    refine ends (l := [.fn _ [] [_, _, _, _]]) (q := .fn _ [] [_, _, _, _]) (.inr rfl) rfl ⟨trivial, trivial⟩ rfl rfl ?_
    rfl
  · refine TT_alloc Tb_ok (OSub_forget _ _) rfl (z := [.int .i64 0]) (n := 1) rfl rfl rfl rfl rfl rfl (fun ht5 => ?_)
    refine TT_alloc Tb_ok ht5 rfl (z := [.int .i64 0]) (n := 1) rfl rfl rfl rfl rfl rfl (fun ht6 => ?_)
    refine TT_store Tb_ok ht6 rfl (v := .int _ _) (cs := [_]) (es' := [[_]]) rfl rfl rfl rfl rfl rfl rfl rfl rfl rfl rfl ⟨trivial, trivial⟩ (fun ht7 => ?_)
    refine TT_store Tb_ok ht7 rfl (v := .int _ _) (cs := [_]) (es' := [[_]]) rfl rfl rfl rfl rfl rfl rfl rfl rfl rfl rfl ⟨trivial, trivial⟩ (fun ht8 => ?_)
    refine TT_nil ?_
    clear ht5 ht6 ht7 ht8
    refine W_seq ?_
    refine W_region rfl ?_
    refine L_freezeP (t := 4) (c' := _) rfl rfl rfl rfl ?_
    refine L_freezeP (t := 10) (c' := _) rfl rfl rfl rfl ?_
    refine L_freezeP (t := 11) (c' := _) rfl rfl rfl rfl ?_
    refine L_freezeP (t := 3) (c' := _) rfl rfl rfl rfl ?_
    first | (refine L_v Tb_ok (v := .fn _ _ _) (av rfl ⟨trivial, trivial⟩) rfl ?_) | (refine L_v Tb_ok (v := .nilf) (av rfl ⟨trivial, trivial⟩) rfl ?_) | (refine L_v Tb_ok (v := .yl _) (av rfl ⟨trivial, trivial⟩) rfl ?_)
    first | (refine L_v Tb_ok (v := .fn _ _ _) (av rfl ⟨trivial, trivial⟩) rfl ?_) | (refine L_v Tb_ok (v := .nilf) (av rfl ⟨trivial, trivial⟩) rfl ?_) | (refine L_v Tb_ok (v := .yl _) (av rfl ⟨trivial, trivial⟩) rfl ?_)
    refine WL_nil ?_
    refine W_ret ?_
    refine ends (l := [.fn _ [] [_, _, _, _]]) (q := .fn _ [] [_, _, _, _]) (.inr rfl) rfl ⟨trivial, trivial⟩ rfl rfl ?_
    rfl
end Go.AM
end
section
open Go Go.AM Go.Proofs
set_option maxRecDepth 10000
set_option linter.unusedVariables false
set_option linter.unusedSimpArgs false
namespace Go.AM
/-- the place doesn't lie in the site -/
def ofBad (S : Site) (ch at_ : Int) : Bool := bif bif bif decide (ch < 1) then true else decide (ch > S.Out.C) then true else decide (at_ < 0) then true else decide (at_ ≥ w64 (S.Out.H * S.Out.W))
theorem terms_Of_bad (m : Model) (op ch at_ : Int) (h : (findE m op != 0) = true ∨ ((findE m op != 0) = false ∧ ofBad (findS m op) ch at_ = true)) :
    Ok Try.prog 11 [.agg (modelC m), .int .i64 op, .int .i64 ch, .int .i64 at_] (.tup [.ro [], .int .i64 0, .int .i64 (if findE m op = 0 then 3 else findE m op)]) := by
  rcases h with hc26 | ⟨hc26, hc51⟩
  · --@@1
    skip
    refine fn_ok Tb_ok (fn := Try.f11) Try.func11 rfl rfl (e := [(0, _), (1, _), (2, _), (3, _)]) rfl (by decide) rfl ?_
    refine W_seq ?_
    refine W_region rfl ?_
    refine L_box Tb_ok (cs := [.int _ _, .int _ _, .int _ _, .int _ _, .int _ _, _, .int _ _]) (n := 7) rfl rfl rfl rfl trivial ?_
    refine L_v Tb_ok (v := .nils) (av rfl ⟨trivial, trivial⟩) rfl ?_
    refine L_v Tb_ok (v := .int _ _) (av rfl ⟨trivial, trivial⟩) rfl ?_
    refine L_v Tb_ok (v := .int _ _) (av rfl ⟨trivial, trivial⟩) rfl ?_
    refine WL_nil ?_
    refine W_seq ?_
    refine W_region rfl ?_
    refine L_v Tb_ok (v := .agg [.int _ _, .int _ _, .int _ _, .int _ _, .int _ _, _, .int _ _]) (av rfl ⟨trivial, rfl⟩) rfl ?_
    refine L_v Tb_ok (v := .int _ _) (av rfl ⟨trivial, trivial⟩) rfl ?_
    refine L_call (hr := terms_find m op) rfl rfl trivial rfl rfl ?_
    refine L_v Tb_ok (v := .tup [_, _]) (av rfl ⟨trivial, trivial⟩) rfl ?_
    refine L_v Tb_ok (v := .agg [.int _ _, .int _ _, .int _ _, .int _ _, .int _ _, .int _ _, .int _ _, .int _ _, .int _ _, .int _ _, .int _ _, .int _ _, _, _, .int _ _, .int _ _, .int _ _, .int _ _, .int _ _, .int _ _, .int _ _, .int _ _, .int _ _, .int _ _, .int _ _, .int _ _, .int _ _, .int _ _, .int _ _]) (av rfl ⟨trivial, trivial⟩) rfl ?_
    refine L_v Tb_ok (v := .int _ _) (av rfl ⟨trivial, trivial⟩) rfl ?_
    refine L_alloc Tb_ok (z := [.int .i64 0, .int .i64 0, .int .i64 0, .int .i64 0, .int .i64 0, .int .i64 0, .int .i64 0, .int .i64 0, .int .i64 0, .int .i64 0, .int .i64 0, .int .i64 0, .nils, .nils, .int .i64 0, .int .i64 0, .int .i64 0, .int .i64 0, .int .i64 0, .int .i64 0, .int .i64 0, .int .i64 0, .int .i64 0, .int .i64 0, .int .i64 0, .int .i64 0, .int .i64 0, .int .i64 0, .int .i64 0]) (n := 29) rfl rfl rfl rfl rfl ?_
    refine L_store Tb_ok (v := .agg [.int _ _, .int _ _, .int _ _, .int _ _, .int _ _, .int _ _, .int _ _, .int _ _, .int _ _, .int _ _, .int _ _, .int _ _, _, _, .int _ _, .int _ _, .int _ _, .int _ _, .int _ _, .int _ _, .int _ _, .int _ _, .int _ _, .int _ _, .int _ _, .int _ _, .int _ _, .int _ _, .int _ _]) (cs := [_, _, _, _, _, _, _, _, _, _, _, _, _, _, _, _, _, _, _, _, _, _, _, _, _, _, _, _, _]) (es' := [[_, _, _, _, _, _, _, _, _, _, _, _, _, _, _, _, _, _, _, _, _, _, _, _, _, _, _, _, _]]) rfl rfl rfl rfl rfl rfl rfl rfl rfl rfl ⟨trivial, trivial⟩ ?_
    refine L_v Tb_ok (v := .int _ _) (av rfl ⟨trivial, trivial⟩) rfl ?_
    refine WL_nil ?_
    refine W_seq ?_
    refine W_seq ?_
    refine W_region rfl ?_
    refine L_v Tb_ok (v := .int _ _) (av rfl ⟨trivial, trivial⟩) rfl ?_
    refine L_v Tb_ok (v := .bool _) (av rfl ⟨trivial, trivial⟩) rfl ?_
    refine WL_nil ?_
    refine W_cond_t (b := _) rfl (by first | exact hc26 | rfl | decide | simp_all) ?_
    refine W_seq ?_
    refine W_region rfl ?_
    refine L_v Tb_ok (v := .int _ _) (av rfl ⟨trivial, trivial⟩) rfl ?_
    refine L_v Tb_ok (v := .nils) (av rfl ⟨trivial, trivial⟩) rfl ?_
    refine L_v Tb_ok (v := .int _ _) (av rfl ⟨trivial, trivial⟩) rfl ?_
    refine L_v Tb_ok (v := .int _ _) (av rfl ⟨trivial, trivial⟩) rfl ?_
    refine WL_nil ?_
    refine W_ret ?_
    first | (refine ends (l := [.app _ _, .int _ _, .int _ _]) (q := .tup [.ro _, .int _ _, .int _ _]) (.inr rfl) rfl ⟨trivial, trivial, trivial, trivial⟩ rfl rfl ?_) | (refine ends (l := [.nils, .int _ _, .int _ _]) (q := .tup [.ro _, .int _ _, .int _ _]) (.inr rfl) rfl ⟨trivial, trivial, trivial, trivial⟩ rfl rfl ?_) | (refine ends (l := [.ro _, .int _ _, .int _ _]) (q := .tup [.ro _, .int _ _, .int _ _]) (.inr rfl) rfl ⟨trivial, trivial, trivial, trivial⟩ rfl rfl ?_)
    (have h0 : findE m op ≠ 0 := by simpa using hc26); simp [h0]
  · --@@2
    skip
    refine fn_ok Tb_ok (fn := Try.f11) Try.func11 rfl rfl (e := [(0, _), (1, _), (2, _), (3, _)]) rfl (by decide) rfl ?_
    refine W_seq ?_
    refine W_region rfl ?_
    refine L_box Tb_ok (cs := [.int _ _, .int _ _, .int _ _, .int _ _, .int _ _, _, .int _ _]) (n := 7) rfl rfl rfl rfl trivial ?_
    refine L_v Tb_ok (v := .nils) (av rfl ⟨trivial, trivial⟩) rfl ?_
    refine L_v Tb_ok (v := .int _ _) (av rfl ⟨trivial, trivial⟩) rfl ?_
    refine L_v Tb_ok (v := .int _ _) (av rfl ⟨trivial, trivial⟩) rfl ?_
    refine WL_nil ?_
    refine W_seq ?_
    refine W_region rfl ?_
    refine L_v Tb_ok (v := .agg [.int _ _, .int _ _, .int _ _, .int _ _, .int _ _, _, .int _ _]) (av rfl ⟨trivial, rfl⟩) rfl ?_
    refine L_v Tb_ok (v := .int _ _) (av rfl ⟨trivial, trivial⟩) rfl ?_
    refine L_call (hr := terms_find m op) rfl rfl trivial rfl rfl ?_
    refine L_v Tb_ok (v := .tup [_, _]) (av rfl ⟨trivial, trivial⟩) rfl ?_
    refine L_v Tb_ok (v := .agg [.int _ _, .int _ _, .int _ _, .int _ _, .int _ _, .int _ _, .int _ _, .int _ _, .int _ _, .int _ _, .int _ _, .int _ _, _, _, .int _ _, .int _ _, .int _ _, .int _ _, .int _ _, .int _ _, .int _ _, .int _ _, .int _ _, .int _ _, .int _ _, .int _ _, .int _ _, .int _ _, .int _ _]) (av rfl ⟨trivial, trivial⟩) rfl ?_
    refine L_v Tb_ok (v := .int _ _) (av rfl ⟨trivial, trivial⟩) rfl ?_
    refine L_alloc Tb_ok (z := [.int .i64 0, .int .i64 0, .int .i64 0, .int .i64 0, .int .i64 0, .int .i64 0, .int .i64 0, .int .i64 0, .int .i64 0, .int .i64 0, .int .i64 0, .int .i64 0, .nils, .nils, .int .i64 0, .int .i64 0, .int .i64 0, .int .i64 0, .int .i64 0, .int .i64 0, .int .i64 0, .int .i64 0, .int .i64 0, .int .i64 0, .int .i64 0, .int .i64 0, .int .i64 0, .int .i64 0, .int .i64 0]) (n := 29) rfl rfl rfl rfl rfl ?_
    refine L_store Tb_ok (v := .agg [.int _ _, .int _ _, .int _ _, .int _ _, .int _ _, .int _ _, .int _ _, .int _ _, .int _ _, .int _ _, .int _ _, .int _ _, _, _, .int _ _, .int _ _, .int _ _, .int _ _, .int _ _, .int _ _, .int _ _, .int _ _, .int _ _, .int _ _, .int _ _, .int _ _, .int _ _, .int _ _, .int _ _]) (cs := [_, _, _, _, _, _, _, _, _, _, _, _, _, _, _, _, _, _, _, _, _, _, _, _, _, _, _, _, _]) (es' := [[_, _, _, _, _, _, _, _, _, _, _, _, _, _, _, _, _, _, _, _, _, _, _, _, _, _, _, _, _]]) rfl rfl rfl rfl rfl rfl rfl rfl rfl rfl ⟨trivial, trivial⟩ ?_
    refine L_v Tb_ok (v := .int _ _) (av rfl ⟨trivial, trivial⟩) rfl ?_
    refine WL_nil ?_
    refine W_seq ?_
    refine W_seq ?_
    refine W_region rfl ?_
    refine L_v Tb_ok (v := .int _ _) (av rfl ⟨trivial, trivial⟩) rfl ?_
    refine L_v Tb_ok (v := .bool _) (av rfl ⟨trivial, trivial⟩) rfl ?_
    refine WL_nil ?_
    refine W_cond_f (b := _) rfl (by first | exact hc26 | rfl | decide | simp_all) ?_
    refine W_skip ?_
    refine W_seq ?_
    refine W_seq ?_
    refine W_region rfl ?_
    refine L_v Tb_ok (v := .int _ _) (av rfl ⟨trivial, trivial⟩) rfl ?_
    refine L_v Tb_ok (v := .bool _) (av rfl ⟨trivial, trivial⟩) rfl ?_
    refine L_v Tb_ok (v := .bool _) (av rfl ⟨trivial, trivial⟩) rfl ?_
    refine L_g Tb_ok (v := .int _ _) rfl rfl ((fun hg => (av rfl ⟨trivial, trivial⟩))) rfl rfl ?_
    refine L_g Tb_ok (v := .ptr _ _ _) rfl rfl ((fun hg => (av rfl ⟨trivial, trivial⟩))) rfl rfl ?_
    refine L_g Tb_ok (v := .ptr _ _ _) rfl rfl ((fun hg => (av rfl ⟨⟨⟨(by first | exact hg | (simp_all; done) | (simp at hg ⊢; simp [hg])), True.intro⟩, True.intro⟩, trivial⟩))) rfl rfl ?_
    refine L_g Tb_ok (v := .int _ _) rfl rfl ((fun hg => (av rfl ⟨⟨⟨(by first | exact hg | (simp_all; done) | (simp at hg ⊢; simp [hg])), True.intro⟩, True.intro⟩, rfl⟩))) rfl rfl ?_
    refine L_g Tb_ok (v := .bool _) rfl rfl ((fun hg => (av rfl ⟨⟨⟨(by first | exact hg | (simp_all; done) | (simp at hg ⊢; simp [hg])), True.intro⟩, ⟨⟨(by first | exact hg | (simp_all; done) | (simp at hg ⊢; simp [hg])), True.intro⟩, True.intro⟩⟩, trivial⟩))) rfl rfl ?_
    refine L_v Tb_ok (v := .bool _) (av rfl (by refine ⟨?_, fun h => ?_, fun h => ?_⟩ <;> first | exact True.intro | exact ⟨h, True.intro⟩ | (refine ⟨?_, True.intro⟩; first | (rw [h]; done) | (rw [h]; rfl) | (simp [h]; done) | (simp at h hg ⊢; simp [h, hg]; done) | (simp_all; done) | (simp_all; omega)))) rfl ?_
    refine L_v Tb_ok (v := .bool _) (av rfl ⟨trivial, trivial⟩) rfl ?_
    refine L_g Tb_ok (v := .int _ _) rfl rfl ((fun hg => (av rfl ⟨trivial, trivial⟩))) rfl rfl ?_
    refine L_g Tb_ok (v := .bool _) rfl rfl ((fun hg => (av rfl ⟨⟨⟨(by first | exact hg | (simp_all; done) | (simp at hg ⊢; simp [hg])), True.intro⟩, True.intro⟩, trivial⟩))) rfl rfl ?_
    refine L_v Tb_ok (v := .bool _) (av rfl (by refine ⟨?_, fun h => ?_, fun h => ?_⟩ <;> first | exact True.intro | exact ⟨h, True.intro⟩ | (refine ⟨?_, True.intro⟩; first | (rw [h]; done) | (rw [h]; rfl) | (simp [h]; done) | (simp at h hg ⊢; simp [h, hg]; done) | (simp_all; done) | (simp_all; omega)))) rfl ?_
    refine L_v Tb_ok (v := .bool _) (av rfl ⟨trivial, trivial⟩) rfl ?_
    refine L_g Tb_ok (v := .int _ _) rfl rfl ((fun hg => (av rfl ⟨trivial, trivial⟩))) rfl rfl ?_
    refine L_g Tb_ok (v := .ptr _ _ _) rfl rfl ((fun hg => (av rfl ⟨trivial, trivial⟩))) rfl rfl ?_
    refine L_g Tb_ok (v := .ptr _ _ _) rfl rfl ((fun hg => (av rfl ⟨⟨⟨(by first | exact hg | (simp_all; done) | (simp at hg ⊢; simp [hg])), True.intro⟩, True.intro⟩, trivial⟩))) rfl rfl ?_
    refine L_g Tb_ok (v := .int _ _) rfl rfl ((fun hg => (av rfl ⟨⟨⟨(by first | exact hg | (simp_all; done) | (simp at hg ⊢; simp [hg])), True.intro⟩, True.intro⟩, rfl⟩))) rfl rfl ?_
    refine L_g Tb_ok (v := .ptr _ _ _) rfl rfl ((fun hg => (av rfl ⟨trivial, trivial⟩))) rfl rfl ?_
    refine L_g Tb_ok (v := .ptr _ _ _) rfl rfl ((fun hg => (av rfl ⟨⟨⟨(by first | exact hg | (simp_all; done) | (simp at hg ⊢; simp [hg])), True.intro⟩, True.intro⟩, trivial⟩))) rfl rfl ?_
    refine L_g Tb_ok (v := .int _ _) rfl rfl ((fun hg => (av rfl ⟨⟨⟨(by first | exact hg | (simp_all; done) | (simp at hg ⊢; simp [hg])), True.intro⟩, True.intro⟩, rfl⟩))) rfl rfl ?_
    refine L_g Tb_ok (v := .int _ _) rfl rfl ((fun hg => (av rfl ⟨⟨⟨(by first | exact hg | (simp_all; done) | (simp at hg ⊢; simp [hg])), True.intro⟩, ⟨⟨(by first | exact hg | (simp_all; done) | (simp at hg ⊢; simp [hg])), True.intro⟩, True.intro⟩⟩, trivial⟩))) rfl rfl ?_
    refine L_g Tb_ok (v := .bool _) rfl rfl ((fun hg => (av rfl ⟨⟨⟨(by first | exact hg | (simp_all; done) | (simp at hg ⊢; simp [hg])), True.intro⟩, ⟨⟨(by first | exact hg | (simp_all; done) | (simp at hg ⊢; simp [hg])), True.intro⟩, True.intro⟩⟩, trivial⟩))) rfl rfl ?_
    refine L_v Tb_ok (v := .bool _) (av rfl (by refine ⟨?_, fun h => ?_, fun h => ?_⟩ <;> first | exact True.intro | exact ⟨h, True.intro⟩ | (refine ⟨?_, True.intro⟩; first | (rw [h]; done) | (rw [h]; rfl) | (simp [h]; done) | (simp at h hg ⊢; simp [h, hg]; done) | (simp_all; done) | (simp_all; omega)))) rfl ?_
    refine WL_nil ?_
    refine W_cond_t (b := _) rfl (by first | exact hc51 | rfl | decide | simp_all) ?_
    refine W_seq ?_
    refine W_region rfl ?_
    refine L_v Tb_ok (v := .nils) (av rfl ⟨trivial, trivial⟩) rfl ?_
    refine L_v Tb_ok (v := .int _ _) (av rfl ⟨trivial, trivial⟩) rfl ?_
    refine L_v Tb_ok (v := .int _ _) (av rfl ⟨trivial, trivial⟩) rfl ?_
    refine WL_nil ?_
    refine W_ret ?_
    first | (refine ends (l := [.app _ _, .int _ _, .int _ _]) (q := .tup [.ro _, .int _ _, .int _ _]) (.inr rfl) rfl ⟨trivial, trivial, trivial, trivial⟩ rfl rfl ?_) | (refine ends (l := [.nils, .int _ _, .int _ _]) (q := .tup [.ro _, .int _ _, .int _ _]) (.inr rfl) rfl ⟨trivial, trivial, trivial, trivial⟩ rfl rfl ?_) | (refine ends (l := [.ro _, .int _ _, .int _ _]) (q := .tup [.ro _, .int _ _, .int _ _]) (.inr rfl) rfl ⟨trivial, trivial, trivial, trivial⟩ rfl rfl ?_)
    (have h0 : findE m op = 0 := by simpa using hc26); simp [h0]
end Go.AM
end
section
open Go Go.AM Go.Proofs
set_option maxRecDepth 10000
set_option linter.unusedVariables false
set_option linter.unusedSimpArgs false
namespace Go.AM
/-- the list, k of its places told -/
def ofP (pl : List Int) (k : Nat) : List Term := (pl.take k).map (fun p => ⟨1, p⟩) ++ List.replicate (pl.length - k) ⟨0, 0⟩
theorem ofP_len (pl : List Int) (k : Nat) (h : k ≤ pl.length) : (ofP pl k).length = pl.length := by simp [ofP]; omega
theorem ofP_set (pl : List Int) (k : Nat) (h : k < pl.length) : (ofP pl k).set k ⟨1, pl.getD k 0⟩ = ofP pl (k + 1) := by
  have e : pl.length - k = (pl.length - (k + 1)) + 1 := by omega
  have hl : ((pl.take k).map (fun p => (⟨1, p⟩ : Term))).length = k := by simp; omega
  rw [ofP, ofP, e, List.replicate_succ, List.set_append_right _ _ (by omega), hl, Nat.sub_self, List.set_cons_zero, List.take_add_one, List.map_append, List.append_assoc]
  simp [h]
theorem terms_Of_pl (m : Model) (op ch at_ : Int) (hc26 : (findE m op != 0) = false) (hc51 : ofBad (findS m op) ch at_ = false) (hc74 : ((findS m op).Op.Kind != 4) = false) (pl : List Int)
    (hpl : Ok Try.prog 32 [.agg (siteC (findS m op)), .int .i64 ch, .int .i64 at_] (.ro (pl.map intC))) (hpn : (findS m op).Len = (pl.length : Int)) (hps : pl.length ≤ 1048576) :
    Ok Try.prog 11 [.agg (modelC m), .int .i64 op, .int .i64 ch, .int .i64 at_] (.tup [.ro ((ofP pl pl.length).map termC), .int .i64 0, .int .i64 0]) := by
  refine fn_ok Tb_ok (fn := Try.f11) Try.func11 rfl rfl (e := [(0, _), (1, _), (2, _), (3, _)]) rfl (by decide) rfl ?_
  refine W_seq ?_
  refine W_region rfl ?_
  refine L_box Tb_ok (cs := [.int _ _, .int _ _, .int _ _, .int _ _, .int _ _, _, .int _ _]) (n := 7) rfl rfl rfl rfl trivial ?_
  refine L_v Tb_ok (v := .nils) (av rfl ⟨trivial, trivial⟩) rfl ?_
  refine L_v Tb_ok (v := .int _ _) (av rfl ⟨trivial, trivial⟩) rfl ?_
  refine L_v Tb_ok (v := .int _ _) (av rfl ⟨trivial, trivial⟩) rfl ?_
  refine WL_nil ?_
  refine W_seq ?_
  refine W_region rfl ?_
  refine L_v Tb_ok (v := .agg [.int _ _, .int _ _, .int _ _, .int _ _, .int _ _, _, .int _ _]) (av rfl ⟨trivial, rfl⟩) rfl ?_
  refine L_v Tb_ok (v := .int _ _) (av rfl ⟨trivial, trivial⟩) rfl ?_
  refine L_call (hr := terms_find m op) rfl rfl trivial rfl rfl ?_
  refine L_v Tb_ok (v := .tup [_, _]) (av rfl ⟨trivial, trivial⟩) rfl ?_
  refine L_v Tb_ok (v := .agg [.int _ _, .int _ _, .int _ _, .int _ _, .int _ _, .int _ _, .int _ _, .int _ _, .int _ _, .int _ _, .int _ _, .int _ _, _, _, .int _ _, .int _ _, .int _ _, .int _ _, .int _ _, .int _ _, .int _ _, .int _ _, .int _ _, .int _ _, .int _ _, .int _ _, .int _ _, .int _ _, .int _ _]) (av rfl ⟨trivial, trivial⟩) rfl ?_
  refine L_v Tb_ok (v := .int _ _) (av rfl ⟨trivial, trivial⟩) rfl ?_
  refine L_alloc Tb_ok (z := [.int .i64 0, .int .i64 0, .int .i64 0, .int .i64 0, .int .i64 0, .int .i64 0, .int .i64 0, .int .i64 0, .int .i64 0, .int .i64 0, .int .i64 0, .int .i64 0, .nils, .nils, .int .i64 0, .int .i64 0, .int .i64 0, .int .i64 0, .int .i64 0, .int .i64 0, .int .i64 0, .int .i64 0, .int .i64 0, .int .i64 0, .int .i64 0, .int .i64 0, .int .i64 0, .int .i64 0, .int .i64 0]) (n := 29) rfl rfl rfl rfl rfl ?_
  refine L_store Tb_ok (v := .agg [.int _ _, .int _ _, .int _ _, .int _ _, .int _ _, .int _ _, .int _ _, .int _ _, .int _ _, .int _ _, .int _ _, .int _ _, _, _, .int _ _, .int _ _, .int _ _, .int _ _, .int _ _, .int _ _, .int _ _, .int _ _, .int _ _, .int _ _, .int _ _, .int _ _, .int _ _, .int _ _, .int _ _]) (cs := [_, _, _, _, _, _, _, _, _, _, _, _, _, _, _, _, _, _, _, _, _, _, _, _, _, _, _, _, _]) (es' := [[_, _, _, _, _, _, _, _, _, _, _, _, _, _, _, _, _, _, _, _, _, _, _, _, _, _, _, _, _]]) rfl rfl rfl rfl rfl rfl rfl rfl rfl rfl ⟨trivial, trivial⟩ ?_
  refine L_v Tb_ok (v := .int _ _) (av rfl ⟨trivial, trivial⟩) rfl ?_
  refine WL_nil ?_
  refine W_seq ?_
  refine W_seq ?_
  refine W_region rfl ?_
  refine L_v Tb_ok (v := .int _ _) (av rfl ⟨trivial, trivial⟩) rfl ?_
  refine L_v Tb_ok (v := .bool _) (av rfl ⟨trivial, trivial⟩) rfl ?_
  refine WL_nil ?_
  refine W_cond_f (b := _) rfl (by first | exact hc26 | rfl | decide | simp_all) ?_
  refine W_skip ?_
  refine W_seq ?_
  refine W_seq ?_
  refine W_region rfl ?_
  refine L_v Tb_ok (v := .int _ _) (av rfl ⟨trivial, trivial⟩) rfl ?_
  refine L_v Tb_ok (v := .bool _) (av rfl ⟨trivial, trivial⟩) rfl ?_
  refine L_v Tb_ok (v := .bool _) (av rfl ⟨trivial, trivial⟩) rfl ?_
  refine L_g Tb_ok (v := .int _ _) rfl rfl ((fun hg => (av rfl ⟨trivial, trivial⟩))) rfl rfl ?_
  refine L_g Tb_ok (v := .ptr _ _ _) rfl rfl ((fun hg => (av rfl ⟨trivial, trivial⟩))) rfl rfl ?_
  refine L_g Tb_ok (v := .ptr _ _ _) rfl rfl ((fun hg => (av rfl ⟨⟨⟨(by first | exact hg | (simp_all; done) | (simp at hg ⊢; simp [hg])), True.intro⟩, True.intro⟩, trivial⟩))) rfl rfl ?_
  refine L_g Tb_ok (v := .int _ _) rfl rfl ((fun hg => (av rfl ⟨⟨⟨(by first | exact hg | (simp_all; done) | (simp at hg ⊢; simp [hg])), True.intro⟩, True.intro⟩, rfl⟩))) rfl rfl ?_
  refine L_g Tb_ok (v := .bool _) rfl rfl ((fun hg => (av rfl ⟨⟨⟨(by first | exact hg | (simp_all; done) | (simp at hg ⊢; simp [hg])), True.intro⟩, ⟨⟨(by first | exact hg | (simp_all; done) | (simp at hg ⊢; simp [hg])), True.intro⟩, True.intro⟩⟩, trivial⟩))) rfl rfl ?_
  refine L_v Tb_ok (v := .bool _) (av rfl (by refine ⟨?_, fun h => ?_, fun h => ?_⟩ <;> first | exact True.intro | exact ⟨h, True.intro⟩ | (refine ⟨?_, True.intro⟩; first | (rw [h]; done) | (rw [h]; rfl) | (simp [h]; done) | (simp at h hg ⊢; simp [h, hg]; done) | (simp_all; done) | (simp_all; omega)))) rfl ?_
  refine L_v Tb_ok (v := .bool _) (av rfl ⟨trivial, trivial⟩) rfl ?_
  refine L_g Tb_ok (v := .int _ _) rfl rfl ((fun hg => (av rfl ⟨trivial, trivial⟩))) rfl rfl ?_
  refine L_g Tb_ok (v := .bool _) rfl rfl ((fun hg => (av rfl ⟨⟨⟨(by first | exact hg | (simp_all; done) | (simp at hg ⊢; simp [hg])), True.intro⟩, True.intro⟩, trivial⟩))) rfl rfl ?_
  refine L_v Tb_ok (v := .bool _) (av rfl (by refine ⟨?_, fun h => ?_, fun h => ?_⟩ <;> first | exact True.intro | exact ⟨h, True.intro⟩ | (refine ⟨?_, True.intro⟩; first | (rw [h]; done) | (rw [h]; rfl) | (simp [h]; done) | (simp at h hg ⊢; simp [h, hg]; done) | (simp_all; done) | (simp_all; omega)))) rfl ?_
  refine L_v Tb_ok (v := .bool _) (av rfl ⟨trivial, trivial⟩) rfl ?_
  refine L_g Tb_ok (v := .int _ _) rfl rfl ((fun hg => (av rfl ⟨trivial, trivial⟩))) rfl rfl ?_
  refine L_g Tb_ok (v := .ptr _ _ _) rfl rfl ((fun hg => (av rfl ⟨trivial, trivial⟩))) rfl rfl ?_
  refine L_g Tb_ok (v := .ptr _ _ _) rfl rfl ((fun hg => (av rfl ⟨⟨⟨(by first | exact hg | (simp_all; done) | (simp at hg ⊢; simp [hg])), True.intro⟩, True.intro⟩, trivial⟩))) rfl rfl ?_
  refine L_g Tb_ok (v := .int _ _) rfl rfl ((fun hg => (av rfl ⟨⟨⟨(by first | exact hg | (simp_all; done) | (simp at hg ⊢; simp [hg])), True.intro⟩, True.intro⟩, rfl⟩))) rfl rfl ?_
  refine L_g Tb_ok (v := .ptr _ _ _) rfl rfl ((fun hg => (av rfl ⟨trivial, trivial⟩))) rfl rfl ?_
  refine L_g Tb_ok (v := .ptr _ _ _) rfl rfl ((fun hg => (av rfl ⟨⟨⟨(by first | exact hg | (simp_all; done) | (simp at hg ⊢; simp [hg])), True.intro⟩, True.intro⟩, trivial⟩))) rfl rfl ?_
  refine L_g Tb_ok (v := .int _ _) rfl rfl ((fun hg => (av rfl ⟨⟨⟨(by first | exact hg | (simp_all; done) | (simp at hg ⊢; simp [hg])), True.intro⟩, True.intro⟩, rfl⟩))) rfl rfl ?_
  refine L_g Tb_ok (v := .int _ _) rfl rfl ((fun hg => (av rfl ⟨⟨⟨(by first | exact hg | (simp_all; done) | (simp at hg ⊢; simp [hg])), True.intro⟩, ⟨⟨(by first | exact hg | (simp_all; done) | (simp at hg ⊢; simp [hg])), True.intro⟩, True.intro⟩⟩, trivial⟩))) rfl rfl ?_
  refine L_g Tb_ok (v := .bool _) rfl rfl ((fun hg => (av rfl ⟨⟨⟨(by first | exact hg | (simp_all; done) | (simp at hg ⊢; simp [hg])), True.intro⟩, ⟨⟨(by first | exact hg | (simp_all; done) | (simp at hg ⊢; simp [hg])), True.intro⟩, True.intro⟩⟩, trivial⟩))) rfl rfl ?_
  refine L_v Tb_ok (v := .bool _) (av rfl (by refine ⟨?_, fun h => ?_, fun h => ?_⟩ <;> first | exact True.intro | exact ⟨h, True.intro⟩ | (refine ⟨?_, True.intro⟩; first | (rw [h]; done) | (rw [h]; rfl) | (simp [h]; done) | (simp at h hg ⊢; simp [h, hg]; done) | (simp_all; done) | (simp_all; omega)))) rfl ?_
  refine WL_nil ?_
  refine W_cond_f (b := _) rfl (by first | exact hc51 | rfl | decide | simp_all) ?_
  refine W_skip ?_
  refine W_seq ?_
  refine W_region rfl ?_
  refine L_v Tb_ok (v := .int _ _) (av rfl ⟨trivial, trivial⟩) rfl ?_
  refine WL_nil ?_
  refine W_seq ?_
  refine W_region rfl ?_
  refine L_v Tb_ok (v := .ptr _ _ _) (av rfl ⟨trivial, trivial⟩) rfl ?_
  refine L_v Tb_ok (v := .int _ _) (av rfl ⟨trivial, rfl⟩) rfl ?_
  refine L_make Tb_ok (el := 52) (sz := 2) (z := [.int .i64 0, .int .i64 0]) rfl rfl rfl rfl rfl rfl rfl rfl ⟨trivial, trivial⟩ (by first | (rw [hpn]; omega) | (rw [hpn, show (Tb.at 52).bytes = 16 from rfl]; omega)) (by first | (rw [hpn]; omega) | (rw [hpn, show (Tb.at 52).bytes = 16 from rfl]; omega)) rfl ?_
  first | (refine L_v Tb_ok (v := .ro _) (av rfl ⟨trivial, trivial⟩) rfl ?_) | (refine L_v Tb_ok (v := .app _ _) (av rfl ⟨trivial, trivial⟩) rfl ?_) | (refine L_v Tb_ok (v := .row _ _ _) (av rfl ⟨trivial, trivial⟩) rfl ?_) | (refine L_v Tb_ok (v := .nils) (av rfl ⟨trivial, trivial⟩) rfl ?_)
  refine WL_nil ?_
  refine W_seq ?_
  refine W_seq ?_
  refine W_region rfl ?_
  refine L_v Tb_ok (v := .agg [.int _ _, .int _ _, .int _ _, .int _ _, .int _ _, .int _ _, .int _ _, .int _ _, .int _ _, .int _ _, .int _ _, .int _ _, _, _, .int _ _, .int _ _, .int _ _, .int _ _, .int _ _, .int _ _, .int _ _, .int _ _, .int _ _, .int _ _, .int _ _, .int _ _, .int _ _, .int _ _, .int _ _]) (av rfl ⟨trivial, rfl⟩) rfl ?_
  refine L_v Tb_ok (v := .int _ _) (av rfl ⟨trivial, trivial⟩) rfl ?_
  refine L_v Tb_ok (v := .int _ _) (av rfl ⟨trivial, trivial⟩) rfl ?_
  refine L_call (hr := hpl) rfl rfl trivial rfl rfl ?_
  refine L_v Tb_ok (v := .int _ _) (av rfl ⟨trivial, trivial⟩) rfl ?_
  refine L_v Tb_ok (v := .int _ _) (av rfl ⟨trivial, trivial⟩) rfl ?_
  refine WL_nil ?_
  refine W_block ?_
  refine W_inv (ι := {k : Nat // k ≤ pl.length}) (fun k => ⟨[(2, .int .i64 ch), (11, .ptr 1 0 0), (13, .int .i64 0), (14, .row 2 0 (findS m op).Len.toNat), (58, .ro (pl.map intC)), (59, .int .i64 ((pl.map intC).length : Int)), (60, .int .i64 (k.1 : Int))], [(1, some ⟨81, 29, 0, [siteC (findS m op)]⟩), (2, some ⟨52, 2, 0, (ofP pl k.1).map termC⟩)], [], 3⟩) (fun k => pl.length - k.1) ⟨0, Nat.zero_le _⟩ (le_fit ⟨rfl, rfl, rfl, rfl, rfl, rfl, rfl, trivial⟩ ⟨.inr rfl, .inr ?_, trivial⟩ trivial rfl rfl rfl ?_ rfl) ?_
  · show some (Ob.mk _ _ _ (List.replicate (findS m op).Len.toNat _)) = _
    simp [ofP, hpn, termC]
  · simp [ltOB, termC, siteC, opC, shapeC, AV.lt]
  rintro ⟨k, hk⟩
  refine W_seq ?_
  refine W_region rfl ?_
  refine L_v Tb_ok (v := .bool _) (av rfl ⟨trivial, trivial⟩) rfl ?_
  refine WL_nil ?_
  refine W_seq ?_
  refine W_cond (b := _) rfl (fun h61 => ?_) (fun h61 => ?_)
  · have hlt : k < pl.length := by simpa using h61
    refine W_skip ?_
    refine W_seq ?_
    refine W_block ?_
    refine W_seq ?_
    refine W_region rfl ?_
    refine L_v Tb_ok (v := .int _ _) (av rfl ⟨trivial, trivial⟩) rfl ?_
    first | (refine L_v Tb_ok (v := _) (ave_index_ro rfl rfl rfl (fun _ => rfl) rfl (by first | omega | assumption | decide | (simp_all; done) | (simp_all; omega)) (by first | omega | assumption | decide | (simp_all; done) | (simp_all; omega)) trivial) rfl ?_) | (refine L_v Tb_ok (v := _) (ave_index_app rfl rfl rfl (fun _ => rfl) rfl (by first | omega | assumption | decide | (simp_all; done) | (simp_all; omega)) (by first | omega | assumption | decide | (simp_all; done) | (simp_all; omega)) trivial) rfl ?_) | (refine L_v Tb_ok (v := _) (ave_index_row rfl rfl rfl rfl rfl rfl (by first | omega | assumption | decide | (simp_all; done) | (simp_all; omega)) (by first | omega | assumption | decide | (simp_all; done) | (simp_all; omega)) trivial) rfl ?_) | (refine L_v Tb_ok (v := .rptr _) (av rfl ⟨trivial, ⟨(by first | omega | assumption | decide | (simp_all; done) | (simp_all; omega)), (by first | omega | assumption | decide | (simp_all; done) | (simp_all; omega))⟩, rfl⟩) rfl ?_) | (refine L_v Tb_ok (v := .ptr _ _ _) (av rfl ⟨trivial, ⟨(by first | omega | assumption | decide | (simp_all; done) | (simp_all; omega)), (by first | omega | assumption | decide | (simp_all; done) | (simp_all; omega))⟩, rfl⟩) rfl ?_)
    refine L_v Tb_ok (v := .int _ _) (av rfl ⟨trivial, rfl⟩) rfl ?_
    refine L_v Tb_ok (v := .int _ _) (av rfl ⟨trivial, trivial⟩) rfl ?_
    refine L_v Tb_ok (v := .int _ _) (av rfl ⟨trivial, trivial⟩) rfl ?_
    refine WL_nil ?_
    refine W_region rfl ?_
    first | (refine L_v Tb_ok (v := .ro _) (av rfl ⟨trivial, trivial⟩) rfl ?_) | (refine L_v Tb_ok (v := .app _ _) (av rfl ⟨trivial, trivial⟩) rfl ?_) | (refine L_v Tb_ok (v := .row _ _ _) (av rfl ⟨trivial, trivial⟩) rfl ?_) | (refine L_v Tb_ok (v := .nils) (av rfl ⟨trivial, trivial⟩) rfl ?_)
    refine L_v Tb_ok (v := .int _ _) (av rfl ⟨trivial, trivial⟩) rfl ?_
    refine L_v Tb_ok (v := .int _ _) (av rfl ⟨trivial, trivial⟩) rfl ?_
    refine L_v Tb_ok (v := .agg [.int _ _, .int _ _]) (av rfl ⟨trivial, rfl⟩) rfl ?_
    first | (refine L_v Tb_ok (v := _) (ave_index_ro rfl rfl rfl (fun _ => rfl) rfl (by first | omega | assumption | decide | (simp_all; done) | (simp_all; omega)) (by first | omega | assumption | decide | (simp_all; done) | (simp_all; omega)) trivial) rfl ?_) | (refine L_v Tb_ok (v := _) (ave_index_app rfl rfl rfl (fun _ => rfl) rfl (by first | omega | assumption | decide | (simp_all; done) | (simp_all; omega)) (by first | omega | assumption | decide | (simp_all; done) | (simp_all; omega)) trivial) rfl ?_) | (refine L_v Tb_ok (v := _) (ave_index_row rfl rfl rfl rfl rfl rfl (by first | omega | assumption | decide | (simp_all; done) | (simp_all; omega)) (by first | omega | assumption | decide | (simp_all; done) | (simp_all; omega)) trivial) rfl ?_) | (refine L_v Tb_ok (v := .rptr _) (av rfl ⟨trivial, ⟨(by first | omega | assumption | decide | (simp_all; done) | (simp_all; omega)), (by first | omega | assumption | decide | (simp_all; done) | (simp_all; omega))⟩, rfl⟩) rfl ?_) | (refine L_v Tb_ok (v := .ptr _ _ _) (av rfl ⟨trivial, ⟨(by first | omega | assumption | decide | (simp_all; done) | (simp_all; omega)), (by first | omega | assumption | decide | (simp_all; done) | (simp_all; omega))⟩, rfl⟩) rfl ?_)
    refine L_store_row Tb_ok (f := termC) (xs := ofP pl k) (v' := ⟨1, pl.getD k 0⟩) rfl rfl rfl rfl rfl rfl rfl rfl (by rw [ofP_len _ _ hk]; simp; omega) rfl ⟨trivial, trivial⟩ ?_
    refine WL_nil ?_
    refine W_region rfl ?_
    refine L_v Tb_ok (v := .int _ _) (av rfl ⟨trivial, trivial⟩) rfl ?_
    refine L_v Tb_ok (v := .int _ _) (av rfl ⟨trivial, trivial⟩) rfl ?_
    refine WL_nil ?_
    refine round_end ⟨k + 1, hlt⟩ (by dsimp only; omega) (le_fit ⟨rfl, rfl, rfl, rfl, rfl, rfl, congrArg _ (w_succ hlt (by omega)), trivial⟩ ⟨.inr rfl, .inr ?_, trivial⟩ trivial rfl rfl rfl ?_ rfl)
    · show some (Ob.mk 52 2 0 (((ofP pl k).set (0 + ((k : Nat) : Int).toNat) ⟨1, pl.getD k 0⟩).map termC)) = _
      rw [Nat.zero_add, Int.toNat_natCast, ofP_set pl k hlt]
    · simp [ltOB, termC, siteC, opC, shapeC, AV.lt]
  · refine W_exit ?_
    repeat (first | refine pass_then ?_ | refine pass_once ?_ | refine pass_le ?_ | refine pass_round ?_ | refine pass_for ?_ | refine blockQ_miss rfl ?_)
    refine blockQ_hit ?_
    refine W_seq ?_
    refine W_seq ?_
    refine W_region rfl ?_
    refine L_v Tb_ok (v := .ptr _ _ _) (av rfl ⟨trivial, trivial⟩) rfl ?_
    refine L_v Tb_ok (v := .ptr _ _ _) (av rfl ⟨trivial, trivial⟩) rfl ?_
    refine L_v Tb_ok (v := .int _ _) (av rfl ⟨trivial, rfl⟩) rfl ?_
    refine L_v Tb_ok (v := .bool _) (av rfl ⟨trivial, trivial⟩) rfl ?_
    refine WL_nil ?_
    refine W_cond_f (b := _) rfl (by first | exact hc74 | rfl | decide | simp_all) ?_
    refine W_skip ?_
    refine W_seq ?_
    refine W_region rfl ?_
    have hke : k = pl.length := by simp at h61; omega
    refine L_freeze (t := 14) (id := 2) (n := (findS m op).Len.toNat) (l := (ofP pl k).map termC) rfl rfl ?_ rfl rfl ?_ ?_ ?_
    · show _ = ((ofP pl k).map termC).length
      rw [List.length_map, ofP_len pl k hk, hpn]; rfl
    · show ((ofP pl k).map termC).map (·.map demC) = _
      simp [termC, demC]
    · simp [termC, grC]
    first | (refine L_v Tb_ok (v := .ro _) (av rfl ⟨trivial, trivial⟩) rfl ?_) | (refine L_v Tb_ok (v := .app _ _) (av rfl ⟨trivial, trivial⟩) rfl ?_) | (refine L_v Tb_ok (v := .row _ _ _) (av rfl ⟨trivial, trivial⟩) rfl ?_) | (refine L_v Tb_ok (v := .nils) (av rfl ⟨trivial, trivial⟩) rfl ?_)
    refine L_v Tb_ok (v := .int _ _) (av rfl ⟨trivial, trivial⟩) rfl ?_
    first | (refine L_v Tb_ok (v := .ro _) (av rfl ⟨trivial, trivial⟩) rfl ?_) | (refine L_v Tb_ok (v := .app _ _) (av rfl ⟨trivial, trivial⟩) rfl ?_) | (refine L_v Tb_ok (v := .row _ _ _) (av rfl ⟨trivial, trivial⟩) rfl ?_) | (refine L_v Tb_ok (v := .nils) (av rfl ⟨trivial, trivial⟩) rfl ?_)
    refine L_v Tb_ok (v := .int _ _) (av rfl ⟨trivial, trivial⟩) rfl ?_
    refine L_v Tb_ok (v := .int _ _) (av rfl ⟨trivial, trivial⟩) rfl ?_
    refine WL_nil ?_
    refine W_ret ?_
    first | (refine ends (l := [.app _ _, .int _ _, .int _ _]) (q := .tup [.ro _, .int _ _, .int _ _]) (.inr rfl) rfl ⟨trivial, trivial, trivial, trivial⟩ rfl rfl ?_) | (refine ends (l := [.nils, .int _ _, .int _ _]) (q := .tup [.ro _, .int _ _, .int _ _]) (.inr rfl) rfl ⟨trivial, trivial, trivial, trivial⟩ rfl rfl ?_) | (refine ends (l := [.ro _, .int _ _, .int _ _]) (q := .tup [.ro _, .int _ _, .int _ _]) (.inr rfl) rfl ⟨trivial, trivial, trivial, trivial⟩ rfl rfl ?_)
    rw [hke]
/-- the channel's weights -/
def ofWs (S : Site) (ch : Int) : List Int := (S.Op.Weights.drop (w64 (w64 (ch - 1) * S.Len)).toNat).take ((w64 (ch * S.Len)).toNat - (w64 (w64 (ch - 1) * S.Len)).toNat)
def ofQ (pl ws : List Int) (k : Nat) : List Term := (List.range pl.length).map fun i => ⟨if i < k then ws.getD i 0 else 1, pl.getD i 0⟩
theorem ofQ_len (pl ws : List Int) (k : Nat) : (ofQ pl ws k).length = pl.length := by simp [ofQ]
theorem ofQ_zero (pl ws : List Int) : ofQ pl ws 0 = ofP pl pl.length := by
  apply List.ext_getElem
  · simp [ofQ, ofP]
  · intro i h1 h2
    simp [ofQ] at h1
    simp [ofQ, ofP, List.getElem_append, h1]
theorem ofQ_set (pl ws : List Int) (k : Nat) (h : k < pl.length) : (ofQ pl ws k).set k ⟨ws.getD k 0, ((ofQ pl ws k).getD k default).At⟩ = ofQ pl ws (k + 1) := by
  apply List.ext_getElem
  · simp [ofQ]
  · intro i h1 h2
    have hi : i < pl.length := by simpa [ofQ] using h2
    by_cases e : k = i
    · subst e; simp [ofQ, h]
    · rw [List.getElem_set_ne e]
      have e2 : (i < k) = (i < k + 1) := by simp; omega
      simp [ofQ, e2]
end Go.AM
end
section
open Go Go.AM Go.Proofs
set_option maxRecDepth 10000
set_option linter.unusedVariables false
set_option linter.unusedSimpArgs false
namespace Go.AM
theorem terms_Of_w (m : Model) (op ch at_ : Int) (hc26 : (findE m op != 0) = false) (hc51 : ofBad (findS m op) ch at_ = false) (hc74 : ((findS m op).Op.Kind != 4) = true) (pl : List Int)
    (hpl : Ok Try.prog 32 [.agg (siteC (findS m op)), .int .i64 ch, .int .i64 at_] (.ro (pl.map intC))) (hpn : (findS m op).Len = (pl.length : Int)) (hps : pl.length ≤ 1048576)
    (hb0 : 0 ≤ w64 (ch - 1)) (hb1 : w64 (ch - 1) < (findS m op).Op.Bias.length) (hw0 : 0 ≤ w64 (w64 (ch - 1) * (findS m op).Len)) (hw1 : w64 (ch * (findS m op).Len) - w64 (w64 (ch - 1) * (findS m op).Len) = (findS m op).Len) (hw2 : w64 (ch * (findS m op).Len) ≤ (findS m op).Op.Weights.length) :
    Ok Try.prog 11 [.agg (modelC m), .int .i64 op, .int .i64 ch, .int .i64 at_] (.tup [.ro ((ofQ pl ((ofWs (findS m op) ch).map w64) pl.length).map termC), .int .i64 (w64 ((findS m op).Op.Bias.getD (w64 (ch - 1)).toNat default)), .int .i64 0]) := by
  have hwl : (ofWs (findS m op) ch).length = pl.length := by simp [ofWs]; omega
  refine fn_ok Tb_ok (fn := Try.f11) Try.func11 rfl rfl (e := [(0, _), (1, _), (2, _), (3, _)]) rfl (by decide) rfl ?_
  refine W_seq ?_
  refine W_region rfl ?_
  refine L_box Tb_ok (cs := [.int _ _, .int _ _, .int _ _, .int _ _, .int _ _, _, .int _ _]) (n := 7) rfl rfl rfl rfl trivial ?_
  refine L_v Tb_ok (v := .nils) (av rfl ⟨trivial, trivial⟩) rfl ?_
  refine L_v Tb_ok (v := .int _ _) (av rfl ⟨trivial, trivial⟩) rfl ?_
  refine L_v Tb_ok (v := .int _ _) (av rfl ⟨trivial, trivial⟩) rfl ?_
  refine WL_nil ?_
  refine W_seq ?_
  refine W_region rfl ?_
  refine L_v Tb_ok (v := .agg [.int _ _, .int _ _, .int _ _, .int _ _, .int _ _, _, .int _ _]) (av rfl ⟨trivial, rfl⟩) rfl ?_
  refine L_v Tb_ok (v := .int _ _) (av rfl ⟨trivial, trivial⟩) rfl ?_
  refine L_call (hr := terms_find m op) rfl rfl trivial rfl rfl ?_
  refine L_v Tb_ok (v := .tup [_, _]) (av rfl ⟨trivial, trivial⟩) rfl ?_
  refine L_v Tb_ok (v := .agg [.int _ _, .int _ _, .int _ _, .int _ _, .int _ _, .int _ _, .int _ _, .int _ _, .int _ _, .int _ _, .int _ _, .int _ _, _, _, .int _ _, .int _ _, .int _ _, .int _ _, .int _ _, .int _ _, .int _ _, .int _ _, .int _ _, .int _ _, .int _ _, .int _ _, .int _ _, .int _ _, .int _ _]) (av rfl ⟨trivial, trivial⟩) rfl ?_
  refine L_v Tb_ok (v := .int _ _) (av rfl ⟨trivial, trivial⟩) rfl ?_
  refine L_alloc Tb_ok (z := [.int .i64 0, .int .i64 0, .int .i64 0, .int .i64 0, .int .i64 0, .int .i64 0, .int .i64 0, .int .i64 0, .int .i64 0, .int .i64 0, .int .i64 0, .int .i64 0, .nils, .nils, .int .i64 0, .int .i64 0, .int .i64 0, .int .i64 0, .int .i64 0, .int .i64 0, .int .i64 0, .int .i64 0, .int .i64 0, .int .i64 0, .int .i64 0, .int .i64 0, .int .i64 0, .int .i64 0, .int .i64 0]) (n := 29) rfl rfl rfl rfl rfl ?_
  refine L_store Tb_ok (v := .agg [.int _ _, .int _ _, .int _ _, .int _ _, .int _ _, .int _ _, .int _ _, .int _ _, .int _ _, .int _ _, .int _ _, .int _ _, _, _, .int _ _, .int _ _, .int _ _, .int _ _, .int _ _, .int _ _, .int _ _, .int _ _, .int _ _, .int _ _, .int _ _, .int _ _, .int _ _, .int _ _, .int _ _]) (cs := [_, _, _, _, _, _, _, _, _, _, _, _, _, _, _, _, _, _, _, _, _, _, _, _, _, _, _, _, _]) (es' := [[_, _, _, _, _, _, _, _, _, _, _, _, _, _, _, _, _, _, _, _, _, _, _, _, _, _, _, _, _]]) rfl rfl rfl rfl rfl rfl rfl rfl rfl rfl ⟨trivial, trivial⟩ ?_
  refine L_v Tb_ok (v := .int _ _) (av rfl ⟨trivial, trivial⟩) rfl ?_
  refine WL_nil ?_
  refine W_seq ?_
  refine W_seq ?_
  refine W_region rfl ?_
  refine L_v Tb_ok (v := .int _ _) (av rfl ⟨trivial, trivial⟩) rfl ?_
  refine L_v Tb_ok (v := .bool _) (av rfl ⟨trivial, trivial⟩) rfl ?_
  refine WL_nil ?_
  refine W_cond_f (b := _) rfl (by first | exact hc26 | rfl | decide | simp_all) ?_
  refine W_skip ?_
  refine W_seq ?_
  refine W_seq ?_
  refine W_region rfl ?_
  refine L_v Tb_ok (v := .int _ _) (av rfl ⟨trivial, trivial⟩) rfl ?_
  refine L_v Tb_ok (v := .bool _) (av rfl ⟨trivial, trivial⟩) rfl ?_
  refine L_v Tb_ok (v := .bool _) (av rfl ⟨trivial, trivial⟩) rfl ?_
  refine L_g Tb_ok (v := .int _ _) rfl rfl ((fun hg => (av rfl ⟨trivial, trivial⟩))) rfl rfl ?_
  refine L_g Tb_ok (v := .ptr _ _ _) rfl rfl ((fun hg => (av rfl ⟨trivial, trivial⟩))) rfl rfl ?_
  refine L_g Tb_ok (v := .ptr _ _ _) rfl rfl ((fun hg => (av rfl ⟨⟨⟨(by first | exact hg | (simp_all; done) | (simp at hg ⊢; simp [hg])), True.intro⟩, True.intro⟩, trivial⟩))) rfl rfl ?_
  refine L_g Tb_ok (v := .int _ _) rfl rfl ((fun hg => (av rfl ⟨⟨⟨(by first | exact hg | (simp_all; done) | (simp at hg ⊢; simp [hg])), True.intro⟩, True.intro⟩, rfl⟩))) rfl rfl ?_
  refine L_g Tb_ok (v := .bool _) rfl rfl ((fun hg => (av rfl ⟨⟨⟨(by first | exact hg | (simp_all; done) | (simp at hg ⊢; simp [hg])), True.intro⟩, ⟨⟨(by first | exact hg | (simp_all; done) | (simp at hg ⊢; simp [hg])), True.intro⟩, True.intro⟩⟩, trivial⟩))) rfl rfl ?_
  refine L_v Tb_ok (v := .bool _) (av rfl (by refine ⟨?_, fun h => ?_, fun h => ?_⟩ <;> first | exact True.intro | exact ⟨h, True.intro⟩ | (refine ⟨?_, True.intro⟩; first | (rw [h]; done) | (rw [h]; rfl) | (simp [h]; done) | (simp at h hg ⊢; simp [h, hg]; done) | (simp_all; done) | (simp_all; omega)))) rfl ?_
  refine L_v Tb_ok (v := .bool _) (av rfl ⟨trivial, trivial⟩) rfl ?_
  refine L_g Tb_ok (v := .int _ _) rfl rfl ((fun hg => (av rfl ⟨trivial, trivial⟩))) rfl rfl ?_
  refine L_g Tb_ok (v := .bool _) rfl rfl ((fun hg => (av rfl ⟨⟨⟨(by first | exact hg | (simp_all; done) | (simp at hg ⊢; simp [hg])), True.intro⟩, True.intro⟩, trivial⟩))) rfl rfl ?_
  refine L_v Tb_ok (v := .bool _) (av rfl (by refine ⟨?_, fun h => ?_, fun h => ?_⟩ <;> first | exact True.intro | exact ⟨h, True.intro⟩ | (refine ⟨?_, True.intro⟩; first | (rw [h]; done) | (rw [h]; rfl) | (simp [h]; done) | (simp at h hg ⊢; simp [h, hg]; done) | (simp_all; done) | (simp_all; omega)))) rfl ?_
  refine L_v Tb_ok (v := .bool _) (av rfl ⟨trivial, trivial⟩) rfl ?_
  refine L_g Tb_ok (v := .int _ _) rfl rfl ((fun hg => (av rfl ⟨trivial, trivial⟩))) rfl rfl ?_
  refine L_g Tb_ok (v := .ptr _ _ _) rfl rfl ((fun hg => (av rfl ⟨trivial, trivial⟩))) rfl rfl ?_
  refine L_g Tb_ok (v := .ptr _ _ _) rfl rfl ((fun hg => (av rfl ⟨⟨⟨(by first | exact hg | (simp_all; done) | (simp at hg ⊢; simp [hg])), True.intro⟩, True.intro⟩, trivial⟩))) rfl rfl ?_
  refine L_g Tb_ok (v := .int _ _) rfl rfl ((fun hg => (av rfl ⟨⟨⟨(by first | exact hg | (simp_all; done) | (simp at hg ⊢; simp [hg])), True.intro⟩, True.intro⟩, rfl⟩))) rfl rfl ?_
  refine L_g Tb_ok (v := .ptr _ _ _) rfl rfl ((fun hg => (av rfl ⟨trivial, trivial⟩))) rfl rfl ?_
  refine L_g Tb_ok (v := .ptr _ _ _) rfl rfl ((fun hg => (av rfl ⟨⟨⟨(by first | exact hg | (simp_all; done) | (simp at hg ⊢; simp [hg])), True.intro⟩, True.intro⟩, trivial⟩))) rfl rfl ?_
  refine L_g Tb_ok (v := .int _ _) rfl rfl ((fun hg => (av rfl ⟨⟨⟨(by first | exact hg | (simp_all; done) | (simp at hg ⊢; simp [hg])), True.intro⟩, True.intro⟩, rfl⟩))) rfl rfl ?_
  refine L_g Tb_ok (v := .int _ _) rfl rfl ((fun hg => (av rfl ⟨⟨⟨(by first | exact hg | (simp_all; done) | (simp at hg ⊢; simp [hg])), True.intro⟩, ⟨⟨(by first | exact hg | (simp_all; done) | (simp at hg ⊢; simp [hg])), True.intro⟩, True.intro⟩⟩, trivial⟩))) rfl rfl ?_
  refine L_g Tb_ok (v := .bool _) rfl rfl ((fun hg => (av rfl ⟨⟨⟨(by first | exact hg | (simp_all; done) | (simp at hg ⊢; simp [hg])), True.intro⟩, ⟨⟨(by first | exact hg | (simp_all; done) | (simp at hg ⊢; simp [hg])), True.intro⟩, True.intro⟩⟩, trivial⟩))) rfl rfl ?_
  refine L_v Tb_ok (v := .bool _) (av rfl (by refine ⟨?_, fun h => ?_, fun h => ?_⟩ <;> first | exact True.intro | exact ⟨h, True.intro⟩ | (refine ⟨?_, True.intro⟩; first | (rw [h]; done) | (rw [h]; rfl) | (simp [h]; done) | (simp at h hg ⊢; simp [h, hg]; done) | (simp_all; done) | (simp_all; omega)))) rfl ?_
  refine WL_nil ?_
  refine W_cond_f (b := _) rfl (by first | exact hc51 | rfl | decide | simp_all) ?_
  refine W_skip ?_
  refine W_seq ?_
  refine W_region rfl ?_
  refine L_v Tb_ok (v := .int _ _) (av rfl ⟨trivial, trivial⟩) rfl ?_
  refine WL_nil ?_
  refine W_seq ?_
  refine W_region rfl ?_
  refine L_v Tb_ok (v := .ptr _ _ _) (av rfl ⟨trivial, trivial⟩) rfl ?_
  refine L_v Tb_ok (v := .int _ _) (av rfl ⟨trivial, rfl⟩) rfl ?_
  refine L_make Tb_ok (el := 52) (sz := 2) (z := [.int .i64 0, .int .i64 0]) rfl rfl rfl rfl rfl rfl rfl rfl ⟨trivial, trivial⟩ (by first | (rw [hpn]; omega) | (rw [hpn, show (Tb.at 52).bytes = 16 from rfl]; omega)) (by first | (rw [hpn]; omega) | (rw [hpn, show (Tb.at 52).bytes = 16 from rfl]; omega)) rfl ?_
  first | (refine L_v Tb_ok (v := .ro _) (av rfl ⟨trivial, trivial⟩) rfl ?_) | (refine L_v Tb_ok (v := .app _ _) (av rfl ⟨trivial, trivial⟩) rfl ?_) | (refine L_v Tb_ok (v := .row _ _ _) (av rfl ⟨trivial, trivial⟩) rfl ?_) | (refine L_v Tb_ok (v := .nils) (av rfl ⟨trivial, trivial⟩) rfl ?_)
  refine WL_nil ?_
  refine W_seq ?_
  refine W_seq ?_
  refine W_region rfl ?_
  refine L_v Tb_ok (v := .agg [.int _ _, .int _ _, .int _ _, .int _ _, .int _ _, .int _ _, .int _ _, .int _ _, .int _ _, .int _ _, .int _ _, .int _ _, _, _, .int _ _, .int _ _, .int _ _, .int _ _, .int _ _, .int _ _, .int _ _, .int _ _, .int _ _, .int _ _, .int _ _, .int _ _, .int _ _, .int _ _, .int _ _]) (av rfl ⟨trivial, rfl⟩) rfl ?_
  refine L_v Tb_ok (v := .int _ _) (av rfl ⟨trivial, trivial⟩) rfl ?_
  refine L_v Tb_ok (v := .int _ _) (av rfl ⟨trivial, trivial⟩) rfl ?_
  refine L_call (hr := hpl) rfl rfl trivial rfl rfl ?_
  refine L_v Tb_ok (v := .int _ _) (av rfl ⟨trivial, trivial⟩) rfl ?_
  refine L_v Tb_ok (v := .int _ _) (av rfl ⟨trivial, trivial⟩) rfl ?_
  refine WL_nil ?_
  refine W_block ?_
  refine W_inv (ι := {k : Nat // k ≤ pl.length}) (fun k => ⟨[(2, .int .i64 ch), (11, .ptr 1 0 0), (13, .int .i64 0), (14, .row 2 0 (findS m op).Len.toNat), (58, .ro (pl.map intC)), (59, .int .i64 ((pl.map intC).length : Int)), (60, .int .i64 (k.1 : Int))], [(1, some ⟨81, 29, 0, [siteC (findS m op)]⟩), (2, some ⟨52, 2, 0, (ofP pl k.1).map termC⟩)], [], 3⟩) (fun k => pl.length - k.1) ⟨0, Nat.zero_le _⟩ (le_fit ⟨rfl, rfl, rfl, rfl, rfl, rfl, rfl, trivial⟩ ⟨.inr rfl, .inr ?_, trivial⟩ trivial rfl rfl rfl ?_ rfl) ?_
  · show some (Ob.mk _ _ _ (List.replicate (findS m op).Len.toNat _)) = _
    simp [ofP, hpn, termC]
  · simp [ltOB, termC, siteC, opC, shapeC, AV.lt]
  rintro ⟨k, hk⟩
  refine W_seq ?_
  refine W_region rfl ?_
  refine L_v Tb_ok (v := .bool _) (av rfl ⟨trivial, trivial⟩) rfl ?_
  refine WL_nil ?_
  refine W_seq ?_
  refine W_cond (b := _) rfl (fun h61 => ?_) (fun h61 => ?_)
  · have hlt : k < pl.length := by simpa using h61
    refine W_skip ?_
    refine W_seq ?_
    refine W_block ?_
    refine W_seq ?_
    refine W_region rfl ?_
    refine L_v Tb_ok (v := .int _ _) (av rfl ⟨trivial, trivial⟩) rfl ?_
    first | (refine L_v Tb_ok (v := _) (ave_index_ro rfl rfl rfl (fun _ => rfl) rfl (by first | omega | assumption | decide | (simp_all; done) | (simp_all; omega)) (by first | omega | assumption | decide | (simp_all; done) | (simp_all; omega)) trivial) rfl ?_) | (refine L_v Tb_ok (v := _) (ave_index_app rfl rfl rfl (fun _ => rfl) rfl (by first | omega | assumption | decide | (simp_all; done) | (simp_all; omega)) (by first | omega | assumption | decide | (simp_all; done) | (simp_all; omega)) trivial) rfl ?_) | (refine L_v Tb_ok (v := _) (ave_index_row rfl rfl rfl rfl rfl rfl (by first | omega | assumption | decide | (simp_all; done) | (simp_all; omega)) (by first | omega | assumption | decide | (simp_all; done) | (simp_all; omega)) trivial) rfl ?_) | (refine L_v Tb_ok (v := .rptr _) (av rfl ⟨trivial, ⟨(by first | omega | assumption | decide | (simp_all; done) | (simp_all; omega)), (by first | omega | assumption | decide | (simp_all; done) | (simp_all; omega))⟩, rfl⟩) rfl ?_) | (refine L_v Tb_ok (v := .ptr _ _ _) (av rfl ⟨trivial, ⟨(by first | omega | assumption | decide | (simp_all; done) | (simp_all; omega)), (by first | omega | assumption | decide | (simp_all; done) | (simp_all; omega))⟩, rfl⟩) rfl ?_)
    refine L_v Tb_ok (v := .int _ _) (av rfl ⟨trivial, rfl⟩) rfl ?_
    refine L_v Tb_ok (v := .int _ _) (av rfl ⟨trivial, trivial⟩) rfl ?_
    refine L_v Tb_ok (v := .int _ _) (av rfl ⟨trivial, trivial⟩) rfl ?_
    refine WL_nil ?_
    refine W_region rfl ?_
    first | (refine L_v Tb_ok (v := .ro _) (av rfl ⟨trivial, trivial⟩) rfl ?_) | (refine L_v Tb_ok (v := .app _ _) (av rfl ⟨trivial, trivial⟩) rfl ?_) | (refine L_v Tb_ok (v := .row _ _ _) (av rfl ⟨trivial, trivial⟩) rfl ?_) | (refine L_v Tb_ok (v := .nils) (av rfl ⟨trivial, trivial⟩) rfl ?_)
    refine L_v Tb_ok (v := .int _ _) (av rfl ⟨trivial, trivial⟩) rfl ?_
    refine L_v Tb_ok (v := .int _ _) (av rfl ⟨trivial, trivial⟩) rfl ?_
    refine L_v Tb_ok (v := .agg [.int _ _, .int _ _]) (av rfl ⟨trivial, rfl⟩) rfl ?_
    first | (refine L_v Tb_ok (v := _) (ave_index_ro rfl rfl rfl (fun _ => rfl) rfl (by first | omega | assumption | decide | (simp_all; done) | (simp_all; omega)) (by first | omega | assumption | decide | (simp_all; done) | (simp_all; omega)) trivial) rfl ?_) | (refine L_v Tb_ok (v := _) (ave_index_app rfl rfl rfl (fun _ => rfl) rfl (by first | omega | assumption | decide | (simp_all; done) | (simp_all; omega)) (by first | omega | assumption | decide | (simp_all; done) | (simp_all; omega)) trivial) rfl ?_) | (refine L_v Tb_ok (v := _) (ave_index_row rfl rfl rfl rfl rfl rfl (by first | omega | assumption | decide | (simp_all; done) | (simp_all; omega)) (by first | omega | assumption | decide | (simp_all; done) | (simp_all; omega)) trivial) rfl ?_) | (refine L_v Tb_ok (v := .rptr _) (av rfl ⟨trivial, ⟨(by first | omega | assumption | decide | (simp_all; done) | (simp_all; omega)), (by first | omega | assumption | decide | (simp_all; done) | (simp_all; omega))⟩, rfl⟩) rfl ?_) | (refine L_v Tb_ok (v := .ptr _ _ _) (av rfl ⟨trivial, ⟨(by first | omega | assumption | decide | (simp_all; done) | (simp_all; omega)), (by first | omega | assumption | decide | (simp_all; done) | (simp_all; omega))⟩, rfl⟩) rfl ?_)
    refine L_store_row Tb_ok (f := termC) (xs := ofP pl k) (v' := ⟨1, pl.getD k 0⟩) rfl rfl rfl rfl rfl rfl rfl rfl (by rw [ofP_len _ _ hk]; simp; omega) rfl ⟨trivial, trivial⟩ ?_
    refine WL_nil ?_
    refine W_region rfl ?_
    refine L_v Tb_ok (v := .int _ _) (av rfl ⟨trivial, trivial⟩) rfl ?_
    refine L_v Tb_ok (v := .int _ _) (av rfl ⟨trivial, trivial⟩) rfl ?_
    refine WL_nil ?_
    refine round_end ⟨k + 1, hlt⟩ (by dsimp only; omega) (le_fit ⟨rfl, rfl, rfl, rfl, rfl, rfl, congrArg _ (w_succ hlt (by omega)), trivial⟩ ⟨.inr rfl, .inr ?_, trivial⟩ trivial rfl rfl rfl ?_ rfl)
    · show some (Ob.mk 52 2 0 (((ofP pl k).set (0 + ((k : Nat) : Int).toNat) ⟨1, pl.getD k 0⟩).map termC)) = _
      rw [Nat.zero_add, Int.toNat_natCast, ofP_set pl k hlt]
    · simp [ltOB, termC, siteC, opC, shapeC, AV.lt]
  · have hke : k = pl.length := by simp at h61; omega
    subst hke
    refine W_exit ?_
    repeat (first | refine pass_then ?_ | refine pass_once ?_ | refine pass_le ?_ | refine pass_round ?_ | refine pass_for ?_ | refine blockQ_miss rfl ?_)
    refine blockQ_hit ?_
    refine W_seq ?_
    refine W_seq ?_
    refine W_region rfl ?_
    refine L_v Tb_ok (v := .ptr _ _ _) (av rfl ⟨trivial, trivial⟩) rfl ?_
    refine L_v Tb_ok (v := .ptr _ _ _) (av rfl ⟨trivial, trivial⟩) rfl ?_
    refine L_v Tb_ok (v := .int _ _) (av rfl ⟨trivial, rfl⟩) rfl ?_
    refine L_v Tb_ok (v := .bool _) (av rfl ⟨trivial, trivial⟩) rfl ?_
    refine WL_nil ?_
    refine W_cond_t (b := _) rfl (by first | exact hc74 | rfl | decide | simp_all) ?_
    refine W_seq ?_
    refine W_region rfl ?_
    refine L_v Tb_ok (v := .ptr _ _ _) (av rfl ⟨trivial, trivial⟩) rfl ?_
    refine L_v Tb_ok (v := .ptr _ _ _) (av rfl ⟨trivial, trivial⟩) rfl ?_
    first | (refine L_v Tb_ok (v := .ro _) (av rfl ⟨trivial, rfl⟩) rfl ?_) | (refine L_v Tb_ok (v := .app _ _) (av rfl ⟨trivial, rfl⟩) rfl ?_) | (refine L_v Tb_ok (v := .row _ _ _) (av rfl ⟨trivial, rfl⟩) rfl ?_) | (refine L_v Tb_ok (v := .nils) (av rfl ⟨trivial, rfl⟩) rfl ?_)
    refine L_v Tb_ok (v := .int _ _) (av rfl ⟨trivial, trivial⟩) rfl ?_
    refine L_v Tb_ok (v := .int _ _) (av rfl ⟨trivial, trivial⟩) rfl ?_
    first | (refine L_v Tb_ok (v := _) (ave_index_ro rfl rfl rfl (fun _ => rfl) rfl (by first | exact hb0 | exact hb1) (by first | exact hb0 | exact hb1) trivial) rfl ?_) | (refine L_v Tb_ok (v := _) (ave_index_app rfl rfl rfl (fun _ => rfl) rfl (by first | exact hb0 | exact hb1) (by first | exact hb0 | exact hb1) trivial) rfl ?_) | (refine L_v Tb_ok (v := _) (ave_index_row rfl rfl rfl rfl rfl rfl (by first | exact hb0 | exact hb1) (by first | exact hb0 | exact hb1) trivial) rfl ?_) | (refine L_v Tb_ok (v := .rptr _) (av rfl ⟨trivial, ⟨(by first | exact hb0 | exact hb1), (by first | exact hb0 | exact hb1)⟩, rfl⟩) rfl ?_) | (refine L_v Tb_ok (v := .ptr _ _ _) (av rfl ⟨trivial, ⟨(by first | exact hb0 | exact hb1), (by first | exact hb0 | exact hb1)⟩, rfl⟩) rfl ?_)
    refine L_v Tb_ok (v := .int _ _) (av rfl ⟨trivial, rfl⟩) rfl ?_
    refine L_v Tb_ok (v := .int _ _) (av rfl ⟨trivial, trivial⟩) rfl ?_
    refine L_v Tb_ok (v := .int _ _) (av rfl ⟨trivial, trivial⟩) rfl ?_
    refine WL_nil ?_
    refine W_seq ?_
    refine W_region rfl ?_
    refine L_v Tb_ok (v := .ptr _ _ _) (av rfl ⟨trivial, trivial⟩) rfl ?_
    refine L_v Tb_ok (v := .ptr _ _ _) (av rfl ⟨trivial, trivial⟩) rfl ?_
    first | (refine L_v Tb_ok (v := .ro _) (av rfl ⟨trivial, rfl⟩) rfl ?_) | (refine L_v Tb_ok (v := .app _ _) (av rfl ⟨trivial, rfl⟩) rfl ?_) | (refine L_v Tb_ok (v := .row _ _ _) (av rfl ⟨trivial, rfl⟩) rfl ?_) | (refine L_v Tb_ok (v := .nils) (av rfl ⟨trivial, rfl⟩) rfl ?_)
    refine L_v Tb_ok (v := .int _ _) (av rfl ⟨trivial, trivial⟩) rfl ?_
    refine L_v Tb_ok (v := .int _ _) (av rfl ⟨trivial, trivial⟩) rfl ?_
    refine L_v Tb_ok (v := .ptr _ _ _) (av rfl ⟨trivial, trivial⟩) rfl ?_
    refine L_v Tb_ok (v := .int _ _) (av rfl ⟨trivial, rfl⟩) rfl ?_
    refine L_v Tb_ok (v := .int _ _) (av rfl ⟨trivial, trivial⟩) rfl ?_
    refine L_v Tb_ok (v := .int _ _) (av rfl ⟨trivial, trivial⟩) rfl ?_
    refine L_v Tb_ok (v := .ptr _ _ _) (av rfl ⟨trivial, trivial⟩) rfl ?_
    refine L_v Tb_ok (v := .int _ _) (av rfl ⟨trivial, rfl⟩) rfl ?_
    refine L_v Tb_ok (v := .int _ _) (av rfl ⟨trivial, trivial⟩) rfl ?_
    refine L_slice Tb_ok (el := 57) (sz := 1) rfl rfl rfl rfl rfl rfl (fun c hc => by obtain ⟨x, _, rfl⟩ := List.mem_map.1 hc; rfl) (by first | exact hw0 | exact hw2 | (show w64 (w64 (ch - 1) * (findS m op).Len) ≤ w64 (ch * (findS m op).Len); omega) | (show w64 (ch * (findS m op).Len) ≤ ((((findS m op).Op.Weights.map i16C).length : Nat) : Int); rw [List.length_map]; exact hw2)) (by first | exact hw0 | exact hw2 | (show w64 (w64 (ch - 1) * (findS m op).Len) ≤ w64 (ch * (findS m op).Len); omega) | (show w64 (ch * (findS m op).Len) ≤ ((((findS m op).Op.Weights.map i16C).length : Nat) : Int); rw [List.length_map]; exact hw2)) (by first | exact hw0 | exact hw2 | (show w64 (w64 (ch - 1) * (findS m op).Len) ≤ w64 (ch * (findS m op).Len); omega) | (show w64 (ch * (findS m op).Len) ≤ ((((findS m op).Op.Weights.map i16C).length : Nat) : Int); rw [List.length_map]; exact hw2)) ⟨trivial, trivial, trivial⟩ rfl ?_
    refine L_v Tb_ok (v := .int _ _) (av rfl ⟨trivial, trivial⟩) rfl ?_
    refine L_v Tb_ok (v := .int _ _) (av rfl ⟨trivial, trivial⟩) rfl ?_
    refine WL_nil ?_
    refine W_block ?_
    refine W_inv (ι := {k : Nat // k ≤ pl.length}) (fun k => ⟨[(13, .int .i64 (w64 ((findS m op).Op.Bias.getD (w64 (ch - 1)).toNat default))), (14, .row 2 0 (findS m op).Len.toNat), (95, .ro ((ofWs (findS m op) ch).map i16C)), (96, .int .i64 (pl.length : Int)), (97, .int .i64 (k.1 : Int))], [(2, some ⟨52, 2, 0, (ofQ pl ((ofWs (findS m op) ch).map w64) k.1).map termC⟩)], [], 3⟩) (fun k => pl.length - k.1) ⟨0, Nat.zero_le _⟩ (le_fit ⟨rfl, rfl, congrArg AV.ro ?_, congrArg (AV.int .i64) ?_, rfl, trivial⟩ ⟨.inr ?_, trivial⟩ trivial rfl rfl rfl ?_ rfl) ?_
    · simp only [ofWs, List.map_take, List.map_drop]; rfl
    · rw [← hwl]; simp only [ofWs, List.length_take, List.length_drop, List.length_map]; rfl
    · rw [ofQ_zero]; rfl
    · simp [ltOB, termC, AV.lt]
    rintro ⟨j, hj⟩
    refine W_seq ?_
    refine W_region rfl ?_
    refine L_v Tb_ok (v := .bool _) (av rfl ⟨trivial, trivial⟩) rfl ?_
    refine WL_nil ?_
    refine W_seq ?_
    refine W_cond (b := _) rfl (fun h98 => ?_) (fun h98 => ?_)
    · have hlj : j < pl.length := by simpa using h98
      refine W_skip ?_
      refine W_seq ?_
      refine W_block ?_
      refine W_seq ?_
      refine W_region rfl ?_
      refine L_v Tb_ok (v := .int _ _) (av rfl ⟨trivial, trivial⟩) rfl ?_
      first | (refine L_v Tb_ok (v := _) (ave_index_ro rfl rfl rfl (fun _ => rfl) rfl (by first | omega | assumption | decide | (simp_all; done) | (simp_all; omega)) (by first | omega | assumption | decide | (simp_all; done) | (simp_all; omega)) trivial) rfl ?_) | (refine L_v Tb_ok (v := _) (ave_index_app rfl rfl rfl (fun _ => rfl) rfl (by first | omega | assumption | decide | (simp_all; done) | (simp_all; omega)) (by first | omega | assumption | decide | (simp_all; done) | (simp_all; omega)) trivial) rfl ?_) | (refine L_v Tb_ok (v := _) (ave_index_row rfl rfl rfl rfl rfl rfl (by first | omega | assumption | decide | (simp_all; done) | (simp_all; omega)) (by first | omega | assumption | decide | (simp_all; done) | (simp_all; omega)) trivial) rfl ?_) | (refine L_v Tb_ok (v := .rptr _) (av rfl ⟨trivial, ⟨(by first | omega | assumption | decide | (simp_all; done) | (simp_all; omega)), (by first | omega | assumption | decide | (simp_all; done) | (simp_all; omega))⟩, rfl⟩) rfl ?_) | (refine L_v Tb_ok (v := .ptr _ _ _) (av rfl ⟨trivial, ⟨(by first | omega | assumption | decide | (simp_all; done) | (simp_all; omega)), (by first | omega | assumption | decide | (simp_all; done) | (simp_all; omega))⟩, rfl⟩) rfl ?_)
      refine L_v Tb_ok (v := .int _ _) (av rfl ⟨trivial, rfl⟩) rfl ?_
      refine L_v Tb_ok (v := .int _ _) (av rfl ⟨trivial, trivial⟩) rfl ?_
      refine L_v Tb_ok (v := .int _ _) (av rfl ⟨trivial, trivial⟩) rfl ?_
      refine WL_nil ?_
      refine W_region rfl ?_
      first | (refine L_v Tb_ok (v := .ro _) (av rfl ⟨trivial, trivial⟩) rfl ?_) | (refine L_v Tb_ok (v := .app _ _) (av rfl ⟨trivial, trivial⟩) rfl ?_) | (refine L_v Tb_ok (v := .row _ _ _) (av rfl ⟨trivial, trivial⟩) rfl ?_) | (refine L_v Tb_ok (v := .nils) (av rfl ⟨trivial, trivial⟩) rfl ?_)
      refine L_v Tb_ok (v := .int _ _) (av rfl ⟨trivial, trivial⟩) rfl ?_
      refine L_v Tb_ok (v := .int _ _) (av rfl ⟨trivial, trivial⟩) rfl ?_
      refine L_v Tb_ok (v := .int _ _) (av rfl ⟨trivial, trivial⟩) rfl ?_
      first | (refine L_v Tb_ok (v := _) (ave_index_ro rfl rfl rfl (fun _ => rfl) rfl (by first | omega | assumption | decide | (simp_all; done) | (simp_all; omega)) (by first | omega | assumption | decide | (simp_all; done) | (simp_all; omega)) trivial) rfl ?_) | (refine L_v Tb_ok (v := _) (ave_index_app rfl rfl rfl (fun _ => rfl) rfl (by first | omega | assumption | decide | (simp_all; done) | (simp_all; omega)) (by first | omega | assumption | decide | (simp_all; done) | (simp_all; omega)) trivial) rfl ?_) | (refine L_v Tb_ok (v := _) (ave_index_row rfl rfl rfl rfl rfl rfl (by first | omega | assumption | decide | (simp_all; done) | (simp_all; omega)) (by first | omega | assumption | decide | (simp_all; done) | (simp_all; omega)) trivial) rfl ?_) | (refine L_v Tb_ok (v := .rptr _) (av rfl ⟨trivial, ⟨(by first | omega | assumption | decide | (simp_all; done) | (simp_all; omega)), (by first | omega | assumption | decide | (simp_all; done) | (simp_all; omega))⟩, rfl⟩) rfl ?_) | (refine L_v Tb_ok (v := .ptr _ _ _) (av rfl ⟨trivial, ⟨(by first | omega | assumption | decide | (simp_all; done) | (simp_all; omega)), (by first | omega | assumption | decide | (simp_all; done) | (simp_all; omega))⟩, rfl⟩) rfl ?_)
      first | (refine L_v Tb_ok (v := .ptr _ _ _) (av rfl ⟨trivial, trivial⟩) rfl ?_) | (refine L_v Tb_ok (v := .rptr _) (av rfl ⟨trivial, trivial⟩) rfl ?_)
      refine L_store_row Tb_ok (f := termC) (xs := ofQ pl ((ofWs (findS m op) ch).map w64) j) (v := .int _ _) (cs := [_]) (v' := ⟨((ofWs (findS m op) ch).map w64).getD j 0, ((ofQ pl ((ofWs (findS m op) ch).map w64) j).getD j default).At⟩) rfl rfl rfl rfl rfl rfl ?_ rfl ?_ rfl ⟨trivial, trivial⟩ ?_
      · have hlw : j < (ofWs (findS m op) ch).length := by omega
        simp [termC, w64, List.getD_eq_getElem?_getD, hlw]
      · rw [ofQ_len]; simp; omega
      refine WL_nil ?_
      refine W_region rfl ?_
      refine L_v Tb_ok (v := .int _ _) (av rfl ⟨trivial, trivial⟩) rfl ?_
      refine L_v Tb_ok (v := .int _ _) (av rfl ⟨trivial, trivial⟩) rfl ?_
      refine WL_nil ?_
      refine round_end ⟨j + 1, hlj⟩ (by dsimp only; omega) (le_fit ⟨rfl, rfl, rfl, rfl, congrArg _ (w_succ hlj (by omega)), trivial⟩ ⟨.inr ?_, trivial⟩ trivial rfl rfl rfl ?_ rfl)
      · show some (Ob.mk 52 2 0 (((ofQ pl ((ofWs (findS m op) ch).map w64) j).set (0 + ((j : Nat) : Int).toNat) ⟨((ofWs (findS m op) ch).map w64).getD j 0, ((ofQ pl ((ofWs (findS m op) ch).map w64) j).getD j default).At⟩).map termC)) = _
        rw [Nat.zero_add, Int.toNat_natCast, ofQ_set pl _ j hlj]
      · simp [ltOB, termC, AV.lt]
    · refine W_exit ?_
      repeat (first | refine pass_then ?_ | refine pass_once ?_ | refine pass_le ?_ | refine pass_round ?_ | refine pass_for ?_ | refine blockQ_miss rfl ?_)
      refine blockQ_hit ?_
      refine W_seq ?_
      refine W_region rfl ?_
      have hke : j = pl.length := by simp at h98; omega
      refine L_freeze (t := 14) (id := 2) (n := (findS m op).Len.toNat) (l := (ofQ pl ((ofWs (findS m op) ch).map w64) j).map termC) rfl rfl ?_ rfl rfl ?_ ?_ ?_
      · show _ = ((ofQ pl ((ofWs (findS m op) ch).map w64) j).map termC).length
        rw [List.length_map, ofQ_len, hpn]; rfl
      · show ((ofQ pl ((ofWs (findS m op) ch).map w64) j).map termC).map (·.map demC) = _
        simp [termC, demC]
      · simp [termC, grC]
      first | (refine L_v Tb_ok (v := .ro _) (av rfl ⟨trivial, trivial⟩) rfl ?_) | (refine L_v Tb_ok (v := .app _ _) (av rfl ⟨trivial, trivial⟩) rfl ?_) | (refine L_v Tb_ok (v := .row _ _ _) (av rfl ⟨trivial, trivial⟩) rfl ?_) | (refine L_v Tb_ok (v := .nils) (av rfl ⟨trivial, trivial⟩) rfl ?_)
      refine L_v Tb_ok (v := .int _ _) (av rfl ⟨trivial, trivial⟩) rfl ?_
      first | (refine L_v Tb_ok (v := .ro _) (av rfl ⟨trivial, trivial⟩) rfl ?_) | (refine L_v Tb_ok (v := .app _ _) (av rfl ⟨trivial, trivial⟩) rfl ?_) | (refine L_v Tb_ok (v := .row _ _ _) (av rfl ⟨trivial, trivial⟩) rfl ?_) | (refine L_v Tb_ok (v := .nils) (av rfl ⟨trivial, trivial⟩) rfl ?_)
      refine L_v Tb_ok (v := .int _ _) (av rfl ⟨trivial, trivial⟩) rfl ?_
      refine L_v Tb_ok (v := .int _ _) (av rfl ⟨trivial, trivial⟩) rfl ?_
      refine WL_nil ?_
      refine W_ret ?_
      first | (refine ends (l := [.app _ _, .int _ _, .int _ _]) (q := .tup [.ro _, .int _ _, .int _ _]) (.inr rfl) rfl ⟨trivial, trivial, trivial, trivial⟩ rfl rfl ?_) | (refine ends (l := [.nils, .int _ _, .int _ _]) (q := .tup [.ro _, .int _ _, .int _ _]) (.inr rfl) rfl ⟨trivial, trivial, trivial, trivial⟩ rfl rfl ?_) | (refine ends (l := [.ro _, .int _ _, .int _ _]) (q := .tup [.ro _, .int _ _, .int _ _]) (.inr rfl) rfl ⟨trivial, trivial, trivial, trivial⟩ rfl rfl ?_)
      rw [hke]
end Go.AM
end
section
open Go Go.AM Go.Proofs
set_option maxRecDepth 10000
set_option linter.unusedVariables false
set_option linter.unusedSimpArgs false
namespace Go.AM
/-- nothing is given -/
theorem window_Taps1 : ItOk Try.prog 55 [] [] := by
  refine it_ok (fn := Try.f55) Try.func55 rfl (n := 2) rfl rfl rfl rfl ?_
  intro ic cc hok hxs hpin
  simp only [pinEnv, Nat.reduceAdd]
  refine V_skip ?_
  exact ⟨by first | exact .inl rfl | exact .inr rfl, .inr rfl⟩
/-- the place that a tap covers -/
def tapPlace (s : Shape) (w : Window) (top left : Int) (k : Int) : Int :=
  let y := w64 (top + w64 (k.tdiv w.KW)); let x := w64 (left + k.tmod w.KW)
  bif bif inB y 0 (w64 (s.H - 1)) then inB x 0 (w64 (s.W - 1)) else false then w64 (w64 (y * s.W) + x) else -1
def tapN (w : Window) : Nat := (w64 (w.KH * w.KW)).toNat
def tapList (s : Shape) (w : Window) (top left : Int) : List (List AV) := (List.range (tapN w)).map fun (k : Nat) => [.int .i64 (k : Int), .int .i64 (tapPlace s w top left k)]
theorem tap_get {s : Shape} {w : Window} {top left : Int} {k : Nat} {v : Int} (h : k < tapN w) (hv : tapPlace s w top left k = v) : (tapList s w top left)[k]? = some [.int .i64 (k : Int), .int .i64 v] := by
  subst hv; simp [tapList, h]
theorem window_Taps2 (s : Shape) (w : Window) (top left : Int) (h0 : w.KW ≠ 0) (h1 : 0 ≤ w64 (w.KH * w.KW)) (hB : w64 (w.KH * w.KW) ≤ 4611686018427387904) : ItOk Try.prog 56 [.rptr (windowC w), .rptr [.int .i64 top], .rptr [.int .i64 left], .rptr (shapeC s)] (tapList s w top left) := by
  have hN : w64 (w.KH * w.KW) = (tapN w : Int) := by simp only [tapN]; omega
  refine it_ok (fn := Try.f56) Try.func56 rfl (n := 54) rfl rfl rfl rfl ?_
  intro ic cc hok hxs hpin
  simp only [pinEnv, Nat.reduceAdd]
  refine V_seq ?_
  refine V_of_W ?_
  refine W_region rfl ?_
  first | (refine L_v Tb_ok (v := .ptr _ _ _) (av rfl ⟨trivial, trivial⟩) rfl ?_) | (refine L_v Tb_ok (v := .rptr _) (av rfl ⟨trivial, trivial⟩) rfl ?_)
  refine L_v Tb_ok (v := .int _ _) (av rfl ⟨trivial, rfl⟩) rfl ?_
  first | (refine L_v Tb_ok (v := .ptr _ _ _) (av rfl ⟨trivial, trivial⟩) rfl ?_) | (refine L_v Tb_ok (v := .rptr _) (av rfl ⟨trivial, trivial⟩) rfl ?_)
  refine L_v Tb_ok (v := .int _ _) (av rfl ⟨trivial, rfl⟩) rfl ?_
  refine L_v Tb_ok (v := .int _ _) (av rfl ⟨trivial, trivial⟩) rfl ?_
  refine L_v Tb_ok (v := .int _ _) (av rfl ⟨trivial, trivial⟩) rfl ?_
  refine WL_nil ?_
  refine V_block ?_
  refine V_for (tapN w) (fun k => ⟨[(0, .yl ic.l), (1, .pin (cc 0) (.rptr (windowC w))), (2, .pin (cc 1) (.rptr [.int .i64 top])), (3, .pin (cc 2) (.rptr [.int .i64 left])), (4, .pin (cc 3) (.rptr (shapeC s))), (14, .int .i64 (w64 (w.KH * w.KW))), (15, .int .i64 (k : Int))], [], [], 100⟩) (le_env ⟨rfl, rfl, rfl, rfl, rfl, rfl, rfl, trivial⟩) ?_
  intro k hk
  refine V_seq ?_
  refine V_of_W ?_
  refine W_region rfl ?_
  refine L_v Tb_ok (v := .bool _) (av rfl ⟨trivial, trivial⟩) rfl ?_
  refine WL_nil ?_
  refine V_seq ?_
  refine V_cond (b := _) rfl (fun h16 => ?_) (fun h16 => ?_)
  · have hlt : k < tapN w := by rw [hN] at h16; simpa using h16
    refine V_skip ?_
    refine V_seq ?_
    refine V_block ?_
    refine V_seq ?_
    refine V_of_W ?_
    refine W_region rfl ?_
    refine L_v Tb_ok (v := .int _ _) (av rfl ⟨trivial, trivial⟩) rfl ?_
    refine L_v Tb_ok (v := .int _ _) (av rfl ⟨trivial, trivial⟩) rfl ?_
    refine WL_nil ?_
    refine V_seq ?_
    refine V_of_W ?_
    refine W_draw 14 Tb_mixed rfl (by decide) (by kernel_rfl) (by kernel_rfl) ?_
    refine E_v Tb_ok (v := .int _ _) (av rfl ⟨trivial, rfl⟩) rfl ?_
    refine E_v Tb_ok (v := .int _ _) (av rfl ⟨trivial, trivial⟩) rfl ?_
    first | (refine E_v Tb_ok (v := .ptr _ _ _) (av rfl ⟨trivial, trivial⟩) rfl ?_) | (refine E_v Tb_ok (v := .rptr _) (av rfl ⟨trivial, trivial⟩) rfl ?_)
    refine E_v Tb_ok (v := .int _ _) (av rfl ⟨trivial, rfl⟩) rfl ?_
    refine E_v Tb_ok (v := .int _ _) (av rfl ⟨trivial, (by exact h0)⟩) rfl ?_
    refine E_v Tb_ok (v := .int _ _) (av rfl ⟨trivial, trivial⟩) rfl ?_
    refine E_v Tb_ok (v := .int _ _) (av rfl ⟨trivial, rfl⟩) rfl ?_
    refine E_v Tb_ok (v := .int _ _) (av rfl ⟨trivial, trivial⟩) rfl ?_
    first | (refine E_v Tb_ok (v := .ptr _ _ _) (av rfl ⟨trivial, trivial⟩) rfl ?_) | (refine E_v Tb_ok (v := .rptr _) (av rfl ⟨trivial, trivial⟩) rfl ?_)
    refine E_v Tb_ok (v := .int _ _) (av rfl ⟨trivial, rfl⟩) rfl ?_
    refine E_v Tb_ok (v := .int _ _) (av rfl ⟨trivial, (by exact h0)⟩) rfl ?_
    refine E_v Tb_ok (v := .int _ _) (av rfl ⟨trivial, trivial⟩) rfl ?_
    refine E_v Tb_ok (v := .int _ _) (av rfl ⟨trivial, trivial⟩) rfl ?_
    refine E_v Tb_ok (v := .int _ _) (av rfl ⟨trivial, trivial⟩) rfl ?_
    refine LexE_nil ?_
    refine WL_nil ?_
    refine V_seq ?_
    refine V_of_W ?_
    refine W_region rfl ?_
    refine L_v Tb_ok (v := .int _ _) (av rfl ⟨trivial, trivial⟩) rfl ?_
    refine WL_nil ?_
    refine V_seq ?_
    refine V_seq ?_
    refine V_of_W ?_
    refine W_region rfl ?_
    refine L_v Tb_ok (v := .int _ _) (av rfl ⟨trivial, trivial⟩) rfl ?_
    first | (refine L_v Tb_ok (v := .ptr _ _ _) (av rfl ⟨trivial, trivial⟩) rfl ?_) | (refine L_v Tb_ok (v := .rptr _) (av rfl ⟨trivial, trivial⟩) rfl ?_)
    refine L_v Tb_ok (v := .int _ _) (av rfl ⟨trivial, rfl⟩) rfl ?_
    refine L_v Tb_ok (v := .int _ _) (av rfl ⟨trivial, trivial⟩) rfl ?_
    refine L_call (hr := within _ _ _) rfl rfl trivial rfl rfl ?_
    refine L_v Tb_ok (v := .bool _) (av rfl ⟨trivial, trivial⟩) rfl ?_
    refine L_g Tb_ok (v := .int _ _) rfl rfl ((fun hg => (av rfl ⟨trivial, trivial⟩))) rfl rfl ?_
    first | (refine L_g Tb_ok (v := .ptr _ _ _) rfl rfl ((fun hg => (av rfl ⟨trivial, trivial⟩))) rfl rfl ?_) | (refine L_g Tb_ok (v := .rptr _) rfl rfl ((fun hg => (av rfl ⟨trivial, trivial⟩))) rfl rfl ?_)
    refine L_g Tb_ok (v := .int _ _) rfl rfl ((fun hg => (av rfl ⟨⟨⟨(by first | exact hg | (simp_all; done) | (simp at hg ⊢; simp [hg])), True.intro⟩, True.intro⟩, rfl⟩))) rfl rfl ?_
    refine L_g Tb_ok (v := .int _ _) rfl rfl ((fun hg => (av rfl ⟨⟨⟨(by first | exact hg | (simp_all; done) | (simp at hg ⊢; simp [hg])), True.intro⟩, True.intro⟩, trivial⟩))) rfl rfl ?_
    refine L_callg (hr := fun hg => within _ _ _) rfl rfl rfl rfl rfl (fun hg => ⟨⟨(by first | exact hg | (simp_all; done) | (simp at hg ⊢; simp [hg])), True.intro⟩, ⟨⟨(by first | exact hg | (simp_all; done) | (simp at hg ⊢; simp [hg])), True.intro⟩, True.intro⟩⟩) rfl rfl ?_
    refine L_v Tb_ok (v := .bool _) (av rfl (by refine ⟨?_, fun h => ?_, fun h => ?_⟩ <;> first | exact True.intro | exact ⟨h, True.intro⟩ | (refine ⟨?_, True.intro⟩; first | (rw [h]; done) | (rw [h]; rfl) | (simp [h]; done) | (simp at h hg ⊢; simp [h, hg]; done) | (simp_all; done) | (simp_all; omega)))) rfl ?_
    refine WL_nil ?_
    refine V_cond (b := _) rfl (fun h41 => ?_) (fun h41 => ?_)
    · have hv : tapPlace s w top left k = w64 (w64 (w64 (top + w64 ((k : Int).tdiv w.KW)) * s.W) + w64 (left + (k : Int).tmod w.KW)) := by simp only [tapPlace, w64]; rw [h41]; rfl
      refine V_of_W ?_
      refine W_region rfl ?_
      refine L_v Tb_ok (v := .int _ _) (av rfl ⟨trivial, trivial⟩) rfl ?_
      first | (refine L_v Tb_ok (v := .ptr _ _ _) (av rfl ⟨trivial, trivial⟩) rfl ?_) | (refine L_v Tb_ok (v := .rptr _) (av rfl ⟨trivial, trivial⟩) rfl ?_)
      refine L_v Tb_ok (v := .int _ _) (av rfl ⟨trivial, rfl⟩) rfl ?_
      refine L_v Tb_ok (v := .int _ _) (av rfl ⟨trivial, trivial⟩) rfl ?_
      refine L_v Tb_ok (v := .int _ _) (av rfl ⟨trivial, trivial⟩) rfl ?_
      refine L_v Tb_ok (v := .int _ _) (av rfl ⟨trivial, trivial⟩) rfl ?_
      refine L_v Tb_ok (v := .int _ _) (av rfl ⟨trivial, trivial⟩) rfl ?_
      refine WL_nil ?_
      refine V_seq ?_
      refine V_region rfl ?_
      refine VL_pre [_, _, _] _ rfl ?_
      first | (refine L_v Tb_ok (v := .fn _ _ _) (av rfl ⟨trivial, trivial⟩) rfl ?_) | (refine L_v Tb_ok (v := .nilf) (av rfl ⟨trivial, trivial⟩) rfl ?_) | (refine L_v Tb_ok (v := .yl _) (av rfl ⟨trivial, trivial⟩) rfl ?_)
      refine L_v Tb_ok (v := .int _ _) (av rfl ⟨trivial, trivial⟩) rfl ?_
      refine L_v Tb_ok (v := .int _ _) (av rfl ⟨trivial, trivial⟩) rfl ?_
      refine WL_nil ?_
      refine VL_yield hok rfl trivial rfl rfl trivial (by rw [hxs]; exact tap_get hlt hv) (by rw [hpin]; simp [pinsIn, pinsOf]) rfl ?_ ?_
      · refine VL_pre [_] [] rfl ?_
        refine L_v Tb_ok (v := .bool _) (av rfl ⟨trivial, trivial⟩) rfl ?_
        refine WL_nil ?_
        refine VL_nil ?_
        refine V_cond_f (b := _) rfl (by first | exact hc52 | rfl | decide | simp_all) ?_
        refine V_skip ?_
        refine V_of_W ?_
        refine W_region rfl ?_
        refine L_v Tb_ok (v := .int _ _) (av rfl ⟨trivial, trivial⟩) rfl ?_
        refine L_v Tb_ok (v := .int _ _) (av rfl ⟨trivial, trivial⟩) rfl ?_
        refine WL_nil ?_
        refine forV_end hlt (le_fit ⟨rfl, rfl, rfl, rfl, rfl, rfl, congrArg _ (w_succ hlt (by omega)), trivial⟩ trivial trivial rfl rfl rfl rfl rfl)
      · refine VL_pre [_] [] rfl ?_
        refine L_v Tb_ok (v := .bool _) (av rfl ⟨trivial, trivial⟩) rfl ?_
        refine WL_nil ?_
        refine VL_nil ?_
        refine V_cond_t (b := _) rfl (by first | exact hc52 | rfl | decide | simp_all) ?_
        refine V_ret ?_
        exact ⟨by first | exact .inl rfl | exact .inr rfl, by first | exact .inl rfl | exact .inr (by rw [hke]; simp [tapList])⟩
    · have hv : tapPlace s w top left k = -1 := by simp only [tapPlace, w64]; rw [h41]; rfl
      refine V_skip ?_
      refine V_seq ?_
      refine V_region rfl ?_
      refine VL_pre [_, _, _] _ rfl ?_
      first | (refine L_v Tb_ok (v := .fn _ _ _) (av rfl ⟨trivial, trivial⟩) rfl ?_) | (refine L_v Tb_ok (v := .nilf) (av rfl ⟨trivial, trivial⟩) rfl ?_) | (refine L_v Tb_ok (v := .yl _) (av rfl ⟨trivial, trivial⟩) rfl ?_)
      refine L_v Tb_ok (v := .int _ _) (av rfl ⟨trivial, trivial⟩) rfl ?_
      refine L_v Tb_ok (v := .int _ _) (av rfl ⟨trivial, trivial⟩) rfl ?_
      refine WL_nil ?_
      refine VL_yield hok rfl trivial rfl rfl trivial (by rw [hxs]; exact tap_get hlt hv) (by rw [hpin]; simp [pinsIn, pinsOf]) rfl ?_ ?_
      · refine VL_pre [_] [] rfl ?_
        refine L_v Tb_ok (v := .bool _) (av rfl ⟨trivial, trivial⟩) rfl ?_
        refine WL_nil ?_
        refine VL_nil ?_
        refine V_cond_f (b := _) rfl (by first | exact hc52 | rfl | decide | simp_all) ?_
        refine V_skip ?_
        refine V_of_W ?_
        refine W_region rfl ?_
        refine L_v Tb_ok (v := .int _ _) (av rfl ⟨trivial, trivial⟩) rfl ?_
        refine L_v Tb_ok (v := .int _ _) (av rfl ⟨trivial, trivial⟩) rfl ?_
        refine WL_nil ?_
        refine forV_end hlt (le_fit ⟨rfl, rfl, rfl, rfl, rfl, rfl, congrArg _ (w_succ hlt (by omega)), trivial⟩ trivial trivial rfl rfl rfl rfl rfl)
      · refine VL_pre [_] [] rfl ?_
        refine L_v Tb_ok (v := .bool _) (av rfl ⟨trivial, trivial⟩) rfl ?_
        refine WL_nil ?_
        refine VL_nil ?_
        refine V_cond_t (b := _) rfl (by first | exact hc52 | rfl | decide | simp_all) ?_
        refine V_ret ?_
        exact ⟨by first | exact .inl rfl | exact .inr rfl, by first | exact .inl rfl | exact .inr (by rw [hke]; simp [tapList])⟩
  · have hke : k = tapN w := by rw [hN] at h16; simp at h16; omega
    refine V_exit ?_
    repeat (first | refine passV_then ?_ | refine passV_round ?_ | refine passV_for ?_ | refine blockV_miss rfl ?_)
    refine blockV_hit ?_
    exact ⟨by first | exact .inl rfl | exact .inr rfl, by first | exact .inl rfl | exact .inr (by rw [hke]; simp [tapList])⟩
end Go.AM
end
section
open Go Go.AM Go.Proofs
set_option maxRecDepth 10000
set_option linter.unusedVariables false
set_option linter.unusedSimpArgs false
namespace Go.AM
/-- what a tap gives, a channel after the other -/
def plRow (C first : Int) (cnt : Nat) (p : Int) : List Int := (List.range cnt).map fun (c : Nat) => bif decide (p < 0) then -1 else w64 (w64 (p * C) + (first + (c : Int)))
def plOut (s : Shape) (w : Window) (top left first : Int) (cnt k : Nat) : List Int := (List.range k).flatMap fun (i : Nat) => plRow s.C first cnt (tapPlace s w top left i)
theorem plRow_len (C first p : Int) (cnt : Nat) : (plRow C first cnt p).length = cnt := by simp [plRow]
theorem plOut_len (s : Shape) (w : Window) (top left first : Int) (cnt k : Nat) : (plOut s w top left first cnt k).length = k * cnt := by
  induction k with
  | zero => simp [plOut]
  | succ k ih =>
    have : plOut s w top left first cnt (k + 1) = plOut s w top left first cnt k ++ plRow s.C first cnt (tapPlace s w top left k) := by simp [plOut, List.range_succ]
    rw [this, List.length_append, ih, plRow_len, Nat.add_mul, Nat.one_mul]
theorem plOut_succ (s : Shape) (w : Window) (top left first : Int) (cnt k : Nat) : plOut s w top left first cnt (k + 1) = plOut s w top left first cnt k ++ plRow s.C first cnt (tapPlace s w top left k) := by simp [plOut, List.range_succ]
theorem plRow_take (C first p : Int) (cnt j : Nat) (L : List Int) (v : Int) (h : j < cnt) (hv : (bif decide (p < 0) then -1 else w64 (w64 (p * C) + (first + (j : Int)))) = v) : (L ++ (plRow C first cnt p).take j) ++ [v] = L ++ (plRow C first cnt p).take (j + 1) := by
  rw [List.append_assoc, List.take_add_one]
  congr 2
  simp [plRow, h, hv]
theorem tap_inv {s : Shape} {w : Window} {top left : Int} {k : Nat} {x : List AV} (h : (tapList s w top left)[k]? = some x) : k < tapN w ∧ x = [.int .i64 (k : Int), .int .i64 (tapPlace s w top left k)] := by
  simp only [tapList, List.getElem?_map] at h
  by_cases hk : k < tapN w
  · simp [hk] at h; exact ⟨hk, h.symm⟩
  · simp [hk] at h
def plFirst (o : MOp) (ch : Int) : Int × Int := bif o.Kind == 2 then (0, w64 (ch - 1)) else (w64 (ch - 1), w64 (ch - 1))
theorem terms_places_dense (S : Site) (ch at_ : Int) (hc17 : (S.Op.Kind == 1) = true) (hl0 : 0 ≤ S.Len) (hl : S.Len ≤ 16777216) :
    Ok Try.prog 32 [.agg (siteC S), .int .i64 ch, .int .i64 at_] (.ro (((List.range S.Len.toNat).map fun (k : Nat) => (k : Int)).map intC)) := by
  have hN : S.Len = ((S.Len.toNat : Nat) : Int) := by omega
  refine fn_ok Tb_ok (fn := Try.f32) Try.func32 rfl rfl (e := [(0, _), (1, _), (2, _)]) rfl (by decide) rfl ?_
  refine W_seq ?_
  refine W_region rfl ?_
  refine L_box Tb_ok (cs := [.int _ _, .int _ _, .int _ _, .int _ _, .int _ _, .int _ _, .int _ _, .int _ _, .int _ _, .int _ _, .int _ _, .int _ _, _, _, .int _ _, .int _ _, .int _ _, .int _ _, .int _ _, .int _ _, .int _ _, .int _ _, .int _ _, .int _ _, .int _ _, .int _ _, .int _ _, .int _ _, .int _ _]) (n := 29) rfl rfl rfl rfl trivial ?_
  refine L_v Tb_ok (v := .nils) (av rfl ⟨trivial, trivial⟩) rfl ?_
  refine WL_nil ?_
  refine W_seq ?_
  refine W_region rfl ?_
  refine L_alloc Tb_ok (z := [.nils]) (n := 1) rfl rfl rfl rfl rfl ?_
  refine WL_nil ?_
  refine W_seq ?_
  refine W_seq ?_
  refine W_region rfl ?_
  refine L_v Tb_ok (v := .ptr _ _ _) (av rfl ⟨trivial, trivial⟩) rfl ?_
  refine L_v Tb_ok (v := .ptr _ _ _) (av rfl ⟨trivial, trivial⟩) rfl ?_
  refine L_v Tb_ok (v := .int _ _) (av rfl ⟨trivial, rfl⟩) rfl ?_
  refine L_v Tb_ok (v := .bool _) (av rfl ⟨trivial, trivial⟩) rfl ?_
  refine WL_nil ?_
  refine W_cond_t (b := _) rfl (by first | exact hc17 | rfl | decide | simp_all) ?_
  refine W_seq ?_
  refine W_seq ?_
  refine W_region rfl ?_
  refine L_v Tb_ok (v := .ptr _ _ _) (av rfl ⟨trivial, trivial⟩) rfl ?_
  refine L_v Tb_ok (v := .int _ _) (av rfl ⟨trivial, rfl⟩) rfl ?_
  refine L_v Tb_ok (v := .int _ _) (av rfl ⟨trivial, trivial⟩) rfl ?_
  refine WL_nil ?_
  refine W_block ?_
  refine W_nilO (id := 1) (j := 0) (el := 3) (esz := 1) rfl rfl rfl rfl ?_
  refine W_for S.Len.toNat (fun k => ⟨[(3, .ptr 0 0 0), (7, .ptr 1 0 0), (19, .int .i64 S.Len), (20, .int .i64 (k : Int))], [(1, some ⟨56, 1, 0, [[.app 2 (((List.range k).map fun (k : Nat) => (k : Int)).map intC)]]⟩)], [(2, some (3, 1, ((List.range k).map fun (k : Nat) => (k : Int)).length))], 3⟩) (le_fit ⟨rfl, rfl, rfl, rfl, trivial⟩ ⟨.inr rfl, trivial⟩ ⟨.inr rfl, trivial⟩ rfl rfl rfl rfl rfl) ?_
  intro k hk
  have e1 : ((List.range k).map fun (k : Nat) => (k : Int)) ++ [(k : Int)] = (List.range (k + 1)).map fun (k : Nat) => (k : Int) := by simp [List.range_succ]
  refine W_seq ?_
  refine W_region rfl ?_
  refine L_v Tb_ok (v := .bool _) (av rfl ⟨trivial, trivial⟩) rfl ?_
  refine WL_nil ?_
  refine W_seq ?_
  refine W_cond (b := _) rfl (fun h21 => ?_) (fun h21 => ?_)
  · have hlt : k < S.Len.toNat := by have := of_decide_eq_true h21; omega
    refine W_skip ?_
    refine W_seq ?_
    refine W_block ?_
    refine W_seq ?_
    refine W_region rfl ?_
    refine L_v Tb_ok (v := .int _ _) (av rfl ⟨trivial, trivial⟩) rfl ?_
    refine L_v Tb_ok (v := .int _ _) (av rfl ⟨trivial, trivial⟩) rfl ?_
    refine WL_nil ?_
    refine W_region rfl ?_
    first | (refine L_v Tb_ok (v := .ro _) (av rfl ⟨trivial, rfl⟩) rfl ?_) | (refine L_v Tb_ok (v := .app _ _) (av rfl ⟨trivial, rfl⟩) rfl ?_) | (refine L_v Tb_ok (v := .row _ _ _) (av rfl ⟨trivial, rfl⟩) rfl ?_) | (refine L_v Tb_ok (v := .nils) (av rfl ⟨trivial, rfl⟩) rfl ?_)
    refine L_v Tb_ok (v := .int _ _) (av rfl ⟨trivial, trivial⟩) rfl ?_
    refine L_build Tb_ok (t := 56) (len := 1) (el := 3) (sz := 1) (es := [[_]]) (z := [.int .i64 0]) rfl rfl rfl rfl rfl (by decide) trivial rfl rfl rfl rfl rfl ?_
    refine L_app1 Tb_ok (f := intC) (v := (k : Int)) (tok := 2) (el := 3) (sz := 1) rfl rfl rfl rfl rfl ⟨trivial, trivial⟩ (fun _ => ⟨rfl, rfl⟩) (by rw [show (Tb.at 3).bytes = 8 from rfl]; simp; omega) rfl ?_
    first | (refine L_store Tb_ok (v := .ro _) (cs := [_]) (es' := [[_]]) rfl rfl rfl rfl rfl rfl rfl rfl rfl rfl ⟨trivial, trivial⟩ ?_) | (refine L_store Tb_ok (v := .app _ _) (cs := [_]) (es' := [[_]]) rfl rfl rfl rfl rfl rfl rfl rfl rfl rfl ⟨trivial, trivial⟩ ?_) | (refine L_store Tb_ok (v := .row _ _ _) (cs := [_]) (es' := [[_]]) rfl rfl rfl rfl rfl rfl rfl rfl rfl rfl ⟨trivial, trivial⟩ ?_) | (refine L_store Tb_ok (v := .nils) (cs := [_]) (es' := [[_]]) rfl rfl rfl rfl rfl rfl rfl rfl rfl rfl ⟨trivial, trivial⟩ ?_)
    refine WL_nil ?_
    refine W_region rfl ?_
    refine L_v Tb_ok (v := .int _ _) (av rfl ⟨trivial, trivial⟩) rfl ?_
    refine L_v Tb_ok (v := .int _ _) (av rfl ⟨trivial, trivial⟩) rfl ?_
    refine WL_nil ?_
    refine for_end hlt (le_fit ⟨rfl, rfl, rfl, congrArg _ (w_succ hlt (by omega)), trivial⟩ ⟨.inr ?_, trivial⟩ ⟨.inr ?_, trivial⟩ rfl rfl rfl rfl rfl)
    · show some (Ob.mk 56 1 0 [[.app 2 ((((List.range k).map fun (k : Nat) => (k : Int)) ++ [(k : Int)]).map intC)]]) = _
      rw [e1]
    · show some (3, 1, (((List.range k).map fun (k : Nat) => (k : Int)) ++ [(k : Int)]).length) = _
      rw [e1]
  · have hke : k = S.Len.toNat := by have := of_decide_eq_false h21; omega
    refine W_exit ?_
    repeat (first | refine pass_then ?_ | refine pass_once ?_ | refine pass_le ?_ | refine pass_round ?_ | refine pass_for ?_ | refine blockQ_miss rfl ?_)
    refine blockQ_hit ?_
    refine W_seq ?_
    refine W_region rfl ?_
    first | (refine L_v Tb_ok (v := .ro _) (av rfl ⟨trivial, rfl⟩) rfl ?_) | (refine L_v Tb_ok (v := .app _ _) (av rfl ⟨trivial, rfl⟩) rfl ?_) | (refine L_v Tb_ok (v := .row _ _ _) (av rfl ⟨trivial, rfl⟩) rfl ?_) | (refine L_v Tb_ok (v := .nils) (av rfl ⟨trivial, rfl⟩) rfl ?_)
    first | (refine L_v Tb_ok (v := .ro _) (av rfl ⟨trivial, trivial⟩) rfl ?_) | (refine L_v Tb_ok (v := .app _ _) (av rfl ⟨trivial, trivial⟩) rfl ?_) | (refine L_v Tb_ok (v := .row _ _ _) (av rfl ⟨trivial, trivial⟩) rfl ?_) | (refine L_v Tb_ok (v := .nils) (av rfl ⟨trivial, trivial⟩) rfl ?_)
    refine WL_nil ?_
    refine W_ret ?_
    first | (refine ends (l := [.app _ _]) (q := .ro _) (.inr rfl) rfl ⟨trivial, trivial⟩ rfl rfl ?_) | (refine ends (l := [.nils]) (q := .ro _) (.inr rfl) rfl ⟨trivial, trivial⟩ rfl rfl ?_) | (refine ends (l := [.ro _]) (q := .ro _) (.inr rfl) rfl ⟨trivial, trivial⟩ rfl rfl ?_)
    rw [hke]
theorem terms_places_taps (S : Site) (ch at_ : Int) (hc17 : (S.Op.Kind == 1) = false) (hbad : tapsBad S.In S.Op.Win at_ = false) (hkw : S.Op.Win.KW ≠ 0) (hn : 0 ≤ w64 (S.Op.Win.KH * S.Op.Win.KW)) (hn2 : w64 (S.Op.Win.KH * S.Op.Win.KW) ≤ 4096) (cnt : Nat) (hcnt : cnt ≤ 4096) (f l : Int) (hf0 : 0 ≤ f) (hf1 : f ≤ 1000000) (hl : l = f + cnt - 1)
    (hX : (bif S.Op.Kind == 2 then ((0 : Int), w64 (S.In.C - 1)) else (w64 (ch - 1), w64 (ch - 1))) = (f, l)) :
    Ok Try.prog 32 [.agg (siteC S), .int .i64 ch, .int .i64 at_] (.ro ((plOut S.In S.Op.Win (tapsTop S.In S.Op.Win at_) (tapsLeft S.In S.Op.Win at_) f cnt (tapN S.Op.Win)).map intC)) := by
  have hT : tapN S.Op.Win ≤ 4096 := by simp only [tapN]; omega
  refine fn_ok Tb_ok (fn := Try.f32) Try.func32 rfl rfl (e := [(0, _), (1, _), (2, _)]) rfl (by decide) rfl ?_
  refine W_seq ?_
  refine W_region rfl ?_
  refine L_box Tb_ok (cs := [.int _ _, .int _ _, .int _ _, .int _ _, .int _ _, .int _ _, .int _ _, .int _ _, .int _ _, .int _ _, .int _ _, .int _ _, _, _, .int _ _, .int _ _, .int _ _, .int _ _, .int _ _, .int _ _, .int _ _, .int _ _, .int _ _, .int _ _, .int _ _, .int _ _, .int _ _, .int _ _, .int _ _]) (n := 29) rfl rfl rfl rfl trivial ?_
  refine L_v Tb_ok (v := .nils) (av rfl ⟨trivial, trivial⟩) rfl ?_
  refine WL_nil ?_
  refine W_seq ?_
  refine W_region rfl ?_
  refine L_alloc Tb_ok (z := [.nils]) (n := 1) rfl rfl rfl rfl rfl ?_
  refine WL_nil ?_
  refine W_seq ?_
  refine W_seq ?_
  refine W_region rfl ?_
  refine L_v Tb_ok (v := .ptr _ _ _) (av rfl ⟨trivial, trivial⟩) rfl ?_
  refine L_v Tb_ok (v := .ptr _ _ _) (av rfl ⟨trivial, trivial⟩) rfl ?_
  refine L_v Tb_ok (v := .int _ _) (av rfl ⟨trivial, rfl⟩) rfl ?_
  refine L_v Tb_ok (v := .bool _) (av rfl ⟨trivial, trivial⟩) rfl ?_
  refine WL_nil ?_
  refine W_cond_f (b := _) rfl (by first | exact hc17 | rfl | decide | simp_all) ?_
  refine W_skip ?_
  refine W_seq ?_
  refine W_region rfl ?_
  refine L_v Tb_ok (v := .int _ _) (av rfl ⟨trivial, trivial⟩) rfl ?_
  refine L_v Tb_ok (v := .int _ _) (av rfl ⟨trivial, trivial⟩) rfl ?_
  refine L_v Tb_ok (v := .int _ _) (av rfl ⟨trivial, trivial⟩) rfl ?_
  refine L_v Tb_ok (v := .int _ _) (av rfl ⟨trivial, trivial⟩) rfl ?_
  refine L_alloc Tb_ok (z := [.int .i64 0]) (n := 1) rfl rfl rfl rfl rfl ?_
  refine L_alloc Tb_ok (z := [.int .i64 0]) (n := 1) rfl rfl rfl rfl rfl ?_
  refine L_store Tb_ok (v := .int _ _) (cs := [_]) (es' := [[_]]) rfl rfl rfl rfl rfl rfl rfl rfl rfl rfl ⟨trivial, trivial⟩ ?_
  refine L_store Tb_ok (v := .int _ _) (cs := [_]) (es' := [[_]]) rfl rfl rfl rfl rfl rfl rfl rfl rfl rfl ⟨trivial, trivial⟩ ?_
  refine WL_nil ?_
  refine W_seq ?_
  refine W_seq ?_
  refine W_region rfl ?_
  refine L_v Tb_ok (v := .ptr _ _ _) (av rfl ⟨trivial, trivial⟩) rfl ?_
  refine L_v Tb_ok (v := .ptr _ _ _) (av rfl ⟨trivial, trivial⟩) rfl ?_
  refine L_v Tb_ok (v := .int _ _) (av rfl ⟨trivial, rfl⟩) rfl ?_
  refine L_v Tb_ok (v := .bool _) (av rfl ⟨trivial, trivial⟩) rfl ?_
  refine WL_nil ?_
  refine W_ift (b := _) (M := ⟨[(2, .int .i64 at_), (3, .ptr 0 0 0), (7, .ptr 1 0 0), (9, .ptr 2 0 0), (10, .ptr 3 0 0)], [(0, some ⟨81, 29, 0, [siteC S]⟩), (1, some ⟨56, 1, 0, [[.nils]]⟩), (2, some ⟨3, 1, 0, [[.int .i64 (bif S.Op.Kind == 2 then ((0 : Int), w64 (S.In.C - 1)) else (w64 (ch - 1), w64 (ch - 1))).1]]⟩), (3, some ⟨3, 1, 0, [[.int .i64 (bif S.Op.Kind == 2 then ((0 : Int), w64 (S.In.C - 1)) else (w64 (ch - 1), w64 (ch - 1))).2]]⟩)], [], 4⟩) (p := True) rfl (fun h36 => ?_) (fun h36 => ?_) (fun m36 => ?_)
  · refine W_drawF (fun e => [idOf (get e 9), idOf (get e 10)]) 4 [[4, 5]] Tb_mixed rfl (by decide) (by kernel_rfl) ?_
    refine S_v Tb_ok (v := .ptr _ _ _) (av rfl ⟨trivial, trivial⟩) rfl ?_
    refine S_v Tb_ok (v := .ptr _ _ _) (av rfl ⟨trivial, trivial⟩) rfl ?_
    refine S_v Tb_ok (v := .int _ _) (av rfl ⟨trivial, rfl⟩) rfl ?_
    refine S_v Tb_ok (v := .int _ _) (av rfl ⟨trivial, trivial⟩) rfl ?_
    refine S_nil ?_
    refine TT_one ?_
    refine TT_store Tb_ok (OSub_forget _ _) rfl (v := .int _ _) (cs := [_]) (es' := [[_]]) rfl rfl rfl rfl rfl rfl rfl rfl rfl rfl rfl ⟨trivial, trivial⟩ (fun ht1 => ?_)
    refine TT_store Tb_ok ht1 rfl (v := .int _ _) (cs := [_]) (es' := [[_]]) rfl rfl rfl rfl rfl rfl rfl rfl rfl rfl rfl ⟨trivial, trivial⟩ (fun ht2 => ?_)
    refine TT_nil ?_
    clear ht1 ht2
    exact ⟨trivial, le_t (F := fun X => ⟨[(2, .int .i64 at_), (3, .ptr 0 0 0), (7, .ptr 1 0 0), (9, .ptr 2 0 0), (10, .ptr 3 0 0)], [(0, some ⟨81, 29, 0, [siteC S]⟩), (1, some ⟨56, 1, 0, [[.nils]]⟩), (2, some ⟨3, 1, 0, [[.int .i64 X.1]]⟩), (3, some ⟨3, 1, 0, [[.int .i64 X.2]]⟩)], [], 4⟩) (x := ((0 : Int), w64 (S.In.C - 1))) (y := (w64 (ch - 1), w64 (ch - 1))) h36 (le_fit ⟨rfl, rfl, rfl, rfl, rfl, trivial⟩ ⟨.inr rfl, .inr rfl, .inr rfl, .inr rfl, trivial⟩ trivial rfl rfl rfl rfl rfl)⟩
  · refine W_skip ?_
    exact ⟨trivial, le_f (F := fun X => ⟨[(2, .int .i64 at_), (3, .ptr 0 0 0), (7, .ptr 1 0 0), (9, .ptr 2 0 0), (10, .ptr 3 0 0)], [(0, some ⟨81, 29, 0, [siteC S]⟩), (1, some ⟨56, 1, 0, [[.nils]]⟩), (2, some ⟨3, 1, 0, [[.int .i64 X.1]]⟩), (3, some ⟨3, 1, 0, [[.int .i64 X.2]]⟩)], [], 4⟩) (x := ((0 : Int), w64 (S.In.C - 1))) (y := (w64 (ch - 1), w64 (ch - 1))) h36 (le_fit ⟨rfl, rfl, rfl, rfl, rfl, trivial⟩ ⟨.inr rfl, .inr rfl, .inr rfl, .inr rfl, trivial⟩ trivial rfl rfl rfl rfl rfl)⟩
  refine W_seq ?_
  refine W_seq ?_
  refine W_region rfl ?_
  rw [hX]
  refine L_v Tb_ok (v := .ptr _ _ _) (av rfl ⟨trivial, trivial⟩) rfl ?_
  refine L_v Tb_ok (v := .agg [.int _ _, .int _ _, .int _ _]) (av rfl ⟨trivial, rfl⟩) rfl ?_
  refine L_v Tb_ok (v := .ptr _ _ _) (av rfl ⟨trivial, trivial⟩) rfl ?_
  refine L_v Tb_ok (v := .ptr _ _ _) (av rfl ⟨trivial, trivial⟩) rfl ?_
  refine L_v Tb_ok (v := .agg [.int _ _, .int _ _, .int _ _, .int _ _, .int _ _, .int _ _, .int _ _, .int _ _]) (av rfl ⟨trivial, rfl⟩) rfl ?_
  refine L_v Tb_ok (v := .int _ _) (av rfl ⟨trivial, trivial⟩) rfl ?_
  refine L_call (hr := window_Taps_yes S.In S.Op.Win at_ hbad) rfl rfl trivial rfl rfl ?_
  refine WL_nil ?_
  refine W_block ?_
  refine W_nilO (id := 1) (j := 0) (el := 3) (esz := 1) rfl rfl rfl rfl ?_
  refine W_range (xs := tapList S.In S.Op.Win (tapsTop S.In S.Op.Win at_) (tapsLeft S.In S.Op.Win at_)) rfl trivial rfl rfl (window_Taps2 _ _ _ _ hkw hn (by omega)) rfl (fun x hx => by obtain ⟨k, hk⟩ := List.getElem?_of_mem hx; rw [(tap_inv hk).2]; rfl)
    (fun k => ([(0, some ⟨81, 29, 0, [siteC S]⟩), (1, some ⟨56, 1, 0, [[.app 4 ((plOut S.In S.Op.Win (tapsTop S.In S.Op.Win at_) (tapsLeft S.In S.Op.Win at_) f cnt k).map intC)]]⟩), (2, some ⟨3, 1, 0, [[.int .i64 f]]⟩), (3, some ⟨3, 1, 0, [[.int .i64 l]]⟩)], [(4, some (3, 1, (plOut S.In S.Op.Win (tapsTop S.In S.Op.Win at_) (tapsLeft S.In S.Op.Win at_) f cnt k).length))], 5))
    (le_fit trivial ⟨.inr rfl, .inr rfl, .inr rfl, .inr rfl, trivial⟩ ⟨.inr rfl, trivial⟩ rfl rfl rfl rfl rfl) ?_ ?_
  · intro k x hx
    obtain ⟨hk, rfl⟩ := tap_inv hx
    refine W_region rfl ?_
    refine L_v Tb_ok (v := .int _ _) (av rfl ⟨trivial, trivial⟩) rfl ?_
    refine WL_nil ?_
    refine W_block ?_
    refine W_seq ?_
    refine W_region rfl ?_
    refine L_v Tb_ok (v := .int _ _) (av rfl ⟨trivial, rfl⟩) rfl ?_
    refine L_v Tb_ok (v := .int _ _) (av rfl ⟨trivial, trivial⟩) rfl ?_
    refine WL_nil ?_
    refine W_block ?_
    refine W_for cnt (fun j => ⟨[(3, .ptr 0 0 0), (7, .ptr 1 0 0), (9, .ptr 2 0 0), (10, .ptr 3 0 0), (12, .int .i64 (tapPlace S.In S.Op.Win (tapsTop S.In S.Op.Win at_) (tapsLeft S.In S.Op.Win at_) (k : Int))), (13, .int .i64 (f + (j : Int)))], [(0, some ⟨81, 29, 0, [siteC S]⟩), (1, some ⟨56, 1, 0, [[.app 4 ((plOut S.In S.Op.Win (tapsTop S.In S.Op.Win at_) (tapsLeft S.In S.Op.Win at_) f cnt k ++ (plRow S.In.C f cnt (tapPlace S.In S.Op.Win (tapsTop S.In S.Op.Win at_) (tapsLeft S.In S.Op.Win at_) (k : Int))).take j).map intC)]]⟩), (2, some ⟨3, 1, 0, [[.int .i64 f]]⟩), (3, some ⟨3, 1, 0, [[.int .i64 l]]⟩)], [(4, some (3, 1, (plOut S.In S.Op.Win (tapsTop S.In S.Op.Win at_) (tapsLeft S.In S.Op.Win at_) f cnt k ++ (plRow S.In.C f cnt (tapPlace S.In S.Op.Win (tapsTop S.In S.Op.Win at_) (tapsLeft S.In S.Op.Win at_) (k : Int))).take j).length))], 5⟩)
      (le_fit ⟨rfl, rfl, rfl, rfl, rfl, congrArg _ (show f = f + ((0 : Nat) : Int) by simp), trivial⟩ ⟨.inr rfl, .inr (by simp; rfl), .inr rfl, .inr rfl, trivial⟩ ⟨.inr (by simp; rfl), trivial⟩ rfl rfl rfl rfl rfl) ?_
    intro j hj
    have hlen : (plOut S.In S.Op.Win (tapsTop S.In S.Op.Win at_) (tapsLeft S.In S.Op.Win at_) f cnt k ++ (plRow S.In.C f cnt (tapPlace S.In S.Op.Win (tapsTop S.In S.Op.Win at_) (tapsLeft S.In S.Op.Win at_) (k : Int))).take j).length ≤ 33554432 := by
      have h1 := plOut_len S.In S.Op.Win (tapsTop S.In S.Op.Win at_) (tapsLeft S.In S.Op.Win at_) f cnt k
      have h2 : k * cnt ≤ 4096 * 4096 := Nat.mul_le_mul (by omega) hcnt
      rw [List.length_append, h1, List.length_take]; omega
    refine W_seq ?_
    refine W_seq ?_
    refine W_region rfl ?_
    refine L_v Tb_ok (v := .int _ _) (av rfl ⟨trivial, trivial⟩) rfl ?_
    refine L_v Tb_ok (v := .int _ _) (av rfl ⟨trivial, rfl⟩) rfl ?_
    refine L_v Tb_ok (v := .bool _) (av rfl ⟨trivial, trivial⟩) rfl ?_
    refine WL_nil ?_
    refine W_cond (b := _) rfl (fun h53 => ?_) (fun h53 => ?_)
    · have hlt : j < cnt := by have := of_decide_eq_true h53; omega
      refine W_skip ?_
      refine W_seq ?_
      refine W_block ?_
      refine W_seq ?_
      refine W_region rfl ?_
      refine L_v Tb_ok (v := .int _ _) (av rfl ⟨trivial, trivial⟩) rfl ?_
      refine L_v Tb_ok (v := .bool _) (av rfl ⟨trivial, trivial⟩) rfl ?_
      refine WL_nil ?_
      refine W_cond (b := _) rfl (fun h57 => ?_) (fun h57 => ?_)
      · have hap := plRow_take S.In.C f (tapPlace S.In S.Op.Win (tapsTop S.In S.Op.Win at_) (tapsLeft S.In S.Op.Win at_) (k : Int)) cnt j (plOut S.In S.Op.Win (tapsTop S.In S.Op.Win at_) (tapsLeft S.In S.Op.Win at_) f cnt k) (-1) hlt (by rw [h57]; rfl)
        refine W_region rfl ?_
        first | (refine L_v Tb_ok (v := .ro _) (av rfl ⟨trivial, rfl⟩) rfl ?_) | (refine L_v Tb_ok (v := .app _ _) (av rfl ⟨trivial, rfl⟩) rfl ?_) | (refine L_v Tb_ok (v := .row _ _ _) (av rfl ⟨trivial, rfl⟩) rfl ?_) | (refine L_v Tb_ok (v := .nils) (av rfl ⟨trivial, rfl⟩) rfl ?_)
        refine L_build Tb_ok (t := 56) (len := 1) (el := 3) (sz := 1) (es := [[_]]) (z := [.int .i64 0]) rfl rfl rfl rfl rfl (by decide) trivial rfl rfl rfl rfl rfl ?_
        refine L_app1 Tb_ok (f := intC) (v := -1) (tok := 4) (el := 3) (sz := 1) rfl rfl rfl rfl rfl ⟨trivial, trivial⟩ (fun _ => ⟨rfl, rfl⟩) (by rw [show (Tb.at 3).bytes = 8 from rfl]; omega) rfl ?_
        first | (refine L_store Tb_ok (v := .ro _) (cs := [_]) (es' := [[_]]) rfl rfl rfl rfl rfl rfl rfl rfl rfl rfl ⟨trivial, trivial⟩ ?_) | (refine L_store Tb_ok (v := .app _ _) (cs := [_]) (es' := [[_]]) rfl rfl rfl rfl rfl rfl rfl rfl rfl rfl ⟨trivial, trivial⟩ ?_) | (refine L_store Tb_ok (v := .row _ _ _) (cs := [_]) (es' := [[_]]) rfl rfl rfl rfl rfl rfl rfl rfl rfl rfl ⟨trivial, trivial⟩ ?_) | (refine L_store Tb_ok (v := .nils) (cs := [_]) (es' := [[_]]) rfl rfl rfl rfl rfl rfl rfl rfl rfl rfl ⟨trivial, trivial⟩ ?_)
        refine WL_nil ?_
        refine W_region rfl ?_
        refine L_v Tb_ok (v := .int _ _) (av rfl ⟨trivial, trivial⟩) rfl ?_
        refine L_v Tb_ok (v := .int _ _) (av rfl ⟨trivial, trivial⟩) rfl ?_
        refine L_v Tb_ok (v := .int _ _) (av rfl ⟨trivial, trivial⟩) rfl ?_
        refine WL_nil ?_
        refine for_end hlt (le_fit ⟨rfl, rfl, rfl, rfl, rfl, congrArg (AV.int .i64) (show IntKind.i64.wrap (f + (j : Int) + 1) = f + ((j + 1 : Nat) : Int) by rw [w64_id (by omega)]; omega), trivial⟩ ⟨.inr rfl, .inr ?_, .inr rfl, .inr rfl, trivial⟩ ⟨.inr ?_, trivial⟩ rfl rfl rfl rfl rfl)
        · exact congrArg (fun z => some (Ob.mk 56 1 0 [[.app 4 (List.map intC z)]])) hap
        · exact congrArg (fun z => some (3, 1, List.length z)) hap
      · have hap := plRow_take S.In.C f (tapPlace S.In S.Op.Win (tapsTop S.In S.Op.Win at_) (tapsLeft S.In S.Op.Win at_) (k : Int)) cnt j (plOut S.In S.Op.Win (tapsTop S.In S.Op.Win at_) (tapsLeft S.In S.Op.Win at_) f cnt k) _ hlt (by rw [h57, cond_false])
        refine W_region rfl ?_
        first | (refine L_v Tb_ok (v := .ro _) (av rfl ⟨trivial, rfl⟩) rfl ?_) | (refine L_v Tb_ok (v := .app _ _) (av rfl ⟨trivial, rfl⟩) rfl ?_) | (refine L_v Tb_ok (v := .row _ _ _) (av rfl ⟨trivial, rfl⟩) rfl ?_) | (refine L_v Tb_ok (v := .nils) (av rfl ⟨trivial, rfl⟩) rfl ?_)
        refine L_v Tb_ok (v := .int _ _) (av rfl ⟨trivial, trivial⟩) rfl ?_
        refine L_v Tb_ok (v := .ptr _ _ _) (av rfl ⟨trivial, trivial⟩) rfl ?_
        refine L_v Tb_ok (v := .ptr _ _ _) (av rfl ⟨trivial, trivial⟩) rfl ?_
        refine L_v Tb_ok (v := .int _ _) (av rfl ⟨trivial, rfl⟩) rfl ?_
        refine L_v Tb_ok (v := .int _ _) (av rfl ⟨trivial, trivial⟩) rfl ?_
        refine L_v Tb_ok (v := .int _ _) (av rfl ⟨trivial, trivial⟩) rfl ?_
        refine L_v Tb_ok (v := .int _ _) (av rfl ⟨trivial, trivial⟩) rfl ?_
        refine L_build Tb_ok (t := 56) (len := 1) (el := 3) (sz := 1) (es := [[_]]) (z := [.int .i64 0]) rfl rfl rfl rfl rfl (by decide) trivial rfl rfl rfl rfl rfl ?_
        refine L_app1 Tb_ok (f := intC) (v := w64 (w64 (_ * _) + (f + (j : Int)))) (tok := 4) (el := 3) (sz := 1) rfl rfl rfl rfl rfl ⟨trivial, trivial⟩ (fun _ => ⟨rfl, rfl⟩) (by rw [show (Tb.at 3).bytes = 8 from rfl]; omega) rfl ?_
        first | (refine L_store Tb_ok (v := .ro _) (cs := [_]) (es' := [[_]]) rfl rfl rfl rfl rfl rfl rfl rfl rfl rfl ⟨trivial, trivial⟩ ?_) | (refine L_store Tb_ok (v := .app _ _) (cs := [_]) (es' := [[_]]) rfl rfl rfl rfl rfl rfl rfl rfl rfl rfl ⟨trivial, trivial⟩ ?_) | (refine L_store Tb_ok (v := .row _ _ _) (cs := [_]) (es' := [[_]]) rfl rfl rfl rfl rfl rfl rfl rfl rfl rfl ⟨trivial, trivial⟩ ?_) | (refine L_store Tb_ok (v := .nils) (cs := [_]) (es' := [[_]]) rfl rfl rfl rfl rfl rfl rfl rfl rfl rfl ⟨trivial, trivial⟩ ?_)
        refine WL_nil ?_
        refine W_region rfl ?_
        refine L_v Tb_ok (v := .int _ _) (av rfl ⟨trivial, trivial⟩) rfl ?_
        refine L_v Tb_ok (v := .int _ _) (av rfl ⟨trivial, trivial⟩) rfl ?_
        refine L_v Tb_ok (v := .int _ _) (av rfl ⟨trivial, trivial⟩) rfl ?_
        refine WL_nil ?_
        refine for_end hlt (le_fit ⟨rfl, rfl, rfl, rfl, rfl, congrArg (AV.int .i64) (show IntKind.i64.wrap (f + (j : Int) + 1) = f + ((j + 1 : Nat) : Int) by rw [w64_id (by omega)]; omega), trivial⟩ ⟨.inr rfl, .inr ?_, .inr rfl, .inr rfl, trivial⟩ ⟨.inr ?_, trivial⟩ rfl rfl rfl rfl rfl)
        · exact congrArg (fun z => some (Ob.mk 56 1 0 [[.app 4 (List.map intC z)]])) hap
        · exact congrArg (fun z => some (3, 1, List.length z)) hap
    · have hje : j = cnt := by have := of_decide_eq_false h53; omega
      refine W_exit ?_
      repeat (first | refine pass_then ?_ | refine pass_once ?_ | refine pass_le ?_ | refine pass_round ?_ | refine pass_for ?_ | refine blockQ_miss rfl ?_)
      refine blockQ_hit ?_
      refine le_fit trivial ⟨.inr rfl, .inr ?_, .inr rfl, .inr rfl, trivial⟩ ⟨.inr ?_, trivial⟩ rfl rfl rfl rfl rfl
      · rw [hje, List.take_of_length_le (Nat.le_of_eq (plRow_len _ _ _ _))]; exact congrArg (fun z => some (Ob.mk 56 1 0 [[.app 4 (List.map intC z)]])) (plOut_succ _ _ _ _ _ _ _).symm
      · rw [hje, List.take_of_length_le (Nat.le_of_eq (plRow_len _ _ _ _))]; exact congrArg (fun z => some (3, 1, List.length z)) (plOut_succ _ _ _ _ _ _ _).symm
  refine W_seq ?_
  refine W_region rfl ?_
  first | (refine L_v Tb_ok (v := .ro _) (av rfl ⟨trivial, rfl⟩) rfl ?_) | (refine L_v Tb_ok (v := .app _ _) (av rfl ⟨trivial, rfl⟩) rfl ?_) | (refine L_v Tb_ok (v := .row _ _ _) (av rfl ⟨trivial, rfl⟩) rfl ?_) | (refine L_v Tb_ok (v := .nils) (av rfl ⟨trivial, rfl⟩) rfl ?_)
  first | (refine L_v Tb_ok (v := .ro _) (av rfl ⟨trivial, trivial⟩) rfl ?_) | (refine L_v Tb_ok (v := .app _ _) (av rfl ⟨trivial, trivial⟩) rfl ?_) | (refine L_v Tb_ok (v := .row _ _ _) (av rfl ⟨trivial, trivial⟩) rfl ?_) | (refine L_v Tb_ok (v := .nils) (av rfl ⟨trivial, trivial⟩) rfl ?_)
  refine WL_nil ?_
  refine W_ret ?_
  first | (refine ends (l := [.app _ _]) (q := .ro _) (.inr rfl) rfl ⟨trivial, trivial⟩ rfl rfl ?_) | (refine ends (l := [.nils]) (q := .ro _) (.inr rfl) rfl ⟨trivial, trivial⟩ rfl rfl ?_) | (refine ends (l := [.ro _]) (q := .ro _) (.inr rfl) rfl ⟨trivial, trivial⟩ rfl rfl ?_)
  simp [tapList]
end Go.AM
end
section
open Go Go.AM Go.Proofs
set_option maxRecDepth 10000
set_option linter.unusedVariables false
set_option linter.unusedSimpArgs false
namespace Go.AM
/-- the places of a sum's terms -/
def plOf (S : Site) (ch at_ : Int) : List Int :=
  if S.Op.Kind = 1 then (List.range S.Len.toNat).map fun (k : Nat) => (k : Int)
  else plOut S.In S.Op.Win (tapsTop S.In S.Op.Win at_) (tapsLeft S.In S.Op.Win at_) (if S.Op.Kind = 2 then 0 else ch - 1) (if S.Op.Kind = 2 then S.In.C.toNat else 1) (tapN S.Op.Win)
theorem taps_win {S : Site} (hS : SiteOk S) (hk : S.Op.Kind ≠ 1) : w64 (S.Op.Win.KH * S.Op.Win.KW) = S.Op.Win.KH * S.Op.Win.KW ∧ 1 ≤ S.Op.Win.KH * S.Op.Win.KW ∧ S.Op.Win.KH * S.Op.Win.KW ≤ 1024 := by
  have W := windowB_iff (hS.win hk).1
  have a0 := Int.mul_le_mul W.1.1 W.2.1.1 (by omega) (by omega)
  have a2 : S.Op.Win.KH * S.Op.Win.KW ≤ 32 * 32 := Int.mul_le_mul W.1.2 W.2.1.2 (by omega) (by omega)
  exact ⟨w64_id (by omega), by omega, by omega⟩
theorem out_pos {S : Site} (hS : SiteOk S) : w64 (S.Out.H * S.Out.W) = S.Out.H * S.Out.W ∧ 1 ≤ S.Out.H * S.Out.W ∧ S.Out.H * S.Out.W ≤ 1048576 := by
  have B := shapeB_iff.1 hS.outB
  have a0 := Int.mul_le_mul B.1.1 B.2.1.1 (by omega) (by omega)
  have a2 : S.Out.H * S.Out.W ≤ 1024 * 1024 := Int.mul_le_mul B.1.2 B.2.1.2 (by omega) (by omega)
  exact ⟨w64_id (by omega), by omega, by omega⟩
theorem ofBad_iff {S : Site} {ch at_ : Int} (hS : SiteOk S) : ofBad S ch at_ = false ↔ (1 ≤ ch ∧ ch ≤ S.Out.C) ∧ 0 ≤ at_ ∧ at_ < S.Out.H * S.Out.W := by
  obtain ⟨h1, h2, h3⟩ := out_pos hS
  unfold ofBad; rw [h1]
  by_cases a : ch < 1 <;> by_cases b : ch > S.Out.C <;> by_cases c : at_ < 0 <;> by_cases d : at_ ≥ S.Out.H * S.Out.W <;> simp [a, b, c, d] <;> omega
theorem plOf_len {S : Site} (hS : SiteOk S) (ch at_ : Int) : (plOf S ch at_).length = S.Len.toNat := by
  unfold plOf
  split
  · simp
  · rename_i hk
    obtain ⟨h1, h2, h3⟩ := taps_win hS hk
    rw [plOut_len]
    unfold tapN
    rw [h1]
    split
    · rename_i k2
      have B := shapeB_iff.1 hS.inB
      rw [hS.len2 k2, ← Int.toNat_mul (by omega) (by omega)]
    · rw [hS.len3 (by have := hS.kind; omega)]; omega
theorem taps_good {S : Site} {at_ : Int} (hS : SiteOk S) (hk : S.Op.Kind ≠ 1) (h0 : 0 ≤ at_) (h1 : at_ < S.Out.H * S.Out.W) : tapsBad S.In S.Op.Win at_ = false := by
  obtain ⟨_, w2, w3, w4⟩ := hS.win hk
  obtain ⟨o1, o2, o3⟩ := out_pos hS
  unfold tapsBad
  rw [← w3, ← w4, o1, w2]
  have a : ¬ at_ < 0 := by omega
  have b : ¬ at_ ≥ S.Out.H * S.Out.W := by omega
  simp [a, b]
theorem terms_places {S : Site} {ch at_ : Int} (hS : SiteOk S) (hch : 1 ≤ ch ∧ ch ≤ S.Out.C) (hat : 0 ≤ at_ ∧ at_ < S.Out.H * S.Out.W) : Ok Try.prog 32 [.agg (siteC S), .int .i64 ch, .int .i64 at_] (.ro ((plOf S ch at_).map intC)) := by
  unfold plOf
  have B := shapeB_iff.1 hS.inB
  have O := shapeB_iff.1 hS.outB
  split
  · rename_i k1
    exact terms_places_dense S ch at_ (by simp [k1]) (by have := hS.len; omega) (by have := hS.len; omega)
  · rename_i k1
    obtain ⟨h1, h2, h3⟩ := taps_win hS k1
    have W := windowB_iff (hS.win k1).1
    have e1 : w64 (ch - 1) = ch - 1 := w64_id (by omega)
    have e2 : w64 (S.In.C - 1) = S.In.C - 1 := w64_id (by omega)
    have base := terms_places_taps S ch at_ (by simpa using k1) (taps_good hS k1 hat.1 hat.2) (by omega) (by omega) (by omega)
    by_cases k2 : S.Op.Kind = 2
    · rw [if_pos k2, if_pos k2]
      exact base S.In.C.toNat (by omega) 0 (S.In.C - 1) (by omega) (by omega) (by omega) (by rw [e1, e2, k2]; rfl)
    · rw [if_neg k2, if_neg k2]
      have hk : (S.Op.Kind == 2) = false := by simpa using k2
      exact base 1 (by omega) (ch - 1) (ch - 1) (by omega) (by omega) (by omega) (by rw [e1, e2, hk]; rfl)
/-- what Of answers -/
def termsF (m : Model) (op ch at_ : Int) : List Term :=
  if findE m op = 0 then if ofBad (findS m op) ch at_ then [] else if (findS m op).Op.Kind = 4 then ofP (plOf (findS m op) ch at_) (plOf (findS m op) ch at_).length else ofQ (plOf (findS m op) ch at_) ((ofWs (findS m op) ch).map w64) (plOf (findS m op) ch at_).length else []
def biasF (m : Model) (op ch at_ : Int) : Int :=
  if findE m op = 0 then if ofBad (findS m op) ch at_ then 0 else if (findS m op).Op.Kind = 4 then 0 else w64 ((findS m op).Op.Bias.getD (w64 (ch - 1)).toNat default) else 0
def ofE (m : Model) (op ch at_ : Int) : Int := if findE m op = 0 then if ofBad (findS m op) ch at_ then 3 else 0 else findE m op
theorem ofE_op {m : Model} {op ch at_ : Int} (h : ofE m op ch at_ = 0) : findE m op = 0 ∧ ofBad (findS m op) ch at_ = false ∧ w64 (op - 1) = op - 1 ∧ 0 ≤ op - 1 ∧ op - 1 < m.Ops.length ∧ m.Ops.length ≤ 64 := by
  unfold ofE at h
  split at h
  · rename_i h0
    split at h
    · omega
    · rename_i hb
      obtain ⟨_, ⟨h1, h2⟩, _, he, _⟩ := site_ok h0
      have := (whole_ok he).1
      exact ⟨h0, by simpa using hb, w64_id (by omega), by omega, by omega, this⟩
  · contradiction
theorem ofE_bad {m : Model} {op ch at_ : Int} (h : ofE m op ch at_ ≠ 0) : termsF m op ch at_ = [] ∧ biasF m op ch at_ = 0 := by
  unfold ofE at h
  unfold termsF biasF
  split at h
  · rename_i h0
    split at h
    · rename_i hb; rw [if_pos h0, if_pos h0, if_pos hb, if_pos hb]; exact ⟨rfl, rfl⟩
    · omega
  · rename_i h0; rw [if_neg h0, if_neg h0]; exact ⟨rfl, rfl⟩
theorem termsF_len (m : Model) (op ch at_ : Int) : (termsF m op ch at_).length ≤ 512 := by
  unfold termsF
  split
  · rename_i h0
    obtain ⟨hS, _⟩ := site_ok h0
    have hl := plOf_len hS ch at_
    have := hS.len
    split
    · simp
    · split
      · rw [ofP_len _ _ (Nat.le_refl _)]; omega
      · rw [ofQ_len]; omega
  · simp
theorem of_weights {S : Site} {ch : Int} (hS : SiteOk S) (hk : S.Op.Kind ≠ 4) (hch : 1 ≤ ch ∧ ch ≤ S.Out.C) : w64 (ch - 1) = ch - 1 ∧ w64 ((ch - 1) * S.Len) = (ch - 1) * S.Len ∧ w64 (ch * S.Len) = ch * S.Len ∧ 0 ≤ (ch - 1) * S.Len ∧ ch * S.Len - (ch - 1) * S.Len = S.Len ∧ ch * S.Len ≤ S.Op.Weights.length ∧ ch - 1 < S.Op.Bias.length := by
  have O := shapeB_iff.1 hS.outB
  have hl := hS.len
  have a0 : 0 ≤ (ch - 1) * S.Len := Int.mul_nonneg (by omega) (by omega)
  have a1 : (ch - 1) * S.Len ≤ 1024 * 512 := Int.mul_le_mul (by omega) hl.2 (by omega) (by omega)
  have b0 : 0 ≤ ch * S.Len := Int.mul_nonneg (by omega) (by omega)
  have b1 : ch * S.Len ≤ 1024 * 512 := Int.mul_le_mul (by omega) hl.2 (by omega) (by omega)
  refine ⟨w64_id (by omega), w64_id (by omega), w64_id (by omega), a0, by rw [Int.sub_mul]; omega, ?_, ?_⟩
  · rw [hS.wl hk]; exact Int.mul_le_mul_of_nonneg_right hch.2 (by omega)
  · rw [hS.bl hk]; omega
theorem terms_Of (m : Model) (op ch at_ : Int) : Ok Try.prog 11 [.agg (modelC m), .int .i64 op, .int .i64 ch, .int .i64 at_] (.tup [.ro ((termsF m op ch at_).map termC), .int .i64 (biasF m op ch at_), .int .i64 (ofE m op ch at_)]) := by
  by_cases h0 : findE m op = 0
  · obtain ⟨hS, _⟩ := site_ok h0
    have hf : (findE m op != 0) = false := by simp [h0]
    cases hb : ofBad (findS m op) ch at_ with
    | true =>
      have := terms_Of_bad m op ch at_ (.inr ⟨hf, hb⟩)
      simpa [termsF, biasF, ofE, h0, hb] using this
    | false =>
      obtain ⟨hch, hat⟩ := (ofBad_iff hS).1 hb
      have hl := plOf_len hS ch at_
      have hl2 := hS.len
      by_cases k4 : (findS m op).Op.Kind = 4
      · have := terms_Of_pl m op ch at_ hf hb (by simp [k4]) (plOf (findS m op) ch at_) (terms_places hS hch hat) (by omega) (by omega)
        simpa [termsF, biasF, ofE, h0, hb, k4] using this
      · obtain ⟨w1, w2, w3, w4, w5, w6, w7⟩ := of_weights hS k4 hch
        have := terms_Of_w m op ch at_ hf hb (by simp [k4]) (plOf (findS m op) ch at_) (terms_places hS hch hat) (by omega) (by omega) (by rw [w1]; omega) (by rw [w1]; exact w7) (by rw [w1, w2]; exact w4) (by rw [w3, w1, w2]; exact w5) (by rw [w3]; exact w6)
        simpa [termsF, biasF, ofE, h0, hb, k4] using this
  · have := terms_Of_bad m op ch at_ (.inl (by simp [h0]))
    simpa [termsF, biasF, ofE, h0] using this
end Go.AM
end
section
open Go Go.AM
set_option linter.unusedVariables false
set_option linter.unusedSimpArgs false
namespace Go.AM
theorem plOut_flat (s : Shape) (w : Window) (top left first : Int) (cnt : Nat) (hc : 0 < cnt) : ∀ n, plOut s w top left first cnt n = (List.range (n * cnt)).map fun i => bif decide (tapPlace s w top left ((i / cnt : Nat) : Int) < 0) then -1 else w64 (w64 (tapPlace s w top left ((i / cnt : Nat) : Int) * s.C) + (first + ((i % cnt : Nat) : Int)))
  | 0 => by simp [plOut]
  | n + 1 => by
    rw [plOut_succ, plOut_flat s w top left first cnt hc n, Nat.add_mul, Nat.one_mul, List.range_add, List.map_append, List.map_map]
    congr 1
    unfold plRow
    apply List.map_congr_left
    intro c hcm
    have hlt : c < cnt := List.mem_range.1 hcm
    have e1 : (n * cnt + c) / cnt = n := by rw [Nat.mul_comm, Nat.mul_add_div hc, Nat.div_eq_of_lt hlt, Nat.add_zero]
    have e2 : (n * cnt + c) % cnt = c := by rw [Nat.mul_comm, Nat.mul_add_mod, Nat.mod_eq_of_lt hlt]
    simp only [Function.comp, e1, e2]
def wtF (S : Site) (ch : Int) (i : Nat) : Int := if S.Op.Kind = 4 then 1 else w64 (S.Op.Weights.getD (w64 (w64 (w64 (ch - 1) * S.Len) + i)).toNat default)
def tapAt (S : Site) (at_ : Int) (k : Nat) : Int := tapPlace S.In S.Op.Win (tapsTop S.In S.Op.Win at_) (tapsLeft S.In S.Op.Win at_) k
def atF (S : Site) (ch at_ : Int) (i : Nat) : Int :=
  if S.Op.Kind = 1 then i else if S.Op.Kind = 2 then (if tapAt S at_ (i / S.In.C.toNat) < 0 then -1 else w64 (w64 (tapAt S at_ (i / S.In.C.toNat) * S.In.C) + ((i % S.In.C.toNat : Nat) : Int))) else (if tapAt S at_ i < 0 then -1 else w64 (w64 (tapAt S at_ i * S.In.C) + (ch - 1)))
theorem cond_ite {α : Type} {p : Prop} [Decidable p] {a b : α} : (bif decide p then a else b) = if p then a else b := by by_cases h : p <;> simp [h]
theorem plOf_get {S : Site} (hS : SiteOk S) (ch at_ : Int) {i : Nat} (hi : i < S.Len.toNat) : (plOf S ch at_).getD i 0 = atF S ch at_ i := by
  have B := shapeB_iff.1 hS.inB
  have hl := plOf_len hS ch at_
  unfold plOf at hl ⊢
  unfold atF tapAt
  by_cases k1 : S.Op.Kind = 1
  · rw [if_pos k1, if_pos k1]; simp [hi]
  · rw [if_neg k1, if_neg k1]
    rw [if_neg k1] at hl
    by_cases k2 : S.Op.Kind = 2
    · simp only [if_pos k2] at hl ⊢
      rw [plOut_flat _ _ _ _ _ _ (by omega)] at hl ⊢
      simp only [List.length_map, List.length_range] at hl
      rw [List.getD_eq_getElem?_getD, List.getElem?_map, List.getElem?_range (by omega)]
      simp only [Option.map_some, Option.getD_some, cond_ite, Int.zero_add]
    · simp only [if_neg k2] at hl ⊢
      rw [plOut_flat _ _ _ _ _ _ (by omega)] at hl ⊢
      simp only [List.length_map, List.length_range] at hl
      rw [List.getD_eq_getElem?_getD, List.getElem?_map, List.getElem?_range (by omega)]
      simp only [Option.map_some, Option.getD_some, cond_ite, Nat.div_one, Nat.mod_one, Int.natCast_zero, Int.add_zero]
/-- the terms of a sum -/
def tlF (S : Site) (ch at_ : Int) : List Term := if S.Op.Kind = 4 then ofP (plOf S ch at_) (plOf S ch at_).length else ofQ (plOf S ch at_) ((ofWs S ch).map w64) (plOf S ch at_).length
theorem tlF_len {S : Site} (hS : SiteOk S) (ch at_ : Int) : (tlF S ch at_).length = S.Len.toNat := by
  unfold tlF
  split
  · rw [ofP_len _ _ (Nat.le_refl _), plOf_len hS]
  · rw [ofQ_len, plOf_len hS]
theorem tlF_get {S : Site} (hS : SiteOk S) {ch : Int} (hch : 1 ≤ ch ∧ ch ≤ S.Out.C) (at_ : Int) {i : Nat} (hi : i < S.Len.toNat) : (tlF S ch at_).getD i default = ⟨wtF S ch i, atF S ch at_ i⟩ := by
  have hl := plOf_len hS ch at_
  have hg := plOf_get hS ch at_ hi
  have hlen := hS.len
  unfold tlF wtF
  split
  · rename_i k4
    rw [ofP, List.take_length, Nat.sub_self, List.replicate_zero, List.append_nil, List.getD_eq_getElem?_getD, List.getElem?_map]
    rw [List.getD_eq_getElem?_getD] at hg
    rw [List.getElem?_eq_getElem (by omega)] at hg ⊢
    simp only [Option.map_some, Option.getD_some] at hg ⊢
    rw [hg]
  · rename_i k4
    obtain ⟨w1, w2, w3, w4, w5, w6, w7⟩ := of_weights hS k4 hch
    have O := shapeB_iff.1 hS.outB
    have b2 : ch * S.Len ≤ 1024 * 512 := Int.mul_le_mul (by omega) hlen.2 (by omega) (by omega)
    have e : w64 (w64 (w64 (ch - 1) * S.Len) + (i : Int)) = (ch - 1) * S.Len + i := by rw [w1, w2]; exact w64_id (by omega)
    rw [ofQ, List.getD_eq_getElem?_getD, List.getElem?_map, List.getElem?_range (by omega)]
    simp only [Option.map_some, Option.getD_some]
    rw [if_pos (by omega), hg, e]
    congr 1
    unfold ofWs
    rw [w1, w2, w3, List.getD_eq_getElem?_getD, List.getD_eq_getElem?_getD, List.getElem?_map, List.getElem?_take, if_pos (by omega), List.getElem?_drop]
    have e2 : ((ch - 1) * S.Len).toNat + i = ((ch - 1) * S.Len + (i : Int)).toNat := by omega
    rw [e2]
    have hlt : ((ch - 1) * S.Len + (i : Int)).toNat < S.Op.Weights.length := by omega
    rw [List.getElem?_eq_getElem hlt]; rfl
theorem termsF_eq {m : Model} {op ch at_ : Int} (h0 : findE m op = 0) (hb : ofBad (findS m op) ch at_ = false) : termsF m op ch at_ = tlF (findS m op) ch at_ := by
  simp [termsF, h0, hb, tlF]
end Go.AM
end
section
open Go Go.AM Go.Proofs
set_option maxRecDepth 10000
set_option linter.unusedVariables false
set_option linter.unusedSimpArgs false
namespace Go.AM
/-- how often a window of k fits, by steps -/
def cntN (n k step : Int) : Nat := if n < k then 0 else ((n - k) / step).toNat + 1
theorem cnt_lt {n k step : Int} {j : Nat} (hs : 1 ≤ step) : ((j : Int) * step + k ≤ n) ↔ j < cntN n k step := by
  unfold cntN
  by_cases h : n < k
  · rw [if_pos h]
    have : 0 ≤ (j : Int) * step := Int.mul_nonneg (by omega) (by omega)
    omega
  · rw [if_neg h]
    have h0 : 0 ≤ (n - k) / step := Int.ediv_nonneg (by omega) (by omega)
    have key : (j : Int) ≤ (n - k) / step ↔ (j : Int) * step ≤ n - k := Int.le_ediv_iff_mul_le (by omega)
    omega
theorem cnt_le {n k step : Int} (hs : 1 ≤ step) (hk : 0 ≤ k) (hn : n ≤ 100000) : cntN n k step ≤ 100001 := by
  unfold cntN
  split
  · omega
  · have : (n - k) / step ≤ n - k := by
      rcases Int.lt_or_le (n - k) 0 with h | h
      · omega
      · exact Int.ediv_le_self step h
    omega
theorem ref06_count (n k step : Int) (hk : 0 ≤ k ∧ k ≤ 32) (hs : 1 ≤ step ∧ step ≤ 32) (hn : 0 ≤ n ∧ n ≤ 100000) : Ok Try.prog 62 [.int .i64 n, .int .i64 k, .int .i64 step] (.int .i64 (cntN n k step : Int)) := by
  have hN := cnt_le (n := n) (k := k) (step := step) hs.1 hk.1 hn.2
  refine fn_ok Tb_ok (fn := Try.f62) Try.func62 rfl rfl (e := [(0, _), (1, _), (2, _)]) rfl (by decide) rfl ?_
  refine W_seq ?_
  refine W_region rfl ?_
  refine L_v Tb_ok (v := .int _ _) (av rfl ⟨trivial, trivial⟩) rfl ?_
  refine WL_nil ?_
  refine W_seq ?_
  refine W_region rfl ?_
  refine L_v Tb_ok (v := .int _ _) (av rfl ⟨trivial, trivial⟩) rfl ?_
  refine WL_nil ?_
  refine W_seq ?_
  refine W_seq ?_
  refine W_region rfl ?_
  refine L_v Tb_ok (v := .int _ _) (av rfl ⟨trivial, trivial⟩) rfl ?_
  refine WL_nil ?_
  refine W_block ?_
  refine W_for (cntN n k step) (fun j => ⟨[(0, .int .i64 n), (1, .int .i64 k), (2, .int .i64 step), (7, .int .i64 (j : Int)), (8, .int .i64 ((j : Int) * step))], [], [], 0⟩) (le_fit ⟨rfl, rfl, rfl, rfl, congrArg (AV.int .i64) (show (0 : Int) = ((0 : Nat) : Int) * step by simp), trivial⟩ trivial trivial rfl rfl rfl rfl rfl) ?_
  intro j hj
  have b0 : 0 ≤ (j : Int) * step := Int.mul_nonneg (by omega) (by omega)
  have b1 : (j : Int) * step ≤ 100001 * 32 := Int.mul_le_mul (by omega) hs.2 (by omega) (by omega)
  have w1 : IntKind.i64.wrap ((j : Int) * step + k) = (j : Int) * step + k := w64_id (by omega)
  have w2 : IntKind.i64.wrap ((j : Int) * step + step) = ((j + 1 : Nat) : Int) * step := by rw [w64_id (by omega)]; rw [Int.natCast_add, Int.add_mul]; omega
  refine W_seq ?_
  refine W_seq ?_
  refine W_region rfl ?_
  refine L_v Tb_ok (v := .int _ _) (av rfl ⟨trivial, trivial⟩) rfl ?_
  refine L_v Tb_ok (v := .int _ _) (av rfl ⟨trivial, trivial⟩) rfl ?_
  refine L_v Tb_ok (v := .int _ _) (av rfl ⟨trivial, trivial⟩) rfl ?_
  refine L_v Tb_ok (v := .int _ _) (av rfl ⟨trivial, trivial⟩) rfl ?_
  refine L_v Tb_ok (v := .bool _) (av rfl ⟨trivial, trivial⟩) rfl ?_
  refine WL_nil ?_
  refine W_cond (b := _) rfl (fun h13 => ?_) (fun h13 => ?_)
  · have hlt : j < cntN n k step := by rw [w1] at h13; exact (cnt_lt hs.1).1 (of_decide_eq_true h13)
    refine W_skip ?_
    refine W_seq ?_
    refine W_block ?_
    refine W_region rfl ?_
    refine L_v Tb_ok (v := .int _ _) (av rfl ⟨trivial, trivial⟩) rfl ?_
    refine L_v Tb_ok (v := .int _ _) (av rfl ⟨trivial, trivial⟩) rfl ?_
    refine L_v Tb_ok (v := .int _ _) (av rfl ⟨trivial, trivial⟩) rfl ?_
    refine WL_nil ?_
    refine W_region rfl ?_
    refine L_v Tb_ok (v := .int _ _) (av rfl ⟨trivial, trivial⟩) rfl ?_
    refine L_v Tb_ok (v := .int _ _) (av rfl ⟨trivial, trivial⟩) rfl ?_
    refine L_v Tb_ok (v := .int _ _) (av rfl ⟨trivial, trivial⟩) rfl ?_
    refine L_v Tb_ok (v := .int _ _) (av rfl ⟨trivial, trivial⟩) rfl ?_
    refine WL_nil ?_
    refine for_end hlt (le_fit ⟨rfl, rfl, rfl, congrArg _ (w_succ hlt (by omega)), congrArg (AV.int .i64) w2, trivial⟩ trivial trivial rfl rfl rfl rfl rfl)
  · have hje : j = cntN n k step := by rw [w1] at h13; have := mt (cnt_lt hs.1).2 (of_decide_eq_false h13); omega
    refine W_exit ?_
    repeat (first | refine pass_then ?_ | refine pass_once ?_ | refine pass_le ?_ | refine pass_round ?_ | refine pass_for ?_ | refine blockQ_miss rfl ?_)
    refine blockQ_hit ?_
    refine W_seq ?_
    refine W_region rfl ?_
    refine L_v Tb_ok (v := .int _ _) (av rfl ⟨trivial, trivial⟩) rfl ?_
    refine L_v Tb_ok (v := .int _ _) (av rfl ⟨trivial, trivial⟩) rfl ?_
    refine WL_nil ?_
    refine W_ret ?_
    refine ends (l := [.int _ _]) (q := .int _ _) (.inr rfl) rfl ⟨trivial, trivial⟩ rfl rfl ?_
    rw [hje]
theorem cnt_out {n k step : Int} (hs : 1 ≤ step) (hk : 0 ≤ k) (hn : n ≤ 100000) : (cntN n k step : Int) = if n - k < 0 then 0 else w64 (w64 ((n - k).tdiv step) + 1) := by
  unfold cntN
  by_cases h : n < k
  · rw [if_pos h, if_pos (by omega)]; rfl
  · rw [if_neg h, if_neg (by omega), Int.tdiv_eq_ediv_of_nonneg (by omega)]
    have h0 : 0 ≤ (n - k) / step := Int.ediv_nonneg (by omega) (by omega)
    have h1 : (n - k) / step ≤ n - k := Int.ediv_le_self step (by omega)
    rw [show w64 ((n - k) / step) = (n - k) / step from w64_id (by omega), show w64 _ = _ from w64_id (by omega)]
    omega
theorem ref06_Out (s : Shape) (w : Window) : Ok Try.prog 48 [.agg (shapeC s), .agg (windowC w)] (.tup [.int .i64 (outH s w), .int .i64 (outW s w), .int .i64 (outE s w)]) := by
  cases hs : shapeB s with
  | false =>
    have hc11 : (!shapeB s) = true := by simp [hs]
    --@@1
    skip
    refine fn_ok Tb_ok (fn := Try.f48) Try.func48 rfl rfl (e := [(0, _), (1, _)]) rfl (by decide) rfl ?_
    refine W_seq ?_
    refine W_region rfl ?_
    refine L_box Tb_ok (cs := [.int _ _, .int _ _, .int _ _]) (n := 3) rfl rfl rfl rfl trivial ?_
    refine L_box Tb_ok (cs := [.int _ _, .int _ _, .int _ _, .int _ _, .int _ _, .int _ _, .int _ _, .int _ _]) (n := 8) rfl rfl rfl rfl trivial ?_
    refine L_v Tb_ok (v := .int _ _) (av rfl ⟨trivial, trivial⟩) rfl ?_
    refine L_v Tb_ok (v := .int _ _) (av rfl ⟨trivial, trivial⟩) rfl ?_
    refine L_v Tb_ok (v := .int _ _) (av rfl ⟨trivial, trivial⟩) rfl ?_
    refine WL_nil ?_
    refine W_seq ?_
    refine W_seq ?_
    refine W_region rfl ?_
    refine L_v Tb_ok (v := .agg [.int _ _, .int _ _, .int _ _]) (av rfl ⟨trivial, rfl⟩) rfl ?_
    refine L_call (hr := ref05_Valid s) rfl rfl trivial rfl rfl ?_
    refine L_v Tb_ok (v := .bool _) (av rfl ⟨trivial, trivial⟩) rfl ?_
    refine WL_nil ?_
    refine W_cond_t (b := _) rfl (by first | exact hc11 | rfl | decide | simp_all) ?_
    refine W_seq ?_
    refine W_region rfl ?_
    refine L_v Tb_ok (v := .int _ _) (av rfl ⟨trivial, trivial⟩) rfl ?_
    refine L_v Tb_ok (v := .int _ _) (av rfl ⟨trivial, trivial⟩) rfl ?_
    refine L_v Tb_ok (v := .int _ _) (av rfl ⟨trivial, trivial⟩) rfl ?_
    refine WL_nil ?_
    refine W_ret ?_
    refine ends (l := [.int _ _, .int _ _, .int _ _]) (q := .tup [.int _ _, .int _ _, .int _ _]) (.inr rfl) rfl ⟨trivial, trivial, trivial, trivial⟩ rfl rfl ?_
    simp [outH, outW, outE, hs]
  | true =>
    have hc11 : (!shapeB s) = false := by simp [hs]
    cases hw : windowB w with
    | false =>
      have hc14 : (!windowB w) = true := by simp [hw]
      --@@2
      skip
      refine fn_ok Tb_ok (fn := Try.f48) Try.func48 rfl rfl (e := [(0, _), (1, _)]) rfl (by decide) rfl ?_
      refine W_seq ?_
      refine W_region rfl ?_
      refine L_box Tb_ok (cs := [.int _ _, .int _ _, .int _ _]) (n := 3) rfl rfl rfl rfl trivial ?_
      refine L_box Tb_ok (cs := [.int _ _, .int _ _, .int _ _, .int _ _, .int _ _, .int _ _, .int _ _, .int _ _]) (n := 8) rfl rfl rfl rfl trivial ?_
      refine L_v Tb_ok (v := .int _ _) (av rfl ⟨trivial, trivial⟩) rfl ?_
      refine L_v Tb_ok (v := .int _ _) (av rfl ⟨trivial, trivial⟩) rfl ?_
      refine L_v Tb_ok (v := .int _ _) (av rfl ⟨trivial, trivial⟩) rfl ?_
      refine WL_nil ?_
      refine W_seq ?_
      refine W_seq ?_
      refine W_region rfl ?_
      refine L_v Tb_ok (v := .agg [.int _ _, .int _ _, .int _ _]) (av rfl ⟨trivial, rfl⟩) rfl ?_
      refine L_call (hr := ref05_Valid s) rfl rfl trivial rfl rfl ?_
      refine L_v Tb_ok (v := .bool _) (av rfl ⟨trivial, trivial⟩) rfl ?_
      refine WL_nil ?_
      refine W_cond_f (b := _) rfl (by first | exact hc11 | rfl | decide | simp_all) ?_
      refine W_skip ?_
      refine W_seq ?_
      refine W_seq ?_
      refine W_region rfl ?_
      refine L_v Tb_ok (v := .agg [.int _ _, .int _ _, .int _ _, .int _ _, .int _ _, .int _ _, .int _ _, .int _ _]) (av rfl ⟨trivial, rfl⟩) rfl ?_
      refine L_call (hr := ref06_Valid w) rfl rfl trivial rfl rfl ?_
      refine L_v Tb_ok (v := .bool _) (av rfl ⟨trivial, trivial⟩) rfl ?_
      refine WL_nil ?_
      refine W_cond_t (b := _) rfl (by first | exact hc14 | rfl | decide | simp_all) ?_
      refine W_seq ?_
      refine W_region rfl ?_
      refine L_v Tb_ok (v := .int _ _) (av rfl ⟨trivial, trivial⟩) rfl ?_
      refine L_v Tb_ok (v := .int _ _) (av rfl ⟨trivial, trivial⟩) rfl ?_
      refine L_v Tb_ok (v := .int _ _) (av rfl ⟨trivial, trivial⟩) rfl ?_
      refine WL_nil ?_
      refine W_ret ?_
      refine ends (l := [.int _ _, .int _ _, .int _ _]) (q := .tup [.int _ _, .int _ _, .int _ _]) (.inr rfl) rfl ⟨trivial, trivial, trivial, trivial⟩ rfl rfl ?_
      simp [outH, outW, outE, hs, hw]
    | true =>
      have hc14 : (!windowB w) = false := by simp [hw]
      have B := shapeB_iff.1 hs
      have W := windowB_iff hw
      have e1 : w64 (w64 (s.H + w.Top) + w.Bottom) = s.H + w.Top + w.Bottom := by rw [show w64 (s.H + w.Top) = _ from w64_id (by omega)]; exact w64_id (by omega)
      have e2 : w64 (w64 (s.W + w.Left) + w.Right) = s.W + w.Left + w.Right := by rw [show w64 (s.W + w.Left) = _ from w64_id (by omega)]; exact w64_id (by omega)
      have f1 : spanH s w = s.H + w.Top + w.Bottom - w.KH := by unfold spanH; rw [e1]; exact w64_id (by omega)
      have f2 : spanW s w = s.W + w.Left + w.Right - w.KW := by unfold spanW; rw [e2]; exact w64_id (by omega)
      have c1 := ref06_count (w64 (w64 (s.H + w.Top) + w.Bottom)) w.KH w.SH (by omega) (by omega) (by omega)
      have c2 := ref06_count (w64 (w64 (s.W + w.Left) + w.Right)) w.KW w.SW (by omega) (by omega) (by omega)
      have g1 := cnt_out (n := w64 (w64 (s.H + w.Top) + w.Bottom)) (k := w.KH) (step := w.SH) (by omega) (by omega) (by omega)
      have g2 := cnt_out (n := w64 (w64 (s.W + w.Left) + w.Right)) (k := w.KW) (step := w.SW) (by omega) (by omega) (by omega)
      have p1 : (cntN (w64 (w64 (s.H + w.Top) + w.Bottom)) w.KH w.SH : Int) = 0 ↔ spanH s w < 0 := by
        rw [f1, e1]; unfold cntN; split <;> omega
      have p2 : (cntN (w64 (w64 (s.W + w.Left) + w.Right)) w.KW w.SW : Int) = 0 ↔ spanW s w < 0 := by
        rw [f2, e2]; unfold cntN; split <;> omega
      have q1 : w64 (w64 (s.H + w.Top) + w.Bottom) - w.KH = spanH s w := by rw [e1, f1]
      have q2 : w64 (w64 (s.W + w.Left) + w.Right) - w.KW = spanW s w := by rw [e2, f2]
      rw [q1] at g1
      rw [q2] at g2
      generalize (cntN (w64 (w64 (s.H + w.Top) + w.Bottom)) w.KH w.SH : Int) = C1 at *
      generalize (cntN (w64 (w64 (s.W + w.Left) + w.Right)) w.KW w.SW : Int) = C2 at *
      --@@3
      skip
      refine fn_ok Tb_ok (fn := Try.f48) Try.func48 rfl rfl (e := [(0, _), (1, _)]) rfl (by decide) rfl ?_
      refine W_seq ?_
      refine W_region rfl ?_
      refine L_box Tb_ok (cs := [.int _ _, .int _ _, .int _ _]) (n := 3) rfl rfl rfl rfl trivial ?_
      refine L_box Tb_ok (cs := [.int _ _, .int _ _, .int _ _, .int _ _, .int _ _, .int _ _, .int _ _, .int _ _]) (n := 8) rfl rfl rfl rfl trivial ?_
      refine L_v Tb_ok (v := .int _ _) (av rfl ⟨trivial, trivial⟩) rfl ?_
      refine L_v Tb_ok (v := .int _ _) (av rfl ⟨trivial, trivial⟩) rfl ?_
      refine L_v Tb_ok (v := .int _ _) (av rfl ⟨trivial, trivial⟩) rfl ?_
      refine WL_nil ?_
      refine W_seq ?_
      refine W_seq ?_
      refine W_region rfl ?_
      refine L_v Tb_ok (v := .agg [.int _ _, .int _ _, .int _ _]) (av rfl ⟨trivial, rfl⟩) rfl ?_
      refine L_call (hr := ref05_Valid s) rfl rfl trivial rfl rfl ?_
      refine L_v Tb_ok (v := .bool _) (av rfl ⟨trivial, trivial⟩) rfl ?_
      refine WL_nil ?_
      refine W_cond_f (b := _) rfl (by first | exact hc11 | rfl | decide | simp_all) ?_
      refine W_skip ?_
      refine W_seq ?_
      refine W_seq ?_
      refine W_region rfl ?_
      refine L_v Tb_ok (v := .agg [.int _ _, .int _ _, .int _ _, .int _ _, .int _ _, .int _ _, .int _ _, .int _ _]) (av rfl ⟨trivial, rfl⟩) rfl ?_
      refine L_call (hr := ref06_Valid w) rfl rfl trivial rfl rfl ?_
      refine L_v Tb_ok (v := .bool _) (av rfl ⟨trivial, trivial⟩) rfl ?_
      refine WL_nil ?_
      refine W_cond_f (b := _) rfl (by first | exact hc14 | rfl | decide | simp_all) ?_
      refine W_skip ?_
      refine W_seq ?_
      refine W_region rfl ?_
      refine L_v Tb_ok (v := .ptr _ _ _) (av rfl ⟨trivial, trivial⟩) rfl ?_
      refine L_v Tb_ok (v := .int _ _) (av rfl ⟨trivial, rfl⟩) rfl ?_
      refine L_v Tb_ok (v := .ptr _ _ _) (av rfl ⟨trivial, trivial⟩) rfl ?_
      refine L_v Tb_ok (v := .int _ _) (av rfl ⟨trivial, rfl⟩) rfl ?_
      refine L_v Tb_ok (v := .int _ _) (av rfl ⟨trivial, trivial⟩) rfl ?_
      refine L_v Tb_ok (v := .ptr _ _ _) (av rfl ⟨trivial, trivial⟩) rfl ?_
      refine L_v Tb_ok (v := .int _ _) (av rfl ⟨trivial, rfl⟩) rfl ?_
      refine L_v Tb_ok (v := .int _ _) (av rfl ⟨trivial, trivial⟩) rfl ?_
      refine L_v Tb_ok (v := .ptr _ _ _) (av rfl ⟨trivial, trivial⟩) rfl ?_
      refine L_v Tb_ok (v := .int _ _) (av rfl ⟨trivial, rfl⟩) rfl ?_
      refine L_v Tb_ok (v := .ptr _ _ _) (av rfl ⟨trivial, trivial⟩) rfl ?_
      refine L_v Tb_ok (v := .int _ _) (av rfl ⟨trivial, rfl⟩) rfl ?_
      refine L_call (hr := c1) rfl rfl trivial rfl rfl ?_
      refine L_v Tb_ok (v := .int _ _) (av rfl ⟨trivial, trivial⟩) rfl ?_
      refine WL_nil ?_
      refine W_seq ?_
      refine W_region rfl ?_
      refine L_v Tb_ok (v := .ptr _ _ _) (av rfl ⟨trivial, trivial⟩) rfl ?_
      refine L_v Tb_ok (v := .int _ _) (av rfl ⟨trivial, rfl⟩) rfl ?_
      refine L_v Tb_ok (v := .ptr _ _ _) (av rfl ⟨trivial, trivial⟩) rfl ?_
      refine L_v Tb_ok (v := .int _ _) (av rfl ⟨trivial, rfl⟩) rfl ?_
      refine L_v Tb_ok (v := .int _ _) (av rfl ⟨trivial, trivial⟩) rfl ?_
      refine L_v Tb_ok (v := .ptr _ _ _) (av rfl ⟨trivial, trivial⟩) rfl ?_
      refine L_v Tb_ok (v := .int _ _) (av rfl ⟨trivial, rfl⟩) rfl ?_
      refine L_v Tb_ok (v := .int _ _) (av rfl ⟨trivial, trivial⟩) rfl ?_
      refine L_v Tb_ok (v := .ptr _ _ _) (av rfl ⟨trivial, trivial⟩) rfl ?_
      refine L_v Tb_ok (v := .int _ _) (av rfl ⟨trivial, rfl⟩) rfl ?_
      refine L_v Tb_ok (v := .ptr _ _ _) (av rfl ⟨trivial, trivial⟩) rfl ?_
      refine L_v Tb_ok (v := .int _ _) (av rfl ⟨trivial, rfl⟩) rfl ?_
      refine L_call (hr := c2) rfl rfl trivial rfl rfl ?_
      refine L_v Tb_ok (v := .int _ _) (av rfl ⟨trivial, trivial⟩) rfl ?_
      refine WL_nil ?_
      refine W_seq ?_
      refine W_seq ?_
      refine W_region rfl ?_
      refine L_v Tb_ok (v := .int _ _) (av rfl ⟨trivial, trivial⟩) rfl ?_
      refine L_v Tb_ok (v := .bool _) (av rfl ⟨trivial, trivial⟩) rfl ?_
      refine L_v Tb_ok (v := .bool _) (av rfl ⟨trivial, trivial⟩) rfl ?_
      refine L_g Tb_ok (v := .int _ _) rfl rfl ((fun hg => (av rfl ⟨trivial, trivial⟩))) rfl rfl ?_
      refine L_g Tb_ok (v := .bool _) rfl rfl ((fun hg => (av rfl ⟨⟨⟨(by first | exact hg | (simp_all; done) | (simp at hg ⊢; simp [hg])), True.intro⟩, True.intro⟩, trivial⟩))) rfl rfl ?_
      refine L_v Tb_ok (v := .bool _) (av rfl (by refine ⟨?_, fun h => ?_, fun h => ?_⟩ <;> first | exact True.intro | exact ⟨h, True.intro⟩ | (refine ⟨?_, True.intro⟩; first | (rw [h]; done) | (rw [h]; rfl) | (simp [h]; done) | (simp at h hg ⊢; simp [h, hg]; done) | (simp_all; done) | (simp_all; omega)))) rfl ?_
      refine WL_nil ?_
      refine W_cond (b := _) rfl (fun h46 => ?_) (fun h46 => ?_)
      · refine W_seq ?_
        refine W_region rfl ?_
        refine L_v Tb_ok (v := .int _ _) (av rfl ⟨trivial, trivial⟩) rfl ?_
        refine L_v Tb_ok (v := .int _ _) (av rfl ⟨trivial, trivial⟩) rfl ?_
        refine L_v Tb_ok (v := .int _ _) (av rfl ⟨trivial, trivial⟩) rfl ?_
        refine WL_nil ?_
        refine W_ret ?_
        refine ends (l := [.int _ _, .int _ _, .int _ _]) (q := .tup [.int _ _, .int _ _, .int _ _]) (.inr rfl) rfl ⟨trivial, trivial, trivial, trivial⟩ rfl rfl ?_
        have : spanH s w < 0 ∨ spanW s w < 0 := by
          cases hq : C1 == 0 with
          | true => exact .inl (p1.1 (by simpa using hq))
          | false => rw [hq] at h46; exact .inr (p2.1 (by simpa using h46))
        simp [outH, outW, outE, hs, hw, this]
      · refine W_skip ?_
        refine W_seq ?_
        refine W_region rfl ?_
        refine L_v Tb_ok (v := .int _ _) (av rfl ⟨trivial, trivial⟩) rfl ?_
        refine L_v Tb_ok (v := .int _ _) (av rfl ⟨trivial, trivial⟩) rfl ?_
        refine L_v Tb_ok (v := .int _ _) (av rfl ⟨trivial, trivial⟩) rfl ?_
        refine L_v Tb_ok (v := .int _ _) (av rfl ⟨trivial, trivial⟩) rfl ?_
        refine L_v Tb_ok (v := .int _ _) (av rfl ⟨trivial, trivial⟩) rfl ?_
        refine WL_nil ?_
        refine W_ret ?_
        refine ends (l := [.int _ _, .int _ _, .int _ _]) (q := .tup [.int _ _, .int _ _, .int _ _]) (.inr rfl) rfl ⟨trivial, trivial, trivial, trivial⟩ rfl rfl ?_
        have : ¬ (spanH s w < 0 ∨ spanW s w < 0) := by
          cases hq : C1 == 0 with
          | true => rw [hq] at h46; simp at h46
          | false =>
            rw [hq] at h46
            have n1 : C1 ≠ 0 := by simpa using hq
            have n2 : C2 ≠ 0 := by simpa using h46
            rintro (h | h)
            · exact n1 (p1.2 h)
            · exact n2 (p2.2 h)
        have t1 : ¬ spanH s w < 0 := fun h => this (.inl h)
        have t2 : ¬ spanW s w < 0 := fun h => this (.inr h)
        rw [if_neg t1] at g1
        rw [if_neg t2] at g2
        simp [outH, outW, outE, hs, hw, t1, t2, g1, g2]
end Go.AM
end
