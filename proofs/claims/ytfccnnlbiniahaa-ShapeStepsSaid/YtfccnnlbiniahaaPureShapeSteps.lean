/- The next channel is the next place, the next column and row are as far as Strides tells. No condition. -/
import Derived.Test.YtfccnnlbiniahaaShapeQ
import Derived.Test.YtfccnnlbiniahaaQSayShapeSteps
namespace Go.Proofs.Ytfccnnlbiniahaa.Pure
open Go.RowKit Go.Proofs.Ytfccnnlbiniahaa.Lib Go.Proofs.Ytfccnnlbiniahaa.Q Go.Proofs.YtfccnnlbiniahaaW.PrintWords Go.Proofs.YtfccnnlbiniahaaW.PrintLast
theorem plc_y (b c y x d : Int) : plc b c (y + 1) x d = plc b c y x d + b * c := by
  unfold plc; rw [Int.add_mul y 1 b, Int.one_mul, show y * b + b + x = y * b + x + b by omega, Int.add_mul _ b c]; omega
theorem plc_x (b c y x d : Int) : plc b c y (x + 1) d = plc b c y x d + c := by
  unfold plc; rw [show y * b + (x + 1) = y * b + x + 1 by omega, Int.add_mul _ 1 c, Int.one_mul]; omega
theorem plc_d (b c y x d : Int) : plc b c y x (d + 1) = plc b c y x d + 1 := by unfold plc; omega
theorem ShapeSteps : spillwaylaw05_ShapeSteps.Pure := by
  intro a b c y x d _ _ _ _ _ _
  refine ⟨1, ?_⟩
  unfold spillwaylaw05_ShapeSteps.f
  rw [Place_eq, Strides_eq, shape_fixed]
  by_cases h : Shp a b c
  · by_cases s : Spt a b c y x d
    · have f := h.facts
      have p := plc_at h s
      have h' := h
      obtain ⟨a1, a2, b1, b2, c1, c2, h7⟩ := h'
      have s' := s
      obtain ⟨y0, y1, x0, x1, d0, d1⟩ := s'
      simp only [h, s, if_true, Option.bind_some, show ((0 : Int) != 0) = false by decide, spillwaylaw05_ShapeSteps.j0, Bool.false_eq_true, if_false]
      rw [w64 (x := y + 1) (by omega), w64 (x := x + 1) (by omega), w64 (x := d + 1) (by omega), Place_eq, Place_eq, Place_eq]
      simp only [h, if_true, Option.bind_some]
      have t1 : Spt a b c (y + 1) x d ↔ y + 1 < a := ⟨fun t => t.2.1, fun t => ⟨by omega, t, x0, x1, d0, d1⟩⟩
      have t2 : Spt a b c y (x + 1) d ↔ x + 1 < b := ⟨fun t => t.2.2.2.1, fun t => ⟨y0, y1, by omega, t, d0, d1⟩⟩
      have t3 : Spt a b c y x (d + 1) ↔ d + 1 < c := ⟨fun t => t.2.2.2.2.2, fun t => ⟨y0, y1, x0, x1, by omega, t⟩⟩
      have q1 : wrap64 (plc b c y x d + b * c) = plc b c y x d + b * c := w64 (by omega)
      have q2 : wrap64 (plc b c y x d + c) = plc b c y x d + c := w64 (by omega)
      have q3 : wrap64 (plc b c y x d + 1) = plc b c y x d + 1 := w64 (by omega)
      simp only [t1, t2, t3, plc_y, plc_x, plc_d, q1, q2, q3]
      by_cases g1 : y + 1 < a <;> by_cases g2 : x + 1 < b <;> by_cases g3 : d + 1 < c <;> simp [g1, g2, g3]
    · simp [h, s, spillwaylaw05_ShapeSteps.j0, shape_fixed]
  · simp [h, spillwaylaw05_ShapeSteps.j0, shape_fixed]
end Go.Proofs.Ytfccnnlbiniahaa.Pure
