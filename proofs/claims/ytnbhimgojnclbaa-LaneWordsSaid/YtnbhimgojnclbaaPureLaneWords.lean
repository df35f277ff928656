/- Every Add and Mul of 16 bits and of 32 is the document's. No condition. -/
import Derived.Test.YtnbhimgojnclbaaCLeWordsLaneQ
import Derived.Test.YtnbhimgojnclbaaCLeWordsSayLaneWords
namespace Go.Proofs.Ytnbhimgojnclbaa.Pure
open Go.RowKit Go.Proofs.Ytnbhimgojnclbaa Go.Proofs.Ytnbhimgojnclbaa.Lib Go.Proofs.Ytnbhimgojnclbaa.CLeWords Go.Proofs.YtnbhimgojnclbaaW.PrintWords Go.Proofs.YtnbhimgojnclbaaW.PrintLast Go.Proofs.YtnbhimgojnclbaaW.PrintMore
theorem LaneWords : spillwaylaw20_LaneWords.Pure := by
  intro a b c d ha hb hc hd
  have ha := bounds_i16 ha
  have hb := bounds_i16 hb
  have hc := bounds_i32 hc
  have hd := bounds_i32 hd
  refine ⟨4, ?_⟩
  unfold spillwaylaw20_LaneWords.f
  have m1 := mul16 ha hb
  have m2 := mul32 hc hd
  have r1 := w16_in (a + b)
  have r2 := w16_in (a * b)
  have r3 := w32_in (c + d)
  have r4 := w32_in (c * d)
  unfold in16 in32 at *
  rw [lane_Add16 ha hb, lane_Mul16 ha hb, lane_Add32 hc hd, lane_Mul32 hc hd, w64 (x := a) (by omega), w64 (x := b) (by omega), w64 (x := c) (by omega), w64 (x := d) (by omega),
    ref20_Add16 (a := a) (b := b) ⟨by omega, by omega⟩, ref20_Mul16 (a := a) (b := b) ⟨by omega, by omega⟩, ref20_Add32 (a := c) (b := d) ⟨by omega, by omega⟩, ref20_Mul32 (a := c) (b := d) ⟨by omega, by omega⟩, lane_fixed 0]
  simp only [Option.bind_some, if_true]
  rw [w64 (x := w16 (a + b)) (by omega), w64 (x := w16 (a * b)) (by omega), w64 (x := w32 (c + d)) (by omega), w64 (x := w32 (c * d)) (by omega)]
  have bn : ∀ x : Bool, (x != !x) = true := by decide
  simp only [if_true, bn]
end Go.Proofs.Ytnbhimgojnclbaa.Pure
