/- Plain facts on sums, products and wraps of 64 bits. -/
import Derived.RowKit
import Derived.OpenShut
import Derived.Laws.BitsAllLaws
import Derived.Test.YthjfmgdldjbkgaaWMore
namespace Go.Proofs.Ythjfmgdldjbkgaa.Lib
open Go.RowKit Go.Proofs.YthjfmgdldjbkgaaW.PrintWords Go.Proofs.YthjfmgdldjbkgaaW.PrintMore

/-- A checked result: the number, or ErrOver. -/
def chk (x : Int) : Int × Int := if -9223372036854775808 ≤ x ∧ x ≤ 9223372036854775807 then (x, 0) else (0, 10)
theorem chk_in {x : Int} (h : -9223372036854775808 ≤ x ∧ x ≤ 9223372036854775807) : chk x = (x, 0) := if_pos h
theorem chk_out {x : Int} (h : ¬ (-9223372036854775808 ≤ x ∧ x ≤ 9223372036854775807)) : chk x = (0, 10) := if_neg h

theorem wrap_toNat64 (v : BitVec 64) : IntKind.i64.wrap (v.toNat : Int) = v.toInt := by
  rw [IntKind.wrap_i64, BitVec.toInt_eq_toNat_cond]
  have := v.isLt
  split <;> omega
theorem ofInt_toInt64 {x : Int} (h : -9223372036854775808 ≤ x ∧ x ≤ 9223372036854775807) : (BitVec.ofInt 64 x).toInt = x := by
  rw [BitVec.toInt_ofInt, Int.bmod_def]
  split <;> omega
theorem ofInt_msb64 {x : Int} (h : -9223372036854775808 ≤ x ∧ x ≤ 9223372036854775807) : (BitVec.ofInt 64 x).msb = decide (x < 0) := by
  rw [BitVec.msb_eq_toInt, ofInt_toInt64 h]
theorem xor_neg {x y : Int} (hx : -9223372036854775808 ≤ x ∧ x ≤ 9223372036854775807) (hy : -9223372036854775808 ≤ y ∧ y ≤ 9223372036854775807) :
    Go.bits .xor .i64 x y < 0 ↔ ¬ (x < 0 ↔ y < 0) := by
  have e : Go.bits .xor .i64 x y = (BitVec.ofInt 64 x ^^^ BitVec.ofInt 64 y).toInt := wrap_toNat64 _
  have m : (BitVec.ofInt 64 x ^^^ BitVec.ofInt 64 y).msb = (decide (x < 0) ^^ decide (y < 0)) := by
    rw [BitVec.msb_xor, ofInt_msb64 hx, ofInt_msb64 hy]
  rw [BitVec.msb_eq_toInt] at m
  rw [e]
  by_cases c : x < 0 <;> by_cases d : y < 0 <;> simp [c, d] at m ⊢ <;> omega
theorem and_neg {x y : Int} (hx : -9223372036854775808 ≤ x ∧ x ≤ 9223372036854775807) (hy : -9223372036854775808 ≤ y ∧ y ≤ 9223372036854775807) :
    Go.bits .and .i64 x y < 0 ↔ (x < 0 ∧ y < 0) := by
  have e : Go.bits .and .i64 x y = (BitVec.ofInt 64 x &&& BitVec.ofInt 64 y).toInt := wrap_toNat64 _
  have m : (BitVec.ofInt 64 x &&& BitVec.ofInt 64 y).msb = (decide (x < 0) && decide (y < 0)) := by
    rw [BitVec.msb_and, ofInt_msb64 hx, ofInt_msb64 hy]
  rw [BitVec.msb_eq_toInt] at m
  rw [e]
  by_cases c : x < 0 <;> by_cases d : y < 0 <;> simp [c, d] at m ⊢ <;> omega
theorem wrap64_range (x : Int) : -9223372036854775808 ≤ wrap64 x ∧ wrap64 x ≤ 9223372036854775807 := by unfold wrap64; omega
theorem bits_range (op : BinOp) (x y : Int) : -9223372036854775808 ≤ Go.bits op .i64 x y ∧ Go.bits op .i64 x y ≤ 9223372036854775807 := bounds_i64 (wf_bits op .i64 x y)
theorem w64 {x : Int} (h : -9223372036854775808 ≤ x ∧ x ≤ 9223372036854775807) : wrap64 x = x := by unfold wrap64; omega

theorem add_test {a b : Int} (ha : -9223372036854775808 ≤ a ∧ a ≤ 9223372036854775807) (hb : -9223372036854775808 ≤ b ∧ b ≤ 9223372036854775807) :
    Go.bits .and .i64 (Go.bits .xor .i64 a (wrap64 (a + b))) (Go.bits .xor .i64 b (wrap64 (a + b))) < 0 ↔ ¬ (-9223372036854775808 ≤ a + b ∧ a + b ≤ 9223372036854775807) := by
  have hs := wrap64_range (a + b)
  rw [and_neg (bits_range _ _ _) (bits_range _ _ _), xor_neg ha hs, xor_neg hb hs]
  unfold wrap64
  omega
theorem sub_test {a b : Int} (ha : -9223372036854775808 ≤ a ∧ a ≤ 9223372036854775807) (hb : -9223372036854775808 ≤ b ∧ b ≤ 9223372036854775807) :
    Go.bits .and .i64 (Go.bits .xor .i64 a b) (Go.bits .xor .i64 a (wrap64 (a - b))) < 0 ↔ ¬ (-9223372036854775808 ≤ a - b ∧ a - b ≤ 9223372036854775807) := by
  have hs := wrap64_range (a - b)
  rw [and_neg (bits_range _ _ _) (bits_range _ _ _), xor_neg ha hb, xor_neg ha hs]
  unfold wrap64
  omega
theorem add_eq {a b : Int} (ha : -9223372036854775808 ≤ a ∧ a ≤ 9223372036854775807) (hb : -9223372036854775808 ≤ b ∧ b ≤ 9223372036854775807) :
    (if (Go.bits .and .i64 (Go.bits .xor .i64 a (wrap64 (a + b))) (Go.bits .xor .i64 b (wrap64 (a + b)))) < 0 then (some (0, 10)) else (some (wrap64 (a + b), 0))) = some (chk (a + b)) := by
  by_cases h : -9223372036854775808 ≤ a + b ∧ a + b ≤ 9223372036854775807
  · rw [if_neg (fun t => (add_test ha hb).mp t h), chk_in h, w64 h]
  · rw [if_pos ((add_test ha hb).mpr h), chk_out h]
theorem sub_eq {a b : Int} (ha : -9223372036854775808 ≤ a ∧ a ≤ 9223372036854775807) (hb : -9223372036854775808 ≤ b ∧ b ≤ 9223372036854775807) :
    (if (Go.bits .and .i64 (Go.bits .xor .i64 a b) (Go.bits .xor .i64 a (wrap64 (a - b)))) < 0 then (some (0, 10)) else (some (wrap64 (a - b), 0))) = some (chk (a - b)) := by
  by_cases h : -9223372036854775808 ≤ a - b ∧ a - b ≤ 9223372036854775807
  · rw [if_neg (fun t => (sub_test ha hb).mp t h), chk_in h, w64 h]
  · rw [if_pos ((sub_test ha hb).mpr h), chk_out h]
theorem radd_eq {a b : Int} (ha : -9223372036854775808 ≤ a ∧ a ≤ 9223372036854775807) (hb : -9223372036854775808 ≤ b ∧ b ≤ 9223372036854775807) :
    (if b > 0 then (if a > (wrap64 (9223372036854775807 - b)) then (some (0, 10)) else (if b < 0 then (if a < (wrap64 ((-9223372036854775808) - b)) then (some (0, 10)) else (some (wrap64 (a + b), 0))) else (some (wrap64 (a + b), 0)))) else (if b < 0 then (if a < (wrap64 ((-9223372036854775808) - b)) then (some (0, 10)) else (some (wrap64 (a + b), 0))) else (some (wrap64 (a + b), 0)))) = some (chk (a + b)) := by
  by_cases h : -9223372036854775808 ≤ a + b ∧ a + b ≤ 9223372036854775807
  · rw [chk_in h, w64 h]
    unfold wrap64
    repeat' split
    all_goals first | rfl | omega
  · rw [chk_out h]
    unfold wrap64
    repeat' split
    all_goals first | rfl | omega
theorem rsub_eq {a b : Int} (ha : -9223372036854775808 ≤ a ∧ a ≤ 9223372036854775807) (hb : -9223372036854775808 ≤ b ∧ b ≤ 9223372036854775807) :
    (if b < 0 then (if a > (wrap64 (9223372036854775807 + b)) then (some (0, 10)) else (if b > 0 then (if a < (wrap64 ((-9223372036854775808) + b)) then (some (0, 10)) else (some (wrap64 (a - b), 0))) else (some (wrap64 (a - b), 0)))) else (if b > 0 then (if a < (wrap64 ((-9223372036854775808) + b)) then (some (0, 10)) else (some (wrap64 (a - b), 0))) else (some (wrap64 (a - b), 0)))) = some (chk (a - b)) := by
  by_cases h : -9223372036854775808 ≤ a - b ∧ a - b ≤ 9223372036854775807
  · rw [chk_in h, w64 h]
    unfold wrap64
    repeat' split
    all_goals first | rfl | omega
  · rw [chk_out h]
    unfold wrap64
    repeat' split
    all_goals first | rfl | omega

/-! products -/
theorem u64w (x : Int) : IntKind.u64.wrap x = x % 18446744073709551616 := by simp [IntKind.wrap, IntKind.bits, IntKind.signed]
theorem i16w (x : Int) : IntKind.i16.wrap x = (x + 32768) % 65536 - 32768 := by
  simp [IntKind.wrap, IntKind.bits, IntKind.signed]
  split <;> omega
theorem i8w (x : Int) : IntKind.i8.wrap x = (x + 128) % 256 - 128 := by
  simp [IntKind.wrap, IntKind.bits, IntKind.signed]
  split <;> omega
theorem and_mask32 (x : Int) (h0 : 0 ≤ x) (h1 : x < 18446744073709551616) : Go.bits .and .u64 x 4294967295 = x % 4294967296 := by
  have h := bits_mask .u64 64 (by decide) (fun n a b => by rw [u64w]; omega) 32 (by decide) x h0 (by simpa using h1)
  simpa using h
theorem mul64_hi (a b : Int) (ha : 0 ≤ a ∧ a < 18446744073709551616) (hb : 0 ≤ b ∧ b < 18446744073709551616) :
    IntKind.u64.wrap ((IntKind.u64.wrap ((IntKind.u64.wrap ((a / 4294967296) * (b / 4294967296))) + ((IntKind.u64.wrap ((IntKind.u64.wrap ((a / 4294967296) * (Go.bits .and .u64 b 4294967295))) + ((IntKind.u64.wrap ((Go.bits .and .u64 a 4294967295) * (Go.bits .and .u64 b 4294967295))) / 4294967296))) / 4294967296))) + ((IntKind.u64.wrap ((Go.bits .and .u64 (IntKind.u64.wrap ((IntKind.u64.wrap ((a / 4294967296) * (Go.bits .and .u64 b 4294967295))) + ((IntKind.u64.wrap ((Go.bits .and .u64 a 4294967295) * (Go.bits .and .u64 b 4294967295))) / 4294967296))) 4294967295) + (IntKind.u64.wrap ((Go.bits .and .u64 a 4294967295) * (b / 4294967296))))) / 4294967296)) = a * b / 18446744073709551616 := by
  rw [and_mask32 a ha.1 ha.2, and_mask32 b hb.1 hb.2]
  have x1 : 0 ≤ a / 4294967296 ∧ a / 4294967296 ≤ 4294967295 := by omega
  have x0 : 0 ≤ a % 4294967296 ∧ a % 4294967296 ≤ 4294967295 := by omega
  have y1 : 0 ≤ b / 4294967296 ∧ b / 4294967296 ≤ 4294967295 := by omega
  have y0 : 0 ≤ b % 4294967296 ∧ b % 4294967296 ≤ 4294967295 := by omega
  have ea : a = a / 4294967296 * 4294967296 + a % 4294967296 := by omega
  have eb : b = b / 4294967296 * 4294967296 + b % 4294967296 := by omega
  generalize a / 4294967296 = A1 at *
  generalize a % 4294967296 = A0 at *
  generalize b / 4294967296 = B1 at *
  generalize b % 4294967296 = B0 at *
  have bd : ∀ x y : Int, 0 ≤ x ∧ x ≤ 4294967295 → 0 ≤ y ∧ y ≤ 4294967295 → 0 ≤ x * y ∧ x * y ≤ 18446744065119617025 := fun x y h k =>
    ⟨Int.mul_nonneg h.1 k.1, by have := Int.mul_le_mul h.2 k.2 k.1 (by omega); omega⟩
  have p11 := bd A1 B1 x1 y1
  have p10 := bd A1 B0 x1 y0
  have p01 := bd A0 B1 x0 y1
  have p00 := bd A0 B0 x0 y0
  have e : a * b = A1 * B1 * 18446744073709551616 + (A1 * B0 + A0 * B1) * 4294967296 + A0 * B0 := by
    rw [ea, eb]
    simp only [Int.add_mul, Int.mul_add]
    have h1 : A1 * 4294967296 * (B1 * 4294967296) = A1 * B1 * 18446744073709551616 := by
      rw [Int.mul_assoc, Int.mul_comm 4294967296 (B1 * 4294967296), Int.mul_assoc, ← Int.mul_assoc A1]; rfl
    have h2 : A0 * (B1 * 4294967296) = A0 * B1 * 4294967296 := by rw [Int.mul_assoc]
    have h3 : A1 * 4294967296 * B0 = A1 * B0 * 4294967296 := by rw [Int.mul_assoc, Int.mul_comm 4294967296 B0, ← Int.mul_assoc]
    rw [h1, h2, h3]
    omega
  rw [e]
  clear e ea eb
  generalize A1 * B1 = P11 at *
  generalize A1 * B0 = P10 at *
  generalize A0 * B1 = P01 at *
  generalize A0 * B0 = P00 at *
  have r1 : IntKind.u64.wrap P11 = P11 := by rw [u64w]; omega
  have r2 : IntKind.u64.wrap P10 = P10 := by rw [u64w]; omega
  have r3 : IntKind.u64.wrap P01 = P01 := by rw [u64w]; omega
  have r4 : IntKind.u64.wrap P00 = P00 := by rw [u64w]; omega
  have r5 : IntKind.u64.wrap (P10 + P00 / 4294967296) = P10 + P00 / 4294967296 := by rw [u64w]; omega
  rw [r1, r2, r3, r4, r5, and_mask32 _ (by omega) (by omega)]
  have r6 : IntKind.u64.wrap ((P10 + P00 / 4294967296) % 4294967296 + P01) = (P10 + P00 / 4294967296) % 4294967296 + P01 := by rw [u64w]; omega
  rw [r6, u64w, u64w]
  omega
theorem mul_bound {a b : Int} (ha : -9223372036854775808 ≤ a ∧ a ≤ 9223372036854775807) (hb : -9223372036854775808 ≤ b ∧ b ≤ 9223372036854775807) :
    -85070591730234615865843651857942052864 ≤ a * b ∧ a * b ≤ 85070591730234615865843651857942052864 := by
  have ha' : a.natAbs ≤ 9223372036854775808 := by omega
  have hb' : b.natAbs ≤ 9223372036854775808 := by omega
  have h := Nat.mul_le_mul ha' hb'
  rw [← Int.natAbs_mul] at h
  omega
/-- The signed product's upper half, out of that of the numbers without a sign. -/
theorem mul_high {a b : Int} (ha : -9223372036854775808 ≤ a ∧ a ≤ 9223372036854775807) (hb : -9223372036854775808 ≤ b ∧ b ≤ 9223372036854775807) (A B hi : Int)
    (hA : A = a % 18446744073709551616) (hB : B = b % 18446744073709551616) (hh : hi = A * B / 18446744073709551616) :
    wrap64 (hi - (if a < 0 then b else 0) - (if b < 0 then a else 0)) = a * b / 18446744073709551616 := by
  have hm := mul_bound ha hb
  by_cases c : a < 0 <;> by_cases d : b < 0
  · have e1 : A = a + 18446744073709551616 := by omega
    have e2 : B = b + 18446744073709551616 := by omega
    have e : A * B = a * b + (a + b) * 18446744073709551616 + 340282366920938463463374607431768211456 := by
      rw [e1, e2, Int.add_mul, Int.mul_add, Int.mul_add]; omega
    rw [hh, e, if_pos c, if_pos d]; unfold wrap64; generalize a * b = p at *; omega
  · have e1 : A = a + 18446744073709551616 := by omega
    have e2 : B = b := by omega
    have e : A * B = a * b + b * 18446744073709551616 := by rw [e1, e2, Int.add_mul]; omega
    rw [hh, e, if_pos c, if_neg d]; unfold wrap64; generalize a * b = p at *; omega
  · have e1 : A = a := by omega
    have e2 : B = b + 18446744073709551616 := by omega
    have e : A * B = a * b + a * 18446744073709551616 := by rw [e1, e2, Int.mul_add]
    rw [hh, e, if_neg c, if_pos d]; unfold wrap64; generalize a * b = p at *; omega
  · have e1 : A = a := by omega
    have e2 : B = b := by omega
    rw [hh, e1, e2, if_neg c, if_neg d]; unfold wrap64; generalize a * b = p at *; omega
theorem mul_low (a b : Int) : wrap64 (IntKind.u64.wrap ((IntKind.u64.wrap a) * (IntKind.u64.wrap b))) = wrap64 (a * b) := by
  rw [u64w, u64w, u64w, ← Int.mul_emod]
  unfold wrap64
  omega
theorem mul_end (p : Int) (hm : -85070591730234615865843651857942052864 ≤ p ∧ p ≤ 85070591730234615865843651857942052864) :
    (if p / 18446744073709551616 = wrap64 p / 9223372036854775808 then (some (wrap64 p, 0)) else (some (0, 10))) = some (chk p) := by
  by_cases h : -9223372036854775808 ≤ p ∧ p ≤ 9223372036854775807
  · rw [chk_in h, w64 h, if_pos (by omega)]
  · rw [chk_out h, if_neg (by unfold wrap64; omega)]
/-! the reference's product, by the sizes -/
theorem rmul_eq (b : Int) (hb : -9223372036854775808 ≤ b ∧ b ≤ 9223372036854775807) (x y : Int) (hy : y = b.natAbs) (hy0 : y ≠ 0) :
    ¬ x > IntKind.u64.wrap (Int.tdiv 9223372036854775808 y) ↔ x * y ≤ 9223372036854775808 := by
  have hd : Int.tdiv 9223372036854775808 y = 9223372036854775808 / y := Int.tdiv_eq_ediv_of_nonneg (by decide)
  have h1 : 9223372036854775808 / y ≤ 9223372036854775808 := Int.ediv_le_self _ (by decide)
  have h0 : 0 ≤ 9223372036854775808 / y := Int.ediv_nonneg (by decide) (by omega)
  rw [hd, u64w, Int.emod_eq_of_lt h0 (by omega), Int.not_lt, Int.le_ediv_iff_mul_le (by omega)]
theorem natAbs_mul_cases (a b : Int) : ((a.natAbs : Int) * (b.natAbs : Int)) = if (decide (a < 0) != decide (b < 0)) = true then -(a * b) else a * b := by
  by_cases c : a < 0 <;> by_cases d : b < 0
  · rw [if_neg (by simp [c, d]), show (a.natAbs : Int) = -a by omega, show (b.natAbs : Int) = -b by omega, Int.neg_mul_neg]
  · rw [if_pos (by simp [c, d]), show (a.natAbs : Int) = -a by omega, show (b.natAbs : Int) = b by omega, Int.neg_mul]
  · rw [if_pos (by simp [c, d]), show (a.natAbs : Int) = a by omega, show (b.natAbs : Int) = -b by omega, Int.mul_neg]
  · rw [if_neg (by simp [c, d]), show (a.natAbs : Int) = a by omega, show (b.natAbs : Int) = b by omega]
end Go.Proofs.Ythjfmgdldjbkgaa.Lib
