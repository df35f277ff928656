/- What the printed bits.Len64, bits.Div64 come to. -/
import Derived.Test.YthjfmgdldjbkgaaRndLib
import Derived.Test.YthjfmgdldjbkgaaCFqMeansx
namespace Go.Proofs.Ythjfmgdldjbkgaa.CFqMeans
open Go.RowKit Go.Proofs.Ythjfmgdldjbkgaa.Lib Go.Proofs.YthjfmgdldjbkgaaW.PrintWords Go.Proofs.YthjfmgdldjbkgaaW.PrintLast Go.Proofs.YthjfmgdldjbkgaaW.PrintMore
set_option linter.unusedVariables false
set_option linter.unusedSimpArgs false
def len8 : ByteArray := ⟨#[0, 1, 2, 2, 3, 3, 3, 3, 4, 4, 4, 4, 4, 4, 4, 4, 5, 5, 5, 5, 5, 5, 5, 5, 5, 5, 5, 5, 5, 5, 5, 5, 6, 6, 6, 6, 6, 6, 6, 6, 6, 6, 6, 6, 6, 6, 6, 6, 6, 6, 6, 6, 6, 6, 6, 6, 6, 6, 6, 6, 6, 6, 6, 6, 7, 7, 7, 7, 7, 7, 7, 7, 7, 7, 7, 7, 7, 7, 7, 7, 7, 7, 7, 7, 7, 7, 7, 7, 7, 7, 7, 7, 7, 7, 7, 7, 7, 7, 7, 7, 7, 7, 7, 7, 7, 7, 7, 7, 7, 7, 7, 7, 7, 7, 7, 7, 7, 7, 7, 7, 7, 7, 7, 7, 7, 7, 7, 7, 8, 8, 8, 8, 8, 8, 8, 8, 8, 8, 8, 8, 8, 8, 8, 8, 8, 8, 8, 8, 8, 8, 8, 8, 8, 8, 8, 8, 8, 8, 8, 8, 8, 8, 8, 8, 8, 8, 8, 8, 8, 8, 8, 8, 8, 8, 8, 8, 8, 8, 8, 8, 8, 8, 8, 8, 8, 8, 8, 8, 8, 8, 8, 8, 8, 8, 8, 8, 8, 8, 8, 8, 8, 8, 8, 8, 8, 8, 8, 8, 8, 8, 8, 8, 8, 8, 8, 8, 8, 8, 8, 8, 8, 8, 8, 8, 8, 8, 8, 8, 8, 8, 8, 8, 8, 8, 8, 8, 8, 8, 8, 8, 8, 8, 8, 8, 8, 8, 8, 8, 8, 8, 8, 8, 8, 8, 8, 8]⟩
def len8_ok (i : Nat) : Bool := let n := bt len8 i; (i == 0 && n == 0) || (decide (1 ≤ n) && decide (n ≤ 8) && decide ((2 : Int) ^ (n - 1).toNat ≤ i) && decide ((i : Int) < 2 ^ n.toNat))
theorem len8_all : ∀ i : Fin 256, len8_ok i.1 = true := by decide +kernel
theorem len8_at {x : Int} (h0 : 1 ≤ x) (h1 : x < 256) : 1 ≤ bt len8 x ∧ bt len8 x ≤ 8 ∧ p2 (bt len8 x - 1) ≤ x ∧ x < p2 (bt len8 x) := by
  have h : len8_ok x.toNat = true := len8_all ⟨x.toNat, by omega⟩
  unfold len8_ok at h
  rw [show ((x.toNat : Nat) : Int) = x by omega] at h
  have hx : (x.toNat == 0) = false := by simp; omega
  rw [hx] at h
  unfold p2
  generalize bt len8 x = n at h ⊢
  simp only [Bool.false_and, Bool.false_or, Bool.and_eq_true, decide_eq_true_eq] at h
  exact ⟨h.1.1.1, h.1.1.2, h.1.2, h.2⟩
theorem p2_add {a b : Int} (ha : 0 ≤ a) (hb : 0 ≤ b) : p2 (a + b) = p2 a * p2 b := by
  unfold p2; rw [show (a + b).toNat = a.toNat + b.toNat by omega, Int.pow_add]
/-- Where the number's front has n digits, the number has n and as many as are behind the front. -/
theorem digits {x c m n : Int} (hm : c = p2 m) (hm0 : 0 ≤ m) (hn : 1 ≤ n) (h0 : p2 (n - 1) ≤ x / c) (h1 : x / c < p2 n) : p2 (n + m - 1) ≤ x ∧ x < p2 (n + m) := by
  have hc : 0 < c := by have := p2_pos m; omega
  rw [show n + m - 1 = (n - 1) + m by omega, p2_add (by omega) hm0, p2_add (by omega) hm0, ← hm]
  constructor
  · have := (Int.le_ediv_iff_mul_le hc).mp h0; omega
  · have := (Int.ediv_lt_iff_lt_mul hc).mp h1; omega
set_option maxRecDepth 100000 in
theorem Len64_j0_eq (k : Nat) (x0 x2 : Int) : bits_Len64.j0 (k + 1) x0 x2 = (if x0 ≥ 65536 then (if (x0 / 65536) ≥ 256 then (if 0 ≤ (((x0 / 65536) / 256) % 256) then (if (((x0 / 65536) / 256) % 256) < 256 then (some (wrap64 ((wrap64 ((wrap64 (x2 + 16)) + 8)) + (wrap64 (bt len8 (((x0 / 65536) / 256) % 256)))))) else (none)) else (none)) else (if 0 ≤ ((x0 / 65536) % 256) then (if ((x0 / 65536) % 256) < 256 then (some (wrap64 ((wrap64 (x2 + 16)) + (wrap64 (bt len8 ((x0 / 65536) % 256)))))) else (none)) else (none))) else (if x0 ≥ 256 then (if 0 ≤ ((x0 / 256) % 256) then (if ((x0 / 256) % 256) < 256 then (some (wrap64 ((wrap64 (x2 + 8)) + (wrap64 (bt len8 ((x0 / 256) % 256)))))) else (none)) else (none)) else (if 0 ≤ ((x0) % 256) then (if ((x0) % 256) < 256 then (some (wrap64 (x2 + (wrap64 (bt len8 ((x0) % 256)))))) else (none)) else (none)))) := rfl
theorem Len64_j0 (k : Nat) {x m : Int} (h0 : 1 ≤ x) (h1 : x < 4294967296) (hm : 0 ≤ m ∧ m ≤ 32) :
    ∃ n, bits_Len64.j0 (k + 1) x m = some (m + n) ∧ 1 ≤ n ∧ n ≤ 32 ∧ p2 (n - 1) ≤ x ∧ x < p2 n := by
  rw [Len64_j0_eq]
  by_cases c1 : x ≥ 65536
  · rw [if_pos c1]
    by_cases c2 : x / 65536 ≥ 256
    · rw [if_pos c2, if_pos (by omega), if_pos (by omega)]
      have e : x / 65536 / 256 % 256 = x / 16777216 := by omega
      rw [e]
      obtain ⟨a, b, c, d⟩ := len8_at (x := x / 16777216) (by omega) (by omega)
      obtain ⟨f, g⟩ := digits (x := x) (c := 16777216) (m := 24) rfl (by omega) a c d
      refine ⟨bt len8 (x / 16777216) + 24, ?_, by omega, by omega, f, g⟩
      show some (wrap64 (wrap64 (wrap64 (m + 16) + 8) + wrap64 (bt len8 (x / 16777216)))) = _
      generalize bt len8 (x / 16777216) = t at *
      congr 1; unfold wrap64; omega
    · rw [if_neg c2, if_pos (by omega), if_pos (by omega)]
      have e : x / 65536 % 256 = x / 65536 := by omega
      rw [e]
      obtain ⟨a, b, c, d⟩ := len8_at (x := x / 65536) (by omega) (by omega)
      obtain ⟨f, g⟩ := digits (x := x) (c := 65536) (m := 16) rfl (by omega) a c d
      refine ⟨bt len8 (x / 65536) + 16, ?_, by omega, by omega, f, g⟩
      show some (wrap64 (wrap64 (m + 16) + wrap64 (bt len8 (x / 65536)))) = _
      generalize bt len8 (x / 65536) = t at *
      congr 1; unfold wrap64; omega
  · rw [if_neg c1]
    by_cases c2 : x ≥ 256
    · rw [if_pos c2, if_pos (by omega), if_pos (by omega)]
      have e : x / 256 % 256 = x / 256 := by omega
      rw [e]
      obtain ⟨a, b, c, d⟩ := len8_at (x := x / 256) (by omega) (by omega)
      obtain ⟨f, g⟩ := digits (x := x) (c := 256) (m := 8) rfl (by omega) a c d
      refine ⟨bt len8 (x / 256) + 8, ?_, by omega, by omega, f, g⟩
      show some (wrap64 (wrap64 (m + 8) + wrap64 (bt len8 (x / 256)))) = _
      generalize bt len8 (x / 256) = t at *
      congr 1; unfold wrap64; omega
    · rw [if_neg c2, if_pos (by omega), if_pos (by omega)]
      have e : x % 256 = x := by omega
      rw [e]
      obtain ⟨a, b, c, d⟩ := len8_at (x := x) (by omega) (by omega)
      refine ⟨bt len8 x, ?_, by omega, by omega, c, d⟩
      show some (wrap64 (m + wrap64 (bt len8 x))) = _
      generalize bt len8 x = t at *
      congr 1; unfold wrap64; omega
theorem Len64_eq (k : Nat) {x : Int} (h0 : 1 ≤ x) (h1 : x < 18446744073709551616) : ∃ n, bits_Len64.f (k + 1) x = some n ∧ 1 ≤ n ∧ n ≤ 64 ∧ p2 (n - 1) ≤ x ∧ x < p2 n := by
  unfold bits_Len64.f
  by_cases c : x ≥ 4294967296
  · rw [if_pos c]
    obtain ⟨n, e, a, b, f, g⟩ := Len64_j0 k (x := x / 4294967296) (m := 32) (by omega) (by omega) (by omega)
    obtain ⟨f, g⟩ := digits (x := x) (c := 4294967296) (m := 32) rfl (by omega) a f g
    exact ⟨n + 32, by rw [e, Int.add_comm], by omega, by omega, f, g⟩
  · rw [if_neg c]
    obtain ⟨n, e, a, b, f, g⟩ := Len64_j0 k (x := x) (m := 0) h0 (by omega) (by omega)
    exact ⟨n, by rw [e, Int.zero_add], a, by omega, f, g⟩
theorem test_eq {y yh yl u d q r : Int} (h : Half y yh yl u d q r) : (decide (IntKind.u64.wrap (q * yl) > IntKind.u64.wrap (IntKind.u64.wrap (4294967296 * r) + d))) = decide (q * yl > 4294967296 * r + d) := by
  have p := h.prod
  have r0 := h.r0
  have r1 := h.r1
  have d0 := h.d0
  have d1 := h.d1
  rw [u64w, u64w, u64w]
  generalize q * yl = z at *
  congr 2 <;> omega
theorem l0_ends (x8 un0 : Int) (m : Nat) : ∀ (k : Nat) (y yh yl u d q r : Int), Half y yh yl u d q r → 4294967296 ≤ r + m * 2147483648 → 2 * m ≤ k →
    ∃ k', k ≤ k' + 2 * m ∧ bits_Div64.l0 k y x8 yh yl u d un0 q r = bits_Div64.j2 k' y x8 yh yl u d un0 ((u * 4294967296 + d) / y) := by
  induction m with
  | zero => intro k y yh yl u d q r h hm hk; have := h.r1; omega
  | succ m ih =>
    intro k y yh yl u d q r h hm hk
    obtain ⟨k, rfl⟩ : ∃ j, k = j + 2 := ⟨k - 2, by omega⟩
    have yh0 := h.yh0
    have yh1 := h.yh1
    have r0 := h.r0
    have r1 := h.r1
    have q0 := h.q0
    have q1 := h.q1
    have step : (∃ k', k + 2 ≤ k' + 2 * (m + 1) ∧ bits_Div64.j1 (k + 1) y x8 yh yl u d un0 q r (decide (q ≥ 4294967296 ∨ q * yl > 4294967296 * r + d)) = bits_Div64.j2 k' y x8 yh yl u d un0 ((u * 4294967296 + d) / y)) := by
      by_cases t : q ≥ 4294967296 ∨ q * yl > 4294967296 * r + d
      · have qp := h.pos_q t
        rw [decide_eq_true t]
        simp only [bits_Div64.j1, if_true]
        rw [show IntKind.u64.wrap (r + yh) = r + yh by rw [u64w]; omega, show IntKind.u64.wrap (q - 1) = q - 1 by rw [u64w]; omega]
        by_cases g : r + yh ≥ 4294967296
        · rw [if_pos g, h.last t g]; exact ⟨k, by omega, rfl⟩
        · rw [if_neg g]
          obtain ⟨k', e1, e2⟩ := ih k y yh yl u d (q - 1) (r + yh) (h.next t (by omega)) (by omega) (by omega)
          exact ⟨k', by omega, e2⟩
      · rw [decide_eq_false t]
        simp only [bits_Div64.j1, Bool.false_eq_true, if_false]
        rw [← h.done (by omega) (by omega)]
        exact ⟨k, by omega, rfl⟩
    simp only [bits_Div64.l0]
    by_cases g : q ≥ 4294967296
    · rw [if_pos g]
      rw [decide_eq_true (Or.inl g)] at step
      exact step
    · rw [if_neg g, test_eq h]
      have : decide (q ≥ 4294967296 ∨ q * yl > 4294967296 * r + d) = decide (q * yl > 4294967296 * r + d) := by
        congr 1; simp [g]
      rw [this] at step
      exact step
theorem l1_ends (x8 x15 : Int) (h8 : 0 ≤ x8) (m : Nat) : ∀ (k : Nat) (y yh yl u d q r : Int), Half y yh yl u d q r → 4294967296 ≤ r + m * 2147483648 → 2 * m ≤ k →
    ∃ r2, bits_Div64.l1 k y x8 yh yl d x15 r u q = some (IntKind.u64.wrap ((IntKind.u64.wrap (x15 * 4294967296)) + (u * 4294967296 + d) / y), r2) := by
  induction m with
  | zero => intro k y yh yl u d q r h hm hk; have := h.r1; omega
  | succ m ih =>
    intro k y yh yl u d q r h hm hk
    obtain ⟨k, rfl⟩ : ∃ j, k = j + 2 := ⟨k - 2, by omega⟩
    have yh0 := h.yh0
    have yh1 := h.yh1
    have r0 := h.r0
    have r1 := h.r1
    have q0 := h.q0
    have q1 := h.q1
    have step : ∃ r2, bits_Div64.j4 (k + 1) y x8 yh yl d x15 r u q (decide (q ≥ 4294967296 ∨ q * yl > 4294967296 * r + d)) = some (IntKind.u64.wrap ((IntKind.u64.wrap (x15 * 4294967296)) + (u * 4294967296 + d) / y), r2) := by
      by_cases t : q ≥ 4294967296 ∨ q * yl > 4294967296 * r + d
      · have qp := h.pos_q t
        rw [decide_eq_true t]
        simp only [bits_Div64.j4, if_true]
        rw [show IntKind.u64.wrap (r + yh) = r + yh by rw [u64w]; omega, show IntKind.u64.wrap (q - 1) = q - 1 by rw [u64w]; omega]
        by_cases g : r + yh ≥ 4294967296
        · rw [if_pos g, if_pos h8, h.last t g]; exact ⟨_, rfl⟩
        · rw [if_neg g]
          exact ih k y yh yl u d (q - 1) (r + yh) (h.next t (by omega)) (by omega) (by omega)
      · rw [decide_eq_false t]
        simp only [bits_Div64.j4, Bool.false_eq_true, if_false]
        rw [if_pos h8, ← h.done (by omega) (by omega)]
        exact ⟨_, rfl⟩
    simp only [bits_Div64.l1]
    by_cases g : q ≥ 4294967296
    · rw [if_pos g]
      rw [decide_eq_true (Or.inl g)] at step
      exact step
    · rw [if_neg g, test_eq h]
      have : decide (q ≥ 4294967296 ∨ q * yl > 4294967296 * r + d) = decide (q * yl > 4294967296 * r + d) := by
        congr 1; simp [g]
      rw [this] at step
      exact step
theorem guess {u yh : Int} (u0 : 0 ≤ u) (u1 : u < 18446744073709551616) (y0 : 2147483648 ≤ yh) : IntKind.u64.wrap (Int.tdiv u yh) = u / yh ∧ IntKind.u64.wrap (u - IntKind.u64.wrap (u / yh * yh)) = u - u / yh * yh := by
  have a : 0 ≤ u / yh := Int.ediv_nonneg u0 (by omega)
  have b : u / yh ≤ u := Int.ediv_le_self _ u0
  have e := Int.mul_ediv_add_emod u yh
  have m0 := Int.emod_nonneg u (show yh ≠ 0 by omega)
  have c : u / yh * yh = yh * (u / yh) := Int.mul_comm _ _
  have n0 : 0 ≤ u / yh * yh := Int.mul_nonneg a (by omega)
  refine ⟨by rw [Int.tdiv_eq_ediv_of_nonneg u0, u64w]; omega, ?_⟩
  rw [u64w, u64w]
  generalize u / yh * yh = z at *
  omega
theorem or_join {a b s : Int} (hs : 0 ≤ s) (hs1 : s ≤ 63) (ha : 0 ≤ a) (ha1 : a < 18446744073709551616) (hm : a % p2 s = 0) (hb : 0 ≤ b) (hb1 : b < p2 s) : Go.bits .or .u64 a b = a + b := by
  have h := p2_le (n := s) (m := 63) (by omega)
  refine bits_join .u64 64 (by decide) (fun n p q => by rw [u64w]; omega) s.toNat a b ha hm (by omega) hb hb1 ?_
  omega
theorem Div64_eq (k : Nat) (hk : 20 ≤ k) {hi lo y : Int} (h0 : 0 ≤ hi) (h1 : hi < y) (l0 : 0 ≤ lo) (l1 : lo < 18446744073709551616) (y1 : y < 18446744073709551616) :
    ∃ r, bits_Div64.f k hi lo y = some ((hi * 18446744073709551616 + lo) / y, r) := by
  unfold bits_Div64.f
  rw [if_neg (by omega), if_neg (by omega)]
  by_cases z : hi = 0
  · subst z
    rw [if_pos rfl]
    have a : 0 ≤ lo / y := Int.ediv_nonneg l0 (by omega)
    have b : lo / y ≤ lo := Int.ediv_le_self _ l0
    refine ⟨Int.tmod lo y, ?_⟩
    rw [Int.tdiv_eq_ediv_of_nonneg l0, u64w, Int.emod_eq_of_lt a (by omega), Int.zero_mul, Int.zero_add]
  · rw [if_neg z]
    obtain ⟨k, rfl⟩ : ∃ j, k = j + 1 := ⟨k - 1, by omega⟩
    obtain ⟨n, en, n0, n1, na, nb⟩ := Len64_eq k (x := y) (by omega) y1
    unfold bits_LeadingZeros64.f
    rw [en]
    simp only [Option.bind_some]
    rw [w64 (x := 64 - n) (by omega), u64id (n := 64 - n) (by omega) (by omega), u64id (n := 64 - (64 - n)) (by omega) (by omega), show 64 - (64 - n) = n by omega]
    obtain ⟨s, rfl⟩ : ∃ s, n = 64 - s := ⟨64 - n, by omega⟩
    rw [show 64 - (64 - s) = s by omega]
    rw [if_pos (by omega), if_pos (by omega)]
    have ps := p2_pos s
    have pn := p2_pos (64 - s)
    have e64 : p2 (64 - s) * p2 s = 18446744073709551616 := by rw [← p2_add (by omega) (by omega), show 64 - s + s = 64 by omega]; rfl
    have e63 : p2 (64 - s - 1) * p2 s = 9223372036854775808 := by rw [← p2_add (by omega) (by omega), show 64 - s - 1 + s = 63 by omega]; rfl
    have shl_ : ∀ x : Int, 0 ≤ x → shl .u64 x s = (x * p2 s) % 18446744073709551616 := by
      intro x hx
      unfold shl
      rw [show min s.toNat IntKind.u64.bits = s.toNat by simp [IntKind.bits]; omega, u64w]; rfl
    have ld1' : lo / p2 (64 - s) < p2 s := Int.ediv_lt_of_lt_mul (by omega) (by rw [Int.mul_comm]; omega)
    have hb' : hi * p2 s < 18446744073709551616 := by have := Int.mul_lt_mul_of_pos_right (show hi < p2 (64 - s) by omega) (show 0 < p2 s by omega); omega
    have hor : Go.bits .or .u64 (hi * p2 s) (lo / p2 (64 - s)) = hi * p2 s + lo / p2 (64 - s) :=
      or_join (by omega) (by omega) (Int.mul_nonneg h0 (by omega)) hb' (Int.mul_emod_left _ _) (Int.ediv_nonneg l0 (by omega)) ld1'
    rw [shl_ y (by omega), shl_ hi h0, shl_ lo l0, shr_u (by omega) (by omega)]
    generalize p2 s = S at *
    generalize p2 (64 - s - 1) = T at *
    generalize p2 (64 - s) = P at *
    have ya : 9223372036854775808 ≤ y * S := by have := Int.mul_le_mul_of_nonneg_right na (show 0 ≤ S by omega); omega
    have yb : y * S < 18446744073709551616 := by have := Int.mul_lt_mul_of_pos_right nb (show 0 < S by omega); omega
    have hb0 : 0 ≤ hi * S := Int.mul_nonneg h0 (by omega)
    have lb0 : 0 ≤ lo * S := Int.mul_nonneg l0 (by omega)
    have ld : lo / P = lo * S / 18446744073709551616 := by
      rw [← e64, Int.mul_ediv_mul_of_pos_left _ _ (by omega)]
    have ld0 : 0 ≤ lo / P := Int.ediv_nonneg l0 (by omega)
    have whole : (hi * 18446744073709551616 + lo) / y = ((hi * S + lo / P) * 18446744073709551616 + lo * S % 18446744073709551616) / (y * S) := by
      rw [← Int.mul_ediv_mul_of_pos_left (hi * 18446744073709551616 + lo) y (show 0 < S by omega)]
      congr 1
      have := Int.mul_ediv_add_emod (lo * S) 18446744073709551616
      have e1 : (hi * 18446744073709551616 + lo) * S = hi * S * 18446744073709551616 + lo * S := by
        rw [Int.add_mul, Int.mul_assoc, Int.mul_comm 18446744073709551616 S, ← Int.mul_assoc]
      rw [e1, Int.add_mul, ld]
      omega
    have uy : hi * S + lo / P < y * S := by
      have h2 : (hi * 18446744073709551616 + lo) < y * 18446744073709551616 := by omega
      have h3 : hi * S + S ≤ y * S := by
        have := Int.mul_le_mul_of_nonneg_right (show hi + 1 ≤ y by omega) (show 0 ≤ S by omega)
        rw [Int.add_mul, Int.one_mul] at this; exact this
      omega
    rw [Int.emod_eq_of_lt (by omega) yb, Int.emod_eq_of_lt hb0 hb', hor, whole]
    have u0 : 0 ≤ hi * S + lo / P := by omega
    have v0 : 0 ≤ lo * S % 18446744073709551616 := Int.emod_nonneg _ (by decide)
    have v1 : lo * S % 18446744073709551616 < 18446744073709551616 := Int.emod_lt_of_pos _ (by decide)
    clear whole hor ld shl_ e64 e63 na nb hb0 hb' lb0 ld0 ld1' en
    generalize hi * S + lo / P = u at *
    generalize lo * S % 18446744073709551616 = v at *
    generalize y * S = w at *
    clear h0 h1 l0 l1 y1 z ps pn
    rw [and_mask32 w (by omega) yb, and_mask32 v v0 v1, if_neg (by omega)]
    obtain ⟨g1, g2⟩ := guess (u := u) (yh := w / 4294967296) u0 (by omega) (by omega)
    rw [g1, g2]
    have H1 : Half w (w / 4294967296) (w % 4294967296) u (v / 4294967296) (u / (w / 4294967296)) (u - u / (w / 4294967296) * (w / 4294967296)) :=
      Half.start (by omega) (by omega) (by omega) (by omega) (by omega) u0 uy (by omega) (by omega)
    obtain ⟨k', hk', e1⟩ := l0_ends s (v % 4294967296) 2 (k + 1) w (w / 4294967296) (w % 4294967296) u (v / 4294967296) _ _ H1 (by have := H1.r0; omega) (by omega)
    rw [e1]
    obtain ⟨k', rfl⟩ : ∃ j, k' = j + 1 := ⟨k' - 1, by omega⟩
    clear e1 H1 g1 g2
    have V0 : 0 ≤ u * 4294967296 + v / 4294967296 := by omega
    have eV := Int.mul_ediv_add_emod (u * 4294967296 + v / 4294967296) w
    have mV0 := Int.emod_nonneg (u * 4294967296 + v / 4294967296) (show w ≠ 0 by omega)
    have mV1 := Int.emod_lt_of_pos (u * 4294967296 + v / 4294967296) (show 0 < w by omega)
    have qV : (u * 4294967296 + v / 4294967296) / w < 4294967296 := Int.ediv_lt_of_lt_mul (by omega) (by omega)
    have qV0 : 0 ≤ (u * 4294967296 + v / 4294967296) / w := Int.ediv_nonneg V0 (by omega)
    have fin : (u * 18446744073709551616 + v) / w = (u * 4294967296 + v / 4294967296) / w * 4294967296 + ((u * 4294967296 + v / 4294967296) % w * 4294967296 + v % 4294967296) / w := by
      rw [show u * 18446744073709551616 + v = ((u * 4294967296 + v / 4294967296) % w * 4294967296 + v % 4294967296) + (u * 4294967296 + v / 4294967296) / w * 4294967296 * w by
        rw [Int.mul_assoc, Int.mul_comm 4294967296 w, ← Int.mul_assoc, Int.mul_comm _ w]; omega]
      rw [Int.add_mul_ediv_right _ _ (by omega)]; omega
    have q2 : ((u * 4294967296 + v / 4294967296) % w * 4294967296 + v % 4294967296) / w < 4294967296 := Int.ediv_lt_of_lt_mul (by omega) (by omega)
    have q20 : 0 ≤ ((u * 4294967296 + v / 4294967296) % w * 4294967296 + v % 4294967296) / w := Int.ediv_nonneg (by omega) (by omega)
    rw [fin]
    simp only [bits_Div64.j2]
    rw [if_neg (by omega)]
    have un21 : IntKind.u64.wrap (IntKind.u64.wrap (IntKind.u64.wrap (u * 4294967296) + v / 4294967296) - IntKind.u64.wrap ((u * 4294967296 + v / 4294967296) / w * w)) = (u * 4294967296 + v / 4294967296) % w := by
      rw [u64w, u64w, u64w, u64w, Int.mul_comm _ w]
      generalize w * ((u * 4294967296 + v / 4294967296) / w) = z at *
      omega
    rw [un21]
    generalize (u * 4294967296 + v / 4294967296) % w = u2 at *
    generalize (u * 4294967296 + v / 4294967296) / w = qq at *
    obtain ⟨g1, g2⟩ := guess (u := u2) (yh := w / 4294967296) (by omega) (by omega) (by omega)
    rw [g1, g2]
    have H2 : Half w (w / 4294967296) (w % 4294967296) u2 (v % 4294967296) (u2 / (w / 4294967296)) (u2 - u2 / (w / 4294967296) * (w / 4294967296)) :=
      Half.start (by omega) (by omega) (by omega) (by omega) (by omega) (by omega) (by omega) (by omega) (by omega)
    obtain ⟨r2, e2⟩ := l1_ends s qq (by omega) 2 k' w (w / 4294967296) (w % 4294967296) u2 (v % 4294967296) _ _ H2 (by have := H2.r0; omega) (by omega)
    refine ⟨r2, ?_⟩
    rw [e2]
    congr 2
    rw [u64w, u64w]; omega
end Go.Proofs.Ythjfmgdldjbkgaa.CFqMeans
