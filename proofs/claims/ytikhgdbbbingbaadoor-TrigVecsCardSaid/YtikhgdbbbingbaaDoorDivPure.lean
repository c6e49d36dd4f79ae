/- The plain law of a division of two words by one (bits.Div64), digit by digit. -/
import Derived.Below
namespace Go.Proofs.YtikhgdbbbingbaaDoor.Dv
open Go Go.RowKit
set_option linter.unusedVariables false

/-- one digit's guess: the state of the loop that lowers it. y = yh * 2^32 + yl, yh at least 2^31 -/
structure Guess (U u y yh yl q rh : Int) : Prop where
  sum : q * yh + rh = U
  q0 : 0 ≤ q
  q1 : q ≤ 4294967297
  rh0 : 0 ≤ rh
  rh1 : rh < 4294967296
  high : (U * 4294967296 + u) / y ≤ q

theorem norm_parts {y : Int} (h0 : 9223372036854775808 ≤ y) (h1 : y < 18446744073709551616) :
    y = y / 4294967296 * 4294967296 + y % 4294967296 ∧ 2147483648 ≤ y / 4294967296 ∧ y / 4294967296 < 4294967296 ∧ 0 ≤ y % 4294967296 ∧ y % 4294967296 < 4294967296 := by omega

theorem quo_lt {U u y : Int} (hU0 : 0 ≤ U) (hU : U < y) (hu0 : 0 ≤ u) (hu : u < 4294967296) : (U * 4294967296 + u) / y < 4294967296 := by
  apply Int.ediv_lt_of_lt_mul (by omega)
  omega

theorem quo_nonneg {U u y : Int} (hU0 : 0 ≤ U) (hU : U < y) (hu0 : 0 ≤ u) : 0 ≤ (U * 4294967296 + u) / y := Int.ediv_nonneg (by omega) (by omega)

/-- the first guess -/
theorem guess_start {U u y yh yl : Int} (e : y = yh * 4294967296 + yl) (p1 : 2147483648 ≤ yh) (p2 : yh < 4294967296) (p3 : 0 ≤ yl) (p4 : yl < 4294967296) (hU0 : 0 ≤ U) (hU : U < y) (hu0 : 0 ≤ u) (hu : u < 4294967296) :
    Guess U u y yh yl (U / yh) (U - U / yh * yh) := by
  have d1 : U / yh * yh + U % yh = U := by rw [Int.mul_comm]; exact Int.mul_ediv_add_emod U yh
  have d2 : 0 ≤ U % yh := Int.emod_nonneg _ (by omega)
  have d3 : U % yh < yh := Int.emod_lt_of_pos _ (by omega)
  have d4 : 0 ≤ U / yh := Int.ediv_nonneg hU0 (by omega)
  generalize U / yh = q at *
  generalize U % yh = r at *
  refine ⟨by omega, d4, ?_, by omega, by omega, ?_⟩
  · by_cases h : q ≤ 4294967297
    · exact h
    · have h2 : 4294967298 * yh ≤ q * yh := Int.mul_le_mul_of_nonneg_right (by omega) (by omega)
      omega
  · have h3 : (U * 4294967296 + u) / y < q + 1 := by
      apply Int.ediv_lt_of_lt_mul (by omega)
      have h4 : (q + 1) * y = (q + 1) * yh * 4294967296 + (q + 1) * yl := by rw [e, Int.mul_add, Int.mul_assoc]
      have h5 : (q + 1) * yh = q * yh + yh := by rw [Int.add_mul, Int.one_mul]
      have h6 : 0 ≤ (q + 1) * yl := Int.mul_nonneg (by omega) p3
      rw [h4, h5]; omega
    omega

/-- the guess is too high if the test says so -/
theorem guess_high {U u y yh yl q rh : Int} (hy : 0 < y) (e : y = yh * 4294967296 + yl) (hlt : (U * 4294967296 + u) / y < 4294967296) (g : Guess U u y yh yl q rh) (h : 4294967296 ≤ q ∨ 4294967296 * rh + u < q * yl) : (U * 4294967296 + u) / y ≤ q - 1 := by
  rcases h with h | h
  · omega
  · have h2 : (U * 4294967296 + u) / y < q := by
      apply Int.ediv_lt_of_lt_mul hy
      have h4 : q * y = q * yh * 4294967296 + q * yl := by rw [e, Int.mul_add, Int.mul_assoc]
      have := g.sum
      rw [h4]; omega
    omega

/-- it is right if the test says not -/
theorem guess_right {U u y yh yl q rh : Int} (hy : 0 < y) (e : y = yh * 4294967296 + yl) (g : Guess U u y yh yl q rh) (h : q * yl ≤ 4294967296 * rh + u) : q = (U * 4294967296 + u) / y := by
  have h1 := g.high
  have h2 : q ≤ (U * 4294967296 + u) / y := by
    apply (Int.le_ediv_iff_mul_le hy).2
    have h4 : q * y = q * yh * 4294967296 + q * yl := by rw [e, Int.mul_add, Int.mul_assoc]
    have := g.sum
    rw [h4]; omega
  omega

/-- lowered by one -/
theorem guess_next {U u y yh yl q rh : Int} (hyh : 0 < yh) (g : Guess U u y yh yl q rh) (hlow : (U * 4294967296 + u) / y ≤ q - 1) (h0 : 0 ≤ (U * 4294967296 + u) / y) (hr : rh + yh < 4294967296) : Guess U u y yh yl (q - 1) (rh + yh) := by
  obtain ⟨s, a, b, c, d, f⟩ := g
  refine ⟨by rw [Int.sub_mul, Int.one_mul]; omega, by omega, by omega, by omega, by omega, hlow⟩

theorem guess_stop {U u y yh yl q rh : Int} (hy : 0 < y) (e : y = yh * 4294967296 + yl) (hyh : 0 < yh) (hyl0 : 0 ≤ yl) (hyl : yl < 4294967296) (hu0 : 0 ≤ u) (g : Guess U u y yh yl q rh) (hlow : (U * 4294967296 + u) / y ≤ q - 1) (h0 : 0 ≤ (U * 4294967296 + u) / y) (hr : 4294967296 ≤ rh + yh) : q - 1 = (U * 4294967296 + u) / y := by
  obtain ⟨s, a, b, c, d, f⟩ := g
  have h2 : q - 1 ≤ (U * 4294967296 + u) / y := by
    apply (Int.le_ediv_iff_mul_le hy).2
    have h4 : (q - 1) * y = (q - 1) * yh * 4294967296 + (q - 1) * yl := by rw [e, Int.mul_add, Int.mul_assoc]
    have h5 : (q - 1) * yh = q * yh - yh := by rw [Int.sub_mul, Int.one_mul]
    have h6 : (q - 1) * yl ≤ 4294967296 * yl := Int.mul_le_mul_of_nonneg_right (by omega) hyl0
    rw [h4, h5]; omega
  omega

/-- what is left behind a digit -/
theorem left_over {U u y q : Int} (hy0 : 0 < y) (hy : y < 18446744073709551616) (hq : q = (U * 4294967296 + u) / y) :
    0 ≤ U * 4294967296 + u - q * y ∧ U * 4294967296 + u - q * y < y := by
  have h1 := Int.mul_ediv_add_emod (U * 4294967296 + u) y
  have h2 := Int.emod_nonneg (U * 4294967296 + u) (show y ≠ 0 by omega)
  have h3 := Int.emod_lt_of_pos (U * 4294967296 + u) hy0
  have h4 : y * ((U * 4294967296 + u) / y) = q * y := by rw [hq, Int.mul_comm]
  omega

/-- both digits together -/
theorem whole {N y p Q1 Q0 r1 r2 U u1 u0 : Int} (hp : 0 < p) (hy0 : 0 < y) (hN : N * p = U * 18446744073709551616 + u1 * 4294967296 + u0) (h1 : U * 4294967296 + u1 = Q1 * (y * p) + r1) (h2 : r1 * 4294967296 + u0 = Q0 * (y * p) + r2)
    (h3 : 0 ≤ r2) (h4 : r2 < y * p) : Q1 * 4294967296 + Q0 = N / y ∧ r2 / p = N % y := by
  have e : N * p = (Q1 * 4294967296 + Q0) * y * p + r2 := by
    have e1 : (Q1 * 4294967296 + Q0) * y * p = Q1 * (y * p) * 4294967296 + Q0 * (y * p) := by
      rw [Int.mul_assoc, Int.add_mul, Int.mul_assoc, Int.mul_assoc, Int.mul_comm 4294967296]
    rw [hN, e1]; omega
  obtain ⟨Q, hQ⟩ : ∃ z, Q1 * 4294967296 + Q0 = z := ⟨_, rfl⟩
  rw [hQ] at e ⊢
  have e2 : r2 = (N - Q * y) * p := by rw [Int.sub_mul]; omega
  have e3 : 0 ≤ N - Q * y := by
    by_cases h : 0 ≤ N - Q * y
    · exact h
    · have := Int.mul_neg_of_neg_of_pos (show N - Q * y < 0 by omega) hp
      omega
  have e4 : N - Q * y < y := by
    by_cases h : N - Q * y < y
    · exact h
    · have : y * p ≤ (N - Q * y) * p := Int.mul_le_mul_of_nonneg_right (by omega) (by omega)
      omega
  constructor
  · have h5 : N = (N - Q * y) + Q * y := by omega
    rw [h5, Int.add_mul_ediv_right _ _ (by omega), Int.ediv_eq_zero_of_lt e3 e4]; omega
  · rw [e2, Int.mul_ediv_cancel _ (by omega)]
    have h5 : N % y = ((N - Q * y) + Q * y) % y := by congr 1; omega
    rw [h5, Int.add_mul_emod_self_right, Int.emod_eq_of_lt e3 e4]

end Go.Proofs.YtikhgdbbbingbaaDoor.Dv
