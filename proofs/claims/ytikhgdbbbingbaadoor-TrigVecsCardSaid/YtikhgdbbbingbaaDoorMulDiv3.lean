/- num.MulDiv: the product by the divisor, rounded down, where that fits; 0 and the error's number else. -/
import Derived.Test.YtikhgdbbbingbaaDoorMulDiv2
namespace Go.Proofs.YtikhgdbbbingbaaDoor
open Go Go.RowKit
set_option linter.unusedVariables false

/-- a quotient, rounded down, whatever the divisor's sign -/
def flr (n c : Int) : Int := if 0 < c then n / c else (-n) / (-c)
def fits (z : Int) : Prop := -9223372036854775808 ≤ z ∧ z ≤ 9223372036854775807
instance (z : Int) : Decidable (fits z) := by unfold fits; infer_instance
def fitted (z : Int) : Int × Int := if fits z then (z, 0) else (0, 8)
theorem fitted_in {z : Int} (h : fits z) : fitted z = (z, 0) := if_pos h
theorem fitted_out {z : Int} (h : ¬ fits z) : fitted z = (0, 8) := if_neg h
/-- what MulDiv tells -/
def mulDiv (a b c : Int) : Int × Int := if c = 0 then (0, 9) else fitted (flr (a * b) c)

theorem neg_quo (N d : Int) (hd : 0 < d) (h0 : 0 ≤ N) : (-N) / d = if N % d = 0 then -(N / d) else -(N / d + 1) := by
  have e := Int.mul_ediv_add_emod N d
  have r0 := Int.emod_nonneg N (show d ≠ 0 by omega)
  have r1 := Int.emod_lt_of_pos N hd
  generalize N / d = Q at *
  generalize N % d = R at *
  by_cases hR : R = 0
  · rw [if_pos hR]
    exact ((Int.ediv_emod_unique hd).2 ⟨show 0 + d * -Q = -N by rw [Int.mul_neg]; omega, by omega, by omega⟩).1
  · rw [if_neg hR]
    exact ((Int.ediv_emod_unique hd).2 ⟨show d - R + d * -(Q + 1) = -N by rw [Int.mul_neg, Int.mul_add, Int.mul_one]; omega, by omega, by omega⟩).1

theorem absI_mul (a b : Int) : absI a * absI b = absI (a * b) := by
  unfold absI
  by_cases ha : a < 0
  · by_cases hb : b < 0
    · have := Int.mul_pos_of_neg_of_neg ha hb
      rw [if_pos ha, if_pos hb, if_neg (by omega), Int.neg_mul_neg]
    · rw [if_pos ha, if_neg hb, Int.neg_mul]
      by_cases hz : b = 0
      · subst hz; simp
      · have := Int.mul_neg_of_neg_of_pos ha (show 0 < b by omega)
        rw [if_pos this]
  · by_cases hb : b < 0
    · rw [if_neg ha, if_pos hb, Int.mul_neg]
      by_cases hz : a = 0
      · subst hz; simp
      · have := Int.mul_neg_of_pos_of_neg (show 0 < a by omega) hb
        rw [if_pos this]
    · have := Int.mul_nonneg (show 0 ≤ a by omega) (show 0 ≤ b by omega)
      rw [if_neg ha, if_neg hb, if_neg (by omega)]

/-- the product, with the divisor's sign -/
def signed (P c : Int) : Int := if 0 < c then P else -P

theorem below_signed (a b c : Int) (hc : c ≠ 0) : belowB a b c = decide (signed (a * b) c < 0) := by
  unfold belowB signed
  by_cases ha0 : a = 0
  · subst ha0; simp
  · by_cases hb0 : b = 0
    · subst hb0; simp
    · have e1 : (a != 0) = true := by simpa using ha0
      have e2 : (b != 0) = true := by simpa using hb0
      rw [e1, e2, Bool.and_true, Bool.and_true]
      rcases Int.lt_or_gt_of_ne ha0 with ha | ha <;> rcases Int.lt_or_gt_of_ne hb0 with hb | hb
      · have p := Int.mul_pos_of_neg_of_neg ha hb
        by_cases h : 0 < c
        · rw [if_pos h, decide_eq_true ha, decide_eq_true hb, decide_eq_false (show ¬ c < 0 by omega), decide_eq_false (show ¬ a * b < 0 by omega)]; rfl
        · rw [if_neg h, decide_eq_true ha, decide_eq_true hb, decide_eq_true (show c < 0 by omega), decide_eq_true (show -(a * b) < 0 by omega)]; rfl
      · have p := Int.mul_neg_of_neg_of_pos ha hb
        by_cases h : 0 < c
        · rw [if_pos h, decide_eq_true ha, decide_eq_false (show ¬ b < 0 by omega), decide_eq_false (show ¬ c < 0 by omega), decide_eq_true (show a * b < 0 by omega)]; rfl
        · rw [if_neg h, decide_eq_true ha, decide_eq_false (show ¬ b < 0 by omega), decide_eq_true (show c < 0 by omega), decide_eq_false (show ¬ -(a * b) < 0 by omega)]; rfl
      · have p := Int.mul_neg_of_pos_of_neg ha hb
        by_cases h : 0 < c
        · rw [if_pos h, decide_eq_false (show ¬ a < 0 by omega), decide_eq_true hb, decide_eq_false (show ¬ c < 0 by omega), decide_eq_true (show a * b < 0 by omega)]; rfl
        · rw [if_neg h, decide_eq_false (show ¬ a < 0 by omega), decide_eq_true hb, decide_eq_true (show c < 0 by omega), decide_eq_false (show ¬ -(a * b) < 0 by omega)]; rfl
      · have p := Int.mul_pos ha hb
        by_cases h : 0 < c
        · rw [if_pos h, decide_eq_false (show ¬ a < 0 by omega), decide_eq_false (show ¬ b < 0 by omega), decide_eq_false (show ¬ c < 0 by omega), decide_eq_false (show ¬ a * b < 0 by omega)]; rfl
        · rw [if_neg h, decide_eq_false (show ¬ a < 0 by omega), decide_eq_false (show ¬ b < 0 by omega), decide_eq_true (show c < 0 by omega), decide_eq_true (show -(a * b) < 0 by omega)]; rfl

theorem mdv_core (M d : Int) (hd : 0 < d) (N : Int) (hN : N = absI M) :
    (if d ≤ N / 18446744073709551616 then ((0 : Int), (8 : Int))
      else if decide (M < 0) = false then if 9223372036854775807 < N / d then (0, 8) else (N / d, 0)
      else if N % d = 0 then if N / d = 0 ∨ 9223372036854775808 < N / d then (0, 8) else (-(N / d), 0)
      else if 9223372036854775808 < N / d + 1 then (0, 8) else (-(N / d + 1), 0)) = fitted (M / d) := by
  have hN0 : 0 ≤ N := by rw [hN]; exact absI_pos M
  have hQ0 : 0 ≤ N / d := Int.ediv_nonneg hN0 (by omega)
  have hbig : d ≤ N / 18446744073709551616 → 18446744073709551616 ≤ N / d := fun h => by
    apply (Int.le_ediv_iff_mul_le hd).2; omega
  by_cases hM : M < 0
  · have hM' : M = -N := by rw [hN]; unfold absI; rw [if_pos hM]; omega
    rw [hM', neg_quo N d hd hN0, ← hM', decide_eq_true hM, if_neg (show ¬ (true = false) by decide)]
    have hpos : N % d = 0 → N / d ≠ 0 := fun h1 h2 => by
      have e := Int.mul_ediv_add_emod N d
      rw [h1, h2, Int.mul_zero] at e; omega
    generalize N / d = Q at *
    generalize N % d = R at *
    by_cases h1 : d ≤ N / 18446744073709551616
    · have := hbig h1
      rw [if_pos h1]
      split <;> rw [fitted_out (by unfold fits; omega)]
    · rw [if_neg h1]
      by_cases h2 : R = 0
      · have := hpos h2
        rw [if_pos h2, if_pos h2]
        by_cases h3 : 9223372036854775808 < Q
        · rw [if_pos (Or.inr h3), fitted_out (by unfold fits; omega)]
        · rw [if_neg (by omega), fitted_in (by unfold fits; omega)]
      · rw [if_neg h2, if_neg h2]
        by_cases h3 : 9223372036854775808 < Q + 1
        · rw [if_pos h3, fitted_out (by unfold fits; omega)]
        · rw [if_neg h3, fitted_in (by unfold fits; omega)]
  · have hM' : M = N := by rw [hN]; unfold absI; rw [if_neg hM]
    rw [hM'] at hM ⊢
    rw [decide_eq_false hM, if_pos rfl]
    generalize N / d = Q at *
    by_cases h1 : d ≤ N / 18446744073709551616
    · have := hbig h1
      rw [if_pos h1, fitted_out (by unfold fits; omega)]
    · rw [if_neg h1]
      by_cases h3 : 9223372036854775807 < Q
      · rw [if_pos h3, fitted_out (by unfold fits; omega)]
      · rw [if_neg h3, fitted_in (by unfold fits; omega)]

theorem mdv_mulDiv (a b c : Int) (hc : c ≠ 0) : mdv a b c = mulDiv a b c := by
  unfold mulDiv
  rw [if_neg hc]
  have hd : 0 < absI c := by unfold absI; split <;> omega
  have e : flr (a * b) c = signed (a * b) c / absI c := by
    unfold flr signed absI
    by_cases h : 0 < c
    · rw [if_pos h, if_pos h, if_neg (by omega)]
    · rw [if_neg h, if_neg h, if_pos (by omega)]
  have eN : absI a * absI b = absI (signed (a * b) c) := by
    rw [absI_mul]; unfold signed; split
    · rfl
    · unfold absI; split <;> split <;> omega
  rw [e, mdv_eq, below_signed a b c hc]
  exact mdv_core _ _ hd _ eN

theorem mulDiv_any (a b c : Int) (w : World) (ha : fits a) (hb : fits b) (hc : fits c) :
    Calls Tryd.prog 36 #[.int .i64 a, .int .i64 b, .int .i64 c] w fun e w' => e = .returned (.tuple #[.int .i64 (mulDiv a b c).1, .int .i64 (mulDiv a b c).2]) ∧ Below w.heap.size w w' := by
  by_cases h : c = 0
  · subst h
    exact muldiv_zero a b w
  · rw [← mdv_mulDiv a b c h]
    exact muldiv_walk a b c w h ha.1 ha.2 hb.1 hb.2 hc.1 hc.2
end Go.Proofs.YtikhgdbbbingbaaDoor
