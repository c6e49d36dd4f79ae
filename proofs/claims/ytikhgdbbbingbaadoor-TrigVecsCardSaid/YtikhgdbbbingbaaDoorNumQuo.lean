/- What the laws' quotient does. -/
import Derived.Test.YtikhgdbbbingbaaDoorNumIs
namespace Go.Proofs.YtikhgdbbbingbaaDoor
open Go Go.RowKit Go.Proofs.YtikhgdbbbingbaaDoor.Dg Go.Proofs.YtikhgdbbbingbaaDoor.Bg
set_option linter.unusedVariables false

theorem cmp_lt (x y : Int) : cmpI x y < 0 ↔ x < y := by unfold cmpI; split <;> (try split) <;> omega
theorem cmp_ge (x y : Int) : 0 ≤ cmpI x y ↔ y ≤ x := by unfold cmpI; split <;> (try split) <;> omega

/-- y above 0: below, above, and the floor itself -/
theorem lo_pos (x y : Int) (hy : 0 < y) : loB x y = decide (x / y < -9223372036854775808) := by
  unfold loB
  rw [decide_eq_decide, cmp_lt]
  constructor
  · intro h; exact Int.ediv_lt_of_lt_mul hy h
  · intro h; exact Int.lt_mul_of_ediv_lt hy h
theorem hi_pos (x y : Int) (hy : 0 < y) : hiB x y = decide (9223372036854775808 ≤ x / y) := by
  unfold hiB
  rw [decide_eq_decide, cmp_ge]
  exact (Int.le_ediv_iff_mul_le hy).symm
theorem fl_pos (x y : Int) (hy : 0 < y) : flB x y (x / y) = true := by
  unfold flB
  have h := Int.mul_ediv_add_emod x y
  rw [Int.mul_comm] at h
  have h0 := Int.emod_nonneg x (show y ≠ 0 by omega)
  have h1 := Int.emod_lt_of_pos x hy
  rw [decide_eq_false (show ¬ x - x / y * y < 0 by omega), decide_eq_true ((cmp_lt _ _).2 (show x - x / y * y < y by omega))]; rfl

theorem lo_any (x y : Int) (hy : y ≠ 0) : (if y < 0 then loB (-x) (-y) else loB x y) = decide (flr x y < -9223372036854775808) := by
  unfold flr
  by_cases h : 0 < y
  · rw [if_neg (by omega), if_pos h, lo_pos x y h]
  · rw [if_pos (by omega), if_neg h, lo_pos _ _ (by omega)]
theorem hi_any (x y : Int) (hy : y ≠ 0) : (if y < 0 then hiB (-x) (-y) else hiB x y) = decide (9223372036854775808 ≤ flr x y) := by
  unfold flr
  by_cases h : 0 < y
  · rw [if_neg (by omega), if_pos h, hi_pos x y h]
  · rw [if_pos (by omega), if_neg h, hi_pos _ _ (by omega)]
theorem fl_any (x y : Int) (hy : y ≠ 0) : (if y < 0 then flB (-x) (-y) (flr x y) else flB x y (flr x y)) = true := by
  unfold flr
  by_cases h : 0 < y
  · rw [if_neg (by omega), if_pos h, fl_pos x y h]
  · rw [if_pos (by omega), if_neg h, fl_pos _ _ (by omega)]

theorem md_i64 {x : Int} (h : I64 x) : Md x := by obtain ⟨a, b⟩ := h; unfold Md; omega
theorem md_mul {x y : Int} (h : I64 x) (k : I64 y) : Md (x * y) := by
  obtain ⟨a, b⟩ := h
  obtain ⟨c, d⟩ := k
  have h1 : (x * y).natAbs ≤ 9223372036854775808 * 9223372036854775808 := by
    rw [Int.natAbs_mul]; exact Nat.mul_le_mul (by omega) (by omega)
  unfold Md; omega

/-- what a quotient is: by 0 refused, else rounded down -/
def quoS (x y : Int) : Int × Int := if y = 0 then (0, 9) else fitted (flr x y)

end Go.Proofs.YtikhgdbbbingbaaDoor
