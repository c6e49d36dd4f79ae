/- What num's other functions do, and the chapter's examples. -/
import Derived.Test.YtikhgdbbbingbaaDoorMulDiv3
namespace Go.Proofs.YtikhgdbbbingbaaDoor
open Go Go.RowKit
set_option linter.unusedVariables false

theorem ret2 {a b x y : Value} (h1 : a = x) (h2 : b = y) : Ending.returned (.tuple #[a, b]) = .returned (.tuple #[x, y]) := by rw [h1, h2]
theorem ret_int {k : IntKind} {a b : Int} (h : a = b) : Ending.returned (.int k a) = .returned (.int k b) := by rw [h]
theorem i64_eq {a b : Int} (h : a = b) : Value.int .i64 a = .int .i64 b := by rw [h]

theorem fits_1 : fits 1 := by decide

/-- what is left, of the divisor's sign -/
def fmd (a b : Int) : Int := if 0 < b then a % b else -((-a) % (-b))
def modS (a b : Int) : Int × Int := if b = 0 then (0, 9) else (fmd a b, 0)

theorem tmod_cases (a b : Int) (hb : b ≠ 0) : (a.tmod b = 0 → fmd a b = 0) ∧ (a.tmod b ≠ 0 → (a.tmod b < 0 ∧ 0 < b ∨ 0 < a.tmod b ∧ b < 0) → fmd a b = a.tmod b + b) ∧ (a.tmod b ≠ 0 → (0 < a.tmod b ∧ 0 < b ∨ a.tmod b < 0 ∧ b < 0) → fmd a b = a.tmod b) ∧
    (0 < b → a.tmod b < b ∧ -b < a.tmod b) ∧ (b < 0 → a.tmod b < -b ∧ b < a.tmod b) := by
  have tp : ∀ a n : Int, 0 ≤ a → a.tmod n = a % n := fun a n h => Int.tmod_eq_emod_of_nonneg h
  have tn : ∀ a n : Int, a ≤ 0 → a.tmod n = -((-a) % n) := fun a n h => by
    have h1 := Int.neg_tmod (-a) n
    rw [Int.neg_neg] at h1
    rw [h1, Int.tmod_eq_emod_of_nonneg (show 0 ≤ -a by omega)]
  unfold fmd
  by_cases h : 0 < b
  · simp only [h, if_true]
    have r0 := Int.emod_nonneg a (show b ≠ 0 by omega)
    have r1 := Int.emod_lt_of_pos a h
    have s0 := Int.emod_nonneg (-a) (show b ≠ 0 by omega)
    have s1 := Int.emod_lt_of_pos (-a) h
    have e1 := Int.mul_ediv_add_emod a b
    have e2 := Int.mul_ediv_add_emod (-a) b
    by_cases ha : 0 ≤ a
    · rw [tp a b ha]; omega
    · rw [tn a b (by omega)]
      have hs : a % b = if (-a) % b = 0 then 0 else b - (-a) % b := by
        by_cases hz : (-a) % b = 0
        · rw [if_pos hz]
          exact ((Int.ediv_emod_unique h).2 ⟨show 0 + b * -((-a) / b) = a by rw [Int.mul_neg]; omega, by omega, by omega⟩).2
        · rw [if_neg hz]
          exact ((Int.ediv_emod_unique h).2 ⟨show b - (-a) % b + b * -((-a) / b + 1) = a by rw [Int.mul_neg, Int.mul_add, Int.mul_one]; omega, by omega, by omega⟩).2
      rw [hs]; split <;> omega
  · rw [if_neg h]
    obtain ⟨n, rfl⟩ : ∃ n, b = -n := ⟨-b, by omega⟩
    have hn : 0 < n := by omega
    rw [Int.neg_neg]
    have r0 := Int.emod_nonneg (-a) (show n ≠ 0 by omega)
    have r1 := Int.emod_lt_of_pos (-a) hn
    have s0 := Int.emod_nonneg a (show n ≠ 0 by omega)
    have s1 := Int.emod_lt_of_pos a hn
    have e1 := Int.mul_ediv_add_emod a n
    have e2 := Int.mul_ediv_add_emod (-a) n
    by_cases ha : 0 ≤ a
    · rw [tp a (-n) ha, Int.emod_neg]
      have hs : (-a) % n = if a % n = 0 then 0 else n - a % n := by
        by_cases hz : a % n = 0
        · rw [if_pos hz]
          exact ((Int.ediv_emod_unique hn).2 ⟨show 0 + n * -(a / n) = -a by rw [Int.mul_neg]; omega, by omega, by omega⟩).2
        · rw [if_neg hz]
          exact ((Int.ediv_emod_unique hn).2 ⟨show n - a % n + n * -(a / n + 1) = -a by rw [Int.mul_neg, Int.mul_add, Int.mul_one]; omega, by omega, by omega⟩).2
      rw [hs]; split <;> omega
    · rw [tn a (-n) (by omega), Int.emod_neg]; omega

end Go.Proofs.YtikhgdbbbingbaaDoor
