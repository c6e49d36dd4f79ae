/- The plain law of turning again and again; of the mirrors; of the rise. -/
import Derived.Test.YtemilgbgmgmpiaaDoorTrigTurn
namespace Go.Proofs.YtemilgbgmgmpiaaDoor.Tr
open Go Go.RowKit
set_option linter.unusedVariables false

def rem (D M k : Int) : Int := if k * M < D then D - k * M else 0

theorem dist_part (a b k : Int) (ha0 : 0 ≤ a) (ha1 : a < 65536) (hb0 : 0 ≤ b) (hb1 : b < 65536) (h0 : 0 ≤ k) (h1 : k ≤ dist a b) : dist (part a b k) b = dist a b - k := by
  unfold dist part nrm at *
  by_cases h : (b - a) % 65536 > 32768
  · simp only [h, if_true] at h1 ⊢
    by_cases h2 : (b - (a - k) % 65536) % 65536 > 32768
    · simp only [h2, if_true]; omega
    · simp only [h2, if_false]; omega
  · simp only [h, if_false] at h1 ⊢
    by_cases h2 : (b - (a + k) % 65536) % 65536 > 32768
    · simp only [h2, if_true]; omega
    · simp only [h2, if_false]; omega

theorem dist_zero (a b : Int) (ha0 : 0 ≤ a) (ha1 : a < 65536) (hb0 : 0 ≤ b) (hb1 : b < 65536) (h : dist a b = 0) : a = b := by
  unfold dist nrm at h
  split at h <;> omega
theorem dist_self (a : Int) : dist a a = 0 := by
  unfold dist nrm; rw [Int.sub_self]; rfl

theorem toward_range (f t m : Int) : 0 ≤ toward f t m ∧ toward f t m < 65536 := part_range' _ _ _

theorem toward_dist (q t M : Int) (hq0 : 0 ≤ q) (hq1 : q < 65536) (hM : 0 ≤ M) : dist (toward q t M) (nrm t) = if dist q (nrm t) ≤ M then 0 else dist q (nrm t) - M := by
  have hb := nrm_range t
  have hd := dist_range q (nrm t)
  unfold toward
  rw [nrm_of q hq0 hq1]
  rw [show most0 M = M from if_neg (by omega)]
  unfold lesser
  by_cases h : dist q (nrm t) < M
  · rw [if_pos h, dist_part _ _ _ hq0 hq1 hb.1 hb.2 hd.1 (Int.le_refl _), if_pos (by omega)]; omega
  · rw [if_neg h, dist_part _ _ _ hq0 hq1 hb.1 hb.2 hM (by omega)]; split <;> omega

theorem toward_there (q t M : Int) (hq0 : 0 ≤ q) (hq1 : q < 65536) (hM : 0 ≤ M) (h : q = nrm t) : toward q t M = q := by
  have h1 := toward_dist q t M hq0 hq1 hM
  rw [h, dist_self, if_pos hM] at h1
  have h2 := toward_range q t M
  have hb := nrm_range t
  have h3 := dist_zero _ _ h2.1 h2.2 hb.1 hb.2 (by rw [h]; exact h1)
  rw [h3, h]

theorem rem_step (D M k : Int) (hM : 0 < M) (hk : 0 ≤ k) (h : k < (D + M - 1) / M) : 0 < rem D M k ∧ rem D M (k + 1) = if rem D M k ≤ M then 0 else rem D M k - M := by
  have h1 : (k + 1) * M ≤ D + M - 1 := (Int.le_ediv_iff_mul_le hM).1 (by omega)
  have e : (k + 1) * M = k * M + M := by rw [Int.add_mul, Int.one_mul]
  have h2 : k * M < D := by omega
  unfold rem
  rw [if_pos h2, e]
  refine ⟨by omega, ?_⟩
  by_cases h3 : k * M + M < D
  · rw [if_pos h3, if_neg (by omega)]; omega
  · rw [if_neg h3, if_pos (by omega)]

theorem rem_end (D M : Int) (hM : 0 < M) : rem D M ((D + M - 1) / M) = 0 := by
  have h1 : D + M - 1 < ((D + M - 1) / M + 1) * M := Int.lt_ediv_add_one_mul_self _ hM
  rw [Int.add_mul, Int.one_mul] at h1
  unfold rem
  rw [if_neg (by omega)]

theorem rem_zero (D M : Int) (hD : 0 ≤ D) : rem D M 0 = D := by
  unfold rem; rw [Int.zero_mul]; split <;> omega

theorem turns_bound (D M : Int) (h0 : 0 ≤ D) (h1 : D ≤ 32768) (h2 : 512 ≤ M) : 0 ≤ (D + M - 1) / M ∧ (D + M - 1) / M ≤ 65 := by
  constructor
  · exact Int.ediv_nonneg (by omega) (by omega)
  · have h3 : (D + M - 1) / M * M ≤ D + M - 1 := Int.ediv_mul_le _ (by omega)
    by_cases h4 : 66 ≤ (D + M - 1) / M
    · have h5 : 66 * M ≤ (D + M - 1) / M * M := Int.mul_le_mul_of_nonneg_right h4 (by omega)
      omega
    · omega

/-- mirrors -/
theorem sinP_half (n : Int) (h0 : 0 ≤ n) (h1 : n < 32768) : sinP (n + 32768) = -sinP n := by
  by_cases h : n < 16384
  · rw [sinP_3 _ (by omega) (by omega), sinP_1 n h0 (by omega), show n + 32768 - 32768 = n by omega]
  · rw [sinP_4 _ (by omega) (by omega), sinP_2 n (by omega) h1, show 65536 - (n + 32768) = 32768 - n by omega]
theorem sin_half (n : Int) (h0 : 0 ≤ n) (h1 : n < 65536) : sinA (n + 32768) = -sinA n := by
  unfold sinA nrm
  rw [show n % 65536 = n by omega]
  by_cases h : n < 32768
  · rw [show (n + 32768) % 65536 = n + 32768 by omega, sinP_half n h0 h]
  · have := sinP_half (n - 32768) (by omega) (by omega)
    rw [show n - 32768 + 32768 = n by omega] at this
    rw [show (n + 32768) % 65536 = n - 32768 by omega, this, Int.neg_neg]

theorem sinA_nrm (a : Int) : sinA (nrm a) = sinA a := by unfold sinA; rw [nrm_nrm]
theorem sinA_congr (a b : Int) (h : nrm a = nrm b) : sinA a = sinA b := by unfold sinA; rw [h]
theorem cosA_sin (a : Int) : cosA a = sinA (nrm a + 16384) := rfl

theorem mirror_1 (a : Int) : sinA (nrm a + 32768) = -sinA a := by
  have h := nrm_range a
  rw [sin_half _ h.1 h.2, sinA_nrm]
theorem mirror_2 (a : Int) : cosA (nrm a + 32768) = -cosA a := by
  have h := nrm_range a
  have h2 := nrm_range (nrm a + 16384)
  rw [cosA_sin a, ← sinA_nrm (nrm a + 16384), ← sin_half _ h2.1 h2.2, cosA_sin]
  apply sinA_congr; unfold nrm; omega
theorem mirror_3 (a : Int) : sinA (nrm a + 16384) = cosA a := rfl
theorem mirror_4 (a : Int) : cosA (nrm a + 16384) = -sinA a := by
  rw [← mirror_1, cosA_sin]
  apply sinA_congr; unfold nrm; omega
theorem mirror_5 (a : Int) : sinA (32768 - nrm a) = sinA a := by
  have h := nrm_range a
  rw [← sinA_nrm a]
  unfold sinA
  rw [nrm_nrm]
  obtain ⟨p, hp⟩ : ∃ p, nrm a = p := ⟨_, rfl⟩
  rw [hp] at h ⊢
  unfold nrm
  by_cases h1 : p ≤ 0
  · obtain rfl : p = 0 := by omega
    decide +kernel
  · by_cases h2 : p < 16384
    · rw [show (32768 - p) % 65536 = 32768 - p by omega, sinP_2 _ (by omega) (by omega), sinP_1 p (by omega) (by omega), show 32768 - (32768 - p) = p by omega]
    · by_cases h3 : p < 32768
      · rw [show (32768 - p) % 65536 = 32768 - p by omega, sinP_1 _ (by omega) (by omega), sinP_2 p (by omega) (by omega)]
      · by_cases h4 : p ≤ 32768
        · obtain rfl : p = 32768 := by omega
          decide +kernel
        · by_cases h5 : p ≤ 49152
          · by_cases h6 : p = 49152
            · subst h6; decide +kernel
            · rw [show (32768 - p) % 65536 = 98304 - p by omega, sinP_4 _ (by omega) (by omega), sinP_3 p (by omega) (by omega), show 65536 - (98304 - p) = p - 32768 by omega]
          · rw [show (32768 - p) % 65536 = 98304 - p by omega, sinP_3 _ (by omega) (by omega), sinP_4 p (by omega) (by omega), show 98304 - p - 32768 = 65536 - p by omega]

theorem rise (x y : Int) (h0 : 0 ≤ x) (h : x ≤ y) (h1 : y ≤ 16384) : sinA x ≤ sinA y ∧ cosA y ≤ cosA x ∧ 0 ≤ sinA x := by
  have e1 : sinA x = core x := by unfold sinA; rw [nrm_of x h0 (by omega), sinP_1 x h0 (by omega)]
  have e2 : sinA y = core y := by unfold sinA; rw [nrm_of y (by omega) (by omega), sinP_1 y (by omega) h1]
  have c : ∀ z, 0 ≤ z → z ≤ 16384 → cosA z = core (16384 - z) := by
    intro z h2 h3
    rw [cosA_sin, nrm_of z h2 (by omega)]
    unfold sinA
    rw [nrm_of (z + 16384) (by omega) (by omega)]
    by_cases h4 : z = 16384
    · subst h4; decide +kernel
    · rw [sinP_2 _ (by omega) (by omega)]; congr 1; omega
  rw [e1, e2, c x h0 (by omega), c y (by omega) h1]
  exact ⟨core_mono x y h0 h h1, core_mono (16384 - y) (16384 - x) (by omega) (by omega) (by omega), (core_bound x h0 (by omega)).1⟩

end Go.Proofs.YtemilgbgmgmpiaaDoor.Tr
