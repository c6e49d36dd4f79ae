/- What num's other functions do, and the chapter's examples. -/
import Derived.Test.YtikhgdbbbingbaaMulDiv3
namespace Go.Proofs.Ytikhgdbbbingbaa
open Go Go.RowKit
set_option linter.unusedVariables false

theorem ret2 {a b x y : Value} (h1 : a = x) (h2 : b = y) : Ending.returned (.tuple #[a, b]) = .returned (.tuple #[x, y]) := by rw [h1, h2]
theorem ret_int {k : IntKind} {a b : Int} (h : a = b) : Ending.returned (.int k a) = .returned (.int k b) := by rw [h]
theorem i64_eq {a b : Int} (h : a = b) : Value.int .i64 a = .int .i64 b := by rw [h]

set_option maxHeartbeats 1000000 in
theorem add_any (a b : Int) (w : World) (ha : fits a) (hb : fits b) : Calls Try.prog 34 #[.int .i64 a, .int .i64 b] w fun e w' => e = .returned (.tuple #[.int .i64 (fitted (a + b)).1, .int .i64 (fitted (a + b)).2]) ∧ w = w' := by
  obtain ⟨a0, a1⟩ := ha
  obtain ⟨b0, b1⟩ := hb
  by_cases hf : fits (a + b)
  · have HF := Lib.hid (fitted_in hf)
    obtain ⟨f0, f1⟩ := hf
    by_cases hz : b = 0
    · subst hz
      go_enter Try.func34, Try.ntmps34
      go_wp2
      go_ret2
      rw [HF.out]
      exact ⟨ret2 (i64_eq (by omega)) rfl, rfl⟩
    · by_cases hp : 0 < b
      all_goals
        go_enter Try.func34, Try.ntmps34
        go_wp2
        go_ret2
        rw [HF.out]
        exact ⟨rfl, rfl⟩
  · have HF := Lib.hid (fitted_out hf)
    have hw : wrap64 (a + b) = if 0 < b then a + b - 18446744073709551616 else a + b + 18446744073709551616 := by unfold fits at hf; unfold wrap64; split <;> omega
    have hnz : ((b : Int) != 0) = true := by unfold fits at hf; simp; omega
    obtain ⟨c, hc⟩ : ∃ c, wrap64 (a + b) = c := ⟨_, rfl⟩
    rw [hc] at hw
    by_cases hp : 0 < b
    · rw [if_pos hp] at hw
      have hca : decide (a < c) = false := decide_eq_false (by omega)
      clear hw
      go_enter Try.func34, Try.ntmps34
      go_wp2
      go_ret2
      rw [HF.out]
      exact ⟨rfl, rfl⟩
    · rw [if_neg hp] at hw
      have hca : a < c := by omega
      clear hw
      go_enter Try.func34, Try.ntmps34
      go_wp2
      go_ret2
      rw [HF.out]
      exact ⟨rfl, rfl⟩

set_option maxHeartbeats 1000000 in
theorem sub_any (a b : Int) (w : World) (ha : fits a) (hb : fits b) : Calls Try.prog 35 #[.int .i64 a, .int .i64 b] w fun e w' => e = .returned (.tuple #[.int .i64 (fitted (a - b)).1, .int .i64 (fitted (a - b)).2]) ∧ w = w' := by
  obtain ⟨a0, a1⟩ := ha
  obtain ⟨b0, b1⟩ := hb
  by_cases hf : fits (a - b)
  · have HF := Lib.hid (fitted_in hf)
    obtain ⟨f0, f1⟩ := hf
    by_cases hz : b = 0
    · subst hz
      go_enter Try.func35, Try.ntmps35
      go_wp2
      go_ret2
      rw [HF.out]
      exact ⟨ret2 (i64_eq (by omega)) rfl, rfl⟩
    · by_cases hp : 0 < b
      all_goals
        go_enter Try.func35, Try.ntmps35
        go_wp2
        go_ret2
        rw [HF.out]
        exact ⟨rfl, rfl⟩
  · have HF := Lib.hid (fitted_out hf)
    have hw : wrap64 (a - b) = if 0 < b then a - b + 18446744073709551616 else a - b - 18446744073709551616 := by unfold fits at hf; unfold wrap64; split <;> omega
    have hnz : ((b : Int) != 0) = true := by unfold fits at hf; simp; omega
    obtain ⟨c, hc⟩ : ∃ c, wrap64 (a - b) = c := ⟨_, rfl⟩
    rw [hc] at hw
    by_cases hp : 0 < b
    · rw [if_pos hp] at hw
      have hca : decide (c < a) = false := decide_eq_false (by omega)
      clear hw
      go_enter Try.func35, Try.ntmps35
      go_wp2
      go_ret2
      rw [HF.out]
      exact ⟨rfl, rfl⟩
    · rw [if_neg hp] at hw
      have hca : c < a := by omega
      clear hw
      go_enter Try.func35, Try.ntmps35
      go_wp2
      go_ret2
      rw [HF.out]
      exact ⟨rfl, rfl⟩

theorem fits_1 : fits 1 := by decide

theorem mul_any (a b : Int) (w : World) (ha : fits a) (hb : fits b) : Calls Try.prog 31 #[.int .i64 a, .int .i64 b] w fun e w' => e = .returned (.tuple #[.int .i64 (mulDiv a b 1).1, .int .i64 (mulDiv a b 1).2]) ∧ Below w.heap.size w w' := by
  have H := Lib.hid (mulDiv_any a b 1 w ha hb fits_1)
  obtain ⟨r, hr⟩ : ∃ r, mulDiv a b 1 = r := ⟨_, rfl⟩
  rw [hr] at H ⊢
  clear hr
  go_enter Try.func31, Try.ntmps31
  go_wp2_with (first | (go_at_call 30; refine H.out.mono ?_; rintro e w' ⟨rfl, hb⟩; have HB := Lib.hid hb; clear hb))
  go_ret2
  exact ⟨rfl, HB.out⟩

theorem div_any (a b : Int) (w : World) (ha : fits a) (hb : fits b) : Calls Try.prog 23 #[.int .i64 a, .int .i64 b] w fun e w' => e = .returned (.tuple #[.int .i64 (mulDiv a 1 b).1, .int .i64 (mulDiv a 1 b).2]) ∧ Below w.heap.size w w' := by
  have H := Lib.hid (mulDiv_any a 1 b w ha fits_1 hb)
  obtain ⟨r, hr⟩ : ∃ r, mulDiv a 1 b = r := ⟨_, rfl⟩
  rw [hr] at H ⊢
  clear hr
  go_enter Try.func23, Try.ntmps23
  go_wp2_with (first | (go_at_call 30; refine H.out.mono ?_; rintro e w' ⟨rfl, hb⟩; have HB := Lib.hid hb; clear hb))
  go_ret2
  exact ⟨rfl, HB.out⟩

/-- what is left, of the divisor's sign -/
def fmd (a b : Int) : Int := if 0 < b then a % b else -((-a) % (-b))
def modS (a b : Int) : Int × Int := if b = 0 then (0, 9) else (fmd a b, 0)

theorem tmod_cases (a b : Int) (hb : b ≠ 0) : (a.tmod b = 0 → fmd a b = 0) ∧ (a.tmod b ≠ 0 → (a.tmod b < 0 ∧ 0 < b ∨ 0 < a.tmod b ∧ b < 0) → fmd a b = a.tmod b + b) ∧ (a.tmod b ≠ 0 → (0 < a.tmod b ∧ 0 < b ∨ a.tmod b < 0 ∧ b < 0) → fmd a b = a.tmod b) ∧
    (0 < b → a.tmod b < b ∧ -b < a.tmod b) ∧ (b < 0 → a.tmod b < -b ∧ b < a.tmod b) := by
  have tp : ∀ a n : Int, 0 ≤ a → a.tmod n = a % n := fun a n h => Int.tmod_eq_emod_of_nonneg h
  have tn : ∀ a n : Int, a ≤ 0 → a.tmod n = -((-a) % n) := fun a n h => by
    have h1 := Int.neg_tmod (-a) n
    rw [Int.neg_neg] at h1
    rw [h1, Int.tmod_eq_emod_of_nonneg (show 0 ≤ -a by omega)]
  unfold fmd
  by_cases h : 0 < b
  · simp only [h, if_true]
    have r0 := Int.emod_nonneg a (show b ≠ 0 by omega)
    have r1 := Int.emod_lt_of_pos a h
    have s0 := Int.emod_nonneg (-a) (show b ≠ 0 by omega)
    have s1 := Int.emod_lt_of_pos (-a) h
    have e1 := Int.mul_ediv_add_emod a b
    have e2 := Int.mul_ediv_add_emod (-a) b
    by_cases ha : 0 ≤ a
    · rw [tp a b ha]; omega
    · rw [tn a b (by omega)]
      have hs : a % b = if (-a) % b = 0 then 0 else b - (-a) % b := by
        by_cases hz : (-a) % b = 0
        · rw [if_pos hz]
          exact ((Int.ediv_emod_unique h).2 ⟨show 0 + b * -((-a) / b) = a by rw [Int.mul_neg]; omega, by omega, by omega⟩).2
        · rw [if_neg hz]
          exact ((Int.ediv_emod_unique h).2 ⟨show b - (-a) % b + b * -((-a) / b + 1) = a by rw [Int.mul_neg, Int.mul_add, Int.mul_one]; omega, by omega, by omega⟩).2
      rw [hs]; split <;> omega
  · rw [if_neg h]
    obtain ⟨n, rfl⟩ : ∃ n, b = -n := ⟨-b, by omega⟩
    have hn : 0 < n := by omega
    rw [Int.neg_neg]
    have r0 := Int.emod_nonneg (-a) (show n ≠ 0 by omega)
    have r1 := Int.emod_lt_of_pos (-a) hn
    have s0 := Int.emod_nonneg a (show n ≠ 0 by omega)
    have s1 := Int.emod_lt_of_pos a hn
    have e1 := Int.mul_ediv_add_emod a n
    have e2 := Int.mul_ediv_add_emod (-a) n
    by_cases ha : 0 ≤ a
    · rw [tp a (-n) ha, Int.emod_neg]
      have hs : (-a) % n = if a % n = 0 then 0 else n - a % n := by
        by_cases hz : a % n = 0
        · rw [if_pos hz]
          exact ((Int.ediv_emod_unique hn).2 ⟨show 0 + n * -(a / n) = -a by rw [Int.mul_neg]; omega, by omega, by omega⟩).2
        · rw [if_neg hz]
          exact ((Int.ediv_emod_unique hn).2 ⟨show n - a % n + n * -(a / n + 1) = -a by rw [Int.mul_neg, Int.mul_add, Int.mul_one]; omega, by omega, by omega⟩).2
      rw [hs]; split <;> omega
    · rw [tn a (-n) (by omega), Int.emod_neg]; omega

theorem mod_zero (a : Int) (w : World) : Calls Try.prog 24 #[.int .i64 a, .int .i64 0] w fun e w' => e = .returned (.tuple #[.int .i64 0, .int .i64 9]) ∧ w = w' := by
  go_enter Try.func24, Try.ntmps24
  go_wp2
  go_ret2
  exact ⟨rfl, rfl⟩
theorem mod_one (a : Int) (w : World) : Calls Try.prog 24 #[.int .i64 a, .int .i64 (-1)] w fun e w' => e = .returned (.tuple #[.int .i64 0, .int .i64 0]) ∧ w = w' := by
  go_enter Try.func24, Try.ntmps24
  go_wp2
  go_ret2
  exact ⟨rfl, rfl⟩

set_option maxHeartbeats 1000000 in
theorem mod_walk (a b : Int) (w : World) (ha : fits a) (hb : fits b) (h0 : b ≠ 0) (h1 : b ≠ -1) : Calls Try.prog 24 #[.int .i64 a, .int .i64 b] w fun e w' => e = .returned (.tuple #[.int .i64 (fmd a b), .int .i64 0]) ∧ w = w' := by
  obtain ⟨t1, t2, t3, t4, t5⟩ := tmod_cases a b h0
  have z0 : ((b : Int) == 0) = false := by simpa using h0
  have z1 : ((b : Int) == -1) = false := by simpa using h1
  obtain ⟨b0, b1⟩ := hb
  obtain ⟨m, hm⟩ : ∃ m, fmd a b = m := ⟨_, rfl⟩
  rw [hm] at t1 t2 t3 ⊢
  obtain ⟨c, hc⟩ : ∃ c, a.tmod b = c := ⟨_, rfl⟩
  rw [hc] at t1 t2 t3 t4 t5
  clear hm
  by_cases hz : c = 0
  · have hm0 := Lib.hid (show m = c by rw [hz]; exact t1 hz)
    have hcz : ((c : Int) != 0) = false := by simp [hz]
    have hc0 : -1 ≤ c ∧ c ≤ 1 := by omega
    clear t1 t2 t3 t4 t5 h1 ha hz
    go_enter Try.func24, Try.ntmps24
    go_wp2
    go_ret2
    exact ⟨ret2 (i64_eq hm0.out.symm) rfl, rfl⟩
  · have hcz : ((c : Int) != 0) = true := by simpa using hz
    by_cases hb : b < 0
    · have t5' := t5 hb
      by_cases hcn : c < 0
      · obtain rfl := t3 hz (Or.inr ⟨hcn, hb⟩)
        clear t1 t2 t3 t4 t5 h0 h1 ha hz
        go_enter Try.func24, Try.ntmps24
        go_wp2
        go_ret2
        exact ⟨rfl, rfl⟩
      · obtain rfl := t2 hz (Or.inr ⟨by omega, hb⟩)
        clear t1 t2 t3 t4 t5 h0 h1 ha hz
        go_enter Try.func24, Try.ntmps24
        go_wp2
        go_ret2
        exact ⟨rfl, rfl⟩
    · have t4' := t4 (by omega)
      by_cases hcn : c < 0
      · obtain rfl := t2 hz (Or.inl ⟨hcn, by omega⟩)
        clear t1 t2 t3 t4 t5 h0 h1 ha hz
        go_enter Try.func24, Try.ntmps24
        go_wp2
        go_ret2
        exact ⟨rfl, rfl⟩
      · obtain rfl := t3 hz (Or.inl ⟨by omega, by omega⟩)
        clear t1 t2 t3 t4 t5 h0 h1 ha hz
        go_enter Try.func24, Try.ntmps24
        go_wp2
        go_ret2
        exact ⟨rfl, rfl⟩

theorem mod_any (a b : Int) (w : World) (ha : fits a) (hb : fits b) : Calls Try.prog 24 #[.int .i64 a, .int .i64 b] w fun e w' => e = .returned (.tuple #[.int .i64 (modS a b).1, .int .i64 (modS a b).2]) ∧ w = w' := by
  by_cases h0 : b = 0
  · subst h0; exact mod_zero a w
  · rw [show modS a b = (fmd a b, 0) from if_neg h0]
    by_cases h1 : b = -1
    · subst h1
      have e : fmd a (-1) = 0 := by unfold fmd; simp
      rw [e]; exact mod_one a w
    · exact mod_walk a b w ha hb h0 h1

theorem clamp_any (v l m : Int) (w : World) : Calls Try.prog 33 #[.int .i64 v, .int .i64 l, .int .i64 m] w fun e w' => e = .returned (.int .i64 (if v < l then l else if m < v then m else v)) ∧ w = w' := by
  by_cases h : v < l
  · rw [if_pos h]
    go_enter Try.func33, Try.ntmps33
    go_wp2
    go_ret
    exact ⟨rfl, rfl⟩
  · rw [if_neg h]
    by_cases h2 : m < v
    · rw [if_pos h2]
      have HE := Lib.hid (show min v m = m by omega)
      go_enter Try.func33, Try.ntmps33
      go_wp2
      go_ret
      exact ⟨ret_int HE.out, rfl⟩
    · rw [if_neg h2]
      have HE := Lib.hid (show min v m = v by omega)
      go_enter Try.func33, Try.ntmps33
      go_wp2
      go_ret
      exact ⟨ret_int HE.out, rfl⟩

set_option maxHeartbeats 1000000 in
theorem awake1_any (w : World) : Calls Try.prog 22 #[] w fun e w' => e = .returned (.bool true) ∧ Below w.heap.size w w' := by
  have H1 := Lib.hid (fun w => add_any 9223372036854775807 1 w (by decide) (by decide))
  rw [show fitted (9223372036854775807 + 1) = (0, 8) by decide +kernel] at H1
  have H2 := Lib.hid (fun w => div_any (-7) 2 w (by decide) (by decide))
  rw [show mulDiv (-7) 1 2 = (-4, 0) by decide +kernel] at H2
  have H3 := Lib.hid (fun w => mod_any (-7) 2 w (by decide) (by decide))
  rw [show modS (-7) 2 = (1, 0) by decide +kernel] at H3
  have H4 := Lib.hid (fun w => mod_any 7 (-2) w (by decide) (by decide))
  rw [show modS 7 (-2) = (-1, 0) by decide +kernel] at H4
  have H5 := Lib.hid (fun w => div_any (-9223372036854775808) (-1) w (by decide) (by decide))
  rw [show mulDiv (-9223372036854775808) 1 (-1) = (0, 8) by decide +kernel] at H5
  have H6 := Lib.hid (fun w => mulDiv_any 4611686018427387904 6 8 w (by decide) (by decide) (by decide))
  rw [show mulDiv 4611686018427387904 6 8 = (3458764513820540928, 0) by decide +kernel] at H6
  have H7 := Lib.hid (fun w => mulDiv_any (-1) 1 3 w (by decide) (by decide) (by decide))
  rw [show mulDiv (-1) 1 3 = (-1, 0) by decide +kernel] at H7
  go_enter Try.func22, Try.ntmps22
  go_wp2_with fail
  refine (H1.out _).mono ?_
  rintro e w' ⟨rfl, rfl⟩
  go_wp2_with fail
  refine (H2.out _).mono ?_
  rintro e w1 ⟨rfl, hb⟩
  have B1 := Lib.hid hb; clear hb
  go_wp2_with fail
  refine (H3.out _).mono ?_
  rintro e w' ⟨rfl, rfl⟩
  go_wp2_with fail
  refine (H4.out _).mono ?_
  rintro e w' ⟨rfl, rfl⟩
  go_wp2_with fail
  refine (H5.out _).mono ?_
  rintro e w2 ⟨rfl, hb⟩
  have B2 := Lib.hid (B1.out.trans (hb.mono B1.out.size)); clear hb
  go_wp2_with fail
  refine (H6.out _).mono ?_
  rintro e w3 ⟨rfl, hb⟩
  have B3 := Lib.hid (B2.out.trans (hb.mono B2.out.size)); clear hb
  go_wp2_with fail
  refine (H7.out _).mono ?_
  rintro e w4 ⟨rfl, hb⟩
  have B4 := Lib.hid (B3.out.trans (hb.mono B3.out.size)); clear hb
  go_wp2
  go_ret
  exact ⟨rfl, B4.out⟩
end Go.Proofs.Ytikhgdbbbingbaa
