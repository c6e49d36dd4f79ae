/- What the fixed numbers do. -/
import Derived.Test.YtikhgdbbbingbaaNumRow
import Derived.Test.YtikhgdbbbingbaaRoot
import Derived.Laws.BitsLemmas
namespace Go.Proofs.Ytikhgdbbbingbaa
open Go Go.RowKit Go.Proofs.Ytikhgdbbbingbaa.Rt
set_option linter.unusedVariables false

theorem and_part (x : Int) : bits .and .i64 x 65535 = x % 65536 := by
  have h0 : (0:Int) ≤ x % 65536 := by omega
  have e : ((BitVec.ofInt 64 x).toNat &&& 65535 : Nat) = (x % 65536).toNat := by
    rw [show (65535 : Nat) = 2 ^ 16 - 1 from rfl, Nat.and_two_pow_sub_one_eq_mod, BitVec.toNat_ofInt]
    omega
  have e2 : (BitVec.ofInt 64 65535).toNat = 65535 := by decide
  have e3 : (BitVec.ofInt 64 x &&& BitVec.ofInt 64 65535).toNat = (x % 65536).toNat := by rw [BitVec.toNat_and, e2, e]
  show IntKind.i64.wrap (((BitVec.ofInt 64 x &&& BitVec.ofInt 64 65535).toNat : Nat) : Int) = _
  rw [e3, IntKind.wrap_i64]; omega
theorem fits_One : fits 65536 := by decide

theorem fmul_any (a b : Int) (w : World) (ha : fits a) (hb : fits b) : Calls Try.prog 37 #[.int .i64 a, .int .i64 b] w fun e w' => e = .returned (.tuple #[.int .i64 (mulDiv a b 65536).1, .int .i64 (mulDiv a b 65536).2]) ∧ Below w.heap.size w w' := by
  have H := Lib.hid (mulDiv_any a b 65536 w ha hb fits_One)
  obtain ⟨r, hr⟩ : ∃ r, mulDiv a b 65536 = r := ⟨_, rfl⟩
  rw [hr] at H ⊢
  clear hr
  go_enter Try.func37, Try.ntmps37
  go_wp2_with (first | (go_at_call 30; refine H.out.mono ?_; rintro e w' ⟨rfl, hb⟩; have HB := Lib.hid hb; clear hb))
  go_ret2
  exact ⟨rfl, HB.out⟩
theorem fdiv_any (a b : Int) (w : World) (ha : fits a) (hb : fits b) : Calls Try.prog 41 #[.int .i64 a, .int .i64 b] w fun e w' => e = .returned (.tuple #[.int .i64 (mulDiv a 65536 b).1, .int .i64 (mulDiv a 65536 b).2]) ∧ Below w.heap.size w w' := by
  have H := Lib.hid (mulDiv_any a 65536 b w ha fits_One hb)
  obtain ⟨r, hr⟩ : ∃ r, mulDiv a 65536 b = r := ⟨_, rfl⟩
  rw [hr] at H ⊢
  clear hr
  go_enter Try.func41, Try.ntmps41
  go_wp2_with (first | (go_at_call 30; refine H.out.mono ?_; rintro e w' ⟨rfl, hb⟩; have HB := Lib.hid hb; clear hb))
  go_ret2
  exact ⟨rfl, HB.out⟩

/-- what Lerp tells -/
def lerp (a b t : Int) : Int × Int := if fits (b - a) then (if fits ((b - a) * t / 65536) then fitted (a + (b - a) * t / 65536) else (0, 8)) else (0, 8)

set_option maxHeartbeats 1000000 in
theorem lerp_any (a b t : Int) (w : World) (ha : fits a) (hb : fits b) (ht : fits t) : Calls Try.prog 49 #[.int .i64 a, .int .i64 b, .int .i64 t] w fun e w' => e = .returned (.tuple #[.int .i64 (lerp a b t).1, .int .i64 (lerp a b t).2]) ∧ Below w.heap.size w w' := by
  have HS := Lib.hid (fun w => sub_any b a w hb ha)
  by_cases hd : fits (b - a)
  · have HM := Lib.hid (fun w => fmul_any (b - a) t w hd ht)
    rw [show mulDiv (b - a) t 65536 = fitted ((b - a) * t / 65536) from by unfold mulDiv flr; rw [if_neg (by decide), if_pos (by decide)]] at HM
    rw [fitted_in hd] at HS
    unfold lerp
    rw [if_pos hd]
    obtain ⟨d, hdd⟩ : ∃ d, b - a = d := ⟨_, rfl⟩
    rw [hdd] at HS HM ⊢
    obtain ⟨m, hm⟩ : ∃ m, d * t / 65536 = m := ⟨_, rfl⟩
    rw [hm] at HM ⊢
    clear hdd hm hd
    by_cases hf : fits m
    · have HA := Lib.hid (fun w => add_any a m w ha hf)
      rw [if_pos hf]
      rw [fitted_in hf] at HM
      obtain ⟨r, hr⟩ : ∃ r, fitted (a + m) = r := ⟨_, rfl⟩
      rw [hr] at HA ⊢
      clear hr hf ha hb ht
      go_enter Try.func49, Try.ntmps49
      go_wp2_with (first
        | (go_at_call 35; refine (HS.out _).mono ?_; rintro e w' ⟨rfl, rfl⟩)
        | (go_at_call 37; refine (HM.out _).mono ?_; rintro e w1 ⟨rfl, hb⟩; have HB := Lib.hid hb; clear hb)
        | (go_at_call 34; refine (HA.out _).mono ?_; rintro e w' ⟨rfl, rfl⟩))
      go_ret2
      exact ⟨rfl, HB.out⟩
    · rw [if_neg hf]
      rw [fitted_out hf] at HM
      clear hf ha hb ht
      go_enter Try.func49, Try.ntmps49
      go_wp2_with (first
        | (go_at_call 35; refine (HS.out _).mono ?_; rintro e w' ⟨rfl, rfl⟩)
        | (go_at_call 37; refine (HM.out _).mono ?_; rintro e w1 ⟨rfl, hb⟩; have HB := Lib.hid hb; clear hb))
      go_ret2
      exact ⟨rfl, HB.out⟩
  · rw [fitted_out hd] at HS
    unfold lerp
    rw [if_neg hd]
    clear hd ha hb ht
    go_enter Try.func49, Try.ntmps49
    go_wp2_with (first
      | (go_at_call 35; refine (HS.out _).mono ?_; rintro e w' ⟨rfl, rfl⟩))
    go_ret2
    exact ⟨rfl, Below.refl _ _⟩

theorem whole_any (a : Int) (w : World) (ha : fits a) : Calls Try.prog 42 #[.int .i64 a] w fun e w' => e = .returned (.int .i64 (a / 65536)) ∧ w = w' := by
  obtain ⟨a0, a1⟩ := ha
  go_enter Try.func42, Try.ntmps42
  go_wp2
  go_ret
  exact ⟨rfl, rfl⟩
theorem part_any (a : Int) (w : World) (ha : fits a) : Calls Try.prog 43 #[.int .i64 a] w fun e w' => e = .returned (.int .i64 (a % 65536)) ∧ w = w' := by
  obtain ⟨a0, a1⟩ := ha
  have HA := Lib.hid (and_part a)
  go_enter Try.func43, Try.ntmps43
  go_wp2
  go_ret
  exact ⟨ret_int HA.out, rfl⟩

/-- what Sqrt tells -/
noncomputable def sqrtS (a : Int) : Int × Int := if a < 0 then (0, 1) else if 70368744177664 ≤ a then (0, 8) else (rt (a * 65536), 0)
theorem rt_bound {n m : Int} (h : 0 ≤ n) (hm : 0 ≤ m) (k : n < m * m) : 0 ≤ rt n ∧ rt n < m := ⟨(rt_is h).1, rt_lt h hm k⟩

set_option maxHeartbeats 1000000 in
theorem sqrt_any (a : Int) (w : World) (ha : fits a) : Calls Try.prog 47 #[.int .i64 a] w fun e w' => e = .returned (.tuple #[.int .i64 (sqrtS a).1, .int .i64 (sqrtS a).2]) ∧ w = w' := by
  obtain ⟨a0, a1⟩ := ha
  unfold sqrtS
  by_cases h1 : a < 0
  · rw [if_pos h1]
    go_enter Try.func47, Try.ntmps47
    go_wp2
    go_ret2
    exact ⟨rfl, rfl⟩
  · rw [if_neg h1]
    by_cases h2 : 70368744177664 ≤ a
    · rw [if_pos h2]
      go_enter Try.func47, Try.ntmps47
      go_wp2
      go_ret2
      exact ⟨rfl, rfl⟩
    · rw [if_neg h2]
      have HR := Lib.hid (fun w => root_any (a * 65536) w (by omega) (by omega))
      have hb := rt_bound (n := a * 65536) (m := 4294967296) (by omega) (by omega) (by omega)
      obtain ⟨r, hr⟩ : ∃ r, rt (a * 65536) = r := ⟨_, rfl⟩
      rw [hr] at HR hb ⊢
      obtain ⟨hb0, hb1⟩ := hb
      clear hr
      go_enter Try.func47, Try.ntmps47
      go_wp2_with (go_at_call 45; refine (HR.out _).mono ?_; rintro e w' ⟨rfl, rfl⟩)
      go_ret2
      exact ⟨rfl, rfl⟩

/-- what Length tells -/
noncomputable def lengthS (x y : Int) : Int × Int := if x < -1073741824 ∨ 1073741824 < x ∨ y < -1073741824 ∨ 1073741824 < y then (0, 8) else (rt (x * x + y * y), 0)

theorem sq_bound {x : Int} (h0 : -1073741824 ≤ x) (h1 : x ≤ 1073741824) : 0 ≤ x * x ∧ x * x ≤ 1152921504606846976 := by
  by_cases h : 0 ≤ x
  · have := sq_mono (show (0 : Int) ≤ 0 by omega) h
    have := sq_mono h h1
    omega
  · have := sq_mono (show (0 : Int) ≤ 0 by omega) (show 0 ≤ -x by omega)
    have := sq_mono (show 0 ≤ -x by omega) (show -x ≤ 1073741824 by omega)
    rw [Int.neg_mul_neg] at *; omega

set_option maxHeartbeats 1000000 in
theorem length_any (x y : Int) (w : World) : Calls Try.prog 48 #[.int .i64 x, .int .i64 y] w fun e w' => e = .returned (.tuple #[.int .i64 (lengthS x y).1, .int .i64 (lengthS x y).2]) ∧ w = w' := by
  unfold lengthS
  by_cases h1 : x < -1073741824
  · rw [if_pos (by omega)]
    go_enter Try.func48, Try.ntmps48
    go_wp2
    go_ret2
    exact ⟨rfl, rfl⟩
  · by_cases h2 : 1073741824 < x
    · rw [if_pos (by omega)]
      go_enter Try.func48, Try.ntmps48
      go_wp2
      go_ret2
      exact ⟨rfl, rfl⟩
    · by_cases h3 : y < -1073741824
      · rw [if_pos (by omega)]
        go_enter Try.func48, Try.ntmps48
        go_wp2
        go_ret2
        exact ⟨rfl, rfl⟩
      · by_cases h4 : 1073741824 < y
        · rw [if_pos (by omega)]
          go_enter Try.func48, Try.ntmps48
          go_wp2
          go_ret2
          exact ⟨rfl, rfl⟩
        · rw [if_neg (by omega)]
          have b1 := sq_bound (x := x) (by omega) (by omega)
          have b2 := sq_bound (x := y) (by omega) (by omega)
          have HR := Lib.hid (fun w => root_any (x * x + y * y) w (by omega) (by omega))
          have hb := rt_bound (n := x * x + y * y) (m := 4294967296) (by omega) (by omega) (by omega)
          obtain ⟨r, hr⟩ : ∃ r, rt (x * x + y * y) = r := ⟨_, rfl⟩
          rw [hr] at HR hb ⊢
          obtain ⟨hb0, hb1⟩ := hb
          obtain ⟨b10, b11⟩ := b1
          obtain ⟨b20, b21⟩ := b2
          clear hr
          go_enter Try.func48, Try.ntmps48
          go_wp2_with (go_at_call 45; refine (HR.out _).mono ?_; rintro e w' ⟨rfl, rfl⟩)
          go_ret2
          exact ⟨rfl, rfl⟩

set_option maxHeartbeats 1000000 in
theorem awake2_any (w : World) : Calls Try.prog 40 #[] w fun e w' => e = .returned (.bool true) ∧ Below w.heap.size w w' := by
  have H1 := Lib.hid (fun w => fmul_any 32768 32768 w (by decide) (by decide))
  rw [show mulDiv 32768 32768 65536 = (16384, 0) by decide +kernel] at H1
  have H2 := Lib.hid (fun w => fmul_any (-1) 1 w (by decide) (by decide))
  rw [show mulDiv (-1) 1 65536 = (-1, 0) by decide +kernel] at H2
  have H3 := Lib.hid (fun w => fdiv_any 65536 196608 w (by decide) (by decide))
  rw [show mulDiv 65536 65536 196608 = (21845, 0) by decide +kernel] at H3
  have H4 := Lib.hid (fun w => fdiv_any (-65536) 196608 w (by decide) (by decide))
  rw [show mulDiv (-65536) 65536 196608 = (-21846, 0) by decide +kernel] at H4
  have H5 := Lib.hid (fun w => sqrt_any 131072 w (by decide))
  rw [show sqrtS 131072 = (92681, 0) by unfold sqrtS; rw [if_neg (by omega), if_neg (by omega), rt_eq (by omega) (show isRoot (131072 * 65536) 92681 from ⟨by omega, by omega, by omega⟩)]] at H5
  have H6 := Lib.hid (fun w => length_any 3 4 w)
  rw [show lengthS 3 4 = (5, 0) by unfold lengthS; rw [if_neg (by omega), rt_eq (by omega) (show isRoot (3 * 3 + 4 * 4) 5 from ⟨by omega, by omega, by omega⟩)]] at H6
  have H7 := Lib.hid (fun w => whole_any (-1) w (by decide))
  rw [show (-1 : Int) / 65536 = -1 by decide] at H7
  have H8 := Lib.hid (fun w => part_any (-1) w (by decide))
  rw [show (-1 : Int) % 65536 = 65535 by decide] at H8
  go_enter Try.func40, Try.ntmps40
  go_wp2_with fail
  refine (H1.out _).mono ?_
  rintro e w1 ⟨rfl, hb⟩
  have B1 := Lib.hid hb; clear hb
  go_wp2_with fail
  refine (H2.out _).mono ?_
  rintro e w2 ⟨rfl, hb⟩
  have B2 := Lib.hid (B1.out.trans (hb.mono B1.out.size)); clear hb
  go_wp2_with fail
  refine (H3.out _).mono ?_
  rintro e w3 ⟨rfl, hb⟩
  have B3 := Lib.hid (B2.out.trans (hb.mono B2.out.size)); clear hb
  go_wp2_with fail
  refine (H4.out _).mono ?_
  rintro e w4 ⟨rfl, hb⟩
  have B4 := Lib.hid (B3.out.trans (hb.mono B3.out.size)); clear hb
  go_wp2_with fail
  refine (H5.out _).mono ?_
  rintro e w' ⟨rfl, rfl⟩
  go_wp2_with fail
  refine (H6.out _).mono ?_
  rintro e w' ⟨rfl, rfl⟩
  go_wp2_with fail
  refine (H7.out _).mono ?_
  rintro e w' ⟨rfl, rfl⟩
  go_wp2_with fail
  refine (H8.out _).mono ?_
  rintro e w' ⟨rfl, rfl⟩
  go_wp2
  go_ret
  exact ⟨rfl, B4.out⟩
end Go.Proofs.Ytikhgdbbbingbaa
