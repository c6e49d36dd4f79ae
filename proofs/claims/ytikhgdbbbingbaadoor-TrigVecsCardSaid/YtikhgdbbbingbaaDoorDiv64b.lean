/- math/bits.Div64: the quotient and what is left, of every two words whose higher one is below the divisor. -/
import Derived.Test.YtikhgdbbbingbaaDoorDiv64
import Derived.Lib.ItoaNum
namespace Go.Proofs.YtikhgdbbbingbaaDoor
open Go Go.RowKit
set_option linter.unusedVariables false

theorem pow_int (s : Nat) : ((2 : Int) ^ s) = ((2 ^ s : Nat) : Int) := by simp
theorem pow_pos' (s : Nat) : (0 : Int) < 2 ^ s := by rw [pow_int]; have := Nat.two_pow_pos s; omega
theorem pow_split (s : Nat) (hs : s ≤ 64) : (2 : Int) ^ (64 - s) * 2 ^ s = 18446744073709551616 := by
  rw [← Int.pow_add, show 64 - s + s = 64 by omega]; rfl

theorem shift_split (lo : Int) (s : Nat) (h0 : 0 ≤ lo) (h1 : lo ≤ 18446744073709551615) (hs : s ≤ 64) :
    lo * 2 ^ s = lo / 2 ^ (64 - s) * 18446744073709551616 + (lo * 2 ^ s) % 18446744073709551616 ∧ 0 ≤ lo / 2 ^ (64 - s) ∧ lo / 2 ^ (64 - s) < 2 ^ s := by
  have e : (lo * 2 ^ s) / 18446744073709551616 = lo / 2 ^ (64 - s) := by
    rw [← pow_split s hs]; exact Int.mul_ediv_mul_of_pos_left _ _ (pow_pos' s)
  refine ⟨?_, Int.ediv_nonneg h0 (Int.le_of_lt (pow_pos' _)), ?_⟩
  · rw [← e]; have := Int.mul_ediv_add_emod (lo * 2 ^ s) 18446744073709551616; omega
  · apply Int.ediv_lt_of_lt_mul (pow_pos' _)
    rw [Int.mul_comm, pow_split s hs]; omega

theorem len_facts (y : Int) (h0 : 0 < y) (h1 : y ≤ 18446744073709551615) : ∃ s : Nat, (64 - (Lib.bitLen y.toNat : Int)) = s ∧ s ≤ 63 ∧ 9223372036854775808 ≤ y * 2 ^ s ∧ y * 2 ^ s ≤ 18446744073709551615 := by
  obtain ⟨n, rfl⟩ : ∃ n : Nat, y = n := ⟨y.toNat, by omega⟩
  have hb := Lib.bitLenAux_bounds 64 n (by omega) (by omega)
  change 1 ≤ Lib.bitLen n ∧ 2 ^ (Lib.bitLen n - 1) ≤ n ∧ n < 2 ^ Lib.bitLen n at hb
  have hl := Lib.bitLen_le n 64 (by omega) (by omega)
  rw [Int.toNat_natCast]
  obtain ⟨L, hL⟩ : ∃ L, Lib.bitLen n = L := ⟨_, rfl⟩
  rw [hL] at hb hl ⊢
  refine ⟨64 - L, by omega, by omega, ?_, ?_⟩
  · have a1 : 2 ^ (L - 1) * 2 ^ (64 - L) ≤ n * 2 ^ (64 - L) := Nat.mul_le_mul_right _ hb.2.1
    rw [← Nat.pow_add, show L - 1 + (64 - L) = 63 by omega] at a1
    have a4 := Int.ofNat_le.2 a1
    rw [Int.natCast_mul] at a4
    rw [pow_int]; omega
  · have a1 : (n + 1) * 2 ^ (64 - L) ≤ 2 ^ L * 2 ^ (64 - L) := Nat.mul_le_mul_right _ hb.2.2
    rw [← Nat.pow_add, show L + (64 - L) = 64 by omega, Nat.add_mul] at a1
    have a2 := Nat.two_pow_pos (64 - L)
    have a3 : n * 2 ^ (64 - L) ≤ 18446744073709551615 := by omega
    have a4 := Int.ofNat_le.2 a3
    rw [Int.natCast_mul] at a4
    rw [pow_int]; omega

theorem wraps_u64 (n : Int) (h₀ : 0 ≤ n) (h₁ : n < 2 ^ 64) : IntKind.u64.wrap n = n := by rw [wrap_u64]; omega
theorem u64_mask32 (x : Int) (h0 : 0 ≤ x) (h1 : x ≤ 18446744073709551615) : bits .and .u64 x 4294967295 = x % 4294967296 := by
  have := bits_mask .u64 64 (by decide) wraps_u64 32 (by decide) x h0 (by omega)
  simpa using this

theorem div64_any (hi lo y : Int) (w : World) (hh0 : 0 ≤ hi) (hh1 : hi < y) (h0 : 0 ≤ lo) (h1 : lo ≤ 18446744073709551615) (hy1 : y ≤ 18446744073709551615) :
    Calls Tryd.prog 45 #[.int .u64 hi, .int .u64 lo, .int .u64 y] w fun e w' => e = .returned (.tuple #[.int .u64 ((hi * 18446744073709551616 + lo) / y), .int .u64 ((hi * 18446744073709551616 + lo) % y)]) ∧ ∃ n, w' = w.drewN n := by
  by_cases hz : hi = 0
  · subst hz
    rw [Int.zero_mul, Int.zero_add]
    exact div64_low lo y w h0 h1 hh1 hy1
  · obtain ⟨s, e1, e2, e3, e4⟩ := len_facts y (by omega) hy1
    have hp := pow_pos' s
    have hsp := shift_split lo s h0 h1 (by omega)
    have hH1 : hi * 2 ^ s ≤ (y - 1) * 2 ^ s := Int.mul_le_mul_of_nonneg_right (by omega) (Int.le_of_lt hp)
    rw [Int.sub_mul, Int.one_mul] at hH1
    have hH0 : 0 ≤ hi * 2 ^ s := Int.mul_nonneg hh0 (Int.le_of_lt hp)
    have eH : IntKind.u64.wrap (hi * 2 ^ s) = hi * 2 ^ s := by rw [wrap_u64]; omega
    have hL64 : (2 : Int) ^ s ≤ 2 ^ 63 := by rw [pow_int, pow_int]; exact_mod_cast Nat.pow_le_pow_right (by omega) e2
    have eU : bits .or .u64 (hi * 2 ^ s) (lo / 2 ^ (64 - s)) = hi * 2 ^ s + lo / 2 ^ (64 - s) :=
      bits_join .u64 64 (by decide) wraps_u64 s _ _ hH0 (Int.mul_emod_left _ _) (by omega) hsp.2.1 hsp.2.2 (by omega)
    have eX : IntKind.u64.wrap (lo * 2 ^ s) = (lo * 2 ^ s) % 18446744073709551616 := wrap_u64 _
    obtain ⟨X, hX⟩ : ∃ X, (lo * 2 ^ s) % 18446744073709551616 = X := ⟨_, rfl⟩
    have hX0 : 0 ≤ X ∧ X ≤ 18446744073709551615 := by omega
    rw [hX] at eX hsp
    have hN : (hi * 18446744073709551616 + lo) * 2 ^ s = (hi * 2 ^ s + lo / 2 ^ (64 - s)) * 18446744073709551616 + X := by
      rw [Int.add_mul, Int.add_mul, hsp.1, Int.mul_assoc, Int.mul_comm 18446744073709551616, ← Int.mul_assoc]; omega
    refine (div64_high hi lo y s w h0 h1 (by omega) hh1 hy1 e1 e2 (y * 2 ^ s) rfl e3 e4 (hi * 2 ^ s) (lo / 2 ^ (64 - s)) (hi * 2 ^ s + lo / 2 ^ (64 - s)) X (y * 2 ^ s / 4294967296) (y * 2 ^ s % 4294967296) (X / 4294967296) (X % 4294967296)
      eH rfl eU eX rfl (u64_mask32 _ (by omega) e4) rfl (u64_mask32 _ hX0.1 hX0.2) (by omega) (by omega) (by omega) (by omega) (by omega) (by omega) (by omega) (by omega) (by omega) (by omega) (by show _ = _; omega)).mono ?_
    rintro e w' ⟨Q1, Q0, r1, r2, rfl, rfl, h2, h3, h4, h5⟩
    have hw := Dv.whole (N := hi * 18446744073709551616 + lo) (y := y) (p := 2 ^ s) (Q1 := Q1) (Q0 := Q0) (r1 := r1) (r2 := r2) (U := hi * 2 ^ s + lo / 2 ^ (64 - s)) (u1 := X / 4294967296) (u0 := X % 4294967296) hp (by omega) (by rw [hN]; omega) h2 h3 h4 h5
    exact ⟨by rw [hw.1, hw.2], 0, rfl⟩
end Go.Proofs.YtikhgdbbbingbaaDoor
