/- What the roots do. -/
import Derived.Test.YtikhgdbbbingbaaProg
import Derived.Test.YtikhgdbbbingbaaShelf
import Derived.WalkKit
import Derived.WalkSpells
import Derived.WalkLawsBesides
import Derived.Deep.QuietTactic
import Derived.BigQuiet
import Derived.Lib.Hide
import Derived.Lib.ItoaNum
import Derived.WalkMore
import Derived.IntWalk
import Derived.Test.YtikhgdbbbingbaaRootPure
namespace Go.Proofs.Ytikhgdbbbingbaa.Rt
open Go Go.RowKit
set_option linter.unusedVariables false

theorem ret_u {a b : Int} (h : a = b) : Ending.returned (.int .u64 a) = .returned (.int .u64 b) := by rw [h]

theorem p2_pow (k : Nat) : p2 k = ((2 ^ k : Nat) : Int) := by
  induction k with
  | zero => rfl
  | succ k ih => rw [p2, ih, Nat.pow_succ]; omega

/-- the power of two that is above the root -/
theorem start_facts (n : Int) (h0 : 0 < n) (h1 : n ≤ 18446744073709551615) : ∃ L h : Nat, Lib.bitLen n.toNat = L ∧ 1 ≤ L ∧ L ≤ 64 ∧ (L + 1) / 2 = h ∧ h ≤ 32 ∧ rt n ≤ p2 h ∧ p2 h ≤ 4294967296 := by
  have hb := Lib.bitLenAux_bounds 64 n.toNat (by omega) (by omega)
  change 1 ≤ Lib.bitLen n.toNat ∧ 2 ^ (Lib.bitLen n.toNat - 1) ≤ n.toNat ∧ n.toNat < 2 ^ Lib.bitLen n.toNat at hb
  have hl := Lib.bitLen_le n.toNat 64 (by omega) (by omega)
  obtain ⟨L, hL⟩ : ∃ L, Lib.bitLen n.toNat = L := ⟨_, rfl⟩
  rw [hL] at hb hl
  refine ⟨L, (L + 1) / 2, hL, hb.1, hl, rfl, by omega, ?_, ?_⟩
  · have h2 : n < p2 ((L + 1) / 2) * p2 ((L + 1) / 2) := by
      rw [← p2_add]
      have h3 : p2 L ≤ p2 ((L + 1) / 2 + (L + 1) / 2) := p2_mono (by omega)
      rw [p2_pow L] at h3
      omega
    have := rt_lt (show 0 ≤ n by omega) (Int.le_of_lt (p2_pos _)) h2
    omega
  · have h3 : p2 ((L + 1) / 2) ≤ p2 32 := p2_mono (by omega)
    exact h3

set_option maxHeartbeats 1000000 in
theorem root_any (n : Int) (w : World) (h0 : 0 ≤ n) (h1 : n ≤ 18446744073709551615) : Calls Try.prog 45 #[.int .u64 n] w fun e w' => e = .returned (.int .u64 (rt n)) ∧ w = w' := by
  by_cases hz : n = 0
  · subst hz
    have HF := Lib.hid (rt_eq (n := 0) (r := 0) (by omega) ⟨by omega, by omega, by omega⟩)
    go_enter Try.func45, Try.ntmps45
    go_wp2
    go_step3
    go_wp2
    (try rw [Exit.noGoto_ret])
    go_ret
    exact ⟨ret_u HF.out.symm, rfl⟩
  · have hz1 : ((n : Int) == 0) = false := by simpa using hz
    have hnp : 0 < n := by omega
    obtain ⟨L, h, hL, L1, L2, hh, H1, H2, H3⟩ := start_facts n hnp h1
    have HL := Lib.hid (Try.bits_Len64 n w h0 h1)
    rw [hL] at HL
    have HR := Lib.hid (rt_is h0)
    obtain ⟨r, hr⟩ : ∃ r, rt n = r := ⟨_, rfl⟩
    rw [hr] at H2 HR ⊢
    clear hr hL hz
    have hrp : 0 < r := by
      obtain ⟨q0, q1, q2⟩ := HR.out
      by_cases h : r = 0
      · subst h; omega
      · omega
    have HN := Lib.hid hnp
    have P2 := Lib.hid (p2_pow h)
    obtain ⟨x0, hx0⟩ : ∃ x, p2 h = x := ⟨_, rfl⟩
    have hx00 := p2_pos h
    rw [hx0] at H2 H3 hx00
    have HW := Lib.hid (show IntKind.u64.wrap (2 ^ ((L + 1) / 2)) = x0 by
      have e : (2 : Int) ^ ((L + 1) / 2) = x0 := by rw [← hx0, hh, p2_pow]; simp
      rw [e]; exact IntWalk.u64_in _ (by omega))
    clear hx0
    go_enter Try.func45, Try.ntmps45
    go_wp2
    go_step3
    go_wp2_with (go_at_call 78; refine HL.out.mono ?_; rintro e w' ⟨rfl, rfl⟩)
    rw [HW.out]
    go_step3
    go_wp2
    go_loop [3] (fun x => ∃ z : Int, x = .int .u64 z ∧ r ≤ z ∧ 0 < z ∧ z ≤ 4294967296) (fun x => (intOf x).toNat)
    case atStart => exact ⟨x0, rfl, H2, hx00, H3⟩
    case round =>
      obtain ⟨z, rfl, hrz, hz0, hz1⟩ := hrel
      have hq := quo_le HR.out hz0 hrz
      have hnw := newton HR.out hz0 hrz
      have hrb : r ≤ 4294967296 := by omega
      obtain ⟨hq0, hq1⟩ := hq
      have HS : IntKind.u64.wrap (z + n / z) = z + n / z := IntWalk.u64_in _ (by omega)
      have HD : IntKind.u64.wrap ((z + n / z).tdiv 2) = (z + n / z) / 2 := IntWalk.u64_quo _ _ (by omega)
      have hzz : ((z : Int) == 0) = false := by simp; omega
      by_cases hstop : z ≤ (z + n / z) / 2
      · have HF := Lib.hid (hnw.2 hstop)
        go_wp2
        (try rw [Exit.noGoto_ret])
        go_ret
        exact ⟨ret_u HF.out, rfl⟩
      · go_wp2
        go_round
        case rel => exact ⟨(z + n / z) / 2, rfl, hnw.1, by omega, by omega⟩
        case measure => simp [intOf]; omega

set_option maxHeartbeats 1000000 in
theorem refRoot_any (n : Int) (w : World) (h0 : 0 ≤ n) (h1 : n ≤ 18446744073709551615) : Calls Try.prog 46 #[.int .u64 n] w fun e w' => e = .returned (.int .u64 (rt n)) ∧ w = w' := by
  have HST := Lib.hid (show upTo n 0 32 by
    refine ⟨by omega, by omega, ?_, by decide⟩
    rw [show (0 + p2 32) * (0 + p2 32) = 18446744073709551616 by decide]; omega)
  have HEND := Lib.hid (fun r (h : upTo n r 0) => rt_eq h0 (upTo_end h))
  go_enter Try.func46, Try.ntmps46
  go_wp2
  go_loop [3, 4] (fun rv kv => ∃ (j : Nat) (r : Int), rv = .int .u64 r ∧ kv = .int .i64 ((j : Int) - 1) ∧ j ≤ 32 ∧ Hid (upTo n r j)) (fun _ kv => (intOf kv + 1).toNat)
  case atStart => exact ⟨32, 0, rfl, rfl, by omega, HST.out⟩
  case round =>
    obtain ⟨j, r, rfl, rfl, hj, HU⟩ := hrel
    rcases Nat.eq_zero_or_pos j with rfl | hpos
    · have HF := Lib.hid (HEND.out r HU.out)
      go_wp2
      go_ret
      exact ⟨ret_u HF.out.symm, rfl⟩
    · obtain ⟨m, rfl⟩ : ∃ m, j = m + 1 := ⟨j - 1, by omega⟩
      rw [show (((m + 1 : Nat) : Int) - 1) = (m : Int) by omega]
      have hp := p2_pos m
      have hu := HU.out
      have hr0 := hu.1
      have hr1 := hu.2.2.2
      rw [p2] at hr1
      have hpw := p2_pow m
      have HT := Lib.hid (fun h => upTo_take (k := m) hu h)
      have HL := Lib.hid (fun h => upTo_leave (k := m) hu h)
      obtain ⟨p, hpp⟩ : ∃ p, p2 m = p := ⟨_, rfl⟩
      rw [hpp] at HT HL hp hr1 hpw
      have hw : IntKind.u64.wrap (2 ^ m) = p := by
        have e : (2 : Int) ^ m = p := by rw [hpw]; simp
        rw [e]; exact IntWalk.u64_in _ (by omega)
      have hsq0 := sq_mono (show (0 : Int) ≤ 0 by omega) (show 0 ≤ r + p by omega)
      have hsq := sq_mono (show 0 ≤ r + p by omega) (show r + p ≤ 4294967295 by omega)
      have hs : IntKind.u64.wrap (r + p) = r + p := IntWalk.u64_in _ (by omega)
      have hm : IntKind.u64.wrap ((r + p) * (r + p)) = (r + p) * (r + p) := IntWalk.u64_in _ (by omega)
      clear hu hpw hpp hsq0 hsq
      by_cases hle : (r + p) * (r + p) ≤ n
      · go_wp2
        go_round
        case rel => exact ⟨m, r + p, rfl, by go_num, by omega, HT.out hle⟩
        case measure => simp [intOf] <;> omega
      · go_wp2
        go_round
        case rel => exact ⟨m, r, rfl, by go_num, by omega, HL.out hle⟩
        case measure => simp [intOf] <;> omega
end Go.Proofs.Ytikhgdbbbingbaa.Rt
