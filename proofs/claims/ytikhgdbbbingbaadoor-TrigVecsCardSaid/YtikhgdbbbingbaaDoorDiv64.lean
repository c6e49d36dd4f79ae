/- What math/bits.Div64 does. -/
import Derived.Test.YtikhgdbbbingbaaDoorShelf
import Derived.WalkKit
import Derived.WalkSpells
import Derived.WalkLawsBesides
import Derived.Deep.QuietTactic
import Derived.BigQuiet
import Derived.Lib.Hide
import Derived.Laws.BitsLemmas
import Derived.Deep.DeepCutAuto
import Derived.Deep.CutBlock
import Derived.Test.YtikhgdbbbingbaaDoorDivPure
namespace Go.Proofs.YtikhgdbbbingbaaDoor
open Go Go.RowKit
set_option linter.unusedVariables false

theorem div64_low (lo y : Int) (w : World) (h0 : 0 ≤ lo) (h1 : lo ≤ 18446744073709551615) (hy0 : 0 < y) (hy1 : y ≤ 18446744073709551615) :
    Calls Tryd.prog 45 #[.int .u64 0, .int .u64 lo, .int .u64 y] w fun e w' => e = .returned (.tuple #[.int .u64 (lo / y), .int .u64 (lo % y)]) ∧ ∃ n, w' = w.drewN n := by
  have hne : ((y : Int) == 0) = false := by simp; omega
  go_enter Tryd.func45, Tryd.ntmps45
  go_wp2
  go_quiet (fail)
  go_wp2
  go_ret2
  exact ⟨rfl, _, rfl⟩

theorem wrap_u64 (n : Int) : IntKind.u64.wrap n = n % 18446744073709551616 := by simp [IntKind.wrap, IntKind.bits, IntKind.signed]
theorem u64_eq {a b : Int} (h : a = b) : Value.int .u64 a = .int .u64 b := by rw [h]

theorem lz_any (y : Int) (s : Nat) (w : World) (h0 : 0 < y) (h1 : y ≤ 18446744073709551615) (hs : (64 - (Lib.bitLen y.toNat : Int)) = s) :
    Calls Tryd.prog 46 #[.int .u64 y] w fun e w' => e = .returned (.int .i64 s) ∧ w = w' :=
  (Tryd.bits_LeadingZeros64 y w (by omega) h1).mono fun _ _ q => ⟨by rw [← hs]; exact q.1, q.2.symm⟩

theorem start_wrap (U m r : Int) (hm0 : 0 ≤ m) (hm1 : m ≤ 18446744073709551615) (h : r = U - m) (h0 : 0 ≤ r) (h1 : r < 4294967296) : IntKind.u64.wrap (U - IntKind.u64.wrap m) = r := by
  rw [wrap_u64, wrap_u64]; omega
theorem left_wrap (U u P r : Int) (h : U * 4294967296 + u - P = r) (h0 : 0 ≤ r) (h1 : r < 18446744073709551616) : IntKind.u64.wrap (IntKind.u64.wrap (IntKind.u64.wrap (U * 4294967296) + u) - IntKind.u64.wrap P) = r := by
  rw [wrap_u64, wrap_u64, wrap_u64, wrap_u64]; omega

set_option maxHeartbeats 2000000 in
set_option maxRecDepth 100000 in
theorem div64_high (hi lo y : Int) (s : Nat) (w : World) (h0 : 0 ≤ lo) (h1 : lo ≤ 18446744073709551615) (hh0 : 0 < hi) (hh1 : hi < y) (hy1 : y ≤ 18446744073709551615)
    (hs : (64 - (Lib.bitLen y.toNat : Int)) = s) (hs1 : s ≤ 63) (Y : Int) (hY : y * 2 ^ s = Y) (hY0 : 9223372036854775808 ≤ Y) (hY1 : Y ≤ 18446744073709551615)
    (H L U X yh yl u1 u0 : Int) (eH : IntKind.u64.wrap (hi * 2 ^ s) = H) (eL : lo / 2 ^ (64 - s) = L) (eU : bits .or .u64 H L = U) (eX : IntKind.u64.wrap (lo * 2 ^ s) = X)
    (eyh : Y / 4294967296 = yh) (eyl : bits .and .u64 Y 4294967295 = yl) (eu1 : X / 4294967296 = u1) (eu0 : bits .and .u64 X 4294967295 = u0)
    (hU0 : 0 ≤ U) (hU : U < Y) (bh0 : 2147483648 ≤ yh) (bh1 : yh < 4294967296) (bl0 : 0 ≤ yl) (bl1 : yl < 4294967296) (b10 : 0 ≤ u1) (b11 : u1 < 4294967296) (b00 : 0 ≤ u0) (b01 : u0 < 4294967296)
    (hYY : Hid (Y = yh * 4294967296 + yl)) :
    Calls Tryd.prog 45 #[.int .u64 hi, .int .u64 lo, .int .u64 y] w fun e w' => ∃ Q1 Q0 r1 r2, e = .returned (.tuple #[.int .u64 (Q1 * 4294967296 + Q0), .int .u64 (r2 / 2 ^ s)]) ∧ w = w' ∧
      U * 4294967296 + u1 = Q1 * Y + r1 ∧ r1 * 4294967296 + u0 = Q0 * Y + r2 ∧ 0 ≤ r2 ∧ r2 < Y := by
  have HL := Lib.hid (lz_any y s w (by omega) hy1 hs)
  clear hs
  have hne : ((y : Int) == 0) = false := by simp; omega
  have hne2 : ((hi : Int) == 0) = false := by simp; omega
  have HG := Lib.hid (Dv.guess_start (u := u1) hYY.out bh0 bh1 bl0 bl1 hU0 hU b10 b11)
  have HQL := Lib.hid (Dv.quo_lt hU0 hU b10 b11)
  have HQ0 := Lib.hid (Dv.quo_nonneg (u := u1) hU0 hU b10)
  obtain ⟨Q1, hQ1⟩ : ∃ q, (U * 4294967296 + u1) / Y = q := ⟨_, rfl⟩
  have HQ1 := Lib.hid hQ1
  rw [hQ1] at HQL HQ0
  obtain ⟨q, hq⟩ : ∃ q, U / yh = q := ⟨_, rfl⟩
  have hg := HG.out
  rw [hq] at hg
  have hq0 := hg.q0
  have hq1 := hg.q1
  obtain ⟨m, hm⟩ : ∃ m, q * yh = m := ⟨_, rfl⟩
  have hsum := hg.sum
  have hrh0 := hg.rh0
  have hrh1 := hg.rh1
  rw [hm] at hg hsum hrh0 hrh1
  have HG1 := Lib.hid hg
  have hm0 : 0 ≤ m := by rw [← hm]; exact Int.mul_nonneg hq0 (by omega)
  clear hg HG hQ1
  go_enter Tryd.func45, Tryd.ntmps45
  go_upto_block 0 with (first | (go_at_call 46; refine HL.out.mono ?_; rintro e w' ⟨rfl, rfl⟩))
  go_cut [15, 16] (fun a b wc => a = .int .u64 Q1 ∧ wc = w)
  case first =>
    go_wp2_with fail
    go_loop [15, 16] (fun a b => ∃ q r : Int, a = .int .u64 q ∧ b = .int .u64 r ∧ Hid (Dv.Guess U u1 Y yh yl q r)) (fun a _ => (intOf a).toNat)
    case atStart => exact ⟨q, U - m, u64_eq hq, (by first | rfl | exact u64_eq (start_wrap U m _ (by omega) (by omega) rfl hrh0 hrh1)), HG1.out⟩
    case round =>
      clear hq hm HG1 hsum hrh0 hrh1 hq0 hq1 hm0
      obtain ⟨q, r, rfl, rfl, G⟩ := hrel
      have b1 := G.out.q0
      have b2 := G.out.q1
      have b3 := G.out.rh0
      have b4 := G.out.rh1
      have HH := Lib.hid (Dv.guess_high (show 0 < Y by omega) hYY.out (by rw [HQ1.out]; exact HQL.out) G.out)
      rw [HQ1.out] at HH
      by_cases hA : 4294967296 ≤ q
      · have hlow := HH.out (Or.inl hA)
        by_cases hr : r + yh < 4294967296
        · have HN := Lib.hid (Dv.guess_next (show 0 < yh by omega) G.out (by rw [HQ1.out]; exact hlow) (by rw [HQ1.out]; exact HQ0.out) hr)
          go_wp2
          go_round
          case rel => exact ⟨q - 1, r + yh, rfl, rfl, HN.out⟩
          case measure => simp [intOf]; omega
        · have HS := Lib.hid (Dv.guess_stop (show 0 < Y by omega) hYY.out (show 0 < yh by omega) bl0 bl1 b10 G.out (by rw [HQ1.out]; exact hlow) (by rw [HQ1.out]; exact HQ0.out) (by omega))
          rw [HQ1.out] at HS
          go_wp2
          go_meet
          exact ⟨u64_eq HS.out, rfl⟩
      · obtain ⟨m2, hm2⟩ : ∃ m2, q * yl = m2 := ⟨_, rfl⟩
        have hm20 : 0 ≤ m2 := by rw [← hm2]; exact Int.mul_nonneg b1 bl0
        have hm21 : m2 ≤ 18446744065119617025 := by
          rw [← hm2]
          have a1 : q * yl ≤ 4294967295 * yl := Int.mul_le_mul_of_nonneg_right (by omega) bl0
          omega
        by_cases hB : 4294967296 * r + u1 < m2
        · have hlow := HH.out (Or.inr (by rw [hm2]; exact hB))
          have hqpos : 1 ≤ q := by have := HQ0.out; omega
          by_cases hr : r + yh < 4294967296
          · have HN := Lib.hid (Dv.guess_next (show 0 < yh by omega) G.out (by rw [HQ1.out]; exact hlow) (by rw [HQ1.out]; exact HQ0.out) hr)
            go_wp2
            go_round
            case rel => exact ⟨q - 1, r + yh, rfl, rfl, HN.out⟩
            case measure => simp [intOf]; omega
          · have HS := Lib.hid (Dv.guess_stop (show 0 < Y by omega) hYY.out (show 0 < yh by omega) bl0 bl1 b10 G.out (by rw [HQ1.out]; exact hlow) (by rw [HQ1.out]; exact HQ0.out) (by omega))
            rw [HQ1.out] at HS
            go_wp2
            go_meet
            exact ⟨u64_eq HS.out, rfl⟩
        · have HR := Lib.hid (Dv.guess_right (show 0 < Y by omega) hYY.out G.out (by rw [hm2]; omega))
          rw [HQ1.out] at HR
          go_wp2
          go_meet
          exact ⟨u64_eq HR.out, rfl⟩
  case rest =>
    obtain ⟨rfl, rfl⟩ := hcut
    clear hq hm HG1 hsum hrh0 hrh1 hq0 hq1 hm0
    have hlo := Dv.left_over (u := u1) (show 0 < Y by omega) (show Y < 18446744073709551616 by omega) HQ1.out.symm
    obtain ⟨P, hP⟩ : ∃ P, Q1 * Y = P := ⟨_, rfl⟩
    rw [hP] at hlo
    obtain ⟨r1, hr1⟩ : ∃ r, U * 4294967296 + u1 - P = r := ⟨_, rfl⟩
    rw [hr1] at hlo
    have e9 := left_wrap U u1 P r1 hr1 hlo.1 (by omega)
    have HR1 := Lib.hid hr1
    clear hr1
    have HG := Lib.hid (Dv.guess_start (u := u0) hYY.out bh0 bh1 bl0 bl1 hlo.1 hlo.2 b00 b01)
    have HKL := Lib.hid (Dv.quo_lt hlo.1 hlo.2 b00 b01)
    have HK0 := Lib.hid (Dv.quo_nonneg (u := u0) hlo.1 hlo.2 b00)
    have hQ1a := HQL.out
    have hQ1b := HQ0.out
    obtain ⟨Q0, hK1⟩ : ∃ q, (r1 * 4294967296 + u0) / Y = q := ⟨_, rfl⟩
    have HK1 := Lib.hid hK1
    rw [hK1] at HKL HK0
    obtain ⟨q, hq⟩ : ∃ q, r1 / yh = q := ⟨_, rfl⟩
    have hg := HG.out
    rw [hq] at hg
    have hq0 := hg.q0
    have hq1 := hg.q1
    obtain ⟨m, hm⟩ : ∃ m, q * yh = m := ⟨_, rfl⟩
    have hsum := hg.sum
    have hrh0 := hg.rh0
    have hrh1 := hg.rh1
    rw [hm] at hg hsum hrh0 hrh1
    have HG1 := Lib.hid hg
    have hm0 : 0 ≤ m := by rw [← hm]; exact Int.mul_nonneg hq0 (by omega)
    clear hg HG hK1
    go_upto_block 2 with fail
    go_cut [18, 16] (fun a b wx => a = .int .u64 Q0 ∧ wx = wc)
    case first =>
      go_wp2_with fail
      go_loop [18, 16] (fun a b => ∃ q r : Int, a = .int .u64 q ∧ b = .int .u64 r ∧ Hid (Dv.Guess r1 u0 Y yh yl q r)) (fun a _ => (intOf a).toNat)
      case atStart => exact ⟨q, r1 - m, u64_eq hq, (by first | rfl | exact u64_eq (start_wrap r1 m _ (by omega) (by omega) rfl hrh0 hrh1)), HG1.out⟩
      case round =>
        clear hq hm HG1 hsum hrh0 hrh1 hq0 hq1 hm0
        obtain ⟨q, r, rfl, rfl, G⟩ := hrel
        have b1 := G.out.q0
        have b2 := G.out.q1
        have b3 := G.out.rh0
        have b4 := G.out.rh1
        have HH := Lib.hid (Dv.guess_high (show 0 < Y by omega) hYY.out (by rw [HK1.out]; exact HKL.out) G.out)
        rw [HK1.out] at HH
        by_cases hA : 4294967296 ≤ q
        · have hlow := HH.out (Or.inl hA)
          by_cases hr : r + yh < 4294967296
          · have HN := Lib.hid (Dv.guess_next (show 0 < yh by omega) G.out (by rw [HK1.out]; exact hlow) (by rw [HK1.out]; exact HK0.out) hr)
            go_wp2
            go_round
            case rel => exact ⟨q - 1, r + yh, rfl, rfl, HN.out⟩
            case measure => simp [intOf]; omega
          · have HS := Lib.hid (Dv.guess_stop (show 0 < Y by omega) hYY.out (show 0 < yh by omega) bl0 bl1 b00 G.out (by rw [HK1.out]; exact hlow) (by rw [HK1.out]; exact HK0.out) (by omega))
            rw [HK1.out] at HS
            go_wp2
            go_meet
            exact ⟨u64_eq HS.out, rfl⟩
        · obtain ⟨m2, hm2⟩ : ∃ m2, q * yl = m2 := ⟨_, rfl⟩
          have hm20 : 0 ≤ m2 := by rw [← hm2]; exact Int.mul_nonneg b1 bl0
          have hm21 : m2 ≤ 18446744065119617025 := by
            rw [← hm2]
            have a1 : q * yl ≤ 4294967295 * yl := Int.mul_le_mul_of_nonneg_right (by omega) bl0
            omega
          by_cases hB : 4294967296 * r + u0 < m2
          · have hlow := HH.out (Or.inr (by rw [hm2]; exact hB))
            have hqpos : 1 ≤ q := by have := HK0.out; omega
            by_cases hr : r + yh < 4294967296
            · have HN := Lib.hid (Dv.guess_next (show 0 < yh by omega) G.out (by rw [HK1.out]; exact hlow) (by rw [HK1.out]; exact HK0.out) hr)
              go_wp2
              go_round
              case rel => exact ⟨q - 1, r + yh, rfl, rfl, HN.out⟩
              case measure => simp [intOf]; omega
            · have HS := Lib.hid (Dv.guess_stop (show 0 < Y by omega) hYY.out (show 0 < yh by omega) bl0 bl1 b00 G.out (by rw [HK1.out]; exact hlow) (by rw [HK1.out]; exact HK0.out) (by omega))
              rw [HK1.out] at HS
              go_wp2
              go_meet
              exact ⟨u64_eq HS.out, rfl⟩
          · have HR := Lib.hid (Dv.guess_right (show 0 < Y by omega) hYY.out G.out (by rw [hm2]; omega))
            rw [HK1.out] at HR
            go_wp2
            go_meet
            exact ⟨u64_eq HR.out, rfl⟩
    case rest =>
      obtain ⟨rfl, rfl⟩ := hcut
      clear hq hm HG1 hsum hrh0 hrh1 hq0 hq1 hm0
      have hlo2 := Dv.left_over (u := u0) (show 0 < Y by omega) (show Y < 18446744073709551616 by omega) HK1.out.symm
      have hK1a := HKL.out
      have hK1b := HK0.out
      obtain ⟨P0, hP0⟩ : ∃ P, Q0 * Y = P := ⟨_, rfl⟩
      rw [hP0] at hlo2
      obtain ⟨r2, hr2⟩ : ∃ r, r1 * 4294967296 + u0 - P0 = r := ⟨_, rfl⟩
      rw [hr2] at hlo2
      have e10 := left_wrap r1 u0 P0 r2 hr2 hlo2.1 (by omega)
      have HR2 := Lib.hid hr2
      have HP := Lib.hid hP
      have HP0 := Lib.hid hP0
      clear hr2
      go_wp2
      go_ret2
      refine ⟨Q1, Q0, r1, r2, rfl, rfl, ?_, ?_, hlo2.1, hlo2.2⟩
      · rw [HP.out]; have := HR1.out; omega
      · rw [HP0.out]; have := HR2.out; omega
end Go.Proofs.YtikhgdbbbingbaaDoor
