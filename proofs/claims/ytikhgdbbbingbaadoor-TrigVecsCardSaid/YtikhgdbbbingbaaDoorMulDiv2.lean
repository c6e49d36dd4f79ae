/- num.MulDiv: the whole function. -/
import Derived.Test.YtikhgdbbbingbaaDoorMulDiv
namespace Go.Proofs.YtikhgdbbbingbaaDoor
open Go Go.RowKit
set_option linter.unusedVariables false

/-- as the text reckons: the sizes' product by the divisor's size, and then the sign -/
def mdv (a b c : Int) : Int × Int :=
  if absI c ≤ absI a * absI b / 18446744073709551616 then (0, 8)
  else if belowB a b c = false then
    if 9223372036854775807 < absI a * absI b / absI c then (0, 8) else (absI a * absI b / absI c, 0)
  else if absI a * absI b % absI c = 0 then
    if absI a * absI b / absI c = 0 ∨ 9223372036854775808 < absI a * absI b / absI c then (0, 8) else (-(absI a * absI b / absI c), 0)
  else if 9223372036854775808 < absI a * absI b / absI c + 1 then (0, 8) else (-(absI a * absI b / absI c + 1), 0)

theorem mdv_eq (a b c : Int) : mdv a b c =
  (if absI c ≤ absI a * absI b / 18446744073709551616 then (0, 8)
    else if belowB a b c = false then
      if 9223372036854775807 < absI a * absI b / absI c then (0, 8) else (absI a * absI b / absI c, 0)
    else if absI a * absI b % absI c = 0 then
      if absI a * absI b / absI c = 0 ∨ 9223372036854775808 < absI a * absI b / absI c then (0, 8) else (-(absI a * absI b / absI c), 0)
    else if 9223372036854775808 < absI a * absI b / absI c + 1 then (0, 8) else (-(absI a * absI b / absI c + 1), 0)) := rfl

theorem two_words (n d : Int) (h0 : 0 ≤ n) (hd : n / 18446744073709551616 < d) : n / 18446744073709551616 * 18446744073709551616 + n % 18446744073709551616 = n := by omega

def own4 (w : World) (a b c p q : Int) : World := (((w.alloc (.cells #[.int .i64 a] 2)).alloc (.cells #[.int .i64 b] 2)).alloc (.cells #[.int .i64 c] 2)).alloc (.cells #[.int .u64 p, .int .u64 q] 54)
theorem own4_cells (w : World) (a b c p q : Int) : (own4 w a b c p q).cell? ⟨w.heap.size, 0, none⟩ = some (.int .i64 a) ∧ (own4 w a b c p q).cell? ⟨w.heap.size + 1, 0, none⟩ = some (.int .i64 b) ∧
    (own4 w a b c p q).cell? ⟨w.heap.size + 2, 0, none⟩ = some (.int .i64 c) ∧ (own4 w a b c p q).cell? ⟨w.heap.size + 3, 0, none⟩ = some (.int .u64 p) ∧ (own4 w a b c p q).cell? ⟨w.heap.size + 3, 1, none⟩ = some (.int .u64 q) := by
  unfold own4
  refine ⟨?_, ?_, ?_, ?_, ?_⟩
  · rw [World.cell?_alloc_past _ _ _ (by simp <;> omega), World.cell?_alloc_past _ _ _ (by simp <;> omega), World.cell?_alloc_past _ _ _ (by simp), World.cell?_alloc_at _ _ _ _ rfl]; rfl
  · rw [World.cell?_alloc_past _ _ _ (by simp <;> omega), World.cell?_alloc_past _ _ _ (by simp), World.cell?_alloc_at _ _ _ _ (by simp)]; rfl
  · rw [World.cell?_alloc_past _ _ _ (by simp), World.cell?_alloc_at _ _ _ _ (by simp)]; rfl
  · rw [World.cell?_alloc_at _ _ _ _ (by simp)]; rfl
  · rw [World.cell?_alloc_at _ _ _ _ (by simp)]; rfl
theorem own4_below (w : World) (a b c p q : Int) : Below w.heap.size w (own4 w a b c p q) :=
  ((((Below.refl _ _).alloc (Nat.le_refl _) _).alloc (by simp) _).alloc (by simp; omega) _).alloc (by simp; omega) _
theorem below_drewN {B : Nat} {a w : World} (h : Below B a w) (n : Nat) : Below B a (w.drewN n) := ⟨h.os, h.tape, h.output, h.size, h.block⟩

theorem neg_conv (q : Int) (h0 : 0 < q) (h1 : q ≤ 9223372036854775808) : wrap64 (IntKind.u64.wrap (-q)) = -q := by
  rw [wrap_u64]; unfold wrap64; omega

theorem muldiv_zero (a b : Int) (w : World) : Calls Tryd.prog 36 #[.int .i64 a, .int .i64 b, .int .i64 0] w fun e w' => e = .returned (.tuple #[.int .i64 0, .int .i64 9]) ∧ Below w.heap.size w w' := by
  go_enter Tryd.func36, Tryd.ntmps36
  go_wp2
  go_ret2
  exact ⟨rfl, (((Below.refl _ _).alloc (Nat.le_refl _) _).alloc (by simp) _).alloc (by simp; omega) _⟩

set_option maxHeartbeats 4000000 in
theorem muldiv_walk (a b c : Int) (w : World) (hc : c ≠ 0) (ha0 : -9223372036854775808 ≤ a) (ha1 : a ≤ 9223372036854775807) (hb0 : -9223372036854775808 ≤ b) (hb1 : b ≤ 9223372036854775807) (hc0 : -9223372036854775808 ≤ c) (hc1 : c ≤ 9223372036854775807) :
    Calls Tryd.prog 36 #[.int .i64 a, .int .i64 b, .int .i64 c] w fun e w' => e = .returned (.tuple #[.int .i64 (mdv a b c).1, .int .i64 (mdv a b c).2]) ∧ Below w.heap.size w w' := by
  have hne : ((c : Int) == 0) = false := by simpa using hc
  have HA := Lib.hid (fun w => size_any a w ha0 ha1)
  have HB := Lib.hid (fun w => size_any b w hb0 hb1)
  have HC := Lib.hid (fun w => size_any c w hc0 hc1)
  have A0 := absI_pos a
  have B0 := absI_pos b
  have C0 : 0 < absI c := by unfold absI; split <;> omega
  have A1 : absI a ≤ 9223372036854775808 := by unfold absI; split <;> omega
  have B1 : absI b ≤ 9223372036854775808 := by unfold absI; split <;> omega
  have C1 : absI c ≤ 9223372036854775808 := by unfold absI; split <;> omega
  have HM := Lib.hid (fun w => mul64_any (absI a) (absI b) w A0 (by omega) B0 (by omega))
  have HR := Lib.hid (mdv_eq a b c)
  have N0 : 0 ≤ absI a * absI b := Int.mul_nonneg A0 B0
  have HBB := Lib.hid (fun w => below_any a b c w)
  clear A0 B0 A1 B1
  obtain ⟨x, hx⟩ : ∃ x, absI a = x := ⟨_, rfl⟩
  obtain ⟨y, hy⟩ : ∃ x, absI b = x := ⟨_, rfl⟩
  obtain ⟨d, hd⟩ : ∃ x, absI c = x := ⟨_, rfl⟩
  obtain ⟨bb, hbb⟩ : ∃ x, belowB a b c = x := ⟨_, rfl⟩
  rw [hx, hy, hd, hbb] at HR
  rw [hbb] at HBB
  rw [hx, hy] at N0
  rw [hx] at HA HM
  rw [hy] at HB HM
  rw [hd] at HC C0 C1
  obtain ⟨N, hN⟩ : ∃ z, x * y = z := ⟨_, rfl⟩
  rw [hN] at HR HM N0
  have HDV := Lib.hid (fun (h : N / 18446744073709551616 < d) w => div64_any (N / 18446744073709551616) (N % 18446744073709551616) d w (by omega) h (by omega) (by omega) (by omega))
  rw [show N / 18446744073709551616 * 18446744073709551616 + N % 18446744073709551616 = N by omega] at HDV
  have hQ0 : 0 ≤ N / d := Int.ediv_nonneg N0 (by omega)
  have HQR := Lib.hid (show (N / 18446744073709551616 < d → N / d < 18446744073709551616) ∧ 0 ≤ N % d ∧ N % d < d from
    ⟨fun h => Int.ediv_lt_of_lt_mul C0 (by omega), Int.emod_nonneg _ (by omega), Int.emod_lt_of_pos _ C0⟩)
  obtain ⟨Q, hQ⟩ : ∃ z, N / d = z := ⟨_, rfl⟩
  obtain ⟨R, hR⟩ : ∃ z, N % d = z := ⟨_, rfl⟩
  rw [hQ, hR] at HR HDV HQR
  rw [hQ] at hQ0
  have hp0 : 0 ≤ N / 18446744073709551616 := by omega
  have hq0 : 0 ≤ N % 18446744073709551616 ∧ N % 18446744073709551616 ≤ 18446744073709551615 := by omega
  obtain ⟨p, hp⟩ : ∃ z, N / 18446744073709551616 = z := ⟨_, rfl⟩
  obtain ⟨q, hq⟩ : ∃ z, N % 18446744073709551616 = z := ⟨_, rfl⟩
  rw [hp, hq] at HM
  rw [hp] at HR HDV HQR hp0
  rw [hq] at HDV hq0
  have OC := Lib.hid (own4_cells w a b c p q)
  have OB := Lib.hid (own4_below w a b c p q)
  clear hx hy hp hq hQ hR hN hd hbb hc N0
  have hmf : ∀ (fn : Fn) (first cap : Array Value) (w : World), (Instr.makeFunc fn first cap).run Tryd.prog w = .ok (.func fn first cap) w := fun _ _ _ _ => rfl
  go_enter Tryd.func36, Tryd.ntmps36
  go_upto_region 4 with fail
  go_cut [8] (fun s wx => s = .pointer (some ⟨w.heap.size + 3, 0, none⟩) ∧ ∃ n, wx = (own4 w a b c p q).drewN n)
  case first =>
    go_region_with (first
      | (go_at_call 43; (first | (with_reducible refine (HA.out _).mono ?_) | (with_reducible refine (HB.out _).mono ?_)); rintro e w' ⟨rfl, rfl⟩)
      | (go_at_call 42; refine (HM.out _).mono ?_; rintro e w' ⟨rfl, rfl⟩))
    all_goals (go_wp2_with fail; go_meet; exact ⟨rfl, _, rfl⟩)
  case rest =>
    obtain ⟨rfl, n, rfl⟩ := hcut
    obtain ⟨ca, cb, cc, cp, cq⟩ := OC.out
    have OCC := Lib.hid (fun m => HBB.out w.heap.size ((own4 w a b c p q).drewN m) ca cb cc)
    by_cases h1 : d ≤ p
    · have hr := HR.out
      rw [if_pos h1] at hr
      have HF := Lib.hid hr
      clear hr
      go_wp2_with (first | (go_at_call 43; refine (HC.out _).mono ?_; rintro e w' ⟨rfl, rfl⟩))
      go_ret2
      exact ⟨by rw [HF.out]; rfl, below_drewN OB.out _⟩
    · have hlt : p < d := by omega
      have hQ1 := HQR.out.1 hlt
      have hR0 := HQR.out.2.1
      have hR1 := HQR.out.2.2
      have HD := Lib.hid (HDV.out hlt)
      have hr := HR.out
      rw [if_neg h1] at hr
      clear HDV HR h1
      cases bb with
      | false =>
        rw [if_pos rfl] at hr
        by_cases h2 : 9223372036854775807 < Q
        · rw [if_pos h2] at hr
          have HF := Lib.hid hr
          clear hr
          go_wp2_with (first | (go_at_call 43; refine (HC.out _).mono ?_; rintro e w' ⟨rfl, rfl⟩) | (go_at_call 45; refine (HD.out _).mono ?_; rintro e w' ⟨rfl, k, rfl⟩) | (go_at_call 44; refine (OCC.out _).mono ?_; rintro e w' ⟨rfl, rfl⟩))
          go_ret2
          exact ⟨by rw [HF.out]; rfl, below_drewN OB.out _⟩
        · rw [if_neg h2] at hr
          have HF := Lib.hid hr
          clear hr
          go_wp2_with (first | (go_at_call 43; refine (HC.out _).mono ?_; rintro e w' ⟨rfl, rfl⟩) | (go_at_call 45; refine (HD.out _).mono ?_; rintro e w' ⟨rfl, k, rfl⟩) | (go_at_call 44; refine (OCC.out _).mono ?_; rintro e w' ⟨rfl, rfl⟩))
          go_ret2
          exact ⟨by rw [HF.out]; rfl, below_drewN OB.out _⟩
      | true =>
        rw [if_neg (by decide)] at hr
        by_cases hz : R = 0
        · rw [if_pos hz] at hr
          have hz1 : ((R : Int) != 0) = false := by simp [hz]
          clear hz
          by_cases hq1 : Q = 0
          · have hq2 : ((Q : Int) == 0) = true := by simp [hq1]
            rw [if_pos (Or.inl hq1)] at hr
            have HF := Lib.hid hr
            clear hr
            clear hq1
            go_wp2_with (first | (go_at_call 43; refine (HC.out _).mono ?_; rintro e w' ⟨rfl, rfl⟩) | (go_at_call 45; refine (HD.out _).mono ?_; rintro e w' ⟨rfl, k, rfl⟩) | (go_at_call 44; refine (OCC.out _).mono ?_; rintro e w' ⟨rfl, rfl⟩))
            go_ret2
            exact ⟨by rw [HF.out]; rfl, below_drewN OB.out _⟩
          · have hq2 : ((Q : Int) == 0) = false := by simpa using hq1
            by_cases hq3 : 9223372036854775808 < Q
            · rw [if_pos (Or.inr hq3)] at hr
              have HF := Lib.hid hr
              clear hr
              clear hq1
              go_wp2_with (first | (go_at_call 43; refine (HC.out _).mono ?_; rintro e w' ⟨rfl, rfl⟩) | (go_at_call 45; refine (HD.out _).mono ?_; rintro e w' ⟨rfl, k, rfl⟩) | (go_at_call 44; refine (OCC.out _).mono ?_; rintro e w' ⟨rfl, rfl⟩))
              go_ret2
              exact ⟨by rw [HF.out]; rfl, below_drewN OB.out _⟩
            · rw [if_neg (by omega)] at hr
              have HF := Lib.hid hr
              have hng := neg_conv Q (by omega) (by omega)
              clear hr hq1
              go_wp2_with (first | (go_at_call 43; refine (HC.out _).mono ?_; rintro e w' ⟨rfl, rfl⟩) | (go_at_call 45; refine (HD.out _).mono ?_; rintro e w' ⟨rfl, k, rfl⟩) | (go_at_call 44; refine (OCC.out _).mono ?_; rintro e w' ⟨rfl, rfl⟩))
              go_ret2
              exact ⟨by rw [HF.out]; first | rfl | (rw [hng]; rfl), below_drewN OB.out _⟩
        · rw [if_neg hz] at hr
          have hz1 : ((R : Int) != 0) = true := by simpa using hz
          clear hz
          by_cases hq3 : 9223372036854775808 < Q + 1
          · rw [if_pos hq3] at hr
            have HF := Lib.hid hr
            clear hr
            have hw : IntKind.u64.wrap (Q + 1) = 0 ∨ 9223372036854775808 < IntKind.u64.wrap (Q + 1) := by rw [wrap_u64]; omega
            obtain ⟨z, hz⟩ : ∃ z, IntKind.u64.wrap (Q + 1) = z := ⟨_, rfl⟩
            rw [hz] at hw
            have hz0 : 0 ≤ z := by rw [← hz, wrap_u64]; omega
            rcases hw with rfl | hw
            all_goals
              go_wp2_with (first | (go_at_call 43; refine (HC.out _).mono ?_; rintro e w' ⟨rfl, rfl⟩) | (go_at_call 45; refine (HD.out _).mono ?_; rintro e w' ⟨rfl, k, rfl⟩) | (go_at_call 44; refine (OCC.out _).mono ?_; rintro e w' ⟨rfl, rfl⟩))
              go_ret2
              exact ⟨by rw [HF.out]; rfl, below_drewN OB.out _⟩
          · rw [if_neg hq3] at hr
            have HF := Lib.hid hr
            have hng := neg_conv (Q + 1) (by omega) (by omega)
            have hq4 : (((Q + 1 : Int)) == 0) = false := by simp; omega
            clear hr
            go_wp2_with (first | (go_at_call 43; refine (HC.out _).mono ?_; rintro e w' ⟨rfl, rfl⟩) | (go_at_call 45; refine (HD.out _).mono ?_; rintro e w' ⟨rfl, k, rfl⟩) | (go_at_call 44; refine (OCC.out _).mono ?_; rintro e w' ⟨rfl, rfl⟩))
            go_ret2
            exact ⟨by rw [HF.out]; first | rfl | (rw [hng]; rfl), below_drewN OB.out _⟩
end Go.Proofs.YtikhgdbbbingbaaDoor
