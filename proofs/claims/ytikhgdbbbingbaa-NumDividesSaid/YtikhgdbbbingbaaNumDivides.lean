/- NumDivides: every quotient is rounded down, what is left is what is left, by 0 is refused, and so is what doesn't fit. No conditions beyond the row's own. -/
import Derived.Test.YtikhgdbbbingbaaRows
import Derived.Test.YtikhgdbbbingbaaNumQuo
import Derived.StillTailTactics
namespace Go.Proofs.Ytikhgdbbbingbaa.NumDivides
open Go Go.RowKit Go.Proofs.Ytikhgdbbbingbaa.Bg Go.Proofs.Ytikhgdbbbingbaa.Dg Go.ChangeShapes Go.WideShapes Go.ChangeAt
set_option linter.unusedVariables false

theorem sq_lt {y b : Int} (h0 : 0 ≤ y) (h : y < b) : y * y < b * b := by
  have h1 : y * y ≤ b * y := Int.mul_le_mul_of_nonneg_right (by omega) h0
  have h2 : b * y < b * b := Int.mul_lt_mul_of_pos_left h (by omega)
  omega
theorem fmd_range (a b : Int) (hb : b ≠ 0) : (0 < b → 0 ≤ fmd a b ∧ fmd a b < b) ∧ (b < 0 → b < fmd a b ∧ fmd a b ≤ 0) ∧ fmd a b * fmd a b < b * b ∧ flr a b * b = a - fmd a b := by
  unfold fmd flr
  by_cases h : 0 < b
  · rw [if_pos h, if_pos h]
    have h0 := Int.emod_nonneg a hb
    have h1 := Int.emod_lt_of_pos a h
    have e := Int.mul_ediv_add_emod a b
    refine ⟨fun _ => ⟨h0, h1⟩, fun h2 => by omega, sq_lt h0 h1, ?_⟩
    rw [Int.mul_comm]; omega
  · rw [if_neg h, if_neg h]
    have h0 := Int.emod_nonneg (-a) (show -b ≠ 0 by omega)
    have h1 := Int.emod_lt_of_pos (-a) (show 0 < -b by omega)
    have e := Int.mul_ediv_add_emod (-a) (-b)
    refine ⟨fun h2 => by omega, fun _ => ⟨by omega, by omega⟩, ?_, ?_⟩
    · have := sq_lt h0 h1
      rw [Int.neg_mul_neg] at this ⊢; exact this
    · rw [Int.mul_comm, ← Int.neg_neg (b * _), ← Int.neg_mul]; omega

set_option maxRecDepth 100000 in
set_option maxHeartbeats 4000000 in
theorem walk_zero (a b : Int) (W : World) (ha : fits a) (hb : fits b) (h0 : b = 0) :
    Calls Try.prog 4 #[.int .i64 a, .int .i64 b] W fun e w' => e = .returned (.bool true) ∧ Below W.heap.size W w' := by
  have HD := Lib.hid (fun w => div_any a b w ha hb)
  rw [show mulDiv a 1 b = quoS a b by unfold mulDiv quoS; rw [Int.mul_one]] at HD
  have HR := Lib.hid (fun w => mod_any a b w ha hb)
  have HO := Lib.hid (fun a w1 (ha : I64 a) => of_any a w1 ha.1 ha.2)
  have HQ := Lib.hid (fun w u v (hu : Is w u a) (hv : Is w v b) => quo_any a b u v w hu hv (md_i64 ha) hb)
  have HA0 := Lib.hid (show I64 a from ha)
  have HB0 := Lib.hid (show I64 b from hb)
  subst h0
  obtain ⟨r, hr⟩ : ∃ r, quoS a 0 = r := ⟨_, rfl⟩
  rw [hr] at HD HQ
  rw [show modS a 0 = (0, 9) from rfl] at HR
  clear hr ha hb
  go_enter Try.func4, Try.ntmps4
  go_wp2_with fail
  refine (HD.out _).mono ?_
  rintro e w1 ⟨rfl, hbl⟩
  have B1 := Lib.hid (show Below W.heap.size W w1 from hbl)
  clear hbl
  go_wp2_with fail
  refine (HR.out _).mono ?_
  rintro e w' ⟨rfl, rfl⟩
  go_wp2_with fail
  refine (HO.out _ _ HA0.out).mono ?_
  rintro e w2 ⟨r2, rfl, hi, hbl⟩
  have B2 := Lib.hid (show Below W.heap.size W w2 from (B1.out.trans (hbl.mono B1.out.size)))
  have R1 := Lib.hid hi
  clear hi hbl
  go_wp2_with fail
  refine (HO.out _ _ HB0.out).mono ?_
  rintro e w3 ⟨r3, rfl, hi, hbl⟩
  have B3 := Lib.hid (show Below W.heap.size W w3 from (B2.out.trans (hbl.mono B2.out.size)))
  have R1 := Lib.hid (R1.out.below hbl)
  have R2 := Lib.hid hi
  clear hi hbl
  go_wp2_with fail
  refine (HQ.out _ _ _ R1.out R2.out).mono ?_
  rintro e w4 ⟨rfl, hbl⟩
  have B4 := Lib.hid (show Below W.heap.size W w4 from (B3.out.trans (hbl.mono B3.out.size)))
  have R1 := Lib.hid (R1.out.below hbl)
  have R2 := Lib.hid (R2.out.below hbl)
  clear hbl
  go_wp2_with fail
  refine (awake1_any _).mono ?_
  rintro e w5 ⟨rfl, hbl⟩
  have B5 := Lib.hid (show Below W.heap.size W w5 from (B4.out.trans (hbl.mono B4.out.size)))
  clear hbl
  go_wp2
  go_ret
  exact ⟨rfl, B5.out⟩

set_option maxRecDepth 100000 in
set_option maxHeartbeats 4000000 in
theorem walk_0in (a b : Int) (W : World) (ha : fits a) (hb : fits b) (h0 : b ≠ 0) (HY : fmd a b = 0) (HE : fits (flr a b)) :
    Calls Try.prog 4 #[.int .i64 a, .int .i64 b] W fun e w' => e = .returned (.bool true) ∧ Below W.heap.size W w' := by
  have HD := Lib.hid (fun w => div_any a b w ha hb)
  rw [show mulDiv a 1 b = quoS a b by unfold mulDiv quoS; rw [Int.mul_one]] at HD
  have HR := Lib.hid (fun w => mod_any a b w ha hb)
  have HO := Lib.hid (fun a w1 (ha : I64 a) => of_any a w1 ha.1 ha.2)
  have HQ := Lib.hid (fun w u v (hu : Is w u a) (hv : Is w v b) => quo_any a b u v w hu hv (md_i64 ha) hb)
  have HA0 := Lib.hid (show I64 a from ha)
  have HB0 := Lib.hid (show I64 b from hb)
  obtain ⟨g1, g2, g3, g4⟩ := fmd_range a b h0
  rw [show modS a b = (fmd a b, 0) from if_neg h0] at HR
  have hbz : ((b : Int) == 0) = false := by simpa using h0
  obtain ⟨y, hy⟩ : ∃ y, fmd a b = y := ⟨_, rfl⟩
  rw [hy] at HR g1 g2 g3 g4 HY
  have HY0 : fits y := by obtain ⟨b0, b1⟩ := hb; by_cases h : 0 < b; (have := g1 h; unfold fits; omega); (have := g2 (by omega); unfold fits; omega)
  subst HY
  have HS := Lib.hid (fun w u v (hu : Is w u a) (hv : Is w v (0 : Int)) => subB_any u v a (0 : Int) w hu hv (sm_i64 ha) (sm_i64 HY0))
  have HMY := Lib.hid (fun w u v (hu : Is w u (0 : Int)) (hv : Is w v (0 : Int)) => mulB_any u v (0 : Int) (0 : Int) w hu hv (sm_i64 HY0) (sm_i64 HY0) (md_mul HY0 HY0).sm)
  have HMB := Lib.hid (fun w u v (hu : Is w u b) (hv : Is w v b) => mulB_any u v b b w hu hv (sm_i64 hb) (sm_i64 hb) (md_mul hb hb).sm)
  have HC := Lib.hid (fun w u v (hu : Is w u ((0 : Int) * (0 : Int))) (hv : Is w v (b * b)) => cmpB_any u v ((0 : Int) * (0 : Int)) (b * b) w hu hv (md_mul HY0 HY0).sm (md_mul hb hb).sm)
  rw [show cmpI ((0 : Int) * (0 : Int)) (b * b) = -1 from if_pos g3] at HC
  obtain ⟨yy, hyy⟩ : ∃ z, (0 : Int) * (0 : Int) = z := ⟨_, rfl⟩
  obtain ⟨bb, hbb⟩ : ∃ z, b * b = z := ⟨_, rfl⟩
  rw [hyy] at HMY HC
  rw [hbb] at HMB HC
  have HYF := Lib.hid (show I64 (0 : Int) from HY0)
  clear hyy hbb g3
  have hqq : quoS a b = (flr a b, 0) := by rw [show quoS a b = fitted (flr a b) from if_neg h0, fitted_in HE]
  rw [hqq] at HD HQ
  have HX0 := Lib.hid (show I64 (flr a b) from HE)
  have HMX := Lib.hid (fun w u v (hu : Is w u (flr a b)) (hv : Is w v b) => mulB_any u v (flr a b) b w hu hv (sm_i64 HE) (sm_i64 hb) (md_mul HE hb).sm)
  rw [g4] at HMX
  obtain ⟨d, hd⟩ : ∃ z, a - (0 : Int) = z := ⟨_, rfl⟩
  have hdS : Sm d := by rw [← hd]; obtain ⟨a0, a1⟩ := ha; obtain ⟨y0, y1⟩ := HY0; unfold Sm; omega
  have HCX := Lib.hid (fun w u v (hu : Is w u d) (hv : Is w v d) => cmpB_any u v d d w hu hv hdS hdS)
  rw [cmp_self] at HCX
  rw [hd] at HS HMX
  obtain ⟨q, hq⟩ : ∃ q, flr a b = q := ⟨_, rfl⟩
  rw [hq] at HD HQ HX0 HMX
  clear hqq hd hq hdS HE
  clear g1 g2 g4 ha hb HY0
  go_enter Try.func4, Try.ntmps4
  go_wp2_with fail
  refine (HD.out _).mono ?_
  rintro e w1 ⟨rfl, hbl⟩
  have B1 := Lib.hid (show Below W.heap.size W w1 from hbl)
  clear hbl
  go_wp2_with fail
  refine (HR.out _).mono ?_
  rintro e w' ⟨rfl, rfl⟩
  go_wp2_with fail
  refine (HO.out _ _ HA0.out).mono ?_
  rintro e w2 ⟨r2, rfl, hi, hbl⟩
  have B2 := Lib.hid (show Below W.heap.size W w2 from (B1.out.trans (hbl.mono B1.out.size)))
  have R1 := Lib.hid hi
  clear hi hbl
  go_wp2_with fail
  refine (HO.out _ _ HB0.out).mono ?_
  rintro e w3 ⟨r3, rfl, hi, hbl⟩
  have B3 := Lib.hid (show Below W.heap.size W w3 from (B2.out.trans (hbl.mono B2.out.size)))
  have R1 := Lib.hid (R1.out.below hbl)
  have R2 := Lib.hid hi
  clear hi hbl
  go_wp2_with fail
  refine (HQ.out _ _ _ R1.out R2.out).mono ?_
  rintro e w4 ⟨rfl, hbl⟩
  have B4 := Lib.hid (show Below W.heap.size W w4 from (B3.out.trans (hbl.mono B3.out.size)))
  have R1 := Lib.hid (R1.out.below hbl)
  have R2 := Lib.hid (R2.out.below hbl)
  clear hbl
  go_wp2_with fail
  refine (HO.out _ _ HA0.out).mono ?_
  rintro e w5 ⟨r5, rfl, hi, hbl⟩
  have B5 := Lib.hid (show Below W.heap.size W w5 from (B4.out.trans (hbl.mono B4.out.size)))
  have R3 := Lib.hid hi
  clear hi hbl
  go_wp2_with fail
  refine (HO.out _ _ HYF.out).mono ?_
  rintro e w6 ⟨r6, rfl, hi, hbl⟩
  have B6 := Lib.hid (show Below W.heap.size W w6 from (B5.out.trans (hbl.mono B5.out.size)))
  have R3 := Lib.hid (R3.out.below hbl)
  have R4 := Lib.hid hi
  clear hi hbl
  go_wp2_with fail
  refine (HS.out _ _ _ R3.out R4.out).mono ?_
  rintro e w7 ⟨r7, rfl, hi, hbl⟩
  have B7 := Lib.hid (show Below W.heap.size W w7 from (B6.out.trans (hbl.mono B6.out.size)))
  have R3 := Lib.hid (R3.out.below hbl)
  have R4 := Lib.hid (R4.out.below hbl)
  have R5 := Lib.hid hi
  clear hi hbl
  obtain ⟨sa, scp, rfl, -⟩ := R5.out.form
  obtain ⟨bd, hbd⟩ : ∃ b, decide (d < 0) = b := ⟨_, rfl⟩
  obtain ⟨ld, hld⟩ : ∃ b, (canon d.natAbs).length = b := ⟨_, rfl⟩
  rw [hbd, hld] at R5 ⊢
  clear hbd hld
  have BX := Lib.hid (box_new w7 bd (.slice sa ld scp))
  have BW := Lib.hid (B7.out.alloc B7.out.size (.cells #[.bool bd, .slice sa ld scp] 29))
  go_upto_region 8 with fail
  obtain ⟨V, hV⟩ : ∃ V, w7.alloc (.cells #[.bool bd, .slice sa ld scp] 29) = V := ⟨_, rfl⟩
  have R5v := Lib.hid (R5.out.below (show Below w7.heap.size w7 V by rw [← hV]; exact (Below.refl _ _).alloc (Nat.le_refl _) _))
  have VS := Lib.hid (show w7.heap.size < V.heap.size by rw [← hV]; simp)
  rw [hV] at BX BW ⊢
  clear hV
  obtain ⟨p, hp⟩ : ∃ p, w7.heap.size = p := ⟨_, rfl⟩
  rw [hp] at BX VS ⊢
  clear hp
  go_wp2_with fail
  refine (HO.out _ _ HYF.out).mono ?_
  rintro e w8 ⟨r8, rfl, hi, hbl⟩
  have B8 := Lib.hid (show Below V.heap.size V w8 from hbl)
  have Q1 := Lib.hid hi
  clear hi hbl
  go_wp2_with fail
  refine (HO.out _ _ HYF.out).mono ?_
  rintro e w9 ⟨r9, rfl, hi, hbl⟩
  have B9 := Lib.hid (show Below V.heap.size V w9 from (B8.out.trans (hbl.mono B8.out.size)))
  have Q1 := Lib.hid (Q1.out.below hbl)
  have Q2 := Lib.hid hi
  clear hi hbl
  go_wp2_with fail
  refine (HMY.out _ _ _ Q1.out Q2.out).mono ?_
  rintro e w10 ⟨r10, rfl, hi, hbl⟩
  have B10 := Lib.hid (show Below V.heap.size V w10 from (B9.out.trans (hbl.mono B9.out.size)))
  have Q1 := Lib.hid (Q1.out.below hbl)
  have Q2 := Lib.hid (Q2.out.below hbl)
  have Q3 := Lib.hid hi
  clear hi hbl
  go_wp2_with fail
  refine (HO.out _ _ HB0.out).mono ?_
  rintro e w11 ⟨r11, rfl, hi, hbl⟩
  have B11 := Lib.hid (show Below V.heap.size V w11 from (B10.out.trans (hbl.mono B10.out.size)))
  have Q3 := Lib.hid (Q3.out.below hbl)
  have Q4 := Lib.hid hi
  clear hi hbl
  go_wp2_with fail
  refine (HO.out _ _ HB0.out).mono ?_
  rintro e w12 ⟨r12, rfl, hi, hbl⟩
  have B12 := Lib.hid (show Below V.heap.size V w12 from (B11.out.trans (hbl.mono B11.out.size)))
  have Q3 := Lib.hid (Q3.out.below hbl)
  have Q4 := Lib.hid (Q4.out.below hbl)
  have Q5 := Lib.hid hi
  clear hi hbl
  go_wp2_with fail
  refine (HMB.out _ _ _ Q4.out Q5.out).mono ?_
  rintro e w13 ⟨r13, rfl, hi, hbl⟩
  have B13 := Lib.hid (show Below V.heap.size V w13 from (B12.out.trans (hbl.mono B12.out.size)))
  have Q3 := Lib.hid (Q3.out.below hbl)
  have Q4 := Lib.hid (Q4.out.below hbl)
  have Q5 := Lib.hid (Q5.out.below hbl)
  have Q6 := Lib.hid hi
  clear hi hbl
  go_wp2_with fail
  refine (HC.out _ _ _ Q3.out Q6.out).mono ?_
  rintro e w14 ⟨rfl, hbl⟩
  have B14 := Lib.hid (show Below V.heap.size V w14 from (B13.out.trans (hbl.mono B13.out.size)))
  have Q3 := Lib.hid (Q3.out.below hbl)
  have Q4 := Lib.hid (Q4.out.below hbl)
  have Q5 := Lib.hid (Q5.out.below hbl)
  have Q6 := Lib.hid (Q6.out.below hbl)
  clear hbl
  obtain ⟨x0, x1⟩ := BX.out.below VS.out B14.out
  have R5w := Lib.hid (R5v.out.below B14.out)
  go_upto_region 10 with fail
  clear HD HR HQ HS HMY HMB HC HA0 HYF R1 R2 R3 R4 R5 Q1 Q2 Q3 Q4 Q5 Q6
  go_region_held3 (fun w' => w'.cell? ⟨p, 0, none⟩ = some (.bool bd) ∧ w'.cell? ⟨p, 1, none⟩ = some (.slice sa ld scp)) (first | exact ⟨x0', x1'⟩ | go_keep)
    (first
      | (go_at_call 22; refine (awake1_any _).mono ?_; rintro e wa ⟨rfl, hbl⟩; have BA := Lib.hid (BX5.out.trans (hbl.mono BX5.out.size)); (try clear x0' x1'); have hx' := BX.out.below VS.out BA.out; have x0' := hx'.1; have x1' := hx'.2; clear hx'; clear hbl)
      | (go_at_call 29; refine (HCX.out _ _ _ Z3.out (R5v.out.below Z3b.out)).mono ?_; rintro e wx ⟨rfl, hbl⟩; have BX5 := Lib.hid (Z3b.out.trans (hbl.mono Z3b.out.size)); (try clear x0' x1'); have hx' := BX.out.below VS.out BX5.out; have x0' := hx'.1; have x1' := hx'.2; clear hx'; clear hbl)
      | (go_at_call 28; refine (HMX.out _ _ _ Z1'.out Z2.out).mono ?_; rintro e wz3 ⟨r, rfl, hi, hbl⟩; have Z3b := Lib.hid (Z2b.out.trans (hbl.mono Z2b.out.size)); have Z3 := Lib.hid hi; (try clear x0' x1'); have hx' := BX.out.below VS.out Z3b.out; have x0' := hx'.1; have x1' := hx'.2; clear hx'; clear hbl hi)
      | (go_at_call 26; have q := Y2.out; refine (HO.out _ _ HX0.out).mono ?_; rintro e wz2 ⟨r, rfl, hi, hbl⟩; have Z2 := Lib.hid (Y2.out.below hbl); have Z2b := Lib.hid (Y2b.out.trans (hbl.mono Y2b.out.size)); have Z1' := Lib.hid hi; (try clear x0' x1'); have hx' := BX.out.below VS.out Z2b.out; have x0' := hx'.1; have x1' := hx'.2; clear hx'; clear hbl hi q)
      | (go_at_call 26; have q := Z1.out; refine (HO.out _ _ HB0.out).mono ?_; rintro e wz2 ⟨r, rfl, hi, hbl⟩; have Z1' := Lib.hid (Z1.out.below hbl); have Z2b := Lib.hid (Z1b.out.trans (hbl.mono Z1b.out.size)); have Z2 := Lib.hid hi; (try clear x0' x1'); have hx' := BX.out.below VS.out Z2b.out; have x0' := hx'.1; have x1' := hx'.2; clear hx'; clear hbl hi q)
      | (go_at_call 26; refine (HO.out _ _ HX0.out).mono ?_; rintro e wz1 ⟨r, rfl, hi, hbl⟩; have hbl2 : Below w14.heap.size w14 wz1 := (by first | exact hbl | exact below_undrew hbl); have Z1b := Lib.hid (B14.out.trans (hbl2.mono B14.out.size)); have Z1 := Lib.hid hi; (try clear x0' x1'); have hx' := BX.out.below VS.out Z1b.out; have x0' := hx'.1; have x1' := hx'.2; clear hx'; clear hbl hbl2 hi)
      | (go_at_call 26; refine (HO.out _ _ HB0.out).mono ?_; rintro e wz1 ⟨r, rfl, hi, hbl⟩; have hbl2 : Below w14.heap.size w14 wz1 := (by first | exact hbl | exact below_undrew hbl); have Y2b := Lib.hid (B14.out.trans (hbl2.mono B14.out.size)); have Y2 := Lib.hid hi; (try clear x0' x1'); have hx' := BX.out.below VS.out Y2b.out; have x0' := hx'.1; have x1' := hx'.2; clear hx'; clear hbl hbl2 hi))
  all_goals
    go_wp2
    go_ret
    exact ⟨rfl, BW.out.trans (BA.out.mono BW.out.size)⟩

set_option maxRecDepth 100000 in
set_option maxHeartbeats 4000000 in
theorem walk_pin (a b : Int) (W : World) (ha : fits a) (hb : fits b) (h0 : b ≠ 0) (HY : ¬ fmd a b = 0) (HBP : 0 < b) (HE : fits (flr a b)) :
    Calls Try.prog 4 #[.int .i64 a, .int .i64 b] W fun e w' => e = .returned (.bool true) ∧ Below W.heap.size W w' := by
  have HD := Lib.hid (fun w => div_any a b w ha hb)
  rw [show mulDiv a 1 b = quoS a b by unfold mulDiv quoS; rw [Int.mul_one]] at HD
  have HR := Lib.hid (fun w => mod_any a b w ha hb)
  have HO := Lib.hid (fun a w1 (ha : I64 a) => of_any a w1 ha.1 ha.2)
  have HQ := Lib.hid (fun w u v (hu : Is w u a) (hv : Is w v b) => quo_any a b u v w hu hv (md_i64 ha) hb)
  have HA0 := Lib.hid (show I64 a from ha)
  have HB0 := Lib.hid (show I64 b from hb)
  obtain ⟨g1, g2, g3, g4⟩ := fmd_range a b h0
  rw [show modS a b = (fmd a b, 0) from if_neg h0] at HR
  have hbz : ((b : Int) == 0) = false := by simpa using h0
  obtain ⟨y, hy⟩ : ∃ y, fmd a b = y := ⟨_, rfl⟩
  rw [hy] at HR g1 g2 g3 g4 HY
  have HY0 : fits y := by obtain ⟨b0, b1⟩ := hb; by_cases h : 0 < b; (have := g1 h; unfold fits; omega); (have := g2 (by omega); unfold fits; omega)
  have hyz : ((y : Int) != 0) = true := by simp [HY]
  have gy := g1 HBP
  have gy0 : 0 < y := by omega
  have HS := Lib.hid (fun w u v (hu : Is w u a) (hv : Is w v y) => subB_any u v a y w hu hv (sm_i64 ha) (sm_i64 HY0))
  have HMY := Lib.hid (fun w u v (hu : Is w u y) (hv : Is w v y) => mulB_any u v y y w hu hv (sm_i64 HY0) (sm_i64 HY0) (md_mul HY0 HY0).sm)
  have HMB := Lib.hid (fun w u v (hu : Is w u b) (hv : Is w v b) => mulB_any u v b b w hu hv (sm_i64 hb) (sm_i64 hb) (md_mul hb hb).sm)
  have HC := Lib.hid (fun w u v (hu : Is w u (y * y)) (hv : Is w v (b * b)) => cmpB_any u v (y * y) (b * b) w hu hv (md_mul HY0 HY0).sm (md_mul hb hb).sm)
  rw [show cmpI (y * y) (b * b) = -1 from if_pos g3] at HC
  obtain ⟨yy, hyy⟩ : ∃ z, y * y = z := ⟨_, rfl⟩
  obtain ⟨bb, hbb⟩ : ∃ z, b * b = z := ⟨_, rfl⟩
  rw [hyy] at HMY HC
  rw [hbb] at HMB HC
  have HYF := Lib.hid (show I64 y from HY0)
  clear hyy hbb g3 hy
  have hqq : quoS a b = (flr a b, 0) := by rw [show quoS a b = fitted (flr a b) from if_neg h0, fitted_in HE]
  rw [hqq] at HD HQ
  have HX0 := Lib.hid (show I64 (flr a b) from HE)
  have HMX := Lib.hid (fun w u v (hu : Is w u (flr a b)) (hv : Is w v b) => mulB_any u v (flr a b) b w hu hv (sm_i64 HE) (sm_i64 hb) (md_mul HE hb).sm)
  rw [g4] at HMX
  obtain ⟨d, hd⟩ : ∃ z, a - y = z := ⟨_, rfl⟩
  have hdS : Sm d := by rw [← hd]; obtain ⟨a0, a1⟩ := ha; obtain ⟨y0, y1⟩ := HY0; unfold Sm; omega
  have HCX := Lib.hid (fun w u v (hu : Is w u d) (hv : Is w v d) => cmpB_any u v d d w hu hv hdS hdS)
  rw [cmp_self] at HCX
  rw [hd] at HS HMX
  obtain ⟨q, hq⟩ : ∃ q, flr a b = q := ⟨_, rfl⟩
  rw [hq] at HD HQ HX0 HMX
  clear hqq hd hq hdS HE
  clear g1 g2 g4 ha hb HY0
  go_enter Try.func4, Try.ntmps4
  go_wp2_with fail
  refine (HD.out _).mono ?_
  rintro e w1 ⟨rfl, hbl⟩
  have B1 := Lib.hid (show Below W.heap.size W w1 from hbl)
  clear hbl
  go_wp2_with fail
  refine (HR.out _).mono ?_
  rintro e w' ⟨rfl, rfl⟩
  go_wp2_with fail
  refine (HO.out _ _ HA0.out).mono ?_
  rintro e w2 ⟨r2, rfl, hi, hbl⟩
  have B2 := Lib.hid (show Below W.heap.size W w2 from (B1.out.trans (hbl.mono B1.out.size)))
  have R1 := Lib.hid hi
  clear hi hbl
  go_wp2_with fail
  refine (HO.out _ _ HB0.out).mono ?_
  rintro e w3 ⟨r3, rfl, hi, hbl⟩
  have B3 := Lib.hid (show Below W.heap.size W w3 from (B2.out.trans (hbl.mono B2.out.size)))
  have R1 := Lib.hid (R1.out.below hbl)
  have R2 := Lib.hid hi
  clear hi hbl
  go_wp2_with fail
  refine (HQ.out _ _ _ R1.out R2.out).mono ?_
  rintro e w4 ⟨rfl, hbl⟩
  have B4 := Lib.hid (show Below W.heap.size W w4 from (B3.out.trans (hbl.mono B3.out.size)))
  have R1 := Lib.hid (R1.out.below hbl)
  have R2 := Lib.hid (R2.out.below hbl)
  clear hbl
  go_wp2_with fail
  refine (HO.out _ _ HA0.out).mono ?_
  rintro e w5 ⟨r5, rfl, hi, hbl⟩
  have B5 := Lib.hid (show Below W.heap.size W w5 from (B4.out.trans (hbl.mono B4.out.size)))
  have R3 := Lib.hid hi
  clear hi hbl
  go_wp2_with fail
  refine (HO.out _ _ HYF.out).mono ?_
  rintro e w6 ⟨r6, rfl, hi, hbl⟩
  have B6 := Lib.hid (show Below W.heap.size W w6 from (B5.out.trans (hbl.mono B5.out.size)))
  have R3 := Lib.hid (R3.out.below hbl)
  have R4 := Lib.hid hi
  clear hi hbl
  go_wp2_with fail
  refine (HS.out _ _ _ R3.out R4.out).mono ?_
  rintro e w7 ⟨r7, rfl, hi, hbl⟩
  have B7 := Lib.hid (show Below W.heap.size W w7 from (B6.out.trans (hbl.mono B6.out.size)))
  have R3 := Lib.hid (R3.out.below hbl)
  have R4 := Lib.hid (R4.out.below hbl)
  have R5 := Lib.hid hi
  clear hi hbl
  obtain ⟨sa, scp, rfl, -⟩ := R5.out.form
  obtain ⟨bd, hbd⟩ : ∃ b, decide (d < 0) = b := ⟨_, rfl⟩
  obtain ⟨ld, hld⟩ : ∃ b, (canon d.natAbs).length = b := ⟨_, rfl⟩
  rw [hbd, hld] at R5 ⊢
  clear hbd hld
  have BX := Lib.hid (box_new w7 bd (.slice sa ld scp))
  have BW := Lib.hid (B7.out.alloc B7.out.size (.cells #[.bool bd, .slice sa ld scp] 29))
  go_upto_region 8 with fail
  obtain ⟨V, hV⟩ : ∃ V, w7.alloc (.cells #[.bool bd, .slice sa ld scp] 29) = V := ⟨_, rfl⟩
  have R5v := Lib.hid (R5.out.below (show Below w7.heap.size w7 V by rw [← hV]; exact (Below.refl _ _).alloc (Nat.le_refl _) _))
  have VS := Lib.hid (show w7.heap.size < V.heap.size by rw [← hV]; simp)
  rw [hV] at BX BW ⊢
  clear hV
  obtain ⟨p, hp⟩ : ∃ p, w7.heap.size = p := ⟨_, rfl⟩
  rw [hp] at BX VS ⊢
  clear hp
  go_wp2_with fail
  refine (HO.out _ _ HYF.out).mono ?_
  rintro e w8 ⟨r8, rfl, hi, hbl⟩
  have B8 := Lib.hid (show Below V.heap.size V w8 from hbl)
  have Q1 := Lib.hid hi
  clear hi hbl
  go_wp2_with fail
  refine (HO.out _ _ HYF.out).mono ?_
  rintro e w9 ⟨r9, rfl, hi, hbl⟩
  have B9 := Lib.hid (show Below V.heap.size V w9 from (B8.out.trans (hbl.mono B8.out.size)))
  have Q1 := Lib.hid (Q1.out.below hbl)
  have Q2 := Lib.hid hi
  clear hi hbl
  go_wp2_with fail
  refine (HMY.out _ _ _ Q1.out Q2.out).mono ?_
  rintro e w10 ⟨r10, rfl, hi, hbl⟩
  have B10 := Lib.hid (show Below V.heap.size V w10 from (B9.out.trans (hbl.mono B9.out.size)))
  have Q1 := Lib.hid (Q1.out.below hbl)
  have Q2 := Lib.hid (Q2.out.below hbl)
  have Q3 := Lib.hid hi
  clear hi hbl
  go_wp2_with fail
  refine (HO.out _ _ HB0.out).mono ?_
  rintro e w11 ⟨r11, rfl, hi, hbl⟩
  have B11 := Lib.hid (show Below V.heap.size V w11 from (B10.out.trans (hbl.mono B10.out.size)))
  have Q3 := Lib.hid (Q3.out.below hbl)
  have Q4 := Lib.hid hi
  clear hi hbl
  go_wp2_with fail
  refine (HO.out _ _ HB0.out).mono ?_
  rintro e w12 ⟨r12, rfl, hi, hbl⟩
  have B12 := Lib.hid (show Below V.heap.size V w12 from (B11.out.trans (hbl.mono B11.out.size)))
  have Q3 := Lib.hid (Q3.out.below hbl)
  have Q4 := Lib.hid (Q4.out.below hbl)
  have Q5 := Lib.hid hi
  clear hi hbl
  go_wp2_with fail
  refine (HMB.out _ _ _ Q4.out Q5.out).mono ?_
  rintro e w13 ⟨r13, rfl, hi, hbl⟩
  have B13 := Lib.hid (show Below V.heap.size V w13 from (B12.out.trans (hbl.mono B12.out.size)))
  have Q3 := Lib.hid (Q3.out.below hbl)
  have Q4 := Lib.hid (Q4.out.below hbl)
  have Q5 := Lib.hid (Q5.out.below hbl)
  have Q6 := Lib.hid hi
  clear hi hbl
  go_wp2_with fail
  refine (HC.out _ _ _ Q3.out Q6.out).mono ?_
  rintro e w14 ⟨rfl, hbl⟩
  have B14 := Lib.hid (show Below V.heap.size V w14 from (B13.out.trans (hbl.mono B13.out.size)))
  have Q3 := Lib.hid (Q3.out.below hbl)
  have Q4 := Lib.hid (Q4.out.below hbl)
  have Q5 := Lib.hid (Q5.out.below hbl)
  have Q6 := Lib.hid (Q6.out.below hbl)
  clear hbl
  obtain ⟨x0, x1⟩ := BX.out.below VS.out B14.out
  have R5w := Lib.hid (R5v.out.below B14.out)
  go_upto_region 10 with fail
  clear HD HR HQ HS HMY HMB HC HA0 HYF R1 R2 R3 R4 R5 Q1 Q2 Q3 Q4 Q5 Q6
  go_region_held3 (fun w' => w'.cell? ⟨p, 0, none⟩ = some (.bool bd) ∧ w'.cell? ⟨p, 1, none⟩ = some (.slice sa ld scp)) (first | exact ⟨x0', x1'⟩ | go_keep)
    (first
      | (go_at_call 22; refine (awake1_any _).mono ?_; rintro e wa ⟨rfl, hbl⟩; have BA := Lib.hid (BX5.out.trans (hbl.mono BX5.out.size)); (try clear x0' x1'); have hx' := BX.out.below VS.out BA.out; have x0' := hx'.1; have x1' := hx'.2; clear hx'; clear hbl)
      | (go_at_call 29; refine (HCX.out _ _ _ Z3.out (R5v.out.below Z3b.out)).mono ?_; rintro e wx ⟨rfl, hbl⟩; have BX5 := Lib.hid (Z3b.out.trans (hbl.mono Z3b.out.size)); (try clear x0' x1'); have hx' := BX.out.below VS.out BX5.out; have x0' := hx'.1; have x1' := hx'.2; clear hx'; clear hbl)
      | (go_at_call 28; refine (HMX.out _ _ _ Z1'.out Z2.out).mono ?_; rintro e wz3 ⟨r, rfl, hi, hbl⟩; have Z3b := Lib.hid (Z2b.out.trans (hbl.mono Z2b.out.size)); have Z3 := Lib.hid hi; (try clear x0' x1'); have hx' := BX.out.below VS.out Z3b.out; have x0' := hx'.1; have x1' := hx'.2; clear hx'; clear hbl hi)
      | (go_at_call 26; have q := Y2.out; refine (HO.out _ _ HX0.out).mono ?_; rintro e wz2 ⟨r, rfl, hi, hbl⟩; have Z2 := Lib.hid (Y2.out.below hbl); have Z2b := Lib.hid (Y2b.out.trans (hbl.mono Y2b.out.size)); have Z1' := Lib.hid hi; (try clear x0' x1'); have hx' := BX.out.below VS.out Z2b.out; have x0' := hx'.1; have x1' := hx'.2; clear hx'; clear hbl hi q)
      | (go_at_call 26; have q := Z1.out; refine (HO.out _ _ HB0.out).mono ?_; rintro e wz2 ⟨r, rfl, hi, hbl⟩; have Z1' := Lib.hid (Z1.out.below hbl); have Z2b := Lib.hid (Z1b.out.trans (hbl.mono Z1b.out.size)); have Z2 := Lib.hid hi; (try clear x0' x1'); have hx' := BX.out.below VS.out Z2b.out; have x0' := hx'.1; have x1' := hx'.2; clear hx'; clear hbl hi q)
      | (go_at_call 26; refine (HO.out _ _ HX0.out).mono ?_; rintro e wz1 ⟨r, rfl, hi, hbl⟩; have hbl2 : Below w14.heap.size w14 wz1 := (by first | exact hbl | exact below_undrew hbl); have Z1b := Lib.hid (B14.out.trans (hbl2.mono B14.out.size)); have Z1 := Lib.hid hi; (try clear x0' x1'); have hx' := BX.out.below VS.out Z1b.out; have x0' := hx'.1; have x1' := hx'.2; clear hx'; clear hbl hbl2 hi)
      | (go_at_call 26; refine (HO.out _ _ HB0.out).mono ?_; rintro e wz1 ⟨r, rfl, hi, hbl⟩; have hbl2 : Below w14.heap.size w14 wz1 := (by first | exact hbl | exact below_undrew hbl); have Y2b := Lib.hid (B14.out.trans (hbl2.mono B14.out.size)); have Y2 := Lib.hid hi; (try clear x0' x1'); have hx' := BX.out.below VS.out Y2b.out; have x0' := hx'.1; have x1' := hx'.2; clear hx'; clear hbl hbl2 hi))
  all_goals
    go_wp2
    go_ret
    exact ⟨rfl, BW.out.trans (BA.out.mono BW.out.size)⟩

set_option maxRecDepth 100000 in
set_option maxHeartbeats 4000000 in
theorem walk_nin (a b : Int) (W : World) (ha : fits a) (hb : fits b) (h0 : b ≠ 0) (HY : ¬ fmd a b = 0) (HBP : b < 0) (HE : fits (flr a b)) :
    Calls Try.prog 4 #[.int .i64 a, .int .i64 b] W fun e w' => e = .returned (.bool true) ∧ Below W.heap.size W w' := by
  have HD := Lib.hid (fun w => div_any a b w ha hb)
  rw [show mulDiv a 1 b = quoS a b by unfold mulDiv quoS; rw [Int.mul_one]] at HD
  have HR := Lib.hid (fun w => mod_any a b w ha hb)
  have HO := Lib.hid (fun a w1 (ha : I64 a) => of_any a w1 ha.1 ha.2)
  have HQ := Lib.hid (fun w u v (hu : Is w u a) (hv : Is w v b) => quo_any a b u v w hu hv (md_i64 ha) hb)
  have HA0 := Lib.hid (show I64 a from ha)
  have HB0 := Lib.hid (show I64 b from hb)
  obtain ⟨g1, g2, g3, g4⟩ := fmd_range a b h0
  rw [show modS a b = (fmd a b, 0) from if_neg h0] at HR
  have hbz : ((b : Int) == 0) = false := by simpa using h0
  obtain ⟨y, hy⟩ : ∃ y, fmd a b = y := ⟨_, rfl⟩
  rw [hy] at HR g1 g2 g3 g4 HY
  have HY0 : fits y := by obtain ⟨b0, b1⟩ := hb; by_cases h : 0 < b; (have := g1 h; unfold fits; omega); (have := g2 (by omega); unfold fits; omega)
  have hyz : ((y : Int) != 0) = true := by simp [HY]
  have gy := g2 HBP
  have gy0 : y < 0 := by omega
  have HS := Lib.hid (fun w u v (hu : Is w u a) (hv : Is w v y) => subB_any u v a y w hu hv (sm_i64 ha) (sm_i64 HY0))
  have HMY := Lib.hid (fun w u v (hu : Is w u y) (hv : Is w v y) => mulB_any u v y y w hu hv (sm_i64 HY0) (sm_i64 HY0) (md_mul HY0 HY0).sm)
  have HMB := Lib.hid (fun w u v (hu : Is w u b) (hv : Is w v b) => mulB_any u v b b w hu hv (sm_i64 hb) (sm_i64 hb) (md_mul hb hb).sm)
  have HC := Lib.hid (fun w u v (hu : Is w u (y * y)) (hv : Is w v (b * b)) => cmpB_any u v (y * y) (b * b) w hu hv (md_mul HY0 HY0).sm (md_mul hb hb).sm)
  rw [show cmpI (y * y) (b * b) = -1 from if_pos g3] at HC
  obtain ⟨yy, hyy⟩ : ∃ z, y * y = z := ⟨_, rfl⟩
  obtain ⟨bb, hbb⟩ : ∃ z, b * b = z := ⟨_, rfl⟩
  rw [hyy] at HMY HC
  rw [hbb] at HMB HC
  have HYF := Lib.hid (show I64 y from HY0)
  clear hyy hbb g3 hy
  have hqq : quoS a b = (flr a b, 0) := by rw [show quoS a b = fitted (flr a b) from if_neg h0, fitted_in HE]
  rw [hqq] at HD HQ
  have HX0 := Lib.hid (show I64 (flr a b) from HE)
  have HMX := Lib.hid (fun w u v (hu : Is w u (flr a b)) (hv : Is w v b) => mulB_any u v (flr a b) b w hu hv (sm_i64 HE) (sm_i64 hb) (md_mul HE hb).sm)
  rw [g4] at HMX
  obtain ⟨d, hd⟩ : ∃ z, a - y = z := ⟨_, rfl⟩
  have hdS : Sm d := by rw [← hd]; obtain ⟨a0, a1⟩ := ha; obtain ⟨y0, y1⟩ := HY0; unfold Sm; omega
  have HCX := Lib.hid (fun w u v (hu : Is w u d) (hv : Is w v d) => cmpB_any u v d d w hu hv hdS hdS)
  rw [cmp_self] at HCX
  rw [hd] at HS HMX
  obtain ⟨q, hq⟩ : ∃ q, flr a b = q := ⟨_, rfl⟩
  rw [hq] at HD HQ HX0 HMX
  clear hqq hd hq hdS HE
  clear g1 g2 g4 ha hb HY0
  go_enter Try.func4, Try.ntmps4
  go_wp2_with fail
  refine (HD.out _).mono ?_
  rintro e w1 ⟨rfl, hbl⟩
  have B1 := Lib.hid (show Below W.heap.size W w1 from hbl)
  clear hbl
  go_wp2_with fail
  refine (HR.out _).mono ?_
  rintro e w' ⟨rfl, rfl⟩
  go_wp2_with fail
  refine (HO.out _ _ HA0.out).mono ?_
  rintro e w2 ⟨r2, rfl, hi, hbl⟩
  have B2 := Lib.hid (show Below W.heap.size W w2 from (B1.out.trans (hbl.mono B1.out.size)))
  have R1 := Lib.hid hi
  clear hi hbl
  go_wp2_with fail
  refine (HO.out _ _ HB0.out).mono ?_
  rintro e w3 ⟨r3, rfl, hi, hbl⟩
  have B3 := Lib.hid (show Below W.heap.size W w3 from (B2.out.trans (hbl.mono B2.out.size)))
  have R1 := Lib.hid (R1.out.below hbl)
  have R2 := Lib.hid hi
  clear hi hbl
  go_wp2_with fail
  refine (HQ.out _ _ _ R1.out R2.out).mono ?_
  rintro e w4 ⟨rfl, hbl⟩
  have B4 := Lib.hid (show Below W.heap.size W w4 from (B3.out.trans (hbl.mono B3.out.size)))
  have R1 := Lib.hid (R1.out.below hbl)
  have R2 := Lib.hid (R2.out.below hbl)
  clear hbl
  go_wp2_with fail
  refine (HO.out _ _ HA0.out).mono ?_
  rintro e w5 ⟨r5, rfl, hi, hbl⟩
  have B5 := Lib.hid (show Below W.heap.size W w5 from (B4.out.trans (hbl.mono B4.out.size)))
  have R3 := Lib.hid hi
  clear hi hbl
  go_wp2_with fail
  refine (HO.out _ _ HYF.out).mono ?_
  rintro e w6 ⟨r6, rfl, hi, hbl⟩
  have B6 := Lib.hid (show Below W.heap.size W w6 from (B5.out.trans (hbl.mono B5.out.size)))
  have R3 := Lib.hid (R3.out.below hbl)
  have R4 := Lib.hid hi
  clear hi hbl
  go_wp2_with fail
  refine (HS.out _ _ _ R3.out R4.out).mono ?_
  rintro e w7 ⟨r7, rfl, hi, hbl⟩
  have B7 := Lib.hid (show Below W.heap.size W w7 from (B6.out.trans (hbl.mono B6.out.size)))
  have R3 := Lib.hid (R3.out.below hbl)
  have R4 := Lib.hid (R4.out.below hbl)
  have R5 := Lib.hid hi
  clear hi hbl
  obtain ⟨sa, scp, rfl, -⟩ := R5.out.form
  obtain ⟨bd, hbd⟩ : ∃ b, decide (d < 0) = b := ⟨_, rfl⟩
  obtain ⟨ld, hld⟩ : ∃ b, (canon d.natAbs).length = b := ⟨_, rfl⟩
  rw [hbd, hld] at R5 ⊢
  clear hbd hld
  have BX := Lib.hid (box_new w7 bd (.slice sa ld scp))
  have BW := Lib.hid (B7.out.alloc B7.out.size (.cells #[.bool bd, .slice sa ld scp] 29))
  go_upto_region 8 with fail
  obtain ⟨V, hV⟩ : ∃ V, w7.alloc (.cells #[.bool bd, .slice sa ld scp] 29) = V := ⟨_, rfl⟩
  have R5v := Lib.hid (R5.out.below (show Below w7.heap.size w7 V by rw [← hV]; exact (Below.refl _ _).alloc (Nat.le_refl _) _))
  have VS := Lib.hid (show w7.heap.size < V.heap.size by rw [← hV]; simp)
  rw [hV] at BX BW ⊢
  clear hV
  obtain ⟨p, hp⟩ : ∃ p, w7.heap.size = p := ⟨_, rfl⟩
  rw [hp] at BX VS ⊢
  clear hp
  go_wp2_with fail
  refine (HO.out _ _ HYF.out).mono ?_
  rintro e w8 ⟨r8, rfl, hi, hbl⟩
  have B8 := Lib.hid (show Below V.heap.size V w8 from hbl)
  have Q1 := Lib.hid hi
  clear hi hbl
  go_wp2_with fail
  refine (HO.out _ _ HYF.out).mono ?_
  rintro e w9 ⟨r9, rfl, hi, hbl⟩
  have B9 := Lib.hid (show Below V.heap.size V w9 from (B8.out.trans (hbl.mono B8.out.size)))
  have Q1 := Lib.hid (Q1.out.below hbl)
  have Q2 := Lib.hid hi
  clear hi hbl
  go_wp2_with fail
  refine (HMY.out _ _ _ Q1.out Q2.out).mono ?_
  rintro e w10 ⟨r10, rfl, hi, hbl⟩
  have B10 := Lib.hid (show Below V.heap.size V w10 from (B9.out.trans (hbl.mono B9.out.size)))
  have Q1 := Lib.hid (Q1.out.below hbl)
  have Q2 := Lib.hid (Q2.out.below hbl)
  have Q3 := Lib.hid hi
  clear hi hbl
  go_wp2_with fail
  refine (HO.out _ _ HB0.out).mono ?_
  rintro e w11 ⟨r11, rfl, hi, hbl⟩
  have B11 := Lib.hid (show Below V.heap.size V w11 from (B10.out.trans (hbl.mono B10.out.size)))
  have Q3 := Lib.hid (Q3.out.below hbl)
  have Q4 := Lib.hid hi
  clear hi hbl
  go_wp2_with fail
  refine (HO.out _ _ HB0.out).mono ?_
  rintro e w12 ⟨r12, rfl, hi, hbl⟩
  have B12 := Lib.hid (show Below V.heap.size V w12 from (B11.out.trans (hbl.mono B11.out.size)))
  have Q3 := Lib.hid (Q3.out.below hbl)
  have Q4 := Lib.hid (Q4.out.below hbl)
  have Q5 := Lib.hid hi
  clear hi hbl
  go_wp2_with fail
  refine (HMB.out _ _ _ Q4.out Q5.out).mono ?_
  rintro e w13 ⟨r13, rfl, hi, hbl⟩
  have B13 := Lib.hid (show Below V.heap.size V w13 from (B12.out.trans (hbl.mono B12.out.size)))
  have Q3 := Lib.hid (Q3.out.below hbl)
  have Q4 := Lib.hid (Q4.out.below hbl)
  have Q5 := Lib.hid (Q5.out.below hbl)
  have Q6 := Lib.hid hi
  clear hi hbl
  go_wp2_with fail
  refine (HC.out _ _ _ Q3.out Q6.out).mono ?_
  rintro e w14 ⟨rfl, hbl⟩
  have B14 := Lib.hid (show Below V.heap.size V w14 from (B13.out.trans (hbl.mono B13.out.size)))
  have Q3 := Lib.hid (Q3.out.below hbl)
  have Q4 := Lib.hid (Q4.out.below hbl)
  have Q5 := Lib.hid (Q5.out.below hbl)
  have Q6 := Lib.hid (Q6.out.below hbl)
  clear hbl
  obtain ⟨x0, x1⟩ := BX.out.below VS.out B14.out
  have R5w := Lib.hid (R5v.out.below B14.out)
  go_upto_region 10 with fail
  clear HD HR HQ HS HMY HMB HC HA0 HYF R1 R2 R3 R4 R5 Q1 Q2 Q3 Q4 Q5 Q6
  go_region_held3 (fun w' => w'.cell? ⟨p, 0, none⟩ = some (.bool bd) ∧ w'.cell? ⟨p, 1, none⟩ = some (.slice sa ld scp)) (first | exact ⟨x0', x1'⟩ | go_keep)
    (first
      | (go_at_call 22; refine (awake1_any _).mono ?_; rintro e wa ⟨rfl, hbl⟩; have BA := Lib.hid (BX5.out.trans (hbl.mono BX5.out.size)); (try clear x0' x1'); have hx' := BX.out.below VS.out BA.out; have x0' := hx'.1; have x1' := hx'.2; clear hx'; clear hbl)
      | (go_at_call 29; refine (HCX.out _ _ _ Z3.out (R5v.out.below Z3b.out)).mono ?_; rintro e wx ⟨rfl, hbl⟩; have BX5 := Lib.hid (Z3b.out.trans (hbl.mono Z3b.out.size)); (try clear x0' x1'); have hx' := BX.out.below VS.out BX5.out; have x0' := hx'.1; have x1' := hx'.2; clear hx'; clear hbl)
      | (go_at_call 28; refine (HMX.out _ _ _ Z1'.out Z2.out).mono ?_; rintro e wz3 ⟨r, rfl, hi, hbl⟩; have Z3b := Lib.hid (Z2b.out.trans (hbl.mono Z2b.out.size)); have Z3 := Lib.hid hi; (try clear x0' x1'); have hx' := BX.out.below VS.out Z3b.out; have x0' := hx'.1; have x1' := hx'.2; clear hx'; clear hbl hi)
      | (go_at_call 26; have q := Y2.out; refine (HO.out _ _ HX0.out).mono ?_; rintro e wz2 ⟨r, rfl, hi, hbl⟩; have Z2 := Lib.hid (Y2.out.below hbl); have Z2b := Lib.hid (Y2b.out.trans (hbl.mono Y2b.out.size)); have Z1' := Lib.hid hi; (try clear x0' x1'); have hx' := BX.out.below VS.out Z2b.out; have x0' := hx'.1; have x1' := hx'.2; clear hx'; clear hbl hi q)
      | (go_at_call 26; have q := Z1.out; refine (HO.out _ _ HB0.out).mono ?_; rintro e wz2 ⟨r, rfl, hi, hbl⟩; have Z1' := Lib.hid (Z1.out.below hbl); have Z2b := Lib.hid (Z1b.out.trans (hbl.mono Z1b.out.size)); have Z2 := Lib.hid hi; (try clear x0' x1'); have hx' := BX.out.below VS.out Z2b.out; have x0' := hx'.1; have x1' := hx'.2; clear hx'; clear hbl hi q)
      | (go_at_call 26; refine (HO.out _ _ HX0.out).mono ?_; rintro e wz1 ⟨r, rfl, hi, hbl⟩; have hbl2 : Below w14.heap.size w14 wz1 := (by first | exact hbl | exact below_undrew hbl); have Z1b := Lib.hid (B14.out.trans (hbl2.mono B14.out.size)); have Z1 := Lib.hid hi; (try clear x0' x1'); have hx' := BX.out.below VS.out Z1b.out; have x0' := hx'.1; have x1' := hx'.2; clear hx'; clear hbl hbl2 hi)
      | (go_at_call 26; refine (HO.out _ _ HB0.out).mono ?_; rintro e wz1 ⟨r, rfl, hi, hbl⟩; have hbl2 : Below w14.heap.size w14 wz1 := (by first | exact hbl | exact below_undrew hbl); have Y2b := Lib.hid (B14.out.trans (hbl2.mono B14.out.size)); have Y2 := Lib.hid hi; (try clear x0' x1'); have hx' := BX.out.below VS.out Y2b.out; have x0' := hx'.1; have x1' := hx'.2; clear hx'; clear hbl hbl2 hi))
  all_goals
    go_wp2
    go_ret
    exact ⟨rfl, BW.out.trans (BA.out.mono BW.out.size)⟩

set_option maxRecDepth 100000 in
set_option maxHeartbeats 4000000 in
theorem walk_0out (a b : Int) (W : World) (ha : fits a) (hb : fits b) (h0 : b ≠ 0) (HY : fmd a b = 0) (HE : ¬ fits (flr a b)) :
    Calls Try.prog 4 #[.int .i64 a, .int .i64 b] W fun e w' => e = .returned (.bool true) ∧ Below W.heap.size W w' := by
  have HD := Lib.hid (fun w => div_any a b w ha hb)
  rw [show mulDiv a 1 b = quoS a b by unfold mulDiv quoS; rw [Int.mul_one]] at HD
  have HR := Lib.hid (fun w => mod_any a b w ha hb)
  have HO := Lib.hid (fun a w1 (ha : I64 a) => of_any a w1 ha.1 ha.2)
  have HQ := Lib.hid (fun w u v (hu : Is w u a) (hv : Is w v b) => quo_any a b u v w hu hv (md_i64 ha) hb)
  have HA0 := Lib.hid (show I64 a from ha)
  have HB0 := Lib.hid (show I64 b from hb)
  obtain ⟨g1, g2, g3, g4⟩ := fmd_range a b h0
  rw [show modS a b = (fmd a b, 0) from if_neg h0] at HR
  have hbz : ((b : Int) == 0) = false := by simpa using h0
  obtain ⟨y, hy⟩ : ∃ y, fmd a b = y := ⟨_, rfl⟩
  rw [hy] at HR g1 g2 g3 g4 HY
  have HY0 : fits y := by obtain ⟨b0, b1⟩ := hb; by_cases h : 0 < b; (have := g1 h; unfold fits; omega); (have := g2 (by omega); unfold fits; omega)
  subst HY
  have HS := Lib.hid (fun w u v (hu : Is w u a) (hv : Is w v (0 : Int)) => subB_any u v a (0 : Int) w hu hv (sm_i64 ha) (sm_i64 HY0))
  have HMY := Lib.hid (fun w u v (hu : Is w u (0 : Int)) (hv : Is w v (0 : Int)) => mulB_any u v (0 : Int) (0 : Int) w hu hv (sm_i64 HY0) (sm_i64 HY0) (md_mul HY0 HY0).sm)
  have HMB := Lib.hid (fun w u v (hu : Is w u b) (hv : Is w v b) => mulB_any u v b b w hu hv (sm_i64 hb) (sm_i64 hb) (md_mul hb hb).sm)
  have HC := Lib.hid (fun w u v (hu : Is w u ((0 : Int) * (0 : Int))) (hv : Is w v (b * b)) => cmpB_any u v ((0 : Int) * (0 : Int)) (b * b) w hu hv (md_mul HY0 HY0).sm (md_mul hb hb).sm)
  rw [show cmpI ((0 : Int) * (0 : Int)) (b * b) = -1 from if_pos g3] at HC
  obtain ⟨yy, hyy⟩ : ∃ z, (0 : Int) * (0 : Int) = z := ⟨_, rfl⟩
  obtain ⟨bb, hbb⟩ : ∃ z, b * b = z := ⟨_, rfl⟩
  rw [hyy] at HMY HC
  rw [hbb] at HMB HC
  have HYF := Lib.hid (show I64 (0 : Int) from HY0)
  clear hyy hbb g3
  have hqq : quoS a b = (0, 8) := by rw [show quoS a b = fitted (flr a b) from if_neg h0, fitted_out HE]
  rw [hqq] at HD HQ
  obtain ⟨d, hd⟩ : ∃ z, a - (0 : Int) = z := ⟨_, rfl⟩
  rw [hd] at HS
  clear hqq hd HE
  clear g1 g2 g4 ha hb HY0
  go_enter Try.func4, Try.ntmps4
  go_wp2_with fail
  refine (HD.out _).mono ?_
  rintro e w1 ⟨rfl, hbl⟩
  have B1 := Lib.hid (show Below W.heap.size W w1 from hbl)
  clear hbl
  go_wp2_with fail
  refine (HR.out _).mono ?_
  rintro e w' ⟨rfl, rfl⟩
  go_wp2_with fail
  refine (HO.out _ _ HA0.out).mono ?_
  rintro e w2 ⟨r2, rfl, hi, hbl⟩
  have B2 := Lib.hid (show Below W.heap.size W w2 from (B1.out.trans (hbl.mono B1.out.size)))
  have R1 := Lib.hid hi
  clear hi hbl
  go_wp2_with fail
  refine (HO.out _ _ HB0.out).mono ?_
  rintro e w3 ⟨r3, rfl, hi, hbl⟩
  have B3 := Lib.hid (show Below W.heap.size W w3 from (B2.out.trans (hbl.mono B2.out.size)))
  have R1 := Lib.hid (R1.out.below hbl)
  have R2 := Lib.hid hi
  clear hi hbl
  go_wp2_with fail
  refine (HQ.out _ _ _ R1.out R2.out).mono ?_
  rintro e w4 ⟨rfl, hbl⟩
  have B4 := Lib.hid (show Below W.heap.size W w4 from (B3.out.trans (hbl.mono B3.out.size)))
  have R1 := Lib.hid (R1.out.below hbl)
  have R2 := Lib.hid (R2.out.below hbl)
  clear hbl
  go_wp2_with fail
  refine (HO.out _ _ HA0.out).mono ?_
  rintro e w5 ⟨r5, rfl, hi, hbl⟩
  have B5 := Lib.hid (show Below W.heap.size W w5 from (B4.out.trans (hbl.mono B4.out.size)))
  have R3 := Lib.hid hi
  clear hi hbl
  go_wp2_with fail
  refine (HO.out _ _ HYF.out).mono ?_
  rintro e w6 ⟨r6, rfl, hi, hbl⟩
  have B6 := Lib.hid (show Below W.heap.size W w6 from (B5.out.trans (hbl.mono B5.out.size)))
  have R3 := Lib.hid (R3.out.below hbl)
  have R4 := Lib.hid hi
  clear hi hbl
  go_wp2_with fail
  refine (HS.out _ _ _ R3.out R4.out).mono ?_
  rintro e w7 ⟨r7, rfl, hi, hbl⟩
  have B7 := Lib.hid (show Below W.heap.size W w7 from (B6.out.trans (hbl.mono B6.out.size)))
  have R3 := Lib.hid (R3.out.below hbl)
  have R4 := Lib.hid (R4.out.below hbl)
  have R5 := Lib.hid hi
  clear hi hbl
  obtain ⟨sa, scp, rfl, -⟩ := R5.out.form
  obtain ⟨bd, hbd⟩ : ∃ b, decide (d < 0) = b := ⟨_, rfl⟩
  obtain ⟨ld, hld⟩ : ∃ b, (canon d.natAbs).length = b := ⟨_, rfl⟩
  rw [hbd, hld] at R5 ⊢
  clear hbd hld
  have BX := Lib.hid (box_new w7 bd (.slice sa ld scp))
  have BW := Lib.hid (B7.out.alloc B7.out.size (.cells #[.bool bd, .slice sa ld scp] 29))
  go_upto_region 8 with fail
  obtain ⟨V, hV⟩ : ∃ V, w7.alloc (.cells #[.bool bd, .slice sa ld scp] 29) = V := ⟨_, rfl⟩
  have R5v := Lib.hid (R5.out.below (show Below w7.heap.size w7 V by rw [← hV]; exact (Below.refl _ _).alloc (Nat.le_refl _) _))
  have VS := Lib.hid (show w7.heap.size < V.heap.size by rw [← hV]; simp)
  rw [hV] at BX BW ⊢
  clear hV
  obtain ⟨p, hp⟩ : ∃ p, w7.heap.size = p := ⟨_, rfl⟩
  rw [hp] at BX VS ⊢
  clear hp
  go_wp2_with fail
  refine (HO.out _ _ HYF.out).mono ?_
  rintro e w8 ⟨r8, rfl, hi, hbl⟩
  have B8 := Lib.hid (show Below V.heap.size V w8 from hbl)
  have Q1 := Lib.hid hi
  clear hi hbl
  go_wp2_with fail
  refine (HO.out _ _ HYF.out).mono ?_
  rintro e w9 ⟨r9, rfl, hi, hbl⟩
  have B9 := Lib.hid (show Below V.heap.size V w9 from (B8.out.trans (hbl.mono B8.out.size)))
  have Q1 := Lib.hid (Q1.out.below hbl)
  have Q2 := Lib.hid hi
  clear hi hbl
  go_wp2_with fail
  refine (HMY.out _ _ _ Q1.out Q2.out).mono ?_
  rintro e w10 ⟨r10, rfl, hi, hbl⟩
  have B10 := Lib.hid (show Below V.heap.size V w10 from (B9.out.trans (hbl.mono B9.out.size)))
  have Q1 := Lib.hid (Q1.out.below hbl)
  have Q2 := Lib.hid (Q2.out.below hbl)
  have Q3 := Lib.hid hi
  clear hi hbl
  go_wp2_with fail
  refine (HO.out _ _ HB0.out).mono ?_
  rintro e w11 ⟨r11, rfl, hi, hbl⟩
  have B11 := Lib.hid (show Below V.heap.size V w11 from (B10.out.trans (hbl.mono B10.out.size)))
  have Q3 := Lib.hid (Q3.out.below hbl)
  have Q4 := Lib.hid hi
  clear hi hbl
  go_wp2_with fail
  refine (HO.out _ _ HB0.out).mono ?_
  rintro e w12 ⟨r12, rfl, hi, hbl⟩
  have B12 := Lib.hid (show Below V.heap.size V w12 from (B11.out.trans (hbl.mono B11.out.size)))
  have Q3 := Lib.hid (Q3.out.below hbl)
  have Q4 := Lib.hid (Q4.out.below hbl)
  have Q5 := Lib.hid hi
  clear hi hbl
  go_wp2_with fail
  refine (HMB.out _ _ _ Q4.out Q5.out).mono ?_
  rintro e w13 ⟨r13, rfl, hi, hbl⟩
  have B13 := Lib.hid (show Below V.heap.size V w13 from (B12.out.trans (hbl.mono B12.out.size)))
  have Q3 := Lib.hid (Q3.out.below hbl)
  have Q4 := Lib.hid (Q4.out.below hbl)
  have Q5 := Lib.hid (Q5.out.below hbl)
  have Q6 := Lib.hid hi
  clear hi hbl
  go_wp2_with fail
  refine (HC.out _ _ _ Q3.out Q6.out).mono ?_
  rintro e w14 ⟨rfl, hbl⟩
  have B14 := Lib.hid (show Below V.heap.size V w14 from (B13.out.trans (hbl.mono B13.out.size)))
  have Q3 := Lib.hid (Q3.out.below hbl)
  have Q4 := Lib.hid (Q4.out.below hbl)
  have Q5 := Lib.hid (Q5.out.below hbl)
  have Q6 := Lib.hid (Q6.out.below hbl)
  clear hbl
  obtain ⟨x0, x1⟩ := BX.out.below VS.out B14.out
  have R5w := Lib.hid (R5v.out.below B14.out)
  go_upto_region 10 with fail
  clear HD HR HQ HS HMY HMB HC HA0 HYF R1 R2 R3 R4 R5 Q1 Q2 Q3 Q4 Q5 Q6
  refine wp_region_any (by kernel_rfl) ?_
  try (change wpAny _ _ _ _ _ _ _ (World.drew _))
  refine wpAny_take (i := 0) (v := ?v0) rfl (by kernel_rfl) (by kernel_rfl) (by kernel_rfl) (fun _ _ _ h => h) (Or.inl ⟨by kernel_rfl, ?h0⟩) ?_
  case h0 => (intro w; go_simp); (try with_reducible rfl)
  refine wpAny_take (i := 1) (v := ?v1) rfl (by kernel_rfl) (by kernel_rfl) (by kernel_rfl) (fun _ _ _ h => h) (Or.inl ⟨by kernel_rfl, ?h1⟩) ?_
  case h1 => (intro w; go_simp); (try with_reducible rfl)
  refine wpAny_take (i := 2) (v := ?v2) rfl (by kernel_rfl) (by kernel_rfl) (by kernel_rfl) (fun _ _ _ h => h) (Or.inl ⟨by kernel_rfl, ?h2⟩) ?_
  case h2 => (intro w; go_simp); (try with_reducible rfl)
  refine wpAny_take (i := 3) (v := undef) rfl (by kernel_rfl) (by kernel_rfl) (by kernel_rfl) (fun _ _ _ h => h) (Or.inr ⟨by kernel_rfl, rfl⟩) ?_
  refine wpAny_take (i := 4) (v := undef) rfl (by kernel_rfl) (by kernel_rfl) (by kernel_rfl) (fun _ _ _ h => h) (Or.inr ⟨by kernel_rfl, rfl⟩) ?_
  refine wpAny_take (i := 5) (v := undef) rfl (by kernel_rfl) (by kernel_rfl) (by kernel_rfl) (fun _ _ _ h => h) (Or.inr ⟨by kernel_rfl, rfl⟩) ?_
  refine wpAny_take (i := 6) (v := undef) rfl (by kernel_rfl) (by kernel_rfl) (by kernel_rfl) (fun _ _ _ h => h) (Or.inr ⟨by kernel_rfl, rfl⟩) ?_
  refine wpAny_take (i := 7) (v := undef) rfl (by kernel_rfl) (by kernel_rfl) (by kernel_rfl) (fun _ _ _ h => h) (Or.inr ⟨by kernel_rfl, rfl⟩) ?_
  refine wpAny_take (i := 8) (v := undef) rfl (by kernel_rfl) (by kernel_rfl) (by kernel_rfl) (fun _ _ _ h => h) (Or.inr ⟨by kernel_rfl, rfl⟩) ?_
  refine wpAny_take (i := 9) (v := undef) rfl (by kernel_rfl) (by kernel_rfl) (by kernel_rfl) (fun _ _ _ h => h) (Or.inr ⟨by kernel_rfl, rfl⟩) ?_
  refine wpAny_take (i := 10) (v := undef) rfl (by kernel_rfl) (by kernel_rfl) (by kernel_rfl) (fun _ _ _ h => h) (Or.inr ⟨by kernel_rfl, rfl⟩) ?_
  refine wpAny_take (i := 11) (v := ?v11) rfl (by kernel_rfl) (by kernel_rfl) (by kernel_rfl) (fun _ _ _ h => h) (Or.inl ⟨by kernel_rfl, ?h11⟩) ?_
  case h11 => (intro w; go_simp); (try with_reducible rfl)
  refine wpAny_take (i := 12) (v := ?v12) rfl (by kernel_rfl) (by kernel_rfl) (by kernel_rfl) (fun _ _ _ h => h) (Or.inl ⟨by kernel_rfl, ?h12⟩) ?_
  case h12 => (intro w; go_simp); (try with_reducible rfl)
  refine wpAny_ready (rs := [13]) (by kernel_rfl) (by simp) ?_
  refine AllReady.cons rfl (fun K hK => ?_) AllReady.nil
  go_simp
  go_wp2_with (go_at_call 22; refine (awake1_any _).mono ?_; rintro e wa ⟨rfl, hbl⟩; have hbl2 : Below w14.heap.size w14 wa := (by first | exact hbl | exact below_undrew hbl); have BA := Lib.hid (B14.out.trans (hbl2.mono B14.out.size)); clear hbl hbl2)
  refine wpAny_take (i := 14) (v := ?v14) rfl (by kernel_rfl) (by kernel_rfl) (by kernel_rfl) (fun _ _ _ h => h) (Or.inl ⟨by kernel_rfl, ?h14⟩) ?_
  case h14 => (intro w; go_simp); (try with_reducible rfl)
  refine wpAny_take (i := 15) (v := ?v15) rfl (by kernel_rfl) (by kernel_rfl) (by kernel_rfl) (fun _ _ _ h => h) (Or.inl ⟨by kernel_rfl, ?h15⟩) ?_
  case h15 => (intro w; go_simp); (try with_reducible rfl)
  refine wpAny_done (by kernel_rfl) ?_ _
  go_wp2
  go_ret
  exact ⟨rfl, BW.out.trans (BA.out.mono BW.out.size)⟩

set_option maxRecDepth 100000 in
set_option maxHeartbeats 4000000 in
theorem walk_pout (a b : Int) (W : World) (ha : fits a) (hb : fits b) (h0 : b ≠ 0) (HY : ¬ fmd a b = 0) (HBP : 0 < b) (HE : ¬ fits (flr a b)) :
    Calls Try.prog 4 #[.int .i64 a, .int .i64 b] W fun e w' => e = .returned (.bool true) ∧ Below W.heap.size W w' := by
  have HD := Lib.hid (fun w => div_any a b w ha hb)
  rw [show mulDiv a 1 b = quoS a b by unfold mulDiv quoS; rw [Int.mul_one]] at HD
  have HR := Lib.hid (fun w => mod_any a b w ha hb)
  have HO := Lib.hid (fun a w1 (ha : I64 a) => of_any a w1 ha.1 ha.2)
  have HQ := Lib.hid (fun w u v (hu : Is w u a) (hv : Is w v b) => quo_any a b u v w hu hv (md_i64 ha) hb)
  have HA0 := Lib.hid (show I64 a from ha)
  have HB0 := Lib.hid (show I64 b from hb)
  obtain ⟨g1, g2, g3, g4⟩ := fmd_range a b h0
  rw [show modS a b = (fmd a b, 0) from if_neg h0] at HR
  have hbz : ((b : Int) == 0) = false := by simpa using h0
  obtain ⟨y, hy⟩ : ∃ y, fmd a b = y := ⟨_, rfl⟩
  rw [hy] at HR g1 g2 g3 g4 HY
  have HY0 : fits y := by obtain ⟨b0, b1⟩ := hb; by_cases h : 0 < b; (have := g1 h; unfold fits; omega); (have := g2 (by omega); unfold fits; omega)
  have hyz : ((y : Int) != 0) = true := by simp [HY]
  have gy := g1 HBP
  have gy0 : 0 < y := by omega
  have HS := Lib.hid (fun w u v (hu : Is w u a) (hv : Is w v y) => subB_any u v a y w hu hv (sm_i64 ha) (sm_i64 HY0))
  have HMY := Lib.hid (fun w u v (hu : Is w u y) (hv : Is w v y) => mulB_any u v y y w hu hv (sm_i64 HY0) (sm_i64 HY0) (md_mul HY0 HY0).sm)
  have HMB := Lib.hid (fun w u v (hu : Is w u b) (hv : Is w v b) => mulB_any u v b b w hu hv (sm_i64 hb) (sm_i64 hb) (md_mul hb hb).sm)
  have HC := Lib.hid (fun w u v (hu : Is w u (y * y)) (hv : Is w v (b * b)) => cmpB_any u v (y * y) (b * b) w hu hv (md_mul HY0 HY0).sm (md_mul hb hb).sm)
  rw [show cmpI (y * y) (b * b) = -1 from if_pos g3] at HC
  obtain ⟨yy, hyy⟩ : ∃ z, y * y = z := ⟨_, rfl⟩
  obtain ⟨bb, hbb⟩ : ∃ z, b * b = z := ⟨_, rfl⟩
  rw [hyy] at HMY HC
  rw [hbb] at HMB HC
  have HYF := Lib.hid (show I64 y from HY0)
  clear hyy hbb g3 hy
  have hqq : quoS a b = (0, 8) := by rw [show quoS a b = fitted (flr a b) from if_neg h0, fitted_out HE]
  rw [hqq] at HD HQ
  obtain ⟨d, hd⟩ : ∃ z, a - y = z := ⟨_, rfl⟩
  rw [hd] at HS
  clear hqq hd HE
  clear g1 g2 g4 ha hb HY0
  go_enter Try.func4, Try.ntmps4
  go_wp2_with fail
  refine (HD.out _).mono ?_
  rintro e w1 ⟨rfl, hbl⟩
  have B1 := Lib.hid (show Below W.heap.size W w1 from hbl)
  clear hbl
  go_wp2_with fail
  refine (HR.out _).mono ?_
  rintro e w' ⟨rfl, rfl⟩
  go_wp2_with fail
  refine (HO.out _ _ HA0.out).mono ?_
  rintro e w2 ⟨r2, rfl, hi, hbl⟩
  have B2 := Lib.hid (show Below W.heap.size W w2 from (B1.out.trans (hbl.mono B1.out.size)))
  have R1 := Lib.hid hi
  clear hi hbl
  go_wp2_with fail
  refine (HO.out _ _ HB0.out).mono ?_
  rintro e w3 ⟨r3, rfl, hi, hbl⟩
  have B3 := Lib.hid (show Below W.heap.size W w3 from (B2.out.trans (hbl.mono B2.out.size)))
  have R1 := Lib.hid (R1.out.below hbl)
  have R2 := Lib.hid hi
  clear hi hbl
  go_wp2_with fail
  refine (HQ.out _ _ _ R1.out R2.out).mono ?_
  rintro e w4 ⟨rfl, hbl⟩
  have B4 := Lib.hid (show Below W.heap.size W w4 from (B3.out.trans (hbl.mono B3.out.size)))
  have R1 := Lib.hid (R1.out.below hbl)
  have R2 := Lib.hid (R2.out.below hbl)
  clear hbl
  go_wp2_with fail
  refine (HO.out _ _ HA0.out).mono ?_
  rintro e w5 ⟨r5, rfl, hi, hbl⟩
  have B5 := Lib.hid (show Below W.heap.size W w5 from (B4.out.trans (hbl.mono B4.out.size)))
  have R3 := Lib.hid hi
  clear hi hbl
  go_wp2_with fail
  refine (HO.out _ _ HYF.out).mono ?_
  rintro e w6 ⟨r6, rfl, hi, hbl⟩
  have B6 := Lib.hid (show Below W.heap.size W w6 from (B5.out.trans (hbl.mono B5.out.size)))
  have R3 := Lib.hid (R3.out.below hbl)
  have R4 := Lib.hid hi
  clear hi hbl
  go_wp2_with fail
  refine (HS.out _ _ _ R3.out R4.out).mono ?_
  rintro e w7 ⟨r7, rfl, hi, hbl⟩
  have B7 := Lib.hid (show Below W.heap.size W w7 from (B6.out.trans (hbl.mono B6.out.size)))
  have R3 := Lib.hid (R3.out.below hbl)
  have R4 := Lib.hid (R4.out.below hbl)
  have R5 := Lib.hid hi
  clear hi hbl
  obtain ⟨sa, scp, rfl, -⟩ := R5.out.form
  obtain ⟨bd, hbd⟩ : ∃ b, decide (d < 0) = b := ⟨_, rfl⟩
  obtain ⟨ld, hld⟩ : ∃ b, (canon d.natAbs).length = b := ⟨_, rfl⟩
  rw [hbd, hld] at R5 ⊢
  clear hbd hld
  have BX := Lib.hid (box_new w7 bd (.slice sa ld scp))
  have BW := Lib.hid (B7.out.alloc B7.out.size (.cells #[.bool bd, .slice sa ld scp] 29))
  go_upto_region 8 with fail
  obtain ⟨V, hV⟩ : ∃ V, w7.alloc (.cells #[.bool bd, .slice sa ld scp] 29) = V := ⟨_, rfl⟩
  have R5v := Lib.hid (R5.out.below (show Below w7.heap.size w7 V by rw [← hV]; exact (Below.refl _ _).alloc (Nat.le_refl _) _))
  have VS := Lib.hid (show w7.heap.size < V.heap.size by rw [← hV]; simp)
  rw [hV] at BX BW ⊢
  clear hV
  obtain ⟨p, hp⟩ : ∃ p, w7.heap.size = p := ⟨_, rfl⟩
  rw [hp] at BX VS ⊢
  clear hp
  go_wp2_with fail
  refine (HO.out _ _ HYF.out).mono ?_
  rintro e w8 ⟨r8, rfl, hi, hbl⟩
  have B8 := Lib.hid (show Below V.heap.size V w8 from hbl)
  have Q1 := Lib.hid hi
  clear hi hbl
  go_wp2_with fail
  refine (HO.out _ _ HYF.out).mono ?_
  rintro e w9 ⟨r9, rfl, hi, hbl⟩
  have B9 := Lib.hid (show Below V.heap.size V w9 from (B8.out.trans (hbl.mono B8.out.size)))
  have Q1 := Lib.hid (Q1.out.below hbl)
  have Q2 := Lib.hid hi
  clear hi hbl
  go_wp2_with fail
  refine (HMY.out _ _ _ Q1.out Q2.out).mono ?_
  rintro e w10 ⟨r10, rfl, hi, hbl⟩
  have B10 := Lib.hid (show Below V.heap.size V w10 from (B9.out.trans (hbl.mono B9.out.size)))
  have Q1 := Lib.hid (Q1.out.below hbl)
  have Q2 := Lib.hid (Q2.out.below hbl)
  have Q3 := Lib.hid hi
  clear hi hbl
  go_wp2_with fail
  refine (HO.out _ _ HB0.out).mono ?_
  rintro e w11 ⟨r11, rfl, hi, hbl⟩
  have B11 := Lib.hid (show Below V.heap.size V w11 from (B10.out.trans (hbl.mono B10.out.size)))
  have Q3 := Lib.hid (Q3.out.below hbl)
  have Q4 := Lib.hid hi
  clear hi hbl
  go_wp2_with fail
  refine (HO.out _ _ HB0.out).mono ?_
  rintro e w12 ⟨r12, rfl, hi, hbl⟩
  have B12 := Lib.hid (show Below V.heap.size V w12 from (B11.out.trans (hbl.mono B11.out.size)))
  have Q3 := Lib.hid (Q3.out.below hbl)
  have Q4 := Lib.hid (Q4.out.below hbl)
  have Q5 := Lib.hid hi
  clear hi hbl
  go_wp2_with fail
  refine (HMB.out _ _ _ Q4.out Q5.out).mono ?_
  rintro e w13 ⟨r13, rfl, hi, hbl⟩
  have B13 := Lib.hid (show Below V.heap.size V w13 from (B12.out.trans (hbl.mono B12.out.size)))
  have Q3 := Lib.hid (Q3.out.below hbl)
  have Q4 := Lib.hid (Q4.out.below hbl)
  have Q5 := Lib.hid (Q5.out.below hbl)
  have Q6 := Lib.hid hi
  clear hi hbl
  go_wp2_with fail
  refine (HC.out _ _ _ Q3.out Q6.out).mono ?_
  rintro e w14 ⟨rfl, hbl⟩
  have B14 := Lib.hid (show Below V.heap.size V w14 from (B13.out.trans (hbl.mono B13.out.size)))
  have Q3 := Lib.hid (Q3.out.below hbl)
  have Q4 := Lib.hid (Q4.out.below hbl)
  have Q5 := Lib.hid (Q5.out.below hbl)
  have Q6 := Lib.hid (Q6.out.below hbl)
  clear hbl
  obtain ⟨x0, x1⟩ := BX.out.below VS.out B14.out
  have R5w := Lib.hid (R5v.out.below B14.out)
  go_upto_region 10 with fail
  clear HD HR HQ HS HMY HMB HC HA0 HYF R1 R2 R3 R4 R5 Q1 Q2 Q3 Q4 Q5 Q6
  refine wp_region_any (by kernel_rfl) ?_
  try (change wpAny _ _ _ _ _ _ _ (World.drew _))
  refine wpAny_take (i := 0) (v := ?v0) rfl (by kernel_rfl) (by kernel_rfl) (by kernel_rfl) (fun _ _ _ h => h) (Or.inl ⟨by kernel_rfl, ?h0⟩) ?_
  case h0 => (intro w; go_simp); (try with_reducible rfl)
  refine wpAny_take (i := 1) (v := ?v1) rfl (by kernel_rfl) (by kernel_rfl) (by kernel_rfl) (fun _ _ _ h => h) (Or.inl ⟨by kernel_rfl, ?h1⟩) ?_
  case h1 => (intro w; go_simp); (try with_reducible rfl)
  refine wpAny_take (i := 2) (v := ?v2) rfl (by kernel_rfl) (by kernel_rfl) (by kernel_rfl) (fun _ _ _ h => h) (Or.inl ⟨by kernel_rfl, ?h2⟩) ?_
  case h2 => (intro w; go_simp); (try with_reducible rfl)
  refine wpAny_take (i := 3) (v := undef) rfl (by kernel_rfl) (by kernel_rfl) (by kernel_rfl) (fun _ _ _ h => h) (Or.inr ⟨by kernel_rfl, rfl⟩) ?_
  refine wpAny_take (i := 4) (v := undef) rfl (by kernel_rfl) (by kernel_rfl) (by kernel_rfl) (fun _ _ _ h => h) (Or.inr ⟨by kernel_rfl, rfl⟩) ?_
  refine wpAny_take (i := 5) (v := undef) rfl (by kernel_rfl) (by kernel_rfl) (by kernel_rfl) (fun _ _ _ h => h) (Or.inr ⟨by kernel_rfl, rfl⟩) ?_
  refine wpAny_take (i := 6) (v := undef) rfl (by kernel_rfl) (by kernel_rfl) (by kernel_rfl) (fun _ _ _ h => h) (Or.inr ⟨by kernel_rfl, rfl⟩) ?_
  refine wpAny_take (i := 7) (v := undef) rfl (by kernel_rfl) (by kernel_rfl) (by kernel_rfl) (fun _ _ _ h => h) (Or.inr ⟨by kernel_rfl, rfl⟩) ?_
  refine wpAny_take (i := 8) (v := undef) rfl (by kernel_rfl) (by kernel_rfl) (by kernel_rfl) (fun _ _ _ h => h) (Or.inr ⟨by kernel_rfl, rfl⟩) ?_
  refine wpAny_take (i := 9) (v := undef) rfl (by kernel_rfl) (by kernel_rfl) (by kernel_rfl) (fun _ _ _ h => h) (Or.inr ⟨by kernel_rfl, rfl⟩) ?_
  refine wpAny_take (i := 10) (v := undef) rfl (by kernel_rfl) (by kernel_rfl) (by kernel_rfl) (fun _ _ _ h => h) (Or.inr ⟨by kernel_rfl, rfl⟩) ?_
  refine wpAny_take (i := 11) (v := ?v11) rfl (by kernel_rfl) (by kernel_rfl) (by kernel_rfl) (fun _ _ _ h => h) (Or.inl ⟨by kernel_rfl, ?h11⟩) ?_
  case h11 => (intro w; go_simp); (try with_reducible rfl)
  refine wpAny_take (i := 12) (v := ?v12) rfl (by kernel_rfl) (by kernel_rfl) (by kernel_rfl) (fun _ _ _ h => h) (Or.inl ⟨by kernel_rfl, ?h12⟩) ?_
  case h12 => (intro w; go_simp); (try with_reducible rfl)
  refine wpAny_ready (rs := [13]) (by kernel_rfl) (by simp) ?_
  refine AllReady.cons rfl (fun K hK => ?_) AllReady.nil
  go_simp
  go_wp2_with (go_at_call 22; refine (awake1_any _).mono ?_; rintro e wa ⟨rfl, hbl⟩; have hbl2 : Below w14.heap.size w14 wa := (by first | exact hbl | exact below_undrew hbl); have BA := Lib.hid (B14.out.trans (hbl2.mono B14.out.size)); clear hbl hbl2)
  refine wpAny_take (i := 14) (v := ?v14) rfl (by kernel_rfl) (by kernel_rfl) (by kernel_rfl) (fun _ _ _ h => h) (Or.inl ⟨by kernel_rfl, ?h14⟩) ?_
  case h14 => (intro w; go_simp); (try with_reducible rfl)
  refine wpAny_take (i := 15) (v := ?v15) rfl (by kernel_rfl) (by kernel_rfl) (by kernel_rfl) (fun _ _ _ h => h) (Or.inl ⟨by kernel_rfl, ?h15⟩) ?_
  case h15 => (intro w; go_simp); (try with_reducible rfl)
  refine wpAny_done (by kernel_rfl) ?_ _
  go_wp2
  go_ret
  exact ⟨rfl, BW.out.trans (BA.out.mono BW.out.size)⟩

set_option maxRecDepth 100000 in
set_option maxHeartbeats 4000000 in
theorem walk_nout (a b : Int) (W : World) (ha : fits a) (hb : fits b) (h0 : b ≠ 0) (HY : ¬ fmd a b = 0) (HBP : b < 0) (HE : ¬ fits (flr a b)) :
    Calls Try.prog 4 #[.int .i64 a, .int .i64 b] W fun e w' => e = .returned (.bool true) ∧ Below W.heap.size W w' := by
  have HD := Lib.hid (fun w => div_any a b w ha hb)
  rw [show mulDiv a 1 b = quoS a b by unfold mulDiv quoS; rw [Int.mul_one]] at HD
  have HR := Lib.hid (fun w => mod_any a b w ha hb)
  have HO := Lib.hid (fun a w1 (ha : I64 a) => of_any a w1 ha.1 ha.2)
  have HQ := Lib.hid (fun w u v (hu : Is w u a) (hv : Is w v b) => quo_any a b u v w hu hv (md_i64 ha) hb)
  have HA0 := Lib.hid (show I64 a from ha)
  have HB0 := Lib.hid (show I64 b from hb)
  obtain ⟨g1, g2, g3, g4⟩ := fmd_range a b h0
  rw [show modS a b = (fmd a b, 0) from if_neg h0] at HR
  have hbz : ((b : Int) == 0) = false := by simpa using h0
  obtain ⟨y, hy⟩ : ∃ y, fmd a b = y := ⟨_, rfl⟩
  rw [hy] at HR g1 g2 g3 g4 HY
  have HY0 : fits y := by obtain ⟨b0, b1⟩ := hb; by_cases h : 0 < b; (have := g1 h; unfold fits; omega); (have := g2 (by omega); unfold fits; omega)
  have hyz : ((y : Int) != 0) = true := by simp [HY]
  have gy := g2 HBP
  have gy0 : y < 0 := by omega
  have HS := Lib.hid (fun w u v (hu : Is w u a) (hv : Is w v y) => subB_any u v a y w hu hv (sm_i64 ha) (sm_i64 HY0))
  have HMY := Lib.hid (fun w u v (hu : Is w u y) (hv : Is w v y) => mulB_any u v y y w hu hv (sm_i64 HY0) (sm_i64 HY0) (md_mul HY0 HY0).sm)
  have HMB := Lib.hid (fun w u v (hu : Is w u b) (hv : Is w v b) => mulB_any u v b b w hu hv (sm_i64 hb) (sm_i64 hb) (md_mul hb hb).sm)
  have HC := Lib.hid (fun w u v (hu : Is w u (y * y)) (hv : Is w v (b * b)) => cmpB_any u v (y * y) (b * b) w hu hv (md_mul HY0 HY0).sm (md_mul hb hb).sm)
  rw [show cmpI (y * y) (b * b) = -1 from if_pos g3] at HC
  obtain ⟨yy, hyy⟩ : ∃ z, y * y = z := ⟨_, rfl⟩
  obtain ⟨bb, hbb⟩ : ∃ z, b * b = z := ⟨_, rfl⟩
  rw [hyy] at HMY HC
  rw [hbb] at HMB HC
  have HYF := Lib.hid (show I64 y from HY0)
  clear hyy hbb g3 hy
  have hqq : quoS a b = (0, 8) := by rw [show quoS a b = fitted (flr a b) from if_neg h0, fitted_out HE]
  rw [hqq] at HD HQ
  obtain ⟨d, hd⟩ : ∃ z, a - y = z := ⟨_, rfl⟩
  rw [hd] at HS
  clear hqq hd HE
  clear g1 g2 g4 ha hb HY0
  go_enter Try.func4, Try.ntmps4
  go_wp2_with fail
  refine (HD.out _).mono ?_
  rintro e w1 ⟨rfl, hbl⟩
  have B1 := Lib.hid (show Below W.heap.size W w1 from hbl)
  clear hbl
  go_wp2_with fail
  refine (HR.out _).mono ?_
  rintro e w' ⟨rfl, rfl⟩
  go_wp2_with fail
  refine (HO.out _ _ HA0.out).mono ?_
  rintro e w2 ⟨r2, rfl, hi, hbl⟩
  have B2 := Lib.hid (show Below W.heap.size W w2 from (B1.out.trans (hbl.mono B1.out.size)))
  have R1 := Lib.hid hi
  clear hi hbl
  go_wp2_with fail
  refine (HO.out _ _ HB0.out).mono ?_
  rintro e w3 ⟨r3, rfl, hi, hbl⟩
  have B3 := Lib.hid (show Below W.heap.size W w3 from (B2.out.trans (hbl.mono B2.out.size)))
  have R1 := Lib.hid (R1.out.below hbl)
  have R2 := Lib.hid hi
  clear hi hbl
  go_wp2_with fail
  refine (HQ.out _ _ _ R1.out R2.out).mono ?_
  rintro e w4 ⟨rfl, hbl⟩
  have B4 := Lib.hid (show Below W.heap.size W w4 from (B3.out.trans (hbl.mono B3.out.size)))
  have R1 := Lib.hid (R1.out.below hbl)
  have R2 := Lib.hid (R2.out.below hbl)
  clear hbl
  go_wp2_with fail
  refine (HO.out _ _ HA0.out).mono ?_
  rintro e w5 ⟨r5, rfl, hi, hbl⟩
  have B5 := Lib.hid (show Below W.heap.size W w5 from (B4.out.trans (hbl.mono B4.out.size)))
  have R3 := Lib.hid hi
  clear hi hbl
  go_wp2_with fail
  refine (HO.out _ _ HYF.out).mono ?_
  rintro e w6 ⟨r6, rfl, hi, hbl⟩
  have B6 := Lib.hid (show Below W.heap.size W w6 from (B5.out.trans (hbl.mono B5.out.size)))
  have R3 := Lib.hid (R3.out.below hbl)
  have R4 := Lib.hid hi
  clear hi hbl
  go_wp2_with fail
  refine (HS.out _ _ _ R3.out R4.out).mono ?_
  rintro e w7 ⟨r7, rfl, hi, hbl⟩
  have B7 := Lib.hid (show Below W.heap.size W w7 from (B6.out.trans (hbl.mono B6.out.size)))
  have R3 := Lib.hid (R3.out.below hbl)
  have R4 := Lib.hid (R4.out.below hbl)
  have R5 := Lib.hid hi
  clear hi hbl
  obtain ⟨sa, scp, rfl, -⟩ := R5.out.form
  obtain ⟨bd, hbd⟩ : ∃ b, decide (d < 0) = b := ⟨_, rfl⟩
  obtain ⟨ld, hld⟩ : ∃ b, (canon d.natAbs).length = b := ⟨_, rfl⟩
  rw [hbd, hld] at R5 ⊢
  clear hbd hld
  have BX := Lib.hid (box_new w7 bd (.slice sa ld scp))
  have BW := Lib.hid (B7.out.alloc B7.out.size (.cells #[.bool bd, .slice sa ld scp] 29))
  go_upto_region 8 with fail
  obtain ⟨V, hV⟩ : ∃ V, w7.alloc (.cells #[.bool bd, .slice sa ld scp] 29) = V := ⟨_, rfl⟩
  have R5v := Lib.hid (R5.out.below (show Below w7.heap.size w7 V by rw [← hV]; exact (Below.refl _ _).alloc (Nat.le_refl _) _))
  have VS := Lib.hid (show w7.heap.size < V.heap.size by rw [← hV]; simp)
  rw [hV] at BX BW ⊢
  clear hV
  obtain ⟨p, hp⟩ : ∃ p, w7.heap.size = p := ⟨_, rfl⟩
  rw [hp] at BX VS ⊢
  clear hp
  go_wp2_with fail
  refine (HO.out _ _ HYF.out).mono ?_
  rintro e w8 ⟨r8, rfl, hi, hbl⟩
  have B8 := Lib.hid (show Below V.heap.size V w8 from hbl)
  have Q1 := Lib.hid hi
  clear hi hbl
  go_wp2_with fail
  refine (HO.out _ _ HYF.out).mono ?_
  rintro e w9 ⟨r9, rfl, hi, hbl⟩
  have B9 := Lib.hid (show Below V.heap.size V w9 from (B8.out.trans (hbl.mono B8.out.size)))
  have Q1 := Lib.hid (Q1.out.below hbl)
  have Q2 := Lib.hid hi
  clear hi hbl
  go_wp2_with fail
  refine (HMY.out _ _ _ Q1.out Q2.out).mono ?_
  rintro e w10 ⟨r10, rfl, hi, hbl⟩
  have B10 := Lib.hid (show Below V.heap.size V w10 from (B9.out.trans (hbl.mono B9.out.size)))
  have Q1 := Lib.hid (Q1.out.below hbl)
  have Q2 := Lib.hid (Q2.out.below hbl)
  have Q3 := Lib.hid hi
  clear hi hbl
  go_wp2_with fail
  refine (HO.out _ _ HB0.out).mono ?_
  rintro e w11 ⟨r11, rfl, hi, hbl⟩
  have B11 := Lib.hid (show Below V.heap.size V w11 from (B10.out.trans (hbl.mono B10.out.size)))
  have Q3 := Lib.hid (Q3.out.below hbl)
  have Q4 := Lib.hid hi
  clear hi hbl
  go_wp2_with fail
  refine (HO.out _ _ HB0.out).mono ?_
  rintro e w12 ⟨r12, rfl, hi, hbl⟩
  have B12 := Lib.hid (show Below V.heap.size V w12 from (B11.out.trans (hbl.mono B11.out.size)))
  have Q3 := Lib.hid (Q3.out.below hbl)
  have Q4 := Lib.hid (Q4.out.below hbl)
  have Q5 := Lib.hid hi
  clear hi hbl
  go_wp2_with fail
  refine (HMB.out _ _ _ Q4.out Q5.out).mono ?_
  rintro e w13 ⟨r13, rfl, hi, hbl⟩
  have B13 := Lib.hid (show Below V.heap.size V w13 from (B12.out.trans (hbl.mono B12.out.size)))
  have Q3 := Lib.hid (Q3.out.below hbl)
  have Q4 := Lib.hid (Q4.out.below hbl)
  have Q5 := Lib.hid (Q5.out.below hbl)
  have Q6 := Lib.hid hi
  clear hi hbl
  go_wp2_with fail
  refine (HC.out _ _ _ Q3.out Q6.out).mono ?_
  rintro e w14 ⟨rfl, hbl⟩
  have B14 := Lib.hid (show Below V.heap.size V w14 from (B13.out.trans (hbl.mono B13.out.size)))
  have Q3 := Lib.hid (Q3.out.below hbl)
  have Q4 := Lib.hid (Q4.out.below hbl)
  have Q5 := Lib.hid (Q5.out.below hbl)
  have Q6 := Lib.hid (Q6.out.below hbl)
  clear hbl
  obtain ⟨x0, x1⟩ := BX.out.below VS.out B14.out
  have R5w := Lib.hid (R5v.out.below B14.out)
  go_upto_region 10 with fail
  clear HD HR HQ HS HMY HMB HC HA0 HYF R1 R2 R3 R4 R5 Q1 Q2 Q3 Q4 Q5 Q6
  refine wp_region_any (by kernel_rfl) ?_
  try (change wpAny _ _ _ _ _ _ _ (World.drew _))
  refine wpAny_take (i := 0) (v := ?v0) rfl (by kernel_rfl) (by kernel_rfl) (by kernel_rfl) (fun _ _ _ h => h) (Or.inl ⟨by kernel_rfl, ?h0⟩) ?_
  case h0 => (intro w; go_simp); (try with_reducible rfl)
  refine wpAny_take (i := 1) (v := ?v1) rfl (by kernel_rfl) (by kernel_rfl) (by kernel_rfl) (fun _ _ _ h => h) (Or.inl ⟨by kernel_rfl, ?h1⟩) ?_
  case h1 => (intro w; go_simp); (try with_reducible rfl)
  refine wpAny_take (i := 2) (v := ?v2) rfl (by kernel_rfl) (by kernel_rfl) (by kernel_rfl) (fun _ _ _ h => h) (Or.inl ⟨by kernel_rfl, ?h2⟩) ?_
  case h2 => (intro w; go_simp); (try with_reducible rfl)
  refine wpAny_take (i := 3) (v := undef) rfl (by kernel_rfl) (by kernel_rfl) (by kernel_rfl) (fun _ _ _ h => h) (Or.inr ⟨by kernel_rfl, rfl⟩) ?_
  refine wpAny_take (i := 4) (v := undef) rfl (by kernel_rfl) (by kernel_rfl) (by kernel_rfl) (fun _ _ _ h => h) (Or.inr ⟨by kernel_rfl, rfl⟩) ?_
  refine wpAny_take (i := 5) (v := undef) rfl (by kernel_rfl) (by kernel_rfl) (by kernel_rfl) (fun _ _ _ h => h) (Or.inr ⟨by kernel_rfl, rfl⟩) ?_
  refine wpAny_take (i := 6) (v := undef) rfl (by kernel_rfl) (by kernel_rfl) (by kernel_rfl) (fun _ _ _ h => h) (Or.inr ⟨by kernel_rfl, rfl⟩) ?_
  refine wpAny_take (i := 7) (v := undef) rfl (by kernel_rfl) (by kernel_rfl) (by kernel_rfl) (fun _ _ _ h => h) (Or.inr ⟨by kernel_rfl, rfl⟩) ?_
  refine wpAny_take (i := 8) (v := undef) rfl (by kernel_rfl) (by kernel_rfl) (by kernel_rfl) (fun _ _ _ h => h) (Or.inr ⟨by kernel_rfl, rfl⟩) ?_
  refine wpAny_take (i := 9) (v := undef) rfl (by kernel_rfl) (by kernel_rfl) (by kernel_rfl) (fun _ _ _ h => h) (Or.inr ⟨by kernel_rfl, rfl⟩) ?_
  refine wpAny_take (i := 10) (v := undef) rfl (by kernel_rfl) (by kernel_rfl) (by kernel_rfl) (fun _ _ _ h => h) (Or.inr ⟨by kernel_rfl, rfl⟩) ?_
  refine wpAny_take (i := 11) (v := ?v11) rfl (by kernel_rfl) (by kernel_rfl) (by kernel_rfl) (fun _ _ _ h => h) (Or.inl ⟨by kernel_rfl, ?h11⟩) ?_
  case h11 => (intro w; go_simp); (try with_reducible rfl)
  refine wpAny_take (i := 12) (v := ?v12) rfl (by kernel_rfl) (by kernel_rfl) (by kernel_rfl) (fun _ _ _ h => h) (Or.inl ⟨by kernel_rfl, ?h12⟩) ?_
  case h12 => (intro w; go_simp); (try with_reducible rfl)
  refine wpAny_ready (rs := [13]) (by kernel_rfl) (by simp) ?_
  refine AllReady.cons rfl (fun K hK => ?_) AllReady.nil
  go_simp
  go_wp2_with (go_at_call 22; refine (awake1_any _).mono ?_; rintro e wa ⟨rfl, hbl⟩; have hbl2 : Below w14.heap.size w14 wa := (by first | exact hbl | exact below_undrew hbl); have BA := Lib.hid (B14.out.trans (hbl2.mono B14.out.size)); clear hbl hbl2)
  refine wpAny_take (i := 14) (v := ?v14) rfl (by kernel_rfl) (by kernel_rfl) (by kernel_rfl) (fun _ _ _ h => h) (Or.inl ⟨by kernel_rfl, ?h14⟩) ?_
  case h14 => (intro w; go_simp); (try with_reducible rfl)
  refine wpAny_take (i := 15) (v := ?v15) rfl (by kernel_rfl) (by kernel_rfl) (by kernel_rfl) (fun _ _ _ h => h) (Or.inl ⟨by kernel_rfl, ?h15⟩) ?_
  case h15 => (intro w; go_simp); (try with_reducible rfl)
  refine wpAny_done (by kernel_rfl) ?_ _
  go_wp2
  go_ret
  exact ⟨rfl, BW.out.trans (BA.out.mono BW.out.size)⟩

theorem walk (a b : Int) (W : World) (ha : fits a) (hb : fits b) :
    Calls Try.prog 4 #[.int .i64 a, .int .i64 b] W fun e w' => e = .returned (.bool true) ∧ Below W.heap.size W w' := by
  by_cases h0 : b = 0
  · exact walk_zero a b W ha hb h0
  · by_cases HE : fits (flr a b) <;> by_cases HY : fmd a b = 0
    · exact walk_0in a b W ha hb h0 HY HE
    · by_cases h : 0 < b
      · exact walk_pin a b W ha hb h0 HY h HE
      · exact walk_nin a b W ha hb h0 HY (by omega) HE
    · exact walk_0out a b W ha hb h0 HY HE
    · by_cases h : 0 < b
      · exact walk_pout a b W ha hb h0 HY h HE
      · exact walk_nout a b W ha hb h0 HY (by omega) HE


set_option maxRecDepth 100000 in
theorem lifted (os : Os) (started : os.Started) (H : Type) (enc : TypeId × Value → H) :
    ReturnsInHanded {} Try.checked os 4 .any (Rows.numDividesSpec.pre6 enc Try.prog Try.f4 Rows.numDividesRow.domain false) (Rows.numDividesSpec.post enc Try.prog Try.f4 false true false false) := by
  refine returnsInHanded_of_change (C := Try.checked) own started (by kernel_rfl) Try.func4
    (ChangeSpec.witness6 (enc := enc) (C := Try.checked) false ⟨#[], #[.int .i64 0, .int .i64 0], []⟩ 8 (by kernel_rfl) (by kernel_rfl) (by kernel_rfl) (by kernel_rfl)) ?_
  intro W base args ds gs before hval0 hW hcnd _
  have hval : ∀ (j : Nat) t v, Try.f4.params[j]? = some t → args[j]? = some v → Value.okWide Try.prog W .any base t v := hval0
  have hW' := hW
  obtain ⟨p, q, hA0, hV, rfl, hfz, hnd⟩ := hW
  have hA : DataW.TrodAll enc Try.prog W 0 (fun _ => true) true Try.f4.params.toList args.toList ds p := hA0
  rw [Try.params4] at hA hval
  obtain ⟨v0, vs0, d0, ds0, p0, q0, hargs, rfl, rfl, h0, r0⟩ := trodAll_cons hA
  obtain ⟨v1, vs1, d1, ds1, p1, q1, rfl, rfl, rfl, h1, r1⟩ := trodAll_cons r0
  obtain ⟨rfl, rfl, rfl⟩ := trodAll_nil r1
  obtain rfl : args = #[v0, v1] := by cases args; simp_all
  obtain ⟨rfl, rfl⟩ := trodVars_none hV
  obtain ⟨a0, rfl, rfl, rfl, w0⟩ := open_int Try.underlying2 (hval 0 2 v0 rfl rfl) h0
  obtain ⟨a1, rfl, rfl, rfl, w1⟩ := open_int Try.underlying2 (hval 1 2 v1 rfl rfl) h1
  clear hA0 hval0
  simp only [List.append_nil] at hW'
  refine (walk a0 a1  W (fits_of w0) (fits_of w1)).mono fun e W' ⟨he, hb⟩ => ?_
  subst he
  refine ⟨_, rfl, _, _, _, [], [], [], hW', ?_, ?_, ?_, hb.frame _, fun h => by cases h⟩
  · exact trodAll_cons_mk (shut_bool Try.underlying4 _) trodAll_mk0
  · exact (trodAll_cons_mk (shut_int Try.underlying2 w0) (trodAll_cons_mk (shut_int Try.underlying2 w1) trodAll_mk0))
  · rfl

theorem proved : Rows.NumDividesSaid :=
  OpenClaim.holds_of_wide 4 Try.f4 rfl rfl rfl rfl rfl rfl rfl ⟨rfl, rfl, rfl, rfl, rfl⟩ rfl rfl rfl rfl rfl (by kernel_rfl) Try.func4 (by kernel_rfl)
    (of_decide_eq_true (by kernel_rfl)) (by unfold Func.isWrapper; first | (rw [if_pos (by decide +kernel)]; kernel_rfl) | (rw [if_neg (by decide +kernel)]; exact ⟨rfl, rfl⟩))
    (fun os started H enc _ => lifted os started H enc)
#print axioms proved
end Go.Proofs.Ytikhgdbbbingbaa.NumDivides
