/- FixLerps: what lies between two numbers is as the document says, step by step. No conditions beyond the row's own. -/
import Derived.Test.YtikhgdbbbingbaaRows
import Derived.Test.YtikhgdbbbingbaaBigI
namespace Go.Proofs.Ytikhgdbbbingbaa.FixLerps
open Go Go.RowKit Go.Proofs.Ytikhgdbbbingbaa.Rt Go.Proofs.Ytikhgdbbbingbaa.Bg Go.Proofs.Ytikhgdbbbingbaa.Dg Go.ChangeShapes Go.WideShapes Go.ChangeAt
set_option linter.unusedVariables false

set_option maxRecDepth 100000 in
set_option maxHeartbeats 4000000 in
theorem walk_1 (a b t : Int) (W : World) (ha : fits a) (hb : fits b) (ht : fits t) (hd : ¬ fits (b - a)) :
    Calls Try.prog 15 #[.int .i64 a, .int .i64 b, .int .i64 t] W fun e w' => e = .returned (.bool true) ∧ Below W.heap.size W w' := by
  have HL := Lib.hid (fun w => lerp_any a b t w ha hb ht)
  have HO := Lib.hid (fun a w1 (ha : I64 a) => of_any a w1 ha.1 ha.2)
  have HA0 := Lib.hid (show I64 a from ha)
  have HB0 := Lib.hid (show I64 b from hb)
  have HT0 := Lib.hid (show I64 t from ht)
  have hds : Sm (b - a) := by obtain ⟨a0, a1⟩ := ha; obtain ⟨b0, b1⟩ := hb; unfold Sm; omega
  have HS := Lib.hid (fun w u v (hu : Is w u b) (hv : Is w v a) => subB_any u v b a w hu hv (sm_i64 hb) (sm_i64 ha))
  have HF1 := Lib.hid (fun w u (hu : Is w u (b - a)) => fitsB_any u (b - a) w hu hds)
  rw [decide_eq_false (show ¬ I64 (b - a) from hd)] at HF1
  rw [show lerp a b t = (0, 8) from if_neg hd] at HL
  obtain ⟨d, hdd⟩ : ∃ d, b - a = d := ⟨_, rfl⟩
  rw [hdd] at HS HF1
  clear hds hdd hd ha hb ht
  go_enter Try.func15, Try.ntmps15
  go_wp2_with fail
  refine (HL.out _).mono ?_
  rintro e w1 ⟨rfl, hbl⟩
  have B1 := Lib.hid (show Below W.heap.size W w1 from hbl)
  clear hbl
  go_wp2_with fail
  refine (HO.out _ _ HB0.out).mono ?_
  rintro e w2 ⟨r2, rfl, hi, hbl⟩
  have B2 := Lib.hid (show Below W.heap.size W w2 from (B1.out.trans (hbl.mono B1.out.size)))
  have R1 := Lib.hid hi
  clear hi hbl
  go_wp2_with fail
  refine (HO.out _ _ HA0.out).mono ?_
  rintro e w3 ⟨r3, rfl, hi, hbl⟩
  have B3 := Lib.hid (show Below W.heap.size W w3 from (B2.out.trans (hbl.mono B2.out.size)))
  have R1 := Lib.hid (R1.out.below hbl)
  have R2 := Lib.hid hi
  clear hi hbl
  go_wp2_with fail
  refine (HS.out _ _ _ R1.out R2.out).mono ?_
  rintro e w4 ⟨r4, rfl, hi, hbl⟩
  have B4 := Lib.hid (show Below W.heap.size W w4 from (B3.out.trans (hbl.mono B3.out.size)))
  have R1 := Lib.hid (R1.out.below hbl)
  have R2 := Lib.hid (R2.out.below hbl)
  have R3 := Lib.hid hi
  clear hi hbl
  obtain ⟨saBX, scpBX, rfl, -⟩ := R3.out.form
  obtain ⟨bdBX, hbd⟩ : ∃ b, decide (d < 0) = b := ⟨_, rfl⟩
  obtain ⟨ldBX, hld⟩ : ∃ b, (canon (d).natAbs).length = b := ⟨_, rfl⟩
  rw [hbd, hld] at R3 ⊢
  clear hbd hld
  have BX := Lib.hid (box_new w4 bdBX (.slice saBX ldBX scpBX))
  have BXB := Lib.hid (B4.out.alloc B4.out.size (.cells #[.bool bdBX, .slice saBX ldBX scpBX] 29))
  go_upto_region 3 with fail
  obtain ⟨V, hV⟩ : ∃ V, w4.alloc (.cells #[.bool bdBX, .slice saBX ldBX scpBX] 29) = V := ⟨_, rfl⟩
  have BXI := Lib.hid (R3.out.below (show Below w4.heap.size w4 V by rw [← hV]; exact (Below.refl _ _).alloc (Nat.le_refl _) _))
  have BXS := Lib.hid (show w4.heap.size < V.heap.size by rw [← hV]; simp)
  rw [hV] at BX BXB ⊢
  clear hV
  obtain ⟨p, hp⟩ : ∃ p, w4.heap.size = p := ⟨_, rfl⟩
  rw [hp] at BX BXS ⊢
  clear hp
  clear R1 R2 R3 HS
  obtain ⟨x0, x1⟩ := BX.out
  go_wp2_with fail
  refine (HF1.out _ _ BXI.out).mono ?_
  rintro e w5 ⟨rfl, hbl⟩
  have B5 := Lib.hid (show Below W.heap.size W w5 from (BXB.out.trans (hbl.mono BXB.out.size)))
  clear hbl
  go_wp2_with fail
  refine (awake2_any _).mono ?_
  rintro e w6 ⟨rfl, hbl⟩
  have B6 := Lib.hid (show Below W.heap.size W w6 from (B5.out.trans (hbl.mono B5.out.size)))
  clear hbl
  go_wp2
  go_ret
  exact ⟨rfl, B6.out⟩

set_option maxRecDepth 100000 in
set_option maxHeartbeats 4000000 in
theorem walk_2 (a b t : Int) (W : World) (ha : fits a) (hb : fits b) (ht : fits t) (hd : fits (b - a)) (hm : ¬ fits ((b - a) * t / 65536)) :
    Calls Try.prog 15 #[.int .i64 a, .int .i64 b, .int .i64 t] W fun e w' => e = .returned (.bool true) ∧ Below W.heap.size W w' := by
  have HL := Lib.hid (fun w => lerp_any a b t w ha hb ht)
  have HO := Lib.hid (fun a w1 (ha : I64 a) => of_any a w1 ha.1 ha.2)
  have HA0 := Lib.hid (show I64 a from ha)
  have HB0 := Lib.hid (show I64 b from hb)
  have HT0 := Lib.hid (show I64 t from ht)
  have hds : Sm (b - a) := by obtain ⟨a0, a1⟩ := ha; obtain ⟨b0, b1⟩ := hb; unfold Sm; omega
  have HS := Lib.hid (fun w u v (hu : Is w u b) (hv : Is w v a) => subB_any u v b a w hu hv (sm_i64 hb) (sm_i64 ha))
  have HF1 := Lib.hid (fun w u (hu : Is w u (b - a)) => fitsB_any u (b - a) w hu hds)
  rw [decide_eq_true (show I64 (b - a) from hd)] at HF1
  have HM := Lib.hid (fun w u v (hu : Is w u (b - a)) (hv : Is w v t) => mulB_any u v (b - a) t w hu hv (sm_i64 hd) (sm_i64 ht) (md_mul hd ht).sm)
  have HFL := Lib.hid (fun w u (hu : Is w u ((b - a) * t)) => floor2_any u ((b - a) * t) w hu (md_mul hd ht).sm)
  rw [show lerp a b t = (0, 8) by unfold lerp; rw [if_pos hd, if_neg hm]] at HL
  have hfz : floorS ((b - a) * t) = (0, false) := if_neg hm
  have HAD := Lib.hid (fun w u v (hu : Is w u a) (hv : Is w v 0) => addB_any u v a 0 w hu hv (sm_i64 ha) (by unfold Sm; omega))
  have HN0 := Lib.hid (show I64 0 from ⟨by omega, by omega⟩)
  have has := sm_i64 ha
  rw [Int.add_zero] at HAD
  unfold FloorPost at HFL
  rw [hfz] at HFL
  obtain ⟨d, hdd⟩ : ∃ d, b - a = d := ⟨_, rfl⟩
  rw [hdd] at HS HF1 HM HFL
  obtain ⟨z, hz⟩ : ∃ z, d * t = z := ⟨_, rfl⟩
  rw [hz] at HM HFL
  clear hfz hdd hz hds hd hm ha hb ht has
  go_enter Try.func15, Try.ntmps15
  go_wp2_with fail
  refine (HL.out _).mono ?_
  rintro e w1 ⟨rfl, hbl⟩
  have B1 := Lib.hid (show Below W.heap.size W w1 from hbl)
  clear hbl
  go_wp2_with fail
  refine (HO.out _ _ HB0.out).mono ?_
  rintro e w2 ⟨r2, rfl, hi, hbl⟩
  have B2 := Lib.hid (show Below W.heap.size W w2 from (B1.out.trans (hbl.mono B1.out.size)))
  have R1 := Lib.hid hi
  clear hi hbl
  go_wp2_with fail
  refine (HO.out _ _ HA0.out).mono ?_
  rintro e w3 ⟨r3, rfl, hi, hbl⟩
  have B3 := Lib.hid (show Below W.heap.size W w3 from (B2.out.trans (hbl.mono B2.out.size)))
  have R1 := Lib.hid (R1.out.below hbl)
  have R2 := Lib.hid hi
  clear hi hbl
  go_wp2_with fail
  refine (HS.out _ _ _ R1.out R2.out).mono ?_
  rintro e w4 ⟨r4, rfl, hi, hbl⟩
  have B4 := Lib.hid (show Below W.heap.size W w4 from (B3.out.trans (hbl.mono B3.out.size)))
  have R1 := Lib.hid (R1.out.below hbl)
  have R2 := Lib.hid (R2.out.below hbl)
  have R3 := Lib.hid hi
  clear hi hbl
  obtain ⟨saBX, scpBX, rfl, -⟩ := R3.out.form
  obtain ⟨bdBX, hbd⟩ : ∃ b, decide (d < 0) = b := ⟨_, rfl⟩
  obtain ⟨ldBX, hld⟩ : ∃ b, (canon (d).natAbs).length = b := ⟨_, rfl⟩
  rw [hbd, hld] at R3 ⊢
  clear hbd hld
  have BX := Lib.hid (box_new w4 bdBX (.slice saBX ldBX scpBX))
  have BXB := Lib.hid (B4.out.alloc B4.out.size (.cells #[.bool bdBX, .slice saBX ldBX scpBX] 29))
  go_upto_region 3 with fail
  obtain ⟨V, hV⟩ : ∃ V, w4.alloc (.cells #[.bool bdBX, .slice saBX ldBX scpBX] 29) = V := ⟨_, rfl⟩
  have BXI := Lib.hid (R3.out.below (show Below w4.heap.size w4 V by rw [← hV]; exact (Below.refl _ _).alloc (Nat.le_refl _) _))
  have BXS := Lib.hid (show w4.heap.size < V.heap.size by rw [← hV]; simp)
  rw [hV] at BX BXB ⊢
  clear hV
  obtain ⟨p, hp⟩ : ∃ p, w4.heap.size = p := ⟨_, rfl⟩
  rw [hp] at BX BXS ⊢
  clear hp
  clear R1 R2 R3 HS
  obtain ⟨x0, x1⟩ := BX.out
  go_wp2_with fail
  refine (HF1.out _ _ BXI.out).mono ?_
  rintro e w5 ⟨rfl, hbl⟩
  have B5 := Lib.hid (show Below W.heap.size W w5 from (BXB.out.trans (hbl.mono BXB.out.size)))
  have hbm5 := Lib.hid hbl
  clear hbl
  obtain ⟨y0, y1⟩ := BX.out.below BXS.out hbm5.out
  go_upto_region 5 with fail
  go_region_held3 (fun w' => w'.cell? ⟨p, 0, none⟩ = some (.bool bdBX) ∧ w'.cell? ⟨p, 1, none⟩ = some (.slice saBX ldBX scpBX)) (first | exact ⟨y0', y1'⟩ | go_keep)
    (first
      | (go_at_call 51; refine (HFL.out _ _ Z2.out).mono ?_; rintro e wz3 ⟨rfl, hbl⟩; have Z3b := Lib.hid (Z2b.out.trans (hbl.mono Z2b.out.size)); (try clear y0' y1'); have hx' := BX.out.below BXS.out Z3b.out; have y0' := hx'.1; have y1' := hx'.2; clear hx'; clear hbl)
      | (go_at_call 28; refine (HM.out _ _ _ (BXI.out.below Z1b.out) Z1.out).mono ?_; rintro e wz2 ⟨r, rfl, hi, hbl⟩; have Z2b := Lib.hid (Z1b.out.trans (hbl.mono Z1b.out.size)); have Z2 := Lib.hid hi; (try clear y0' y1'); have hx' := BX.out.below BXS.out Z2b.out; have y0' := hx'.1; have y1' := hx'.2; clear hx'; clear hbl hi)
      | (go_at_call 26; refine (HO.out _ _ HT0.out).mono ?_; rintro e wz1 ⟨r, rfl, hi, hbl⟩; have hbl2 : Below w5.heap.size w5 wz1 := (by first | exact hbl | exact below_undrew hbl); have Z1b := Lib.hid (hbm5.out.trans (hbl2.mono hbm5.out.size)); have Z1 := Lib.hid hi; (try clear y0' y1'); have hx' := BX.out.below BXS.out Z1b.out; have y0' := hx'.1; have y1' := hx'.2; clear hx'; clear hbl hbl2 hi))
  have BZ := Lib.hid (BXB.out.trans (Z3b.out.mono BXB.out.size))
  clear Z1 Z1b Z2 Z2b HM HFL HF1
  go_wp2_with fail
  refine (HO.out _ _ HA0.out).mono ?_
  rintro e w6 ⟨r6, rfl, hi, hbl⟩
  have B6 := Lib.hid (show Below W.heap.size W w6 from (BZ.out.trans (hbl.mono BZ.out.size)))
  have R4 := Lib.hid hi
  clear hi hbl
  go_wp2_with fail
  refine (HO.out _ _ HN0.out).mono ?_
  rintro e w7 ⟨r7, rfl, hi, hbl⟩
  have B7 := Lib.hid (show Below W.heap.size W w7 from (B6.out.trans (hbl.mono B6.out.size)))
  have R4 := Lib.hid (R4.out.below hbl)
  have R5 := Lib.hid hi
  clear hi hbl
  go_wp2_with fail
  refine (HAD.out _ _ _ R4.out R5.out).mono ?_
  rintro e w8 ⟨r8, rfl, hi, hbl⟩
  have B8 := Lib.hid (show Below W.heap.size W w8 from (B7.out.trans (hbl.mono B7.out.size)))
  have R4 := Lib.hid (R4.out.below hbl)
  have R5 := Lib.hid (R5.out.below hbl)
  have R6 := Lib.hid hi
  clear hi hbl
  obtain ⟨saBY, scpBY, rfl, -⟩ := R6.out.form
  obtain ⟨bdBY, hbd⟩ : ∃ b, decide (a < 0) = b := ⟨_, rfl⟩
  obtain ⟨ldBY, hld⟩ : ∃ b, (canon (a).natAbs).length = b := ⟨_, rfl⟩
  rw [hbd, hld] at R6 ⊢
  clear hbd hld
  have BY := Lib.hid (box_new w8 bdBY (.slice saBY ldBY scpBY))
  have BYB := Lib.hid (B8.out.alloc B8.out.size (.cells #[.bool bdBY, .slice saBY ldBY scpBY] 29))
  go_upto_region 7 with fail
  obtain ⟨U, hV⟩ : ∃ V, w8.alloc (.cells #[.bool bdBY, .slice saBY ldBY scpBY] 29) = V := ⟨_, rfl⟩
  have BYI := Lib.hid (R6.out.below (show Below w8.heap.size w8 U by rw [← hV]; exact (Below.refl _ _).alloc (Nat.le_refl _) _))
  have BYS := Lib.hid (show w8.heap.size < U.heap.size by rw [← hV]; simp)
  rw [hV] at BY BYB ⊢
  clear hV
  obtain ⟨q, hp⟩ : ∃ p, w8.heap.size = p := ⟨_, rfl⟩
  rw [hp] at BY BYS ⊢
  clear hp
  clear R4 R5 R6 HAD
  go_wp2_with fail
  refine (awake2_any _).mono ?_
  rintro e w9 ⟨rfl, hbl⟩
  have B9 := Lib.hid (show Below W.heap.size W w9 from (BYB.out.trans (hbl.mono BYB.out.size)))
  clear hbl
  go_wp2
  go_ret
  exact ⟨rfl, B9.out⟩

set_option maxRecDepth 100000 in
set_option maxHeartbeats 4000000 in
theorem walk_3 (a b t : Int) (W : World) (ha : fits a) (hb : fits b) (ht : fits t) (hd : fits (b - a)) (hm : fits ((b - a) * t / 65536)) (hs : ¬ fits (a + (b - a) * t / 65536)) :
    Calls Try.prog 15 #[.int .i64 a, .int .i64 b, .int .i64 t] W fun e w' => e = .returned (.bool true) ∧ Below W.heap.size W w' := by
  have HL := Lib.hid (fun w => lerp_any a b t w ha hb ht)
  have HO := Lib.hid (fun a w1 (ha : I64 a) => of_any a w1 ha.1 ha.2)
  have HA0 := Lib.hid (show I64 a from ha)
  have HB0 := Lib.hid (show I64 b from hb)
  have HT0 := Lib.hid (show I64 t from ht)
  have hds : Sm (b - a) := by obtain ⟨a0, a1⟩ := ha; obtain ⟨b0, b1⟩ := hb; unfold Sm; omega
  have HS := Lib.hid (fun w u v (hu : Is w u b) (hv : Is w v a) => subB_any u v b a w hu hv (sm_i64 hb) (sm_i64 ha))
  have HF1 := Lib.hid (fun w u (hu : Is w u (b - a)) => fitsB_any u (b - a) w hu hds)
  rw [decide_eq_true (show I64 (b - a) from hd)] at HF1
  have HM := Lib.hid (fun w u v (hu : Is w u (b - a)) (hv : Is w v t) => mulB_any u v (b - a) t w hu hv (sm_i64 hd) (sm_i64 ht) (md_mul hd ht).sm)
  have HFL := Lib.hid (fun w u (hu : Is w u ((b - a) * t)) => floor2_any u ((b - a) * t) w hu (md_mul hd ht).sm)
  rw [show lerp a b t = (0, 8) by unfold lerp; rw [if_pos hd, if_pos hm, fitted_out hs]] at HL
  have hmm : fits ((b - a) * t / 65536) := hm
  have hfz : floorS ((b - a) * t) = ((b - a) * t / 65536, true) := if_pos hm
  have HAD := Lib.hid (fun w u v (hu : Is w u a) (hv : Is w v ((b - a) * t / 65536)) => addB_any u v a ((b - a) * t / 65536) w hu hv (sm_i64 ha) (sm_i64 hm))
  have HN0 := Lib.hid (show I64 ((b - a) * t / 65536) from hm)
  have hss : Sm (a + (b - a) * t / 65536) := by unfold fits at ha hm; unfold Sm; omega
  have HF2 := Lib.hid (fun w u (hu : Is w u (a + (b - a) * t / 65536)) => fitsB_any u (a + (b - a) * t / 65536) w hu hss)
  unfold FloorPost at HFL
  rw [hfz] at HFL
  rw [decide_eq_false (show ¬ I64 (a + (b - a) * t / 65536) from hs)] at HF2
  obtain ⟨d, hdd⟩ : ∃ d, b - a = d := ⟨_, rfl⟩
  rw [hdd] at HS HF1 HM HFL HAD HN0 HF2 
  obtain ⟨z, hz⟩ : ∃ z, d * t = z := ⟨_, rfl⟩
  rw [hz] at HM HFL HAD HN0 HF2 
  obtain ⟨m, hm2⟩ : ∃ m, z / 65536 = m := ⟨_, rfl⟩
  rw [hm2] at HFL HAD HN0 HF2 
  obtain ⟨s, hs2⟩ : ∃ s, a + m = s := ⟨_, rfl⟩
  rw [hs2] at HAD HF2 
  clear hfz hdd hz hds hd hm hmm hss hm2 hs2 hs ha hb ht
  go_enter Try.func15, Try.ntmps15
  go_wp2_with fail
  refine (HL.out _).mono ?_
  rintro e w1 ⟨rfl, hbl⟩
  have B1 := Lib.hid (show Below W.heap.size W w1 from hbl)
  clear hbl
  go_wp2_with fail
  refine (HO.out _ _ HB0.out).mono ?_
  rintro e w2 ⟨r2, rfl, hi, hbl⟩
  have B2 := Lib.hid (show Below W.heap.size W w2 from (B1.out.trans (hbl.mono B1.out.size)))
  have R1 := Lib.hid hi
  clear hi hbl
  go_wp2_with fail
  refine (HO.out _ _ HA0.out).mono ?_
  rintro e w3 ⟨r3, rfl, hi, hbl⟩
  have B3 := Lib.hid (show Below W.heap.size W w3 from (B2.out.trans (hbl.mono B2.out.size)))
  have R1 := Lib.hid (R1.out.below hbl)
  have R2 := Lib.hid hi
  clear hi hbl
  go_wp2_with fail
  refine (HS.out _ _ _ R1.out R2.out).mono ?_
  rintro e w4 ⟨r4, rfl, hi, hbl⟩
  have B4 := Lib.hid (show Below W.heap.size W w4 from (B3.out.trans (hbl.mono B3.out.size)))
  have R1 := Lib.hid (R1.out.below hbl)
  have R2 := Lib.hid (R2.out.below hbl)
  have R3 := Lib.hid hi
  clear hi hbl
  obtain ⟨saBX, scpBX, rfl, -⟩ := R3.out.form
  obtain ⟨bdBX, hbd⟩ : ∃ b, decide (d < 0) = b := ⟨_, rfl⟩
  obtain ⟨ldBX, hld⟩ : ∃ b, (canon (d).natAbs).length = b := ⟨_, rfl⟩
  rw [hbd, hld] at R3 ⊢
  clear hbd hld
  have BX := Lib.hid (box_new w4 bdBX (.slice saBX ldBX scpBX))
  have BXB := Lib.hid (B4.out.alloc B4.out.size (.cells #[.bool bdBX, .slice saBX ldBX scpBX] 29))
  go_upto_region 3 with fail
  obtain ⟨V, hV⟩ : ∃ V, w4.alloc (.cells #[.bool bdBX, .slice saBX ldBX scpBX] 29) = V := ⟨_, rfl⟩
  have BXI := Lib.hid (R3.out.below (show Below w4.heap.size w4 V by rw [← hV]; exact (Below.refl _ _).alloc (Nat.le_refl _) _))
  have BXS := Lib.hid (show w4.heap.size < V.heap.size by rw [← hV]; simp)
  rw [hV] at BX BXB ⊢
  clear hV
  obtain ⟨p, hp⟩ : ∃ p, w4.heap.size = p := ⟨_, rfl⟩
  rw [hp] at BX BXS ⊢
  clear hp
  clear R1 R2 R3 HS
  obtain ⟨x0, x1⟩ := BX.out
  go_wp2_with fail
  refine (HF1.out _ _ BXI.out).mono ?_
  rintro e w5 ⟨rfl, hbl⟩
  have B5 := Lib.hid (show Below W.heap.size W w5 from (BXB.out.trans (hbl.mono BXB.out.size)))
  have hbm5 := Lib.hid hbl
  clear hbl
  obtain ⟨y0, y1⟩ := BX.out.below BXS.out hbm5.out
  go_upto_region 5 with fail
  go_region_held3 (fun w' => w'.cell? ⟨p, 0, none⟩ = some (.bool bdBX) ∧ w'.cell? ⟨p, 1, none⟩ = some (.slice saBX ldBX scpBX)) (first | exact ⟨y0', y1'⟩ | go_keep)
    (first
      | (go_at_call 51; refine (HFL.out _ _ Z2.out).mono ?_; rintro e wz3 ⟨rfl, hbl⟩; have Z3b := Lib.hid (Z2b.out.trans (hbl.mono Z2b.out.size)); (try clear y0' y1'); have hx' := BX.out.below BXS.out Z3b.out; have y0' := hx'.1; have y1' := hx'.2; clear hx'; clear hbl)
      | (go_at_call 28; refine (HM.out _ _ _ (BXI.out.below Z1b.out) Z1.out).mono ?_; rintro e wz2 ⟨r, rfl, hi, hbl⟩; have Z2b := Lib.hid (Z1b.out.trans (hbl.mono Z1b.out.size)); have Z2 := Lib.hid hi; (try clear y0' y1'); have hx' := BX.out.below BXS.out Z2b.out; have y0' := hx'.1; have y1' := hx'.2; clear hx'; clear hbl hi)
      | (go_at_call 26; refine (HO.out _ _ HT0.out).mono ?_; rintro e wz1 ⟨r, rfl, hi, hbl⟩; have hbl2 : Below w5.heap.size w5 wz1 := (by first | exact hbl | exact below_undrew hbl); have Z1b := Lib.hid (hbm5.out.trans (hbl2.mono hbm5.out.size)); have Z1 := Lib.hid hi; (try clear y0' y1'); have hx' := BX.out.below BXS.out Z1b.out; have y0' := hx'.1; have y1' := hx'.2; clear hx'; clear hbl hbl2 hi))
  have BZ := Lib.hid (BXB.out.trans (Z3b.out.mono BXB.out.size))
  clear Z1 Z1b Z2 Z2b HM HFL HF1
  go_wp2_with fail
  refine (HO.out _ _ HA0.out).mono ?_
  rintro e w6 ⟨r6, rfl, hi, hbl⟩
  have B6 := Lib.hid (show Below W.heap.size W w6 from (BZ.out.trans (hbl.mono BZ.out.size)))
  have R4 := Lib.hid hi
  clear hi hbl
  go_wp2_with fail
  refine (HO.out _ _ HN0.out).mono ?_
  rintro e w7 ⟨r7, rfl, hi, hbl⟩
  have B7 := Lib.hid (show Below W.heap.size W w7 from (B6.out.trans (hbl.mono B6.out.size)))
  have R4 := Lib.hid (R4.out.below hbl)
  have R5 := Lib.hid hi
  clear hi hbl
  go_wp2_with fail
  refine (HAD.out _ _ _ R4.out R5.out).mono ?_
  rintro e w8 ⟨r8, rfl, hi, hbl⟩
  have B8 := Lib.hid (show Below W.heap.size W w8 from (B7.out.trans (hbl.mono B7.out.size)))
  have R4 := Lib.hid (R4.out.below hbl)
  have R5 := Lib.hid (R5.out.below hbl)
  have R6 := Lib.hid hi
  clear hi hbl
  obtain ⟨saBY, scpBY, rfl, -⟩ := R6.out.form
  obtain ⟨bdBY, hbd⟩ : ∃ b, decide (s < 0) = b := ⟨_, rfl⟩
  obtain ⟨ldBY, hld⟩ : ∃ b, (canon (s).natAbs).length = b := ⟨_, rfl⟩
  rw [hbd, hld] at R6 ⊢
  clear hbd hld
  have BY := Lib.hid (box_new w8 bdBY (.slice saBY ldBY scpBY))
  have BYB := Lib.hid (B8.out.alloc B8.out.size (.cells #[.bool bdBY, .slice saBY ldBY scpBY] 29))
  go_upto_region 7 with fail
  obtain ⟨U, hV⟩ : ∃ V, w8.alloc (.cells #[.bool bdBY, .slice saBY ldBY scpBY] 29) = V := ⟨_, rfl⟩
  have BYI := Lib.hid (R6.out.below (show Below w8.heap.size w8 U by rw [← hV]; exact (Below.refl _ _).alloc (Nat.le_refl _) _))
  have BYS := Lib.hid (show w8.heap.size < U.heap.size by rw [← hV]; simp)
  rw [hV] at BY BYB ⊢
  clear hV
  obtain ⟨q, hp⟩ : ∃ p, w8.heap.size = p := ⟨_, rfl⟩
  rw [hp] at BY BYS ⊢
  clear hp
  clear R4 R5 R6 HAD
  obtain ⟨z0, z1⟩ := BY.out
  go_wp2_with fail
  refine (HF2.out _ _ BYI.out).mono ?_
  rintro e w9 ⟨rfl, hbl⟩
  have B9 := Lib.hid (show Below W.heap.size W w9 from (BYB.out.trans (hbl.mono BYB.out.size)))
  clear hbl
  go_wp2_with fail
  refine (awake2_any _).mono ?_
  rintro e w10 ⟨rfl, hbl⟩
  have B10 := Lib.hid (show Below W.heap.size W w10 from (B9.out.trans (hbl.mono B9.out.size)))
  clear hbl
  go_wp2
  go_ret
  exact ⟨rfl, B10.out⟩

set_option maxRecDepth 100000 in
set_option maxHeartbeats 4000000 in
theorem walk_4 (a b t : Int) (W : World) (ha : fits a) (hb : fits b) (ht : fits t) (hd : fits (b - a)) (hm : fits ((b - a) * t / 65536)) (hs : fits (a + (b - a) * t / 65536)) :
    Calls Try.prog 15 #[.int .i64 a, .int .i64 b, .int .i64 t] W fun e w' => e = .returned (.bool true) ∧ Below W.heap.size W w' := by
  have HL := Lib.hid (fun w => lerp_any a b t w ha hb ht)
  have HO := Lib.hid (fun a w1 (ha : I64 a) => of_any a w1 ha.1 ha.2)
  have HA0 := Lib.hid (show I64 a from ha)
  have HB0 := Lib.hid (show I64 b from hb)
  have HT0 := Lib.hid (show I64 t from ht)
  have hds : Sm (b - a) := by obtain ⟨a0, a1⟩ := ha; obtain ⟨b0, b1⟩ := hb; unfold Sm; omega
  have HS := Lib.hid (fun w u v (hu : Is w u b) (hv : Is w v a) => subB_any u v b a w hu hv (sm_i64 hb) (sm_i64 ha))
  have HF1 := Lib.hid (fun w u (hu : Is w u (b - a)) => fitsB_any u (b - a) w hu hds)
  rw [decide_eq_true (show I64 (b - a) from hd)] at HF1
  have HM := Lib.hid (fun w u v (hu : Is w u (b - a)) (hv : Is w v t) => mulB_any u v (b - a) t w hu hv (sm_i64 hd) (sm_i64 ht) (md_mul hd ht).sm)
  have HFL := Lib.hid (fun w u (hu : Is w u ((b - a) * t)) => floor2_any u ((b - a) * t) w hu (md_mul hd ht).sm)
  rw [show lerp a b t = (a + (b - a) * t / 65536, 0) by unfold lerp; rw [if_pos hd, if_pos hm, fitted_in hs]] at HL
  have hmm : fits ((b - a) * t / 65536) := hm
  have hfz : floorS ((b - a) * t) = ((b - a) * t / 65536, true) := if_pos hm
  have HAD := Lib.hid (fun w u v (hu : Is w u a) (hv : Is w v ((b - a) * t / 65536)) => addB_any u v a ((b - a) * t / 65536) w hu hv (sm_i64 ha) (sm_i64 hm))
  have HN0 := Lib.hid (show I64 ((b - a) * t / 65536) from hm)
  have hss : Sm (a + (b - a) * t / 65536) := by unfold fits at ha hm; unfold Sm; omega
  have HF2 := Lib.hid (fun w u (hu : Is w u (a + (b - a) * t / 65536)) => fitsB_any u (a + (b - a) * t / 65536) w hu hss)
  unfold FloorPost at HFL
  rw [hfz] at HFL
  rw [decide_eq_true (show I64 (a + (b - a) * t / 65536) from hs)] at HF2
  have HIS := Lib.hid (fun w v (hv : Is w v (a + (b - a) * t / 65536)) => isB_any v (a + (b - a) * t / 65536) (a + (b - a) * t / 65536) w hv hss hs)
  rw [cmp_self, show decide ((0 : Int) = 0) = true from rfl] at HIS
  obtain ⟨d, hdd⟩ : ∃ d, b - a = d := ⟨_, rfl⟩
  rw [hdd] at HS HF1 HM HFL HAD HN0 HF2 HL HIS
  obtain ⟨z, hz⟩ : ∃ z, d * t = z := ⟨_, rfl⟩
  rw [hz] at HM HFL HAD HN0 HF2 HL HIS
  obtain ⟨m, hm2⟩ : ∃ m, z / 65536 = m := ⟨_, rfl⟩
  rw [hm2] at HFL HAD HN0 HF2 HL HIS
  obtain ⟨s, hs2⟩ : ∃ s, a + m = s := ⟨_, rfl⟩
  rw [hs2] at HAD HF2 HL HIS
  clear hfz hdd hz hds hd hm hmm hss hm2 hs2 hs ha hb ht
  go_enter Try.func15, Try.ntmps15
  go_wp2_with fail
  refine (HL.out _).mono ?_
  rintro e w1 ⟨rfl, hbl⟩
  have B1 := Lib.hid (show Below W.heap.size W w1 from hbl)
  clear hbl
  go_wp2_with fail
  refine (HO.out _ _ HB0.out).mono ?_
  rintro e w2 ⟨r2, rfl, hi, hbl⟩
  have B2 := Lib.hid (show Below W.heap.size W w2 from (B1.out.trans (hbl.mono B1.out.size)))
  have R1 := Lib.hid hi
  clear hi hbl
  go_wp2_with fail
  refine (HO.out _ _ HA0.out).mono ?_
  rintro e w3 ⟨r3, rfl, hi, hbl⟩
  have B3 := Lib.hid (show Below W.heap.size W w3 from (B2.out.trans (hbl.mono B2.out.size)))
  have R1 := Lib.hid (R1.out.below hbl)
  have R2 := Lib.hid hi
  clear hi hbl
  go_wp2_with fail
  refine (HS.out _ _ _ R1.out R2.out).mono ?_
  rintro e w4 ⟨r4, rfl, hi, hbl⟩
  have B4 := Lib.hid (show Below W.heap.size W w4 from (B3.out.trans (hbl.mono B3.out.size)))
  have R1 := Lib.hid (R1.out.below hbl)
  have R2 := Lib.hid (R2.out.below hbl)
  have R3 := Lib.hid hi
  clear hi hbl
  obtain ⟨saBX, scpBX, rfl, -⟩ := R3.out.form
  obtain ⟨bdBX, hbd⟩ : ∃ b, decide (d < 0) = b := ⟨_, rfl⟩
  obtain ⟨ldBX, hld⟩ : ∃ b, (canon (d).natAbs).length = b := ⟨_, rfl⟩
  rw [hbd, hld] at R3 ⊢
  clear hbd hld
  have BX := Lib.hid (box_new w4 bdBX (.slice saBX ldBX scpBX))
  have BXB := Lib.hid (B4.out.alloc B4.out.size (.cells #[.bool bdBX, .slice saBX ldBX scpBX] 29))
  go_upto_region 3 with fail
  obtain ⟨V, hV⟩ : ∃ V, w4.alloc (.cells #[.bool bdBX, .slice saBX ldBX scpBX] 29) = V := ⟨_, rfl⟩
  have BXI := Lib.hid (R3.out.below (show Below w4.heap.size w4 V by rw [← hV]; exact (Below.refl _ _).alloc (Nat.le_refl _) _))
  have BXS := Lib.hid (show w4.heap.size < V.heap.size by rw [← hV]; simp)
  rw [hV] at BX BXB ⊢
  clear hV
  obtain ⟨p, hp⟩ : ∃ p, w4.heap.size = p := ⟨_, rfl⟩
  rw [hp] at BX BXS ⊢
  clear hp
  clear R1 R2 R3 HS
  obtain ⟨x0, x1⟩ := BX.out
  go_wp2_with fail
  refine (HF1.out _ _ BXI.out).mono ?_
  rintro e w5 ⟨rfl, hbl⟩
  have B5 := Lib.hid (show Below W.heap.size W w5 from (BXB.out.trans (hbl.mono BXB.out.size)))
  have hbm5 := Lib.hid hbl
  clear hbl
  obtain ⟨y0, y1⟩ := BX.out.below BXS.out hbm5.out
  go_upto_region 5 with fail
  go_region_held3 (fun w' => w'.cell? ⟨p, 0, none⟩ = some (.bool bdBX) ∧ w'.cell? ⟨p, 1, none⟩ = some (.slice saBX ldBX scpBX)) (first | exact ⟨y0', y1'⟩ | go_keep)
    (first
      | (go_at_call 51; refine (HFL.out _ _ Z2.out).mono ?_; rintro e wz3 ⟨rfl, hbl⟩; have Z3b := Lib.hid (Z2b.out.trans (hbl.mono Z2b.out.size)); (try clear y0' y1'); have hx' := BX.out.below BXS.out Z3b.out; have y0' := hx'.1; have y1' := hx'.2; clear hx'; clear hbl)
      | (go_at_call 28; refine (HM.out _ _ _ (BXI.out.below Z1b.out) Z1.out).mono ?_; rintro e wz2 ⟨r, rfl, hi, hbl⟩; have Z2b := Lib.hid (Z1b.out.trans (hbl.mono Z1b.out.size)); have Z2 := Lib.hid hi; (try clear y0' y1'); have hx' := BX.out.below BXS.out Z2b.out; have y0' := hx'.1; have y1' := hx'.2; clear hx'; clear hbl hi)
      | (go_at_call 26; refine (HO.out _ _ HT0.out).mono ?_; rintro e wz1 ⟨r, rfl, hi, hbl⟩; have hbl2 : Below w5.heap.size w5 wz1 := (by first | exact hbl | exact below_undrew hbl); have Z1b := Lib.hid (hbm5.out.trans (hbl2.mono hbm5.out.size)); have Z1 := Lib.hid hi; (try clear y0' y1'); have hx' := BX.out.below BXS.out Z1b.out; have y0' := hx'.1; have y1' := hx'.2; clear hx'; clear hbl hbl2 hi))
  have BZ := Lib.hid (BXB.out.trans (Z3b.out.mono BXB.out.size))
  clear Z1 Z1b Z2 Z2b HM HFL HF1
  go_wp2_with fail
  refine (HO.out _ _ HA0.out).mono ?_
  rintro e w6 ⟨r6, rfl, hi, hbl⟩
  have B6 := Lib.hid (show Below W.heap.size W w6 from (BZ.out.trans (hbl.mono BZ.out.size)))
  have R4 := Lib.hid hi
  clear hi hbl
  go_wp2_with fail
  refine (HO.out _ _ HN0.out).mono ?_
  rintro e w7 ⟨r7, rfl, hi, hbl⟩
  have B7 := Lib.hid (show Below W.heap.size W w7 from (B6.out.trans (hbl.mono B6.out.size)))
  have R4 := Lib.hid (R4.out.below hbl)
  have R5 := Lib.hid hi
  clear hi hbl
  go_wp2_with fail
  refine (HAD.out _ _ _ R4.out R5.out).mono ?_
  rintro e w8 ⟨r8, rfl, hi, hbl⟩
  have B8 := Lib.hid (show Below W.heap.size W w8 from (B7.out.trans (hbl.mono B7.out.size)))
  have R4 := Lib.hid (R4.out.below hbl)
  have R5 := Lib.hid (R5.out.below hbl)
  have R6 := Lib.hid hi
  clear hi hbl
  obtain ⟨saBY, scpBY, rfl, -⟩ := R6.out.form
  obtain ⟨bdBY, hbd⟩ : ∃ b, decide (s < 0) = b := ⟨_, rfl⟩
  obtain ⟨ldBY, hld⟩ : ∃ b, (canon (s).natAbs).length = b := ⟨_, rfl⟩
  rw [hbd, hld] at R6 ⊢
  clear hbd hld
  have BY := Lib.hid (box_new w8 bdBY (.slice saBY ldBY scpBY))
  have BYB := Lib.hid (B8.out.alloc B8.out.size (.cells #[.bool bdBY, .slice saBY ldBY scpBY] 29))
  go_upto_region 7 with fail
  obtain ⟨U, hV⟩ : ∃ V, w8.alloc (.cells #[.bool bdBY, .slice saBY ldBY scpBY] 29) = V := ⟨_, rfl⟩
  have BYI := Lib.hid (R6.out.below (show Below w8.heap.size w8 U by rw [← hV]; exact (Below.refl _ _).alloc (Nat.le_refl _) _))
  have BYS := Lib.hid (show w8.heap.size < U.heap.size by rw [← hV]; simp)
  rw [hV] at BY BYB ⊢
  clear hV
  obtain ⟨q, hp⟩ : ∃ p, w8.heap.size = p := ⟨_, rfl⟩
  rw [hp] at BY BYS ⊢
  clear hp
  clear R4 R5 R6 HAD
  obtain ⟨z0, z1⟩ := BY.out
  go_wp2_with fail
  refine (HF2.out _ _ BYI.out).mono ?_
  rintro e w9 ⟨rfl, hbl⟩
  have B9 := Lib.hid (show Below W.heap.size W w9 from (BYB.out.trans (hbl.mono BYB.out.size)))
  have hbm9 := Lib.hid hbl
  clear hbl
  obtain ⟨k0, k1⟩ := BY.out.below BYS.out hbm9.out
  go_wp2_with fail
  refine (HIS.out _ _ (BYI.out.below hbm9.out)).mono ?_
  rintro e w10 ⟨rfl, hbl⟩
  have B10 := Lib.hid (show Below W.heap.size W w10 from (B9.out.trans (hbl.mono B9.out.size)))
  clear hbl
  go_wp2_with fail
  refine (awake2_any _).mono ?_
  rintro e w11 ⟨rfl, hbl⟩
  have B11 := Lib.hid (show Below W.heap.size W w11 from (B10.out.trans (hbl.mono B10.out.size)))
  clear hbl
  go_wp2
  go_ret
  exact ⟨rfl, B11.out⟩

set_option maxRecDepth 100000 in
set_option maxHeartbeats 4000000 in
theorem walk (a b t : Int) (W : World) (ha : fits a) (hb : fits b) (ht : fits t) :
    Calls Try.prog 15 #[.int .i64 a, .int .i64 b, .int .i64 t] W fun e w' => e = .returned (.bool true) ∧ Below W.heap.size W w' := by
  by_cases hd : fits (b - a)
  · by_cases hm : fits ((b - a) * t / 65536)
    · by_cases hs : fits (a + (b - a) * t / 65536)
      · exact walk_4 a b t W ha hb ht hd hm hs
      · exact walk_3 a b t W ha hb ht hd hm hs
    · exact walk_2 a b t W ha hb ht hd hm
  · exact walk_1 a b t W ha hb ht hd

set_option maxRecDepth 100000 in
theorem lifted (os : Os) (started : os.Started) (H : Type) (enc : TypeId × Value → H) :
    ReturnsInHanded {} Try.checked os 15 .any (Rows.fixLerpsSpec.pre6 enc Try.prog Try.f15 Rows.fixLerpsRow.domain false) (Rows.fixLerpsSpec.post enc Try.prog Try.f15 false true false false) := by
  refine returnsInHanded_of_change (C := Try.checked) own started (by kernel_rfl) Try.func15
    (ChangeSpec.witness6 (enc := enc) (C := Try.checked) false ⟨#[], #[.int .i64 0, .int .i64 0, .int .i64 0], []⟩ 8 (by kernel_rfl) (by kernel_rfl) (by kernel_rfl) (by kernel_rfl)) ?_
  intro W base args ds gs before hval0 hW hcnd _
  have hval : ∀ (j : Nat) t v, Try.f15.params[j]? = some t → args[j]? = some v → Value.okWide Try.prog W .any base t v := hval0
  have hW' := hW
  obtain ⟨p, q, hA0, hV, rfl, hfz, hnd⟩ := hW
  have hA : DataW.TrodAll enc Try.prog W 0 (fun _ => true) true Try.f15.params.toList args.toList ds p := hA0
  rw [Try.params15] at hA hval
  obtain ⟨v0, vs0, d0, ds0, p0, q0, hargs, rfl, rfl, h0, r0⟩ := trodAll_cons hA
  obtain ⟨v1, vs1, d1, ds1, p1, q1, rfl, rfl, rfl, h1, r1⟩ := trodAll_cons r0
  obtain ⟨v2, vs2, d2, ds2, p2, q2, rfl, rfl, rfl, h2, r2⟩ := trodAll_cons r1
  obtain ⟨rfl, rfl, rfl⟩ := trodAll_nil r2
  obtain rfl : args = #[v0, v1, v2] := by cases args; simp_all
  obtain ⟨rfl, rfl⟩ := trodVars_none hV
  obtain ⟨a0, rfl, rfl, rfl, w0⟩ := open_int Try.underlying2 (hval 0 2 v0 rfl rfl) h0
  obtain ⟨a1, rfl, rfl, rfl, w1⟩ := open_int Try.underlying2 (hval 1 2 v1 rfl rfl) h1
  obtain ⟨a2, rfl, rfl, rfl, w2⟩ := open_int Try.underlying2 (hval 2 2 v2 rfl rfl) h2
  clear hA0 hval0
  simp only [List.append_nil] at hW'
  refine (walk a0 a1 a2  W (fits_of w0) (fits_of w1) (fits_of w2)).mono fun e W' ⟨he, hb⟩ => ?_
  subst he
  refine ⟨_, rfl, _, _, _, [], [], [], hW', ?_, ?_, ?_, hb.frame _, fun h => by cases h⟩
  · exact trodAll_cons_mk (shut_bool Try.underlying4 _) trodAll_mk0
  · exact (trodAll_cons_mk (shut_int Try.underlying2 w0) (trodAll_cons_mk (shut_int Try.underlying2 w1) (trodAll_cons_mk (shut_int Try.underlying2 w2) trodAll_mk0)))
  · rfl

theorem proved : Rows.FixLerpsSaid :=
  OpenClaim.holds_of_wide 15 Try.f15 rfl rfl rfl rfl rfl rfl rfl ⟨rfl, rfl, rfl, rfl, rfl⟩ rfl rfl rfl rfl rfl (by kernel_rfl) Try.func15 (by kernel_rfl)
    (of_decide_eq_true (by kernel_rfl)) (by unfold Func.isWrapper; first | (rw [if_pos (by decide +kernel)]; kernel_rfl) | (rw [if_neg (by decide +kernel)]; exact ⟨rfl, rfl⟩))
    (fun os started H enc _ => lifted os started H enc)
#print axioms proved
end Go.Proofs.Ytikhgdbbbingbaa.FixLerps
