/- What the law's own function does: written by a program of this claim. -/
import Derived.Test.YtbcddiaplpbhjaaDoorZ5
namespace Go.Proofs.YtbcddiaplpbhjaaDoor.MDr
open Go.RowKit Go.Proofs.YtbcddiaplpbhjaaDoorW.PrintWords Go.Proofs.YtbcddiaplpbhjaaDoorW.PrintLast Go.Proofs.YtbcddiaplpbhjaaDoorW.PrintMore
attribute [local go_sem] max2_int min2_int max_two min_two max_three min_three max_four min_four
set_option linter.unusedVariables false
set_option linter.unusedSimpArgs false
attribute [local go_sem high] eqA26
mutual
noncomputable def bivouaclaw14_DriveParts.j0 : Nat → Int → Int → Bool → Int → Int → Int → Int → Int → Int → Int → Int → Int → Int → Option (Bool)
  | 0, _, _, _, _, _, _, _, _, _, _, _, _, _ => none
  | k + 1, x1, x5, x22, x270000, x270001, x270002, x270003, x270004, x270005, x270006, x270007, x270008, x270009 => if x22 = true then (bivouaclaw14_DriveParts.j1 k x1 7 x270000 x270001 x270002 x270003 x270004 x270005 x270006 x270007 x270008 x270009) else (bivouaclaw14_DriveParts.j1 k x1 x5 x270000 x270001 x270002 x270003 x270004 x270005 x270006 x270007 x270008 x270009)
noncomputable def bivouaclaw14_DriveParts.j1 : Nat → Int → Int → Int → Int → Int → Int → Int → Int → Int → Int → Int → Int → Option (Bool)
  | 0, _, _, _, _, _, _, _, _, _, _, _, _ => none
  | k + 1, x1, x5, x270000, x270001, x270002, x270003, x270004, x270005, x270006, x270007, x270008, x270009 => (drive_Steps.f k x270000 x270001 x270002 x270003 x270004 x270005 x270006 x270007 x270008 x5).bind fun bt270 => ((drive_Steps.f k x270000 x270001 x270002 x270003 x270004 x270005 x270006 x270007 x270008 (wrap64 (x5 + (wrap64 (x1))))).bind fun bt276 => (if bt270.2.2.2.2 = 0 then (if bt270.1 = x270007 then (if bt270.2.1 = x270008 then (bivouaclaw14_DriveParts.j2 k x1 bt270.2.2.2.1 bt276.2.2.2.1 bt276.2.2.2.2 (decide (bt270.2.2.2.1 > 0)) x270000 x270001 x270002 x270003 x270004 x270005 x270006 x270007 x270008 x270009 bt270.1 bt270.2.1 bt270.2.2.1 bt276.1 bt276.2.1 bt276.2.2.1) else (bivouaclaw14_DriveParts.j2 k x1 bt270.2.2.2.1 bt276.2.2.2.1 bt276.2.2.2.2 false x270000 x270001 x270002 x270003 x270004 x270005 x270006 x270007 x270008 x270009 bt270.1 bt270.2.1 bt270.2.2.1 bt276.1 bt276.2.1 bt276.2.2.1)) else (bivouaclaw14_DriveParts.j2 k x1 bt270.2.2.2.1 bt276.2.2.2.1 bt276.2.2.2.2 false x270000 x270001 x270002 x270003 x270004 x270005 x270006 x270007 x270008 x270009 bt270.1 bt270.2.1 bt270.2.2.1 bt276.1 bt276.2.1 bt276.2.2.1)) else (if bt276.2.2.2.2 = bt270.2.2.2.2 then (if bt270.2.2.2.1 = 0 then (if bt276.2.2.2.1 = 0 then ((bivouaclaw14_awake.f k).bind fun t282 => (some t282)) else (some false)) else (some false)) else (some false))))
noncomputable def bivouaclaw14_DriveParts.j2 : Nat → Int → Int → Int → Int → Bool → Int → Int → Int → Int → Int → Int → Int → Int → Int → Int → Int → Int → Int → Int → Int → Int → Option (Bool)
  | 0, _, _, _, _, _, _, _, _, _, _, _, _, _, _, _, _, _, _, _, _, _ => none
  | k + 1, x1, x7, x10, x11, x85, x270000, x270001, x270002, x270003, x270004, x270005, x270006, x270007, x270008, x270009, x276000, x276001, x276002, x282000, x282001, x282002 => if x85 = true then (if x11 = 0 then (if x282000 = x276000 then (if x282001 = x276001 then (if x282002 = x276002 then (if x10 ≤ (wrap64 (x7 + 1)) then ((bivouaclaw14_awake.f k).bind fun t283 => (some t283)) else (some false)) else (some false)) else (some false)) else (some false)) else (some false)) else ((drive_Steps.f k x276000 x276001 x276002 x270003 x270004 x270005 x270006 x270007 x270008 (wrap64 (x1))).bind fun bt284 => (if x11 = 0 then (if bt284.2.2.2.2 = 0 then (if (x282000 == bt284.1 && (x282001 == bt284.2.1 && (x282002 == bt284.2.2.1))) = true then (if x10 = (wrap64 (x7 + bt284.2.2.2.1)) then ((bivouaclaw14_awake.f k).bind fun t290 => (some t290)) else (some false)) else (some false)) else (some false)) else (some false)))
end
noncomputable def bivouaclaw14_DriveParts.f (k : Nat) (a0_0 : Int) (a0_1 : Int) (a0_2 : Int) (a0_3 : Int) (a0_4 : Int) (a0_5 : Int) (a0_6 : Int) (a0_7 : Int) (a0_8 : Int) (a0_9 : Int) (a1 : Int) : Option (Bool) := if a0_9 < 0 then (bivouaclaw14_DriveParts.j0 k a1 a0_9 true a0_0 a0_1 a0_2 a0_3 a0_4 a0_5 a0_6 a0_7 a0_8 a0_9) else (bivouaclaw14_DriveParts.j0 k a1 a0_9 (decide (a0_9 > 100)) a0_0 a0_1 a0_2 a0_3 a0_4 a0_5 a0_6 a0_7 a0_8 a0_9)
theorem bivouaclaw14_DriveParts.mono_l : ∀ k, (∀ y0 y1 y2 y3 y4 y5 y6 y7 y8 y9 y10 y11 y12, LeO (bivouaclaw14_DriveParts.j0 k y0 y1 y2 y3 y4 y5 y6 y7 y8 y9 y10 y11 y12) (bivouaclaw14_DriveParts.j0 (k + 1) y0 y1 y2 y3 y4 y5 y6 y7 y8 y9 y10 y11 y12)) ∧ (∀ y0 y1 y2 y3 y4 y5 y6 y7 y8 y9 y10 y11, LeO (bivouaclaw14_DriveParts.j1 k y0 y1 y2 y3 y4 y5 y6 y7 y8 y9 y10 y11) (bivouaclaw14_DriveParts.j1 (k + 1) y0 y1 y2 y3 y4 y5 y6 y7 y8 y9 y10 y11)) ∧ (∀ y0 y1 y2 y3 y4 y5 y6 y7 y8 y9 y10 y11 y12 y13 y14 y15 y16 y17 y18 y19 y20, LeO (bivouaclaw14_DriveParts.j2 k y0 y1 y2 y3 y4 y5 y6 y7 y8 y9 y10 y11 y12 y13 y14 y15 y16 y17 y18 y19 y20) (bivouaclaw14_DriveParts.j2 (k + 1) y0 y1 y2 y3 y4 y5 y6 y7 y8 y9 y10 y11 y12 y13 y14 y15 y16 y17 y18 y19 y20))
  | 0 => ⟨fun _ _ _ _ _ _ _ _ _ _ _ _ _ r h => by simp [bivouaclaw14_DriveParts.j0] at h, fun _ _ _ _ _ _ _ _ _ _ _ _ r h => by simp [bivouaclaw14_DriveParts.j1] at h, fun _ _ _ _ _ _ _ _ _ _ _ _ _ _ _ _ _ _ _ _ _ r h => by simp [bivouaclaw14_DriveParts.j2] at h⟩
  | k + 1 => by
    obtain ⟨ih0, ih1, ih2⟩ := bivouaclaw14_DriveParts.mono_l k
    refine ⟨?_, ?_, ?_⟩
    · intro y0 y1 y2 y3 y4 y5 y6 y7 y8 y9 y10 y11 y12
      unfold bivouaclaw14_DriveParts.j0
      repeat' first
      | (with_reducible exact ih0 _ _ _ _ _ _ _ _ _ _ _ _ _)
      | (with_reducible exact ih1 _ _ _ _ _ _ _ _ _ _ _ _)
      | (with_reducible exact ih2 _ _ _ _ _ _ _ _ _ _ _ _ _ _ _ _ _ _ _ _ _)
      | (with_reducible exact bivouaclaw14_awake.mono _)
      | (with_reducible exact drive_Steps.mono _ _ _ _ _ _ _ _ _ _ _)
      | (with_reducible exact LeO.refl _)
      | (with_reducible exact LeO.none _)
      | (with_reducible refine LeO.ite ?_ ?_)
      | (with_reducible refine LeO.bind ?_ (fun _ => ?_))
      | exact ih0 _ _ _ _ _ _ _ _ _ _ _ _ _
      | exact ih1 _ _ _ _ _ _ _ _ _ _ _ _
      | exact ih2 _ _ _ _ _ _ _ _ _ _ _ _ _ _ _ _ _ _ _ _ _
      | exact bivouaclaw14_awake.mono _
      | exact drive_Steps.mono _ _ _ _ _ _ _ _ _ _ _
      | exact LeO.none _
      | refine LeO.ite ?_ ?_
      | refine LeO.bind ?_ (fun _ => ?_)
    · intro y0 y1 y2 y3 y4 y5 y6 y7 y8 y9 y10 y11
      unfold bivouaclaw14_DriveParts.j1
      repeat' first
      | (with_reducible exact ih0 _ _ _ _ _ _ _ _ _ _ _ _ _)
      | (with_reducible exact ih1 _ _ _ _ _ _ _ _ _ _ _ _)
      | (with_reducible exact ih2 _ _ _ _ _ _ _ _ _ _ _ _ _ _ _ _ _ _ _ _ _)
      | (with_reducible exact bivouaclaw14_awake.mono _)
      | (with_reducible exact drive_Steps.mono _ _ _ _ _ _ _ _ _ _ _)
      | (with_reducible exact LeO.refl _)
      | (with_reducible exact LeO.none _)
      | (with_reducible refine LeO.ite ?_ ?_)
      | (with_reducible refine LeO.bind ?_ (fun _ => ?_))
      | exact ih0 _ _ _ _ _ _ _ _ _ _ _ _ _
      | exact ih1 _ _ _ _ _ _ _ _ _ _ _ _
      | exact ih2 _ _ _ _ _ _ _ _ _ _ _ _ _ _ _ _ _ _ _ _ _
      | exact bivouaclaw14_awake.mono _
      | exact drive_Steps.mono _ _ _ _ _ _ _ _ _ _ _
      | exact LeO.none _
      | refine LeO.ite ?_ ?_
      | refine LeO.bind ?_ (fun _ => ?_)
    · intro y0 y1 y2 y3 y4 y5 y6 y7 y8 y9 y10 y11 y12 y13 y14 y15 y16 y17 y18 y19 y20
      unfold bivouaclaw14_DriveParts.j2
      repeat' first
      | (with_reducible exact ih0 _ _ _ _ _ _ _ _ _ _ _ _ _)
      | (with_reducible exact ih1 _ _ _ _ _ _ _ _ _ _ _ _)
      | (with_reducible exact ih2 _ _ _ _ _ _ _ _ _ _ _ _ _ _ _ _ _ _ _ _ _)
      | (with_reducible exact bivouaclaw14_awake.mono _)
      | (with_reducible exact drive_Steps.mono _ _ _ _ _ _ _ _ _ _ _)
      | (with_reducible exact LeO.refl _)
      | (with_reducible exact LeO.none _)
      | (with_reducible refine LeO.ite ?_ ?_)
      | (with_reducible refine LeO.bind ?_ (fun _ => ?_))
      | exact ih0 _ _ _ _ _ _ _ _ _ _ _ _ _
      | exact ih1 _ _ _ _ _ _ _ _ _ _ _ _
      | exact ih2 _ _ _ _ _ _ _ _ _ _ _ _ _ _ _ _ _ _ _ _ _
      | exact bivouaclaw14_awake.mono _
      | exact drive_Steps.mono _ _ _ _ _ _ _ _ _ _ _
      | exact LeO.none _
      | refine LeO.ite ?_ ?_
      | refine LeO.bind ?_ (fun _ => ?_)
theorem bivouaclaw14_DriveParts.mono : ∀ a0 a1 a2 a3 a4 a5 a6 a7 a8 a9 a10 k, LeO (bivouaclaw14_DriveParts.f k a0 a1 a2 a3 a4 a5 a6 a7 a8 a9 a10) (bivouaclaw14_DriveParts.f (k + 1) a0 a1 a2 a3 a4 a5 a6 a7 a8 a9 a10) := by
  intro a0 a1 a2 a3 a4 a5 a6 a7 a8 a9 a10 k
  obtain ⟨ih0, ih1, ih2⟩ := bivouaclaw14_DriveParts.mono_l k
  unfold bivouaclaw14_DriveParts.f
  repeat' first
      | (with_reducible exact ih0 _ _ _ _ _ _ _ _ _ _ _ _ _)
      | (with_reducible exact ih1 _ _ _ _ _ _ _ _ _ _ _ _)
      | (with_reducible exact ih2 _ _ _ _ _ _ _ _ _ _ _ _ _ _ _ _ _ _ _ _ _)
      | (with_reducible exact bivouaclaw14_awake.mono _)
      | (with_reducible exact drive_Steps.mono _ _ _ _ _ _ _ _ _ _ _)
      | (with_reducible exact LeO.refl _)
      | (with_reducible exact LeO.none _)
      | (with_reducible refine LeO.ite ?_ ?_)
      | (with_reducible refine LeO.bind ?_ (fun _ => ?_))
      | exact ih0 _ _ _ _ _ _ _ _ _ _ _ _ _
      | exact ih1 _ _ _ _ _ _ _ _ _ _ _ _
      | exact ih2 _ _ _ _ _ _ _ _ _ _ _ _ _ _ _ _ _ _ _ _ _
      | exact bivouaclaw14_awake.mono _
      | exact drive_Steps.mono _ _ _ _ _ _ _ _ _ _ _
      | exact LeO.none _
      | refine LeO.ite ?_ ?_
      | refine LeO.bind ?_ (fun _ => ?_)
set_option maxHeartbeats 8000000 in
set_option maxRecDepth 100000 in
theorem bivouaclaw14_DriveParts.calls (k : Nat) (a0_0 : Int) (a0_1 : Int) (a0_2 : Int) (a0_3 : Int) (a0_4 : Int) (a0_5 : Int) (a0_6 : Int) (a0_7 : Int) (a0_8 : Int) (a0_9 : Int) (a1 : Int) (r : Bool) (w : World) (hT_ : Tg.Tab w) (h : bivouaclaw14_DriveParts.f k a0_0 a0_1 a0_2 a0_3 a0_4 a0_5 a0_6 a0_7 a0_8 a0_9 a1 = some r) :
    Calls Tryd.prog 7 #[.agg #[.int .i64 a0_0, .int .i64 a0_1, .int .i64 a0_2, .int .i64 a0_3, .int .i64 a0_4, .int .i64 a0_5, .int .i64 a0_6, .int .i64 a0_7, .int .i64 a0_8, .int .i64 a0_9], .int .u8 a1] w fun e w' => e = .returned (.bool r) ∧ Below w.heap.size w w' := by
  have hu30 := Tryd.underlying30
  have hu26 := Tryd.underlying26
  have hu28 := Tryd.underlying28
  have HB := Aside0.mk (Below.refl w.heap.size w)
  have HTAB := Aside0.mk hT_
  clear hT_
  have H : (if a0_9 < 0 then (bivouaclaw14_DriveParts.j0 k a1 a0_9 true a0_0 a0_1 a0_2 a0_3 a0_4 a0_5 a0_6 a0_7 a0_8 a0_9) else (bivouaclaw14_DriveParts.j0 k a1 a0_9 (decide (a0_9 > 100)) a0_0 a0_1 a0_2 a0_3 a0_4 a0_5 a0_6 a0_7 a0_8 a0_9)) = some r := h
  clear h
  have HC3 := Aside0.mk H
  clear H
  go_enter Tryd.func7, Tryd.ntmps7
  go_upto_region 2 with (first | ((with_reducible refine gate_dst (N := 2) rfl ?_); refine box_event ?hg (N := 2) ?hd (cs := #[.int .i64 a0_0, .int .i64 a0_1, .int .i64 a0_2, .int .i64 a0_3, .int .i64 a0_4, .int .i64 a0_5, .int .i64 a0_6, .int .i64 a0_7, .int .i64 a0_8, .int .i64 a0_9]) (t := 30) ?hr ?_; (case hd => rfl); (case hg => rfl); (case hr => first | (go_simp; done) | (go_simp; rfl)); intro gb269 hg w4 hbox hb; have n0_ := Aside0.mk (below_step (by repeat (first | (with_reducible first | exact HB.out | apply below_alloc | apply pw_below_drewN | apply below_drew1) | exact HB.out)) hb); have n1_ := Aside0.mk (hbox); have n2_ := Aside0.mk ((by rw [hg]; exact (below_size (by repeat (first | (with_reducible first | exact HB.out | apply below_alloc | apply pw_below_drewN | apply below_drew1) | exact HB.out))) : w.heap.size ≤ gb269)); have n3_ := Aside0.mk ((by rw [hg]; exact (below_size (by repeat (first | (with_reducible first | exact HB.out | apply below_alloc | apply pw_below_drewN | apply below_drew1) | exact HB.out))) : w.heap.size ≤ gb269)); clear HB; have HB := n0_; have BK269 := n1_; have GW269 := n2_; have GE269 := n3_; clear n0_ n1_ n2_ n3_; clear hb hbox hg; have hcz5_0 : w4.cell? ⟨gb269, 0, none⟩ = some (.int .i64 a0_0) := (blk_cell BK269.out 0).trans rfl; have hcz5_1 : w4.cell? ⟨gb269, 1, none⟩ = some (.int .i64 a0_1) := (blk_cell BK269.out 1).trans rfl; have hcz5_2 : w4.cell? ⟨gb269, 2, none⟩ = some (.int .i64 a0_2) := (blk_cell BK269.out 2).trans rfl; have hcz5_3 : w4.cell? ⟨gb269, 3, none⟩ = some (.int .i64 a0_3) := (blk_cell BK269.out 3).trans rfl; have hcz5_4 : w4.cell? ⟨gb269, 4, none⟩ = some (.int .i64 a0_4) := (blk_cell BK269.out 4).trans rfl; have hcz5_5 : w4.cell? ⟨gb269, 5, none⟩ = some (.int .i64 a0_5) := (blk_cell BK269.out 5).trans rfl; have hcz5_6 : w4.cell? ⟨gb269, 6, none⟩ = some (.int .i64 a0_6) := (blk_cell BK269.out 6).trans rfl; have hcz5_7 : w4.cell? ⟨gb269, 7, none⟩ = some (.int .i64 a0_7) := (blk_cell BK269.out 7).trans rfl; have hcz5_8 : w4.cell? ⟨gb269, 8, none⟩ = some (.int .i64 a0_8) := (blk_cell BK269.out 8).trans rfl; have hcz5_9 : w4.cell? ⟨gb269, 9, none⟩ = some (.int .i64 a0_9) := (blk_cell BK269.out 9).trans rfl; have hfz5_0 := blk_frozen BK269.out 0; have hfz5_1 := blk_frozen BK269.out 1; have hfz5_2 := blk_frozen BK269.out 2; have hfz5_3 := blk_frozen BK269.out 3; have hfz5_4 := blk_frozen BK269.out 4; have hfz5_5 := blk_frozen BK269.out 5; have hfz5_6 := blk_frozen BK269.out 6; have hfz5_7 := blk_frozen BK269.out 7; have hfz5_8 := blk_frozen BK269.out 8; have hfz5_9 := blk_frozen BK269.out 9))
  (try simp only [Act.put, List.setIfInBounds_toArray, List.set_cons_zero, List.set_cons_succ])
  go_cut [22] (fun v22 wc => ∃ (kq : Nat) (x22_2 : Bool), v22 = .bool x22_2 ∧ Aside0 (bivouaclaw14_DriveParts.j0 kq a1 a0_9 x22_2 a0_0 a0_1 a0_2 a0_3 a0_4 a0_5 a0_6 a0_7 a0_8 a0_9 = some r) ∧ Aside0 (kq ≤ k) ∧ Aside0 (wc.heap[gb269]? = some (.cells #[.int .i64 a0_0, .int .i64 a0_1, .int .i64 a0_2, .int .i64 a0_3, .int .i64 a0_4, .int .i64 a0_5, .int .i64 a0_6, .int .i64 a0_7, .int .i64 a0_8, .int .i64 a0_9] 30 (0, 0))) ∧ Aside0 (Below w.heap.size w wc))
  case first =>
    have H := HC3.out
    clear HC3
    by_cases c6 : a0_9 < 0
    · rw [if_pos c6] at H
      have c6b0 : decide (a0_9 < 0) = true := decide_eq_true c6
      clear c6
      (first | rw [c6b0] | (simp only [i64_w, i32_w]; rw [c6b0]) | skip)
      have H' := Aside0.mk H
      clear H
      go_wp2
      go_meet
      case rel => exact ⟨_, (true), (by first | rfl | (simp; done) | (simp [*]; done)), H', ⟨by first | omega | exact Nat.le_refl _⟩, ⟨by (with_reducible repeat (first | refine blk_drewN ?_ _ | refine blk_drew ?_ | refine blk_alloc ?_ _)); exact BK269.out⟩, ⟨by repeat (first | (with_reducible first | exact HB.out | apply below_alloc | apply pw_below_drewN | apply below_drew1 | refine below_set ?_ GE269.out) | exact HB.out)⟩⟩
    · rw [if_neg c6] at H
      have c6b0 : decide (a0_9 < 0) = false := decide_eq_false c6
      clear c6
      (first | rw [c6b0] | (simp only [i64_w, i32_w]; rw [c6b0]) | skip)
      have H' := Aside0.mk H
      clear H
      go_wp2
      go_meet
      case rel => exact ⟨_, (decide (a0_9 > 100)), (by first | rfl | (simp; done) | (simp [*]; done)), H', ⟨by first | omega | exact Nat.le_refl _⟩, ⟨by (with_reducible repeat (first | refine blk_drewN ?_ _ | refine blk_drew ?_ | refine blk_alloc ?_ _)); exact BK269.out⟩, ⟨by repeat (first | (with_reducible first | exact HB.out | apply below_alloc | apply pw_below_drewN | apply below_drew1 | refine below_set ?_ GE269.out) | exact HB.out)⟩⟩
  case rest =>
    clear HC3
    try clear p2
    try clear c6
    try clear c6b0
    try clear hcz5_0
    try clear hcz5_1
    try clear hcz5_2
    try clear hcz5_3
    try clear hcz5_4
    try clear hcz5_5
    try clear hcz5_6
    try clear hcz5_7
    try clear hcz5_8
    try clear hcz5_9
    try clear hfz5_0
    try clear hfz5_1
    try clear hfz5_2
    try clear hfz5_3
    try clear hfz5_4
    try clear hfz5_5
    try clear hfz5_6
    try clear hfz5_7
    try clear hfz5_8
    try clear hfz5_9
    obtain ⟨kq, x22_2, rfl, HA, HJ2, BK269, HB⟩ := hcut
    cases kq with
    | zero => exact absurd HA.out (by simp [bivouaclaw14_DriveParts.j0])
    | succ kj2 =>
      have H := HA.out
      clear HA
      simp only [bivouaclaw14_DriveParts.j0] at H
      have HC7 := Aside0.mk H
      clear H
      go_upto_if 22 with (fail)
      go_cut [5] (fun v5 wc => ∃ (kq : Nat) (x5_6 : Int), v5 = .int .i64 x5_6 ∧ Aside0 (bivouaclaw14_DriveParts.j1 kq a1 x5_6 a0_0 a0_1 a0_2 a0_3 a0_4 a0_5 a0_6 a0_7 a0_8 a0_9 = some r) ∧ Aside0 (kq ≤ kj2) ∧ Aside0 (wc.heap[gb269]? = some (.cells #[.int .i64 a0_0, .int .i64 a0_1, .int .i64 a0_2, .int .i64 a0_3, .int .i64 a0_4, .int .i64 a0_5, .int .i64 a0_6, .int .i64 a0_7, .int .i64 a0_8, .int .i64 a0_9] 30 (0, 0))) ∧ Aside0 (Below w.heap.size w wc))
      case first =>
        have H := HC7.out
        clear HC7
        by_cases c8 : x22_2 = true
        · subst c8
          have H1 : (bivouaclaw14_DriveParts.j1 kj2 a1 7 a0_0 a0_1 a0_2 a0_3 a0_4 a0_5 a0_6 a0_7 a0_8 a0_9) = some r := by rw [if_pos rfl] at H; exact H
          clear H
          have H := H1
          clear H1
          have H' := Aside0.mk H
          clear H
          go_wp2
          go_meet
          case rel => exact ⟨_, (7), (by first | rfl | (simp; done) | (simp [*]; done)), H', ⟨by have := HJ2.out; first | omega | exact Nat.le_refl _⟩, ⟨by (with_reducible repeat (first | refine blk_drewN ?_ _ | refine blk_drew ?_ | refine blk_alloc ?_ _)); exact BK269.out⟩, ⟨by repeat (first | (with_reducible first | exact HB.out | apply below_alloc | apply pw_below_drewN | apply below_drew1 | refine below_set ?_ GE269.out) | exact HB.out)⟩⟩
        · replace c8 := Bool.eq_false_iff.mpr c8
          subst c8
          have H1 : (bivouaclaw14_DriveParts.j1 kj2 a1 a0_9 a0_0 a0_1 a0_2 a0_3 a0_4 a0_5 a0_6 a0_7 a0_8 a0_9) = some r := by rw [if_neg (show ¬ (false = true) by decide)] at H; exact H
          clear H
          have H := H1
          clear H1
          have H' := Aside0.mk H
          clear H
          go_wp2
          go_meet
          case rel => exact ⟨_, (a0_9), (by first | rfl | (simp; done) | (simp [*]; done)), H', ⟨by have := HJ2.out; first | omega | exact Nat.le_refl _⟩, ⟨by (with_reducible repeat (first | refine blk_drewN ?_ _ | refine blk_drew ?_ | refine blk_alloc ?_ _)); exact BK269.out⟩, ⟨by repeat (first | (with_reducible first | exact HB.out | apply below_alloc | apply pw_below_drewN | apply below_drew1 | refine below_set ?_ GE269.out) | exact HB.out)⟩⟩
      case rest =>
        clear HC7
        try clear p2
        try clear c6
        try clear c6b0
        try clear c7
        try clear c8
        try clear hcz5_0
        try clear hcz5_1
        try clear hcz5_2
        try clear hcz5_3
        try clear hcz5_4
        try clear hcz5_5
        try clear hcz5_6
        try clear hcz5_7
        try clear hcz5_8
        try clear hcz5_9
        try clear hfz5_0
        try clear hfz5_1
        try clear hfz5_2
        try clear hfz5_3
        try clear hfz5_4
        try clear hfz5_5
        try clear hfz5_6
        try clear hfz5_7
        try clear hfz5_8
        try clear hfz5_9
        try clear p2
        obtain ⟨kq, x5_6, rfl, HA, HJ6, BK269, HB⟩ := hcut
        cases kq with
        | zero => exact absurd HA.out (by simp [bivouaclaw14_DriveParts.j1])
        | succ kj6 =>
          have H := HA.out
          clear HA
          simp only [bivouaclaw14_DriveParts.j1] at H
          replace H := Option.bind_eq_some_iff.mp H
          obtain ⟨⟨t270, t271, t272, t273, t274⟩, A90, H⟩ := H
          replace H : ((drive_Steps.f kj6 a0_0 a0_1 a0_2 a0_3 a0_4 a0_5 a0_6 a0_7 a0_8 (wrap64 (x5_6 + (wrap64 (a1))))).bind fun bt276 => (if t274 = 0 then (if t270 = a0_7 then (if t271 = a0_8 then (bivouaclaw14_DriveParts.j2 kj6 a1 t273 bt276.2.2.2.1 bt276.2.2.2.2 (decide (t273 > 0)) a0_0 a0_1 a0_2 a0_3 a0_4 a0_5 a0_6 a0_7 a0_8 a0_9 t270 t271 t272 bt276.1 bt276.2.1 bt276.2.2.1) else (bivouaclaw14_DriveParts.j2 kj6 a1 t273 bt276.2.2.2.1 bt276.2.2.2.2 false a0_0 a0_1 a0_2 a0_3 a0_4 a0_5 a0_6 a0_7 a0_8 a0_9 t270 t271 t272 bt276.1 bt276.2.1 bt276.2.2.1)) else (bivouaclaw14_DriveParts.j2 kj6 a1 t273 bt276.2.2.2.1 bt276.2.2.2.2 false a0_0 a0_1 a0_2 a0_3 a0_4 a0_5 a0_6 a0_7 a0_8 a0_9 t270 t271 t272 bt276.1 bt276.2.1 bt276.2.2.1)) else (if bt276.2.2.2.2 = t274 then (if t273 = 0 then (if bt276.2.2.2.1 = 0 then ((bivouaclaw14_awake.f kj6).bind fun t282 => (some t282)) else (some false)) else (some false)) else (some false)))) = some r := H
          have A9 := Aside0.mk A90
          clear A90
          replace H := Option.bind_eq_some_iff.mp H
          obtain ⟨⟨t276, t277, t278, t279, t280⟩, A100, H⟩ := H
          replace H : (if t274 = 0 then (if t270 = a0_7 then (if t271 = a0_8 then (bivouaclaw14_DriveParts.j2 kj6 a1 t273 t279 t280 (decide (t273 > 0)) a0_0 a0_1 a0_2 a0_3 a0_4 a0_5 a0_6 a0_7 a0_8 a0_9 t270 t271 t272 t276 t277 t278) else (bivouaclaw14_DriveParts.j2 kj6 a1 t273 t279 t280 false a0_0 a0_1 a0_2 a0_3 a0_4 a0_5 a0_6 a0_7 a0_8 a0_9 t270 t271 t272 t276 t277 t278)) else (bivouaclaw14_DriveParts.j2 kj6 a1 t273 t279 t280 false a0_0 a0_1 a0_2 a0_3 a0_4 a0_5 a0_6 a0_7 a0_8 a0_9 t270 t271 t272 t276 t277 t278)) else (if t280 = t274 then (if t273 = 0 then (if t279 = 0 then ((bivouaclaw14_awake.f kj6).bind fun t282 => (some t282)) else (some false)) else (some false)) else (some false))) = some r := H
          have A10 := Aside0.mk A100
          clear A100
          by_cases c11 : t274 = 0
          · rw [if_pos c11] at H
            have c11b0 : (t274 == 0) = true := beq_iff_eq.mpr c11
            have c11b1 : (t274 != 0) = false := bne_eq_false_iff_eq.mpr c11
            clear c11
            have HC12 := Aside0.mk H
            clear H
            have hcz13_0 : wc.cell? ⟨gb269, 0, none⟩ = some (.int .i64 a0_0) := (blk_cell BK269.out 0).trans rfl
            have hcz13_1 : wc.cell? ⟨gb269, 1, none⟩ = some (.int .i64 a0_1) := (blk_cell BK269.out 1).trans rfl
            have hcz13_2 : wc.cell? ⟨gb269, 2, none⟩ = some (.int .i64 a0_2) := (blk_cell BK269.out 2).trans rfl
            have hcz13_3 : wc.cell? ⟨gb269, 3, none⟩ = some (.int .i64 a0_3) := (blk_cell BK269.out 3).trans rfl
            have hcz13_4 : wc.cell? ⟨gb269, 4, none⟩ = some (.int .i64 a0_4) := (blk_cell BK269.out 4).trans rfl
            have hcz13_5 : wc.cell? ⟨gb269, 5, none⟩ = some (.int .i64 a0_5) := (blk_cell BK269.out 5).trans rfl
            have hcz13_6 : wc.cell? ⟨gb269, 6, none⟩ = some (.int .i64 a0_6) := (blk_cell BK269.out 6).trans rfl
            have hcz13_7 : wc.cell? ⟨gb269, 7, none⟩ = some (.int .i64 a0_7) := (blk_cell BK269.out 7).trans rfl
            have hcz13_8 : wc.cell? ⟨gb269, 8, none⟩ = some (.int .i64 a0_8) := (blk_cell BK269.out 8).trans rfl
            have hcz13_9 : wc.cell? ⟨gb269, 9, none⟩ = some (.int .i64 a0_9) := (blk_cell BK269.out 9).trans rfl
            have hfz13_0 := blk_frozen BK269.out 0
            have hfz13_1 := blk_frozen BK269.out 1
            have hfz13_2 := blk_frozen BK269.out 2
            have hfz13_3 := blk_frozen BK269.out 3
            have hfz13_4 := blk_frozen BK269.out 4
            have hfz13_5 := blk_frozen BK269.out 5
            have hfz13_6 := blk_frozen BK269.out 6
            have hfz13_7 := blk_frozen BK269.out 7
            have hfz13_8 := blk_frozen BK269.out 8
            have hfz13_9 := blk_frozen BK269.out 9
            go_upto_region 8 with (first | ((with_reducible refine gate_callee (f := 18) rfl ?_); refine goesL_ (some 33) rfl rfl Tryd.func18 (by kernel_rfl) rfl #[.agg #[.int .i64 a0_0, .int .i64 a0_1, .int .i64 a0_2], .agg #[.int .i64 a0_3, .int .i64 a0_4, .int .i64 a0_5, .int .i64 a0_6], .int .i64 a0_7, .int .i64 a0_8, .int .i64 x5_6] rfl (by (try simp only [List.map_toArray, List.map_cons, List.map_nil]); first | done | rfl | (simp only [List.length_drop, List.length_take]; rfl)) ?_; (with_reducible refine (drive_Steps.calls kj6 a0_0 a0_1 a0_2 a0_3 a0_4 a0_5 a0_6 a0_7 a0_8 x5_6 t270 t271 t272 t273 t274 _ ?side1 A9.out).mono ?_); (case side1 => exact Tg.Tab.below HTAB.out (by repeat (first | (with_reducible first | exact HB.out | apply below_alloc | apply pw_below_drewN | apply below_drew1 | refine below_set ?_ GE269.out) | exact HB.out))); rintro e w14 ⟨rfl, hb⟩; refine ⟨_, rfl, ?_⟩; have n0_ := Aside0.mk (blk_below (g := gb269) (o := .cells #[.int .i64 a0_0, .int .i64 a0_1, .int .i64 a0_2, .int .i64 a0_3, .int .i64 a0_4, .int .i64 a0_5, .int .i64 a0_6, .int .i64 a0_7, .int .i64 a0_8, .int .i64 a0_9] 30 (0, 0)) (by (with_reducible repeat (first | refine blk_drewN ?_ _ | refine blk_drew ?_ | refine blk_alloc ?_ _)); exact BK269.out) hb); have n1_ := Aside0.mk (below_step (by repeat (first | (with_reducible first | exact HB.out | apply below_alloc | apply pw_below_drewN | apply below_drew1 | refine below_set ?_ GE269.out) | exact HB.out)) hb); clear BK269; clear HB; have BK269 := n0_; have HB := n1_; clear n0_ n1_; (try clear hb); (try clear hb2); (try clear hk); (try clear hi)) | ((with_reducible refine gate_dst (N := 6) rfl ?_); refine box_event ?hg (N := 6) ?hd (cs := #[.int .i64 0, .int .i64 0, .int .i64 0]) (t := 26) ?hr ?_; (case hd => rfl); (case hg => rfl); (case hr => first | (go_simp; done) | (go_simp; rfl)); intro gb275 hg w15 hbox hb; have n0_ := Aside0.mk (blk_below (g := gb269) (o := .cells #[.int .i64 a0_0, .int .i64 a0_1, .int .i64 a0_2, .int .i64 a0_3, .int .i64 a0_4, .int .i64 a0_5, .int .i64 a0_6, .int .i64 a0_7, .int .i64 a0_8, .int .i64 a0_9] 30 (0, 0)) (by (with_reducible repeat (first | refine blk_drewN ?_ _ | refine blk_drew ?_ | refine blk_alloc ?_ _)); exact BK269.out) hb); have n1_ := Aside0.mk (below_step (by repeat (first | (with_reducible first | exact HB.out | apply below_alloc | apply pw_below_drewN | apply below_drew1 | refine below_set ?_ GE269.out) | exact HB.out)) hb); have n2_ := Aside0.mk (hbox); have n3_ := Aside0.mk ((by rw [hg]; exact (below_size (by repeat (first | (with_reducible first | exact HB.out | apply below_alloc | apply pw_below_drewN | apply below_drew1 | refine below_set ?_ GE269.out) | exact HB.out))) : w.heap.size ≤ gb275)); have n4_ := Aside0.mk ((by rw [hg]; exact (below_size (by repeat (first | (with_reducible first | exact HB.out | apply below_alloc | apply pw_below_drewN | apply below_drew1 | refine below_set ?_ GE269.out) | exact HB.out))) : w.heap.size ≤ gb275)); have n5_ := Aside0.mk ((by rw [hg]; exact Nat.ne_of_lt (blk_lt (g := gb269) (o := .cells #[.int .i64 a0_0, .int .i64 a0_1, .int .i64 a0_2, .int .i64 a0_3, .int .i64 a0_4, .int .i64 a0_5, .int .i64 a0_6, .int .i64 a0_7, .int .i64 a0_8, .int .i64 a0_9] 30 (0, 0)) (by (with_reducible repeat (first | refine blk_drewN ?_ _ | refine blk_drew ?_ | refine blk_alloc ?_ _)); exact BK269.out)) : gb269 ≠ gb275)); have n6_ := Aside0.mk ((by rw [hg]; exact Nat.ne_of_gt (blk_lt (g := gb269) (o := .cells #[.int .i64 a0_0, .int .i64 a0_1, .int .i64 a0_2, .int .i64 a0_3, .int .i64 a0_4, .int .i64 a0_5, .int .i64 a0_6, .int .i64 a0_7, .int .i64 a0_8, .int .i64 a0_9] 30 (0, 0)) (by (with_reducible repeat (first | refine blk_drewN ?_ _ | refine blk_drew ?_ | refine blk_alloc ?_ _)); exact BK269.out)) : gb275 ≠ gb269)); clear BK269; clear HB; have BK269 := n0_; have HB := n1_; have BK275 := n2_; have GW275 := n3_; have GE275 := n4_; have NB269_275 := n5_; have NB275_269 := n6_; clear n0_ n1_ n2_ n3_ n4_ n5_ n6_; clear hb hbox hg; have hnb16 := NB275_269.out; have hnc16 := NB269_275.out; have hcz17_0 : w15.cell? ⟨gb275, 0, none⟩ = some (.int .i64 0) := (blk_cell BK275.out 0).trans rfl; have hcz17_1 : w15.cell? ⟨gb275, 1, none⟩ = some (.int .i64 0) := (blk_cell BK275.out 1).trans rfl; have hcz17_2 : w15.cell? ⟨gb275, 2, none⟩ = some (.int .i64 0) := (blk_cell BK275.out 2).trans rfl; have hfz17_0 := blk_frozen BK275.out 0; have hfz17_1 := blk_frozen BK275.out 1; have hfz17_2 := blk_frozen BK275.out 2; have hcz18_0 : w15.cell? ⟨gb269, 0, none⟩ = some (.int .i64 a0_0) := (blk_cell BK269.out 0).trans rfl; have hcz18_1 : w15.cell? ⟨gb269, 1, none⟩ = some (.int .i64 a0_1) := (blk_cell BK269.out 1).trans rfl; have hcz18_2 : w15.cell? ⟨gb269, 2, none⟩ = some (.int .i64 a0_2) := (blk_cell BK269.out 2).trans rfl; have hcz18_3 : w15.cell? ⟨gb269, 3, none⟩ = some (.int .i64 a0_3) := (blk_cell BK269.out 3).trans rfl; have hcz18_4 : w15.cell? ⟨gb269, 4, none⟩ = some (.int .i64 a0_4) := (blk_cell BK269.out 4).trans rfl; have hcz18_5 : w15.cell? ⟨gb269, 5, none⟩ = some (.int .i64 a0_5) := (blk_cell BK269.out 5).trans rfl; have hcz18_6 : w15.cell? ⟨gb269, 6, none⟩ = some (.int .i64 a0_6) := (blk_cell BK269.out 6).trans rfl; have hcz18_7 : w15.cell? ⟨gb269, 7, none⟩ = some (.int .i64 a0_7) := (blk_cell BK269.out 7).trans rfl; have hcz18_8 : w15.cell? ⟨gb269, 8, none⟩ = some (.int .i64 a0_8) := (blk_cell BK269.out 8).trans rfl; have hcz18_9 : w15.cell? ⟨gb269, 9, none⟩ = some (.int .i64 a0_9) := (blk_cell BK269.out 9).trans rfl; have hfz18_0 := blk_frozen BK269.out 0; have hfz18_1 := blk_frozen BK269.out 1; have hfz18_2 := blk_frozen BK269.out 2; have hfz18_3 := blk_frozen BK269.out 3; have hfz18_4 := blk_frozen BK269.out 4; have hfz18_5 := blk_frozen BK269.out 5; have hfz18_6 := blk_frozen BK269.out 6; have hfz18_7 := blk_frozen BK269.out 7; have hfz18_8 := blk_frozen BK269.out 8; have hfz18_9 := blk_frozen BK269.out 9) | ((with_reducible refine gate_callee (f := 18) rfl ?_); refine goesL_ (some 50) rfl rfl Tryd.func18 (by kernel_rfl) rfl #[.agg #[.int .i64 a0_0, .int .i64 a0_1, .int .i64 a0_2], .agg #[.int .i64 a0_3, .int .i64 a0_4, .int .i64 a0_5, .int .i64 a0_6], .int .i64 a0_7, .int .i64 a0_8, .int .i64 (wrap64 (x5_6 + (wrap64 (a1))))] rfl (by (try simp only [List.map_toArray, List.map_cons, List.map_nil]); first | done | rfl | (simp only [List.length_drop, List.length_take]; rfl)) ?_; (with_reducible refine (drive_Steps.calls kj6 a0_0 a0_1 a0_2 a0_3 a0_4 a0_5 a0_6 a0_7 a0_8 (wrap64 (x5_6 + (wrap64 (a1)))) t276 t277 t278 t279 t280 _ ?side1 A10.out).mono ?_); (case side1 => exact Tg.Tab.below HTAB.out (by repeat (first | (with_reducible first | exact HB.out | apply below_alloc | apply pw_below_drewN | apply below_drew1 | refine below_set ?_ GE269.out | refine below_set ?_ GE275.out) | exact HB.out))); rintro e w19 ⟨rfl, hb⟩; refine ⟨_, rfl, ?_⟩; have n0_ := Aside0.mk (blk_below (g := gb269) (o := .cells #[.int .i64 a0_0, .int .i64 a0_1, .int .i64 a0_2, .int .i64 a0_3, .int .i64 a0_4, .int .i64 a0_5, .int .i64 a0_6, .int .i64 a0_7, .int .i64 a0_8, .int .i64 a0_9] 30 (0, 0)) (by (with_reducible repeat (first | refine blk_drewN ?_ _ | refine blk_drew ?_ | refine blk_alloc ?_ _)); refine blk_far ?_ NB269_275.out _; (with_reducible repeat (first | refine blk_drewN ?_ _ | refine blk_drew ?_ | refine blk_alloc ?_ _)); refine blk_far ?_ NB269_275.out _; (with_reducible repeat (first | refine blk_drewN ?_ _ | refine blk_drew ?_ | refine blk_alloc ?_ _)); refine blk_far ?_ NB269_275.out _; (with_reducible repeat (first | refine blk_drewN ?_ _ | refine blk_drew ?_ | refine blk_alloc ?_ _)); exact BK269.out) hb); have n1_ := Aside0.mk (blk_below (g := gb275) (o := .cells #[.int .i64 t270, .int .i64 t271, .int .i64 t272] 26 (0, 0)) (by (with_reducible repeat (first | refine blk_drewN ?_ _ | refine blk_drew ?_ | refine blk_alloc ?_ _)); refine blk_put (cs := #[.int .i64 t270, .int .i64 t271, .int .i64 0]) ?_ 2 _ rfl; (with_reducible repeat (first | refine blk_drewN ?_ _ | refine blk_drew ?_ | refine blk_alloc ?_ _)); refine blk_put (cs := #[.int .i64 t270, .int .i64 0, .int .i64 0]) ?_ 1 _ rfl; (with_reducible repeat (first | refine blk_drewN ?_ _ | refine blk_drew ?_ | refine blk_alloc ?_ _)); refine blk_put (cs := #[.int .i64 0, .int .i64 0, .int .i64 0]) ?_ 0 _ rfl; (with_reducible repeat (first | refine blk_drewN ?_ _ | refine blk_drew ?_ | refine blk_alloc ?_ _)); exact BK275.out) hb); have n2_ := Aside0.mk (below_step (by repeat (first | (with_reducible first | exact HB.out | apply below_alloc | apply pw_below_drewN | apply below_drew1 | refine below_set ?_ GE269.out | refine below_set ?_ GE275.out) | exact HB.out)) hb); clear BK269; clear BK275; clear HB; have BK269 := n0_; have BK275 := n1_; have HB := n2_; clear n0_ n1_ n2_; (try clear hb); (try clear hb2); (try clear hk); (try clear hi)) | ((with_reducible refine gate_dst (N := 9) rfl ?_); refine box_event ?hg (N := 9) ?hd (cs := #[.int .i64 0, .int .i64 0, .int .i64 0]) (t := 26) ?hr ?_; (case hd => rfl); (case hg => rfl); (case hr => first | (go_simp; done) | (go_simp; rfl)); intro gb281 hg w20 hbox hb; have n0_ := Aside0.mk (blk_below (g := gb269) (o := .cells #[.int .i64 a0_0, .int .i64 a0_1, .int .i64 a0_2, .int .i64 a0_3, .int .i64 a0_4, .int .i64 a0_5, .int .i64 a0_6, .int .i64 a0_7, .int .i64 a0_8, .int .i64 a0_9] 30 (0, 0)) (by (with_reducible repeat (first | refine blk_drewN ?_ _ | refine blk_drew ?_ | refine blk_alloc ?_ _)); exact BK269.out) hb); have n1_ := Aside0.mk (blk_below (g := gb275) (o := .cells #[.int .i64 t270, .int .i64 t271, .int .i64 t272] 26 (0, 0)) (by (with_reducible repeat (first | refine blk_drewN ?_ _ | refine blk_drew ?_ | refine blk_alloc ?_ _)); exact BK275.out) hb); have n2_ := Aside0.mk (below_step (by repeat (first | (with_reducible first | exact HB.out | apply below_alloc | apply pw_below_drewN | apply below_drew1 | refine below_set ?_ GE269.out | refine below_set ?_ GE275.out) | exact HB.out)) hb); have n3_ := Aside0.mk (hbox); have n4_ := Aside0.mk ((by rw [hg]; exact (below_size (by repeat (first | (with_reducible first | exact HB.out | apply below_alloc | apply pw_below_drewN | apply below_drew1 | refine below_set ?_ GE269.out | refine below_set ?_ GE275.out) | exact HB.out))) : w.heap.size ≤ gb281)); have n5_ := Aside0.mk ((by rw [hg]; exact (below_size (by repeat (first | (with_reducible first | exact HB.out | apply below_alloc | apply pw_below_drewN | apply below_drew1 | refine below_set ?_ GE269.out | refine below_set ?_ GE275.out) | exact HB.out))) : w.heap.size ≤ gb281)); have n6_ := Aside0.mk ((by rw [hg]; exact Nat.ne_of_lt (blk_lt (g := gb269) (o := .cells #[.int .i64 a0_0, .int .i64 a0_1, .int .i64 a0_2, .int .i64 a0_3, .int .i64 a0_4, .int .i64 a0_5, .int .i64 a0_6, .int .i64 a0_7, .int .i64 a0_8, .int .i64 a0_9] 30 (0, 0)) (by (with_reducible repeat (first | refine blk_drewN ?_ _ | refine blk_drew ?_ | refine blk_alloc ?_ _)); exact BK269.out)) : gb269 ≠ gb281)); have n7_ := Aside0.mk ((by rw [hg]; exact Nat.ne_of_gt (blk_lt (g := gb269) (o := .cells #[.int .i64 a0_0, .int .i64 a0_1, .int .i64 a0_2, .int .i64 a0_3, .int .i64 a0_4, .int .i64 a0_5, .int .i64 a0_6, .int .i64 a0_7, .int .i64 a0_8, .int .i64 a0_9] 30 (0, 0)) (by (with_reducible repeat (first | refine blk_drewN ?_ _ | refine blk_drew ?_ | refine blk_alloc ?_ _)); exact BK269.out)) : gb281 ≠ gb269)); have n8_ := Aside0.mk ((by rw [hg]; exact Nat.ne_of_lt (blk_lt (g := gb275) (o := .cells #[.int .i64 t270, .int .i64 t271, .int .i64 t272] 26 (0, 0)) (by (with_reducible repeat (first | refine blk_drewN ?_ _ | refine blk_drew ?_ | refine blk_alloc ?_ _)); exact BK275.out)) : gb275 ≠ gb281)); have n9_ := Aside0.mk ((by rw [hg]; exact Nat.ne_of_gt (blk_lt (g := gb275) (o := .cells #[.int .i64 t270, .int .i64 t271, .int .i64 t272] 26 (0, 0)) (by (with_reducible repeat (first | refine blk_drewN ?_ _ | refine blk_drew ?_ | refine blk_alloc ?_ _)); exact BK275.out)) : gb281 ≠ gb275)); clear BK269; clear BK275; clear HB; have BK269 := n0_; have BK275 := n1_; have HB := n2_; have BK281 := n3_; have GW281 := n4_; have GE281 := n5_; have NB269_281 := n6_; have NB281_269 := n7_; have NB275_281 := n8_; have NB281_275 := n9_; clear n0_ n1_ n2_ n3_ n4_ n5_ n6_ n7_ n8_ n9_; clear hb hbox hg; have hnb21 := NB281_269.out; have hnc21 := NB269_281.out; have hnb22 := NB281_275.out; have hnc22 := NB275_281.out; have hcz23_0 : w20.cell? ⟨gb281, 0, none⟩ = some (.int .i64 0) := (blk_cell BK281.out 0).trans rfl; have hcz23_1 : w20.cell? ⟨gb281, 1, none⟩ = some (.int .i64 0) := (blk_cell BK281.out 1).trans rfl; have hcz23_2 : w20.cell? ⟨gb281, 2, none⟩ = some (.int .i64 0) := (blk_cell BK281.out 2).trans rfl; have hfz23_0 := blk_frozen BK281.out 0; have hfz23_1 := blk_frozen BK281.out 1; have hfz23_2 := blk_frozen BK281.out 2))
            (try simp only [Act.put, List.setIfInBounds_toArray, List.set_cons_zero, List.set_cons_succ])
            go_cut [85] (fun v85 wc => ∃ (kq : Nat) (x85_11 : Bool), v85 = .bool x85_11 ∧ Aside0 (bivouaclaw14_DriveParts.j2 kq a1 t273 t279 t280 x85_11 a0_0 a0_1 a0_2 a0_3 a0_4 a0_5 a0_6 a0_7 a0_8 a0_9 t270 t271 t272 t276 t277 t278 = some r) ∧ Aside0 (kq ≤ kj6) ∧ Aside0 (wc.heap[gb269]? = some (.cells #[.int .i64 a0_0, .int .i64 a0_1, .int .i64 a0_2, .int .i64 a0_3, .int .i64 a0_4, .int .i64 a0_5, .int .i64 a0_6, .int .i64 a0_7, .int .i64 a0_8, .int .i64 a0_9] 30 (0, 0))) ∧ Aside0 (wc.heap[gb275]? = some (.cells #[.int .i64 t270, .int .i64 t271, .int .i64 t272] 26 (0, 0))) ∧ Aside0 (wc.heap[gb281]? = some (.cells #[.int .i64 t276, .int .i64 t277, .int .i64 t278] 26 (0, 0))) ∧ Aside0 (Below w.heap.size w wc))
            case first =>
              have H := HC12.out
              clear HC12
              by_cases c24 : t270 = a0_7
              · rw [if_pos c24] at H
                have c24b0 : (t270 == a0_7) = true := beq_iff_eq.mpr c24
                have c24b1 : (t270 != a0_7) = false := bne_eq_false_iff_eq.mpr c24
                clear c24
                (first | rw [c24b0] | (simp only [i64_w, i32_w]; rw [c24b0]) | skip)
                by_cases c25 : t271 = a0_8
                · rw [if_pos c25] at H
                  have c25b0 : (t271 == a0_8) = true := beq_iff_eq.mpr c25
                  have c25b1 : (t271 != a0_8) = false := bne_eq_false_iff_eq.mpr c25
                  clear c25
                  have H' := Aside0.mk H
                  clear H
                  have hnb26 := NB275_269.out
                  have hnc26 := NB269_275.out
                  have hnb27 := NB275_281.out
                  have hnc27 := NB281_275.out
                  have hcz28_0 : w20.cell? ⟨gb275, 0, none⟩ = some (.int .i64 t270) := (blk_cell BK275.out 0).trans rfl
                  have hcz28_1 : w20.cell? ⟨gb275, 1, none⟩ = some (.int .i64 t271) := (blk_cell BK275.out 1).trans rfl
                  have hcz28_2 : w20.cell? ⟨gb275, 2, none⟩ = some (.int .i64 t272) := (blk_cell BK275.out 2).trans rfl
                  have hfz28_0 := blk_frozen BK275.out 0
                  have hfz28_1 := blk_frozen BK275.out 1
                  have hfz28_2 := blk_frozen BK275.out 2
                  have hnb29 := NB269_281.out
                  have hnc29 := NB281_269.out
                  have hcz30_0 : w20.cell? ⟨gb269, 0, none⟩ = some (.int .i64 a0_0) := (blk_cell BK269.out 0).trans rfl
                  have hcz30_1 : w20.cell? ⟨gb269, 1, none⟩ = some (.int .i64 a0_1) := (blk_cell BK269.out 1).trans rfl
                  have hcz30_2 : w20.cell? ⟨gb269, 2, none⟩ = some (.int .i64 a0_2) := (blk_cell BK269.out 2).trans rfl
                  have hcz30_3 : w20.cell? ⟨gb269, 3, none⟩ = some (.int .i64 a0_3) := (blk_cell BK269.out 3).trans rfl
                  have hcz30_4 : w20.cell? ⟨gb269, 4, none⟩ = some (.int .i64 a0_4) := (blk_cell BK269.out 4).trans rfl
                  have hcz30_5 : w20.cell? ⟨gb269, 5, none⟩ = some (.int .i64 a0_5) := (blk_cell BK269.out 5).trans rfl
                  have hcz30_6 : w20.cell? ⟨gb269, 6, none⟩ = some (.int .i64 a0_6) := (blk_cell BK269.out 6).trans rfl
                  have hcz30_7 : w20.cell? ⟨gb269, 7, none⟩ = some (.int .i64 a0_7) := (blk_cell BK269.out 7).trans rfl
                  have hcz30_8 : w20.cell? ⟨gb269, 8, none⟩ = some (.int .i64 a0_8) := (blk_cell BK269.out 8).trans rfl
                  have hcz30_9 : w20.cell? ⟨gb269, 9, none⟩ = some (.int .i64 a0_9) := (blk_cell BK269.out 9).trans rfl
                  have hfz30_0 := blk_frozen BK269.out 0
                  have hfz30_1 := blk_frozen BK269.out 1
                  have hfz30_2 := blk_frozen BK269.out 2
                  have hfz30_3 := blk_frozen BK269.out 3
                  have hfz30_4 := blk_frozen BK269.out 4
                  have hfz30_5 := blk_frozen BK269.out 5
                  have hfz30_6 := blk_frozen BK269.out 6
                  have hfz30_7 := blk_frozen BK269.out 7
                  have hfz30_8 := blk_frozen BK269.out 8
                  have hfz30_9 := blk_frozen BK269.out 9
                  go_wp2
                  go_meet
                  case rel => exact ⟨_, (decide (t273 > 0)), (by first | rfl | (simp; done) | (simp [*]; done)), H', ⟨by have := HJ2.out; have := HJ6.out; first | omega | exact Nat.le_refl _⟩, ⟨by (with_reducible repeat (first | refine blk_drewN ?_ _ | refine blk_drew ?_ | refine blk_alloc ?_ _)); refine blk_far ?_ NB269_281.out _; (with_reducible repeat (first | refine blk_drewN ?_ _ | refine blk_drew ?_ | refine blk_alloc ?_ _)); refine blk_far ?_ NB269_281.out _; (with_reducible repeat (first | refine blk_drewN ?_ _ | refine blk_drew ?_ | refine blk_alloc ?_ _)); refine blk_far ?_ NB269_281.out _; (with_reducible repeat (first | refine blk_drewN ?_ _ | refine blk_drew ?_ | refine blk_alloc ?_ _)); exact BK269.out⟩, ⟨by (with_reducible repeat (first | refine blk_drewN ?_ _ | refine blk_drew ?_ | refine blk_alloc ?_ _)); refine blk_far ?_ NB275_281.out _; (with_reducible repeat (first | refine blk_drewN ?_ _ | refine blk_drew ?_ | refine blk_alloc ?_ _)); refine blk_far ?_ NB275_281.out _; (with_reducible repeat (first | refine blk_drewN ?_ _ | refine blk_drew ?_ | refine blk_alloc ?_ _)); refine blk_far ?_ NB275_281.out _; (with_reducible repeat (first | refine blk_drewN ?_ _ | refine blk_drew ?_ | refine blk_alloc ?_ _)); exact BK275.out⟩, ⟨by (with_reducible repeat (first | refine blk_drewN ?_ _ | refine blk_drew ?_ | refine blk_alloc ?_ _)); refine blk_put (cs := #[.int .i64 t276, .int .i64 t277, .int .i64 0]) ?_ 2 _ rfl; (with_reducible repeat (first | refine blk_drewN ?_ _ | refine blk_drew ?_ | refine blk_alloc ?_ _)); refine blk_put (cs := #[.int .i64 t276, .int .i64 0, .int .i64 0]) ?_ 1 _ rfl; (with_reducible repeat (first | refine blk_drewN ?_ _ | refine blk_drew ?_ | refine blk_alloc ?_ _)); refine blk_put (cs := #[.int .i64 0, .int .i64 0, .int .i64 0]) ?_ 0 _ rfl; (with_reducible repeat (first | refine blk_drewN ?_ _ | refine blk_drew ?_ | refine blk_alloc ?_ _)); exact BK281.out⟩, ⟨by repeat (first | (with_reducible first | exact HB.out | apply below_alloc | apply pw_below_drewN | apply below_drew1 | refine below_set ?_ GE269.out | refine below_set ?_ GE275.out | refine below_set ?_ GE281.out) | exact HB.out)⟩⟩
                · rw [if_neg c25] at H
                  have c25b0 : (t271 == a0_8) = false := beq_eq_false_iff_ne.mpr c25
                  have c25b1 : (t271 != a0_8) = true := bne_iff_ne.mpr c25
                  have H' := Aside0.mk H
                  clear H
                  have hnb31 := NB275_269.out
                  have hnc31 := NB269_275.out
                  have hnb32 := NB275_281.out
                  have hnc32 := NB281_275.out
                  have hcz33_0 : w20.cell? ⟨gb275, 0, none⟩ = some (.int .i64 t270) := (blk_cell BK275.out 0).trans rfl
                  have hcz33_1 : w20.cell? ⟨gb275, 1, none⟩ = some (.int .i64 t271) := (blk_cell BK275.out 1).trans rfl
                  have hcz33_2 : w20.cell? ⟨gb275, 2, none⟩ = some (.int .i64 t272) := (blk_cell BK275.out 2).trans rfl
                  have hfz33_0 := blk_frozen BK275.out 0
                  have hfz33_1 := blk_frozen BK275.out 1
                  have hfz33_2 := blk_frozen BK275.out 2
                  have hnb34 := NB269_281.out
                  have hnc34 := NB281_269.out
                  have hcz35_0 : w20.cell? ⟨gb269, 0, none⟩ = some (.int .i64 a0_0) := (blk_cell BK269.out 0).trans rfl
                  have hcz35_1 : w20.cell? ⟨gb269, 1, none⟩ = some (.int .i64 a0_1) := (blk_cell BK269.out 1).trans rfl
                  have hcz35_2 : w20.cell? ⟨gb269, 2, none⟩ = some (.int .i64 a0_2) := (blk_cell BK269.out 2).trans rfl
                  have hcz35_3 : w20.cell? ⟨gb269, 3, none⟩ = some (.int .i64 a0_3) := (blk_cell BK269.out 3).trans rfl
                  have hcz35_4 : w20.cell? ⟨gb269, 4, none⟩ = some (.int .i64 a0_4) := (blk_cell BK269.out 4).trans rfl
                  have hcz35_5 : w20.cell? ⟨gb269, 5, none⟩ = some (.int .i64 a0_5) := (blk_cell BK269.out 5).trans rfl
                  have hcz35_6 : w20.cell? ⟨gb269, 6, none⟩ = some (.int .i64 a0_6) := (blk_cell BK269.out 6).trans rfl
                  have hcz35_7 : w20.cell? ⟨gb269, 7, none⟩ = some (.int .i64 a0_7) := (blk_cell BK269.out 7).trans rfl
                  have hcz35_8 : w20.cell? ⟨gb269, 8, none⟩ = some (.int .i64 a0_8) := (blk_cell BK269.out 8).trans rfl
                  have hcz35_9 : w20.cell? ⟨gb269, 9, none⟩ = some (.int .i64 a0_9) := (blk_cell BK269.out 9).trans rfl
                  have hfz35_0 := blk_frozen BK269.out 0
                  have hfz35_1 := blk_frozen BK269.out 1
                  have hfz35_2 := blk_frozen BK269.out 2
                  have hfz35_3 := blk_frozen BK269.out 3
                  have hfz35_4 := blk_frozen BK269.out 4
                  have hfz35_5 := blk_frozen BK269.out 5
                  have hfz35_6 := blk_frozen BK269.out 6
                  have hfz35_7 := blk_frozen BK269.out 7
                  have hfz35_8 := blk_frozen BK269.out 8
                  have hfz35_9 := blk_frozen BK269.out 9
                  go_wp2
                  go_meet
                  case rel => exact ⟨_, (false), (by first | rfl | (simp; done) | (simp [*]; done)), H', ⟨by have := HJ2.out; have := HJ6.out; first | omega | exact Nat.le_refl _⟩, ⟨by (with_reducible repeat (first | refine blk_drewN ?_ _ | refine blk_drew ?_ | refine blk_alloc ?_ _)); refine blk_far ?_ NB269_281.out _; (with_reducible repeat (first | refine blk_drewN ?_ _ | refine blk_drew ?_ | refine blk_alloc ?_ _)); refine blk_far ?_ NB269_281.out _; (with_reducible repeat (first | refine blk_drewN ?_ _ | refine blk_drew ?_ | refine blk_alloc ?_ _)); refine blk_far ?_ NB269_281.out _; (with_reducible repeat (first | refine blk_drewN ?_ _ | refine blk_drew ?_ | refine blk_alloc ?_ _)); exact BK269.out⟩, ⟨by (with_reducible repeat (first | refine blk_drewN ?_ _ | refine blk_drew ?_ | refine blk_alloc ?_ _)); refine blk_far ?_ NB275_281.out _; (with_reducible repeat (first | refine blk_drewN ?_ _ | refine blk_drew ?_ | refine blk_alloc ?_ _)); refine blk_far ?_ NB275_281.out _; (with_reducible repeat (first | refine blk_drewN ?_ _ | refine blk_drew ?_ | refine blk_alloc ?_ _)); refine blk_far ?_ NB275_281.out _; (with_reducible repeat (first | refine blk_drewN ?_ _ | refine blk_drew ?_ | refine blk_alloc ?_ _)); exact BK275.out⟩, ⟨by (with_reducible repeat (first | refine blk_drewN ?_ _ | refine blk_drew ?_ | refine blk_alloc ?_ _)); refine blk_put (cs := #[.int .i64 t276, .int .i64 t277, .int .i64 0]) ?_ 2 _ rfl; (with_reducible repeat (first | refine blk_drewN ?_ _ | refine blk_drew ?_ | refine blk_alloc ?_ _)); refine blk_put (cs := #[.int .i64 t276, .int .i64 0, .int .i64 0]) ?_ 1 _ rfl; (with_reducible repeat (first | refine blk_drewN ?_ _ | refine blk_drew ?_ | refine blk_alloc ?_ _)); refine blk_put (cs := #[.int .i64 0, .int .i64 0, .int .i64 0]) ?_ 0 _ rfl; (with_reducible repeat (first | refine blk_drewN ?_ _ | refine blk_drew ?_ | refine blk_alloc ?_ _)); exact BK281.out⟩, ⟨by repeat (first | (with_reducible first | exact HB.out | apply below_alloc | apply pw_below_drewN | apply below_drew1 | refine below_set ?_ GE269.out | refine below_set ?_ GE275.out | refine below_set ?_ GE281.out) | exact HB.out)⟩⟩
              · rw [if_neg c24] at H
                have c24b0 : (t270 == a0_7) = false := beq_eq_false_iff_ne.mpr c24
                have c24b1 : (t270 != a0_7) = true := bne_iff_ne.mpr c24
                (first | rw [c24b0] | (simp only [i64_w, i32_w]; rw [c24b0]) | skip)
                have H' := Aside0.mk H
                clear H
                have hnb36 := NB275_269.out
                have hnc36 := NB269_275.out
                have hnb37 := NB275_281.out
                have hnc37 := NB281_275.out
                have hcz38_0 : w20.cell? ⟨gb275, 0, none⟩ = some (.int .i64 t270) := (blk_cell BK275.out 0).trans rfl
                have hcz38_1 : w20.cell? ⟨gb275, 1, none⟩ = some (.int .i64 t271) := (blk_cell BK275.out 1).trans rfl
                have hcz38_2 : w20.cell? ⟨gb275, 2, none⟩ = some (.int .i64 t272) := (blk_cell BK275.out 2).trans rfl
                have hfz38_0 := blk_frozen BK275.out 0
                have hfz38_1 := blk_frozen BK275.out 1
                have hfz38_2 := blk_frozen BK275.out 2
                have hnb39 := NB269_281.out
                have hnc39 := NB281_269.out
                have hcz40_0 : w20.cell? ⟨gb269, 0, none⟩ = some (.int .i64 a0_0) := (blk_cell BK269.out 0).trans rfl
                have hcz40_1 : w20.cell? ⟨gb269, 1, none⟩ = some (.int .i64 a0_1) := (blk_cell BK269.out 1).trans rfl
                have hcz40_2 : w20.cell? ⟨gb269, 2, none⟩ = some (.int .i64 a0_2) := (blk_cell BK269.out 2).trans rfl
                have hcz40_3 : w20.cell? ⟨gb269, 3, none⟩ = some (.int .i64 a0_3) := (blk_cell BK269.out 3).trans rfl
                have hcz40_4 : w20.cell? ⟨gb269, 4, none⟩ = some (.int .i64 a0_4) := (blk_cell BK269.out 4).trans rfl
                have hcz40_5 : w20.cell? ⟨gb269, 5, none⟩ = some (.int .i64 a0_5) := (blk_cell BK269.out 5).trans rfl
                have hcz40_6 : w20.cell? ⟨gb269, 6, none⟩ = some (.int .i64 a0_6) := (blk_cell BK269.out 6).trans rfl
                have hcz40_7 : w20.cell? ⟨gb269, 7, none⟩ = some (.int .i64 a0_7) := (blk_cell BK269.out 7).trans rfl
                have hcz40_8 : w20.cell? ⟨gb269, 8, none⟩ = some (.int .i64 a0_8) := (blk_cell BK269.out 8).trans rfl
                have hcz40_9 : w20.cell? ⟨gb269, 9, none⟩ = some (.int .i64 a0_9) := (blk_cell BK269.out 9).trans rfl
                have hfz40_0 := blk_frozen BK269.out 0
                have hfz40_1 := blk_frozen BK269.out 1
                have hfz40_2 := blk_frozen BK269.out 2
                have hfz40_3 := blk_frozen BK269.out 3
                have hfz40_4 := blk_frozen BK269.out 4
                have hfz40_5 := blk_frozen BK269.out 5
                have hfz40_6 := blk_frozen BK269.out 6
                have hfz40_7 := blk_frozen BK269.out 7
                have hfz40_8 := blk_frozen BK269.out 8
                have hfz40_9 := blk_frozen BK269.out 9
                go_wp2
                go_meet
                case rel => exact ⟨_, (false), (by first | rfl | (simp; done) | (simp [*]; done)), H', ⟨by have := HJ2.out; have := HJ6.out; first | omega | exact Nat.le_refl _⟩, ⟨by (with_reducible repeat (first | refine blk_drewN ?_ _ | refine blk_drew ?_ | refine blk_alloc ?_ _)); refine blk_far ?_ NB269_281.out _; (with_reducible repeat (first | refine blk_drewN ?_ _ | refine blk_drew ?_ | refine blk_alloc ?_ _)); refine blk_far ?_ NB269_281.out _; (with_reducible repeat (first | refine blk_drewN ?_ _ | refine blk_drew ?_ | refine blk_alloc ?_ _)); refine blk_far ?_ NB269_281.out _; (with_reducible repeat (first | refine blk_drewN ?_ _ | refine blk_drew ?_ | refine blk_alloc ?_ _)); exact BK269.out⟩, ⟨by (with_reducible repeat (first | refine blk_drewN ?_ _ | refine blk_drew ?_ | refine blk_alloc ?_ _)); refine blk_far ?_ NB275_281.out _; (with_reducible repeat (first | refine blk_drewN ?_ _ | refine blk_drew ?_ | refine blk_alloc ?_ _)); refine blk_far ?_ NB275_281.out _; (with_reducible repeat (first | refine blk_drewN ?_ _ | refine blk_drew ?_ | refine blk_alloc ?_ _)); refine blk_far ?_ NB275_281.out _; (with_reducible repeat (first | refine blk_drewN ?_ _ | refine blk_drew ?_ | refine blk_alloc ?_ _)); exact BK275.out⟩, ⟨by (with_reducible repeat (first | refine blk_drewN ?_ _ | refine blk_drew ?_ | refine blk_alloc ?_ _)); refine blk_put (cs := #[.int .i64 t276, .int .i64 t277, .int .i64 0]) ?_ 2 _ rfl; (with_reducible repeat (first | refine blk_drewN ?_ _ | refine blk_drew ?_ | refine blk_alloc ?_ _)); refine blk_put (cs := #[.int .i64 t276, .int .i64 0, .int .i64 0]) ?_ 1 _ rfl; (with_reducible repeat (first | refine blk_drewN ?_ _ | refine blk_drew ?_ | refine blk_alloc ?_ _)); refine blk_put (cs := #[.int .i64 0, .int .i64 0, .int .i64 0]) ?_ 0 _ rfl; (with_reducible repeat (first | refine blk_drewN ?_ _ | refine blk_drew ?_ | refine blk_alloc ?_ _)); exact BK281.out⟩, ⟨by repeat (first | (with_reducible first | exact HB.out | apply below_alloc | apply pw_below_drewN | apply below_drew1 | refine below_set ?_ GE269.out | refine below_set ?_ GE275.out | refine below_set ?_ GE281.out) | exact HB.out)⟩⟩
            case rest =>
              clear HC12
              try clear c1
              try clear c2
              try clear p2
              try clear c3
              try clear c6
              try clear c6b0
              try clear p6
              try clear c7
              try clear c8
              try clear c11
              try clear c11b0
              try clear c11b1
              try clear c16
              try clear c18
              try clear c21
              try clear c22
              try clear c24
              try clear c24b0
              try clear c24b1
              try clear c25
              try clear c25b0
              try clear c25b1
              try clear c26
              try clear c27
              try clear c29
              try clear c31
              try clear c32
              try clear c34
              try clear c36
              try clear c37
              try clear c39
              try clear hcz13_0
              try clear hcz13_1
              try clear hcz13_2
              try clear hcz13_3
              try clear hcz13_4
              try clear hcz13_5
              try clear hcz13_6
              try clear hcz13_7
              try clear hcz13_8
              try clear hcz13_9
              try clear hcz17_0
              try clear hcz17_1
              try clear hcz17_2
              try clear hcz18_0
              try clear hcz18_1
              try clear hcz18_2
              try clear hcz18_3
              try clear hcz18_4
              try clear hcz18_5
              try clear hcz18_6
              try clear hcz18_7
              try clear hcz18_8
              try clear hcz18_9
              try clear hcz23_0
              try clear hcz23_1
              try clear hcz23_2
              try clear hcz28_0
              try clear hcz28_1
              try clear hcz28_2
              try clear hcz30_0
              try clear hcz30_1
              try clear hcz30_2
              try clear hcz30_3
              try clear hcz30_4
              try clear hcz30_5
              try clear hcz30_6
              try clear hcz30_7
              try clear hcz30_8
              try clear hcz30_9
              try clear hcz33_0
              try clear hcz33_1
              try clear hcz33_2
              try clear hcz35_0
              try clear hcz35_1
              try clear hcz35_2
              try clear hcz35_3
              try clear hcz35_4
              try clear hcz35_5
              try clear hcz35_6
              try clear hcz35_7
              try clear hcz35_8
              try clear hcz35_9
              try clear hcz38_0
              try clear hcz38_1
              try clear hcz38_2
              try clear hcz40_0
              try clear hcz40_1
              try clear hcz40_2
              try clear hcz40_3
              try clear hcz40_4
              try clear hcz40_5
              try clear hcz40_6
              try clear hcz40_7
              try clear hcz40_8
              try clear hcz40_9
              try clear hcz5_0
              try clear hcz5_1
              try clear hcz5_2
              try clear hcz5_3
              try clear hcz5_4
              try clear hcz5_5
              try clear hcz5_6
              try clear hcz5_7
              try clear hcz5_8
              try clear hcz5_9
              try clear hfz13_0
              try clear hfz13_1
              try clear hfz13_2
              try clear hfz13_3
              try clear hfz13_4
              try clear hfz13_5
              try clear hfz13_6
              try clear hfz13_7
              try clear hfz13_8
              try clear hfz13_9
              try clear hfz17_0
              try clear hfz17_1
              try clear hfz17_2
              try clear hfz18_0
              try clear hfz18_1
              try clear hfz18_2
              try clear hfz18_3
              try clear hfz18_4
              try clear hfz18_5
              try clear hfz18_6
              try clear hfz18_7
              try clear hfz18_8
              try clear hfz18_9
              try clear hfz23_0
              try clear hfz23_1
              try clear hfz23_2
              try clear hfz28_0
              try clear hfz28_1
              try clear hfz28_2
              try clear hfz30_0
              try clear hfz30_1
              try clear hfz30_2
              try clear hfz30_3
              try clear hfz30_4
              try clear hfz30_5
              try clear hfz30_6
              try clear hfz30_7
              try clear hfz30_8
              try clear hfz30_9
              try clear hfz33_0
              try clear hfz33_1
              try clear hfz33_2
              try clear hfz35_0
              try clear hfz35_1
              try clear hfz35_2
              try clear hfz35_3
              try clear hfz35_4
              try clear hfz35_5
              try clear hfz35_6
              try clear hfz35_7
              try clear hfz35_8
              try clear hfz35_9
              try clear hfz38_0
              try clear hfz38_1
              try clear hfz38_2
              try clear hfz40_0
              try clear hfz40_1
              try clear hfz40_2
              try clear hfz40_3
              try clear hfz40_4
              try clear hfz40_5
              try clear hfz40_6
              try clear hfz40_7
              try clear hfz40_8
              try clear hfz40_9
              try clear hfz5_0
              try clear hfz5_1
              try clear hfz5_2
              try clear hfz5_3
              try clear hfz5_4
              try clear hfz5_5
              try clear hfz5_6
              try clear hfz5_7
              try clear hfz5_8
              try clear hfz5_9
              try clear p2
              obtain ⟨kq, x85_11, rfl, HA, HJ11, BK269, BK275, BK281, HB⟩ := hcut
              cases kq with
              | zero => exact absurd HA.out (by simp [bivouaclaw14_DriveParts.j2])
              | succ kj11 =>
                have H := HA.out
                clear HA
                simp only [bivouaclaw14_DriveParts.j2] at H
                by_cases c41 : x85_11 = true
                · subst c41
                  have H1 : (if t280 = 0 then (if t276 = t270 then (if t277 = t271 then (if t278 = t272 then (if t279 ≤ (wrap64 (t273 + 1)) then ((bivouaclaw14_awake.f kj11).bind fun t283 => (some t283)) else (some false)) else (some false)) else (some false)) else (some false)) else (some false)) = some r := by rw [if_pos rfl] at H; exact H
                  clear H
                  have H := H1
                  clear H1
                  by_cases c42 : t280 = 0
                  · rw [if_pos c42] at H
                    have c42b0 : (t280 == 0) = true := beq_iff_eq.mpr c42
                    have c42b1 : (t280 != 0) = false := bne_eq_false_iff_eq.mpr c42
                    clear c42
                    by_cases c43 : t276 = t270
                    · rw [if_pos c43] at H
                      have c43b0 : (t276 == t270) = true := beq_iff_eq.mpr c43
                      have c43b1 : (t276 != t270) = false := bne_eq_false_iff_eq.mpr c43
                      clear c43
                      by_cases c44 : t277 = t271
                      · rw [if_pos c44] at H
                        have c44b0 : (t277 == t271) = true := beq_iff_eq.mpr c44
                        have c44b1 : (t277 != t271) = false := bne_eq_false_iff_eq.mpr c44
                        clear c44
                        by_cases c45 : t278 = t272
                        · rw [if_pos c45] at H
                          have c45b0 : (t278 == t272) = true := beq_iff_eq.mpr c45
                          have c45b1 : (t278 != t272) = false := bne_eq_false_iff_eq.mpr c45
                          clear c45
                          by_cases c46 : t279 ≤ (wrap64 (t273 + 1))
                          · rw [if_pos c46] at H
                            have c46b0 : decide (t279 ≤ (wrap64 (t273 + 1))) = true := decide_eq_true c46
                            clear c46
                            replace H := Option.bind_eq_some_iff.mp H
                            obtain ⟨t283, A470, H⟩ := H
                            replace H : (some t283) = some r := H
                            have A47 := Aside0.mk A470
                            clear A470
                            obtain rfl := Option.some.inj H
                            have hnb48 := NB281_269.out
                            have hnc48 := NB269_281.out
                            have hnb49 := NB281_275.out
                            have hnc49 := NB275_281.out
                            have hcz50_0 : wc.cell? ⟨gb281, 0, none⟩ = some (.int .i64 t276) := (blk_cell BK281.out 0).trans rfl
                            have hcz50_1 : wc.cell? ⟨gb281, 1, none⟩ = some (.int .i64 t277) := (blk_cell BK281.out 1).trans rfl
                            have hcz50_2 : wc.cell? ⟨gb281, 2, none⟩ = some (.int .i64 t278) := (blk_cell BK281.out 2).trans rfl
                            have hfz50_0 := blk_frozen BK281.out 0
                            have hfz50_1 := blk_frozen BK281.out 1
                            have hfz50_2 := blk_frozen BK281.out 2
                            have hnb51 := NB275_269.out
                            have hnc51 := NB269_275.out
                            have hcz52_0 : wc.cell? ⟨gb275, 0, none⟩ = some (.int .i64 t270) := (blk_cell BK275.out 0).trans rfl
                            have hcz52_1 : wc.cell? ⟨gb275, 1, none⟩ = some (.int .i64 t271) := (blk_cell BK275.out 1).trans rfl
                            have hcz52_2 : wc.cell? ⟨gb275, 2, none⟩ = some (.int .i64 t272) := (blk_cell BK275.out 2).trans rfl
                            have hfz52_0 := blk_frozen BK275.out 0
                            have hfz52_1 := blk_frozen BK275.out 1
                            have hfz52_2 := blk_frozen BK275.out 2
                            go_wp2_with (first | (go_at_call 14; (with_reducible refine (bivouaclaw14_awake.calls kj11  t283 _ ?side1 A47.out).mono ?_); (case side1 => exact Tg.Tab.below HTAB.out (by repeat (first | (with_reducible first | exact HB.out | apply below_alloc | apply pw_below_drewN | apply below_drew1 | refine below_set ?_ GE269.out | refine below_set ?_ GE275.out | refine below_set ?_ GE281.out) | exact HB.out))); rintro e w53 ⟨rfl, hb⟩; have n0_ := Aside0.mk (blk_below (g := gb269) (o := .cells #[.int .i64 a0_0, .int .i64 a0_1, .int .i64 a0_2, .int .i64 a0_3, .int .i64 a0_4, .int .i64 a0_5, .int .i64 a0_6, .int .i64 a0_7, .int .i64 a0_8, .int .i64 a0_9] 30 (0, 0)) (by (with_reducible repeat (first | refine blk_drewN ?_ _ | refine blk_drew ?_ | refine blk_alloc ?_ _)); exact BK269.out) hb); have n1_ := Aside0.mk (blk_below (g := gb275) (o := .cells #[.int .i64 t270, .int .i64 t271, .int .i64 t272] 26 (0, 0)) (by (with_reducible repeat (first | refine blk_drewN ?_ _ | refine blk_drew ?_ | refine blk_alloc ?_ _)); exact BK275.out) hb); have n2_ := Aside0.mk (blk_below (g := gb281) (o := .cells #[.int .i64 t276, .int .i64 t277, .int .i64 t278] 26 (0, 0)) (by (with_reducible repeat (first | refine blk_drewN ?_ _ | refine blk_drew ?_ | refine blk_alloc ?_ _)); exact BK281.out) hb); have n3_ := Aside0.mk (below_step (by repeat (first | (with_reducible first | exact HB.out | apply below_alloc | apply pw_below_drewN | apply below_drew1 | refine below_set ?_ GE269.out | refine below_set ?_ GE275.out | refine below_set ?_ GE281.out) | exact HB.out)) hb); clear BK269; clear BK275; clear BK281; clear HB; have BK269 := n0_; have BK275 := n1_; have BK281 := n2_; have HB := n3_; clear n0_ n1_ n2_ n3_; (try clear hb); (try clear hb2); (try clear hk); (try clear hi)))
                            go_ret
                            exact ⟨by first | rfl | (simp [errW_none, errW_some] <;> rfl) | (simp [*, errW_none, errW_some] <;> rfl), by repeat (first | (with_reducible first | exact HB.out | apply below_alloc | apply pw_below_drewN | apply below_drew1 | refine below_set ?_ GE269.out | refine below_set ?_ GE275.out | refine below_set ?_ GE281.out) | exact HB.out)⟩
                          · rw [if_neg c46] at H
                            have c46b0 : decide (t279 ≤ (wrap64 (t273 + 1))) = false := decide_eq_false c46
                            clear c46
                            obtain rfl := Option.some.inj H
                            have hnb54 := NB281_269.out
                            have hnc54 := NB269_281.out
                            have hnb55 := NB281_275.out
                            have hnc55 := NB275_281.out
                            have hcz56_0 : wc.cell? ⟨gb281, 0, none⟩ = some (.int .i64 t276) := (blk_cell BK281.out 0).trans rfl
                            have hcz56_1 : wc.cell? ⟨gb281, 1, none⟩ = some (.int .i64 t277) := (blk_cell BK281.out 1).trans rfl
                            have hcz56_2 : wc.cell? ⟨gb281, 2, none⟩ = some (.int .i64 t278) := (blk_cell BK281.out 2).trans rfl
                            have hfz56_0 := blk_frozen BK281.out 0
                            have hfz56_1 := blk_frozen BK281.out 1
                            have hfz56_2 := blk_frozen BK281.out 2
                            have hnb57 := NB275_269.out
                            have hnc57 := NB269_275.out
                            have hcz58_0 : wc.cell? ⟨gb275, 0, none⟩ = some (.int .i64 t270) := (blk_cell BK275.out 0).trans rfl
                            have hcz58_1 : wc.cell? ⟨gb275, 1, none⟩ = some (.int .i64 t271) := (blk_cell BK275.out 1).trans rfl
                            have hcz58_2 : wc.cell? ⟨gb275, 2, none⟩ = some (.int .i64 t272) := (blk_cell BK275.out 2).trans rfl
                            have hfz58_0 := blk_frozen BK275.out 0
                            have hfz58_1 := blk_frozen BK275.out 1
                            have hfz58_2 := blk_frozen BK275.out 2
                            go_wp2
                            go_ret
                            exact ⟨by first | rfl | (simp [errW_none, errW_some] <;> rfl) | (simp [*, errW_none, errW_some] <;> rfl), by repeat (first | (with_reducible first | exact HB.out | apply below_alloc | apply pw_below_drewN | apply below_drew1 | refine below_set ?_ GE269.out | refine below_set ?_ GE275.out | refine below_set ?_ GE281.out) | exact HB.out)⟩
                        · rw [if_neg c45] at H
                          have c45b0 : (t278 == t272) = false := beq_eq_false_iff_ne.mpr c45
                          have c45b1 : (t278 != t272) = true := bne_iff_ne.mpr c45
                          obtain rfl := Option.some.inj H
                          have hnb59 := NB281_269.out
                          have hnc59 := NB269_281.out
                          have hnb60 := NB281_275.out
                          have hnc60 := NB275_281.out
                          have hcz61_0 : wc.cell? ⟨gb281, 0, none⟩ = some (.int .i64 t276) := (blk_cell BK281.out 0).trans rfl
                          have hcz61_1 : wc.cell? ⟨gb281, 1, none⟩ = some (.int .i64 t277) := (blk_cell BK281.out 1).trans rfl
                          have hcz61_2 : wc.cell? ⟨gb281, 2, none⟩ = some (.int .i64 t278) := (blk_cell BK281.out 2).trans rfl
                          have hfz61_0 := blk_frozen BK281.out 0
                          have hfz61_1 := blk_frozen BK281.out 1
                          have hfz61_2 := blk_frozen BK281.out 2
                          have hnb62 := NB275_269.out
                          have hnc62 := NB269_275.out
                          have hcz63_0 : wc.cell? ⟨gb275, 0, none⟩ = some (.int .i64 t270) := (blk_cell BK275.out 0).trans rfl
                          have hcz63_1 : wc.cell? ⟨gb275, 1, none⟩ = some (.int .i64 t271) := (blk_cell BK275.out 1).trans rfl
                          have hcz63_2 : wc.cell? ⟨gb275, 2, none⟩ = some (.int .i64 t272) := (blk_cell BK275.out 2).trans rfl
                          have hfz63_0 := blk_frozen BK275.out 0
                          have hfz63_1 := blk_frozen BK275.out 1
                          have hfz63_2 := blk_frozen BK275.out 2
                          go_wp2
                          go_ret
                          exact ⟨by first | rfl | (simp [errW_none, errW_some] <;> rfl) | (simp [*, errW_none, errW_some] <;> rfl), by repeat (first | (with_reducible first | exact HB.out | apply below_alloc | apply pw_below_drewN | apply below_drew1 | refine below_set ?_ GE269.out | refine below_set ?_ GE275.out | refine below_set ?_ GE281.out) | exact HB.out)⟩
                      · rw [if_neg c44] at H
                        have c44b0 : (t277 == t271) = false := beq_eq_false_iff_ne.mpr c44
                        have c44b1 : (t277 != t271) = true := bne_iff_ne.mpr c44
                        obtain rfl := Option.some.inj H
                        have hnb64 := NB281_269.out
                        have hnc64 := NB269_281.out
                        have hnb65 := NB281_275.out
                        have hnc65 := NB275_281.out
                        have hcz66_0 : wc.cell? ⟨gb281, 0, none⟩ = some (.int .i64 t276) := (blk_cell BK281.out 0).trans rfl
                        have hcz66_1 : wc.cell? ⟨gb281, 1, none⟩ = some (.int .i64 t277) := (blk_cell BK281.out 1).trans rfl
                        have hcz66_2 : wc.cell? ⟨gb281, 2, none⟩ = some (.int .i64 t278) := (blk_cell BK281.out 2).trans rfl
                        have hfz66_0 := blk_frozen BK281.out 0
                        have hfz66_1 := blk_frozen BK281.out 1
                        have hfz66_2 := blk_frozen BK281.out 2
                        have hnb67 := NB275_269.out
                        have hnc67 := NB269_275.out
                        have hcz68_0 : wc.cell? ⟨gb275, 0, none⟩ = some (.int .i64 t270) := (blk_cell BK275.out 0).trans rfl
                        have hcz68_1 : wc.cell? ⟨gb275, 1, none⟩ = some (.int .i64 t271) := (blk_cell BK275.out 1).trans rfl
                        have hcz68_2 : wc.cell? ⟨gb275, 2, none⟩ = some (.int .i64 t272) := (blk_cell BK275.out 2).trans rfl
                        have hfz68_0 := blk_frozen BK275.out 0
                        have hfz68_1 := blk_frozen BK275.out 1
                        have hfz68_2 := blk_frozen BK275.out 2
                        go_wp2
                        go_ret
                        exact ⟨by first | rfl | (simp [errW_none, errW_some] <;> rfl) | (simp [*, errW_none, errW_some] <;> rfl), by repeat (first | (with_reducible first | exact HB.out | apply below_alloc | apply pw_below_drewN | apply below_drew1 | refine below_set ?_ GE269.out | refine below_set ?_ GE275.out | refine below_set ?_ GE281.out) | exact HB.out)⟩
                    · rw [if_neg c43] at H
                      have c43b0 : (t276 == t270) = false := beq_eq_false_iff_ne.mpr c43
                      have c43b1 : (t276 != t270) = true := bne_iff_ne.mpr c43
                      obtain rfl := Option.some.inj H
                      have hnb69 := NB281_269.out
                      have hnc69 := NB269_281.out
                      have hnb70 := NB281_275.out
                      have hnc70 := NB275_281.out
                      have hcz71_0 : wc.cell? ⟨gb281, 0, none⟩ = some (.int .i64 t276) := (blk_cell BK281.out 0).trans rfl
                      have hcz71_1 : wc.cell? ⟨gb281, 1, none⟩ = some (.int .i64 t277) := (blk_cell BK281.out 1).trans rfl
                      have hcz71_2 : wc.cell? ⟨gb281, 2, none⟩ = some (.int .i64 t278) := (blk_cell BK281.out 2).trans rfl
                      have hfz71_0 := blk_frozen BK281.out 0
                      have hfz71_1 := blk_frozen BK281.out 1
                      have hfz71_2 := blk_frozen BK281.out 2
                      have hnb72 := NB275_269.out
                      have hnc72 := NB269_275.out
                      have hcz73_0 : wc.cell? ⟨gb275, 0, none⟩ = some (.int .i64 t270) := (blk_cell BK275.out 0).trans rfl
                      have hcz73_1 : wc.cell? ⟨gb275, 1, none⟩ = some (.int .i64 t271) := (blk_cell BK275.out 1).trans rfl
                      have hcz73_2 : wc.cell? ⟨gb275, 2, none⟩ = some (.int .i64 t272) := (blk_cell BK275.out 2).trans rfl
                      have hfz73_0 := blk_frozen BK275.out 0
                      have hfz73_1 := blk_frozen BK275.out 1
                      have hfz73_2 := blk_frozen BK275.out 2
                      go_wp2
                      go_ret
                      exact ⟨by first | rfl | (simp [errW_none, errW_some] <;> rfl) | (simp [*, errW_none, errW_some] <;> rfl), by repeat (first | (with_reducible first | exact HB.out | apply below_alloc | apply pw_below_drewN | apply below_drew1 | refine below_set ?_ GE269.out | refine below_set ?_ GE275.out | refine below_set ?_ GE281.out) | exact HB.out)⟩
                  · rw [if_neg c42] at H
                    have c42b0 : (t280 == 0) = false := beq_eq_false_iff_ne.mpr c42
                    have c42b1 : (t280 != 0) = true := bne_iff_ne.mpr c42
                    obtain rfl := Option.some.inj H
                    go_wp2
                    go_ret
                    exact ⟨by first | rfl | (simp [errW_none, errW_some] <;> rfl) | (simp [*, errW_none, errW_some] <;> rfl), by repeat (first | (with_reducible first | exact HB.out | apply below_alloc | apply pw_below_drewN | apply below_drew1 | refine below_set ?_ GE269.out | refine below_set ?_ GE275.out | refine below_set ?_ GE281.out) | exact HB.out)⟩
                · replace c41 := Bool.eq_false_iff.mpr c41
                  subst c41
                  have H1 : ((drive_Steps.f kj11 t270 t271 t272 a0_3 a0_4 a0_5 a0_6 a0_7 a0_8 (wrap64 (a1))).bind fun bt284 => (if t280 = 0 then (if bt284.2.2.2.2 = 0 then (if (t276 == bt284.1 && (t277 == bt284.2.1 && (t278 == bt284.2.2.1))) = true then (if t279 = (wrap64 (t273 + bt284.2.2.2.1)) then ((bivouaclaw14_awake.f kj11).bind fun t290 => (some t290)) else (some false)) else (some false)) else (some false)) else (some false))) = some r := by rw [if_neg (show ¬ (false = true) by decide)] at H; exact H
                  clear H
                  have H := H1
                  clear H1
                  replace H := Option.bind_eq_some_iff.mp H
                  obtain ⟨⟨t284, t285, t286, t287, t288⟩, A740, H⟩ := H
                  replace H : (if t280 = 0 then (if t288 = 0 then (if (t276 == t284 && (t277 == t285 && (t278 == t286))) = true then (if t279 = (wrap64 (t273 + t287)) then ((bivouaclaw14_awake.f kj11).bind fun t290 => (some t290)) else (some false)) else (some false)) else (some false)) else (some false)) = some r := H
                  have A74 := Aside0.mk A740
                  clear A740
                  by_cases c75 : t280 = 0
                  · rw [if_pos c75] at H
                    have c75b0 : (t280 == 0) = true := beq_iff_eq.mpr c75
                    have c75b1 : (t280 != 0) = false := bne_eq_false_iff_eq.mpr c75
                    clear c75
                    by_cases c76 : t288 = 0
                    · rw [if_pos c76] at H
                      have c76b0 : (t288 == 0) = true := beq_iff_eq.mpr c76
                      have c76b1 : (t288 != 0) = false := bne_eq_false_iff_eq.mpr c76
                      clear c76
                      by_cases c77 : (t276 == t284 && (t277 == t285 && (t278 == t286))) = true
                      · rw [if_pos c77] at H
                        have c77b0 : (t276 == t284 && (t277 == t285 && (t278 == t286))) = true := c77
                        (try (have c77b1 : decide (t276 = t284 && (t277 == t285 && (t278 == t286))) = true := by simpa using c77))
                        (try (have c77b2 : (t276 == t284 && (t277 == t285 && (t278 == t286))) = true := by simpa using c77))
                        clear c77
                        by_cases c78 : t279 = (wrap64 (t273 + t287))
                        · rw [if_pos c78] at H
                          have c78b0 : (t279 == (wrap64 (t273 + t287))) = true := beq_iff_eq.mpr c78
                          have c78b1 : (t279 != (wrap64 (t273 + t287))) = false := bne_eq_false_iff_eq.mpr c78
                          clear c78
                          replace H := Option.bind_eq_some_iff.mp H
                          obtain ⟨t290, A790, H⟩ := H
                          replace H : (some t290) = some r := H
                          have A79 := Aside0.mk A790
                          clear A790
                          obtain rfl := Option.some.inj H
                          have hnb80 := NB275_269.out
                          have hnc80 := NB269_275.out
                          have hnb81 := NB275_281.out
                          have hnc81 := NB281_275.out
                          have hcz82_0 : wc.cell? ⟨gb275, 0, none⟩ = some (.int .i64 t270) := (blk_cell BK275.out 0).trans rfl
                          have hcz82_1 : wc.cell? ⟨gb275, 1, none⟩ = some (.int .i64 t271) := (blk_cell BK275.out 1).trans rfl
                          have hcz82_2 : wc.cell? ⟨gb275, 2, none⟩ = some (.int .i64 t272) := (blk_cell BK275.out 2).trans rfl
                          have hfz82_0 := blk_frozen BK275.out 0
                          have hfz82_1 := blk_frozen BK275.out 1
                          have hfz82_2 := blk_frozen BK275.out 2
                          have hnb83 := NB269_281.out
                          have hnc83 := NB281_269.out
                          have hcz84_0 : wc.cell? ⟨gb269, 0, none⟩ = some (.int .i64 a0_0) := (blk_cell BK269.out 0).trans rfl
                          have hcz84_1 : wc.cell? ⟨gb269, 1, none⟩ = some (.int .i64 a0_1) := (blk_cell BK269.out 1).trans rfl
                          have hcz84_2 : wc.cell? ⟨gb269, 2, none⟩ = some (.int .i64 a0_2) := (blk_cell BK269.out 2).trans rfl
                          have hcz84_3 : wc.cell? ⟨gb269, 3, none⟩ = some (.int .i64 a0_3) := (blk_cell BK269.out 3).trans rfl
                          have hcz84_4 : wc.cell? ⟨gb269, 4, none⟩ = some (.int .i64 a0_4) := (blk_cell BK269.out 4).trans rfl
                          have hcz84_5 : wc.cell? ⟨gb269, 5, none⟩ = some (.int .i64 a0_5) := (blk_cell BK269.out 5).trans rfl
                          have hcz84_6 : wc.cell? ⟨gb269, 6, none⟩ = some (.int .i64 a0_6) := (blk_cell BK269.out 6).trans rfl
                          have hcz84_7 : wc.cell? ⟨gb269, 7, none⟩ = some (.int .i64 a0_7) := (blk_cell BK269.out 7).trans rfl
                          have hcz84_8 : wc.cell? ⟨gb269, 8, none⟩ = some (.int .i64 a0_8) := (blk_cell BK269.out 8).trans rfl
                          have hcz84_9 : wc.cell? ⟨gb269, 9, none⟩ = some (.int .i64 a0_9) := (blk_cell BK269.out 9).trans rfl
                          have hfz84_0 := blk_frozen BK269.out 0
                          have hfz84_1 := blk_frozen BK269.out 1
                          have hfz84_2 := blk_frozen BK269.out 2
                          have hfz84_3 := blk_frozen BK269.out 3
                          have hfz84_4 := blk_frozen BK269.out 4
                          have hfz84_5 := blk_frozen BK269.out 5
                          have hfz84_6 := blk_frozen BK269.out 6
                          have hfz84_7 := blk_frozen BK269.out 7
                          have hfz84_8 := blk_frozen BK269.out 8
                          have hfz84_9 := blk_frozen BK269.out 9
                          go_wp2_with (first | ((with_reducible refine gate_callee (f := 18) rfl ?_); refine goesL_ (some 128) rfl rfl Tryd.func18 (by kernel_rfl) rfl #[.agg #[.int .i64 t270, .int .i64 t271, .int .i64 t272], .agg #[.int .i64 a0_3, .int .i64 a0_4, .int .i64 a0_5, .int .i64 a0_6], .int .i64 a0_7, .int .i64 a0_8, .int .i64 (wrap64 (a1))] rfl (by (try simp only [List.map_toArray, List.map_cons, List.map_nil]); first | done | rfl | (simp only [List.length_drop, List.length_take]; rfl)) ?_; (with_reducible refine (drive_Steps.calls kj11 t270 t271 t272 a0_3 a0_4 a0_5 a0_6 a0_7 a0_8 (wrap64 (a1)) t284 t285 t286 t287 t288 _ ?side1 A74.out).mono ?_); (case side1 => exact Tg.Tab.below HTAB.out (by repeat (first | (with_reducible first | exact HB.out | apply below_alloc | apply pw_below_drewN | apply below_drew1 | refine below_set ?_ GE269.out | refine below_set ?_ GE275.out | refine below_set ?_ GE281.out) | exact HB.out))); rintro e w85 ⟨rfl, hb⟩; refine ⟨_, rfl, ?_⟩; have n0_ := Aside0.mk (blk_below (g := gb269) (o := .cells #[.int .i64 a0_0, .int .i64 a0_1, .int .i64 a0_2, .int .i64 a0_3, .int .i64 a0_4, .int .i64 a0_5, .int .i64 a0_6, .int .i64 a0_7, .int .i64 a0_8, .int .i64 a0_9] 30 (0, 0)) (by (with_reducible repeat (first | refine blk_drewN ?_ _ | refine blk_drew ?_ | refine blk_alloc ?_ _)); exact BK269.out) hb); have n1_ := Aside0.mk (blk_below (g := gb275) (o := .cells #[.int .i64 t270, .int .i64 t271, .int .i64 t272] 26 (0, 0)) (by (with_reducible repeat (first | refine blk_drewN ?_ _ | refine blk_drew ?_ | refine blk_alloc ?_ _)); exact BK275.out) hb); have n2_ := Aside0.mk (blk_below (g := gb281) (o := .cells #[.int .i64 t276, .int .i64 t277, .int .i64 t278] 26 (0, 0)) (by (with_reducible repeat (first | refine blk_drewN ?_ _ | refine blk_drew ?_ | refine blk_alloc ?_ _)); exact BK281.out) hb); have n3_ := Aside0.mk (below_step (by repeat (first | (with_reducible first | exact HB.out | apply below_alloc | apply pw_below_drewN | apply below_drew1 | refine below_set ?_ GE269.out | refine below_set ?_ GE275.out | refine below_set ?_ GE281.out) | exact HB.out)) hb); clear BK269; clear BK275; clear BK281; clear HB; have BK269 := n0_; have BK275 := n1_; have BK281 := n2_; have HB := n3_; clear n0_ n1_ n2_ n3_; (try clear hb); (try clear hb2); (try clear hk); (try clear hi)) | ((with_reducible refine gate_dst (N := 12) rfl ?_); refine box_event ?hg (N := 12) ?hd (cs := #[.int .i64 0, .int .i64 0, .int .i64 0]) (t := 26) ?hr ?_; (case hd => rfl); (case hg => rfl); (case hr => first | (go_simp; done) | (go_simp; rfl)); intro gb289 hg w86 hbox hb; have n0_ := Aside0.mk (blk_below (g := gb269) (o := .cells #[.int .i64 a0_0, .int .i64 a0_1, .int .i64 a0_2, .int .i64 a0_3, .int .i64 a0_4, .int .i64 a0_5, .int .i64 a0_6, .int .i64 a0_7, .int .i64 a0_8, .int .i64 a0_9] 30 (0, 0)) (by (with_reducible repeat (first | refine blk_drewN ?_ _ | refine blk_drew ?_ | refine blk_alloc ?_ _)); exact BK269.out) hb); have n1_ := Aside0.mk (blk_below (g := gb275) (o := .cells #[.int .i64 t270, .int .i64 t271, .int .i64 t272] 26 (0, 0)) (by (with_reducible repeat (first | refine blk_drewN ?_ _ | refine blk_drew ?_ | refine blk_alloc ?_ _)); exact BK275.out) hb); have n2_ := Aside0.mk (blk_below (g := gb281) (o := .cells #[.int .i64 t276, .int .i64 t277, .int .i64 t278] 26 (0, 0)) (by (with_reducible repeat (first | refine blk_drewN ?_ _ | refine blk_drew ?_ | refine blk_alloc ?_ _)); exact BK281.out) hb); have n3_ := Aside0.mk (below_step (by repeat (first | (with_reducible first | exact HB.out | apply below_alloc | apply pw_below_drewN | apply below_drew1 | refine below_set ?_ GE269.out | refine below_set ?_ GE275.out | refine below_set ?_ GE281.out) | exact HB.out)) hb); have n4_ := Aside0.mk (hbox); have n5_ := Aside0.mk ((by rw [hg]; exact (below_size (by repeat (first | (with_reducible first | exact HB.out | apply below_alloc | apply pw_below_drewN | apply below_drew1 | refine below_set ?_ GE269.out | refine below_set ?_ GE275.out | refine below_set ?_ GE281.out) | exact HB.out))) : w.heap.size ≤ gb289)); have n6_ := Aside0.mk ((by rw [hg]; exact (below_size (by repeat (first | (with_reducible first | exact HB.out | apply below_alloc | apply pw_below_drewN | apply below_drew1 | refine below_set ?_ GE269.out | refine below_set ?_ GE275.out | refine below_set ?_ GE281.out) | exact HB.out))) : w.heap.size ≤ gb289)); have n7_ := Aside0.mk ((by rw [hg]; exact Nat.ne_of_lt (blk_lt (g := gb269) (o := .cells #[.int .i64 a0_0, .int .i64 a0_1, .int .i64 a0_2, .int .i64 a0_3, .int .i64 a0_4, .int .i64 a0_5, .int .i64 a0_6, .int .i64 a0_7, .int .i64 a0_8, .int .i64 a0_9] 30 (0, 0)) (by (with_reducible repeat (first | refine blk_drewN ?_ _ | refine blk_drew ?_ | refine blk_alloc ?_ _)); exact BK269.out)) : gb269 ≠ gb289)); have n8_ := Aside0.mk ((by rw [hg]; exact Nat.ne_of_gt (blk_lt (g := gb269) (o := .cells #[.int .i64 a0_0, .int .i64 a0_1, .int .i64 a0_2, .int .i64 a0_3, .int .i64 a0_4, .int .i64 a0_5, .int .i64 a0_6, .int .i64 a0_7, .int .i64 a0_8, .int .i64 a0_9] 30 (0, 0)) (by (with_reducible repeat (first | refine blk_drewN ?_ _ | refine blk_drew ?_ | refine blk_alloc ?_ _)); exact BK269.out)) : gb289 ≠ gb269)); have n9_ := Aside0.mk ((by rw [hg]; exact Nat.ne_of_lt (blk_lt (g := gb275) (o := .cells #[.int .i64 t270, .int .i64 t271, .int .i64 t272] 26 (0, 0)) (by (with_reducible repeat (first | refine blk_drewN ?_ _ | refine blk_drew ?_ | refine blk_alloc ?_ _)); exact BK275.out)) : gb275 ≠ gb289)); have n10_ := Aside0.mk ((by rw [hg]; exact Nat.ne_of_gt (blk_lt (g := gb275) (o := .cells #[.int .i64 t270, .int .i64 t271, .int .i64 t272] 26 (0, 0)) (by (with_reducible repeat (first | refine blk_drewN ?_ _ | refine blk_drew ?_ | refine blk_alloc ?_ _)); exact BK275.out)) : gb289 ≠ gb275)); have n11_ := Aside0.mk ((by rw [hg]; exact Nat.ne_of_lt (blk_lt (g := gb281) (o := .cells #[.int .i64 t276, .int .i64 t277, .int .i64 t278] 26 (0, 0)) (by (with_reducible repeat (first | refine blk_drewN ?_ _ | refine blk_drew ?_ | refine blk_alloc ?_ _)); exact BK281.out)) : gb281 ≠ gb289)); have n12_ := Aside0.mk ((by rw [hg]; exact Nat.ne_of_gt (blk_lt (g := gb281) (o := .cells #[.int .i64 t276, .int .i64 t277, .int .i64 t278] 26 (0, 0)) (by (with_reducible repeat (first | refine blk_drewN ?_ _ | refine blk_drew ?_ | refine blk_alloc ?_ _)); exact BK281.out)) : gb289 ≠ gb281)); clear BK269; clear BK275; clear BK281; clear HB; have BK269 := n0_; have BK275 := n1_; have BK281 := n2_; have HB := n3_; have BK289 := n4_; have GW289 := n5_; have GE289 := n6_; have NB269_289 := n7_; have NB289_269 := n8_; have NB275_289 := n9_; have NB289_275 := n10_; have NB281_289 := n11_; have NB289_281 := n12_; clear n0_ n1_ n2_ n3_ n4_ n5_ n6_ n7_ n8_ n9_ n10_ n11_ n12_; clear hb hbox hg; have hnb87 := NB289_269.out; have hnc87 := NB269_289.out; have hnb88 := NB289_275.out; have hnc88 := NB275_289.out; have hnb89 := NB289_281.out; have hnc89 := NB281_289.out; have hcz90_0 : w86.cell? ⟨gb289, 0, none⟩ = some (.int .i64 0) := (blk_cell BK289.out 0).trans rfl; have hcz90_1 : w86.cell? ⟨gb289, 1, none⟩ = some (.int .i64 0) := (blk_cell BK289.out 1).trans rfl; have hcz90_2 : w86.cell? ⟨gb289, 2, none⟩ = some (.int .i64 0) := (blk_cell BK289.out 2).trans rfl; have hfz90_0 := blk_frozen BK289.out 0; have hfz90_1 := blk_frozen BK289.out 1; have hfz90_2 := blk_frozen BK289.out 2; have hcz91_0 : w86.cell? ⟨gb281, 0, none⟩ = some (.int .i64 t276) := (blk_cell BK281.out 0).trans rfl; have hcz91_1 : w86.cell? ⟨gb281, 1, none⟩ = some (.int .i64 t277) := (blk_cell BK281.out 1).trans rfl; have hcz91_2 : w86.cell? ⟨gb281, 2, none⟩ = some (.int .i64 t278) := (blk_cell BK281.out 2).trans rfl; have hfz91_0 := blk_frozen BK281.out 0; have hfz91_1 := blk_frozen BK281.out 1; have hfz91_2 := blk_frozen BK281.out 2) | (go_at_call 14; (with_reducible refine (bivouaclaw14_awake.calls kj11  t290 _ ?side1 A79.out).mono ?_); (case side1 => exact Tg.Tab.below HTAB.out (by repeat (first | (with_reducible first | exact HB.out | apply below_alloc | apply pw_below_drewN | apply below_drew1 | refine below_set ?_ GE269.out | refine below_set ?_ GE275.out | refine below_set ?_ GE281.out | refine below_set ?_ GE289.out) | exact HB.out))); rintro e w92 ⟨rfl, hb⟩; have n0_ := Aside0.mk (blk_below (g := gb269) (o := .cells #[.int .i64 a0_0, .int .i64 a0_1, .int .i64 a0_2, .int .i64 a0_3, .int .i64 a0_4, .int .i64 a0_5, .int .i64 a0_6, .int .i64 a0_7, .int .i64 a0_8, .int .i64 a0_9] 30 (0, 0)) (by (with_reducible repeat (first | refine blk_drewN ?_ _ | refine blk_drew ?_ | refine blk_alloc ?_ _)); refine blk_far ?_ NB269_289.out _; (with_reducible repeat (first | refine blk_drewN ?_ _ | refine blk_drew ?_ | refine blk_alloc ?_ _)); refine blk_far ?_ NB269_289.out _; (with_reducible repeat (first | refine blk_drewN ?_ _ | refine blk_drew ?_ | refine blk_alloc ?_ _)); refine blk_far ?_ NB269_289.out _; (with_reducible repeat (first | refine blk_drewN ?_ _ | refine blk_drew ?_ | refine blk_alloc ?_ _)); exact BK269.out) hb); have n1_ := Aside0.mk (blk_below (g := gb275) (o := .cells #[.int .i64 t270, .int .i64 t271, .int .i64 t272] 26 (0, 0)) (by (with_reducible repeat (first | refine blk_drewN ?_ _ | refine blk_drew ?_ | refine blk_alloc ?_ _)); refine blk_far ?_ NB275_289.out _; (with_reducible repeat (first | refine blk_drewN ?_ _ | refine blk_drew ?_ | refine blk_alloc ?_ _)); refine blk_far ?_ NB275_289.out _; (with_reducible repeat (first | refine blk_drewN ?_ _ | refine blk_drew ?_ | refine blk_alloc ?_ _)); refine blk_far ?_ NB275_289.out _; (with_reducible repeat (first | refine blk_drewN ?_ _ | refine blk_drew ?_ | refine blk_alloc ?_ _)); exact BK275.out) hb); have n2_ := Aside0.mk (blk_below (g := gb281) (o := .cells #[.int .i64 t276, .int .i64 t277, .int .i64 t278] 26 (0, 0)) (by (with_reducible repeat (first | refine blk_drewN ?_ _ | refine blk_drew ?_ | refine blk_alloc ?_ _)); refine blk_far ?_ NB281_289.out _; (with_reducible repeat (first | refine blk_drewN ?_ _ | refine blk_drew ?_ | refine blk_alloc ?_ _)); refine blk_far ?_ NB281_289.out _; (with_reducible repeat (first | refine blk_drewN ?_ _ | refine blk_drew ?_ | refine blk_alloc ?_ _)); refine blk_far ?_ NB281_289.out _; (with_reducible repeat (first | refine blk_drewN ?_ _ | refine blk_drew ?_ | refine blk_alloc ?_ _)); exact BK281.out) hb); have n3_ := Aside0.mk (blk_below (g := gb289) (o := .cells #[.int .i64 t284, .int .i64 t285, .int .i64 t286] 26 (0, 0)) (by (with_reducible repeat (first | refine blk_drewN ?_ _ | refine blk_drew ?_ | refine blk_alloc ?_ _)); refine blk_put (cs := #[.int .i64 t284, .int .i64 t285, .int .i64 0]) ?_ 2 _ rfl; (with_reducible repeat (first | refine blk_drewN ?_ _ | refine blk_drew ?_ | refine blk_alloc ?_ _)); refine blk_put (cs := #[.int .i64 t284, .int .i64 0, .int .i64 0]) ?_ 1 _ rfl; (with_reducible repeat (first | refine blk_drewN ?_ _ | refine blk_drew ?_ | refine blk_alloc ?_ _)); refine blk_put (cs := #[.int .i64 0, .int .i64 0, .int .i64 0]) ?_ 0 _ rfl; (with_reducible repeat (first | refine blk_drewN ?_ _ | refine blk_drew ?_ | refine blk_alloc ?_ _)); exact BK289.out) hb); have n4_ := Aside0.mk (below_step (by repeat (first | (with_reducible first | exact HB.out | apply below_alloc | apply pw_below_drewN | apply below_drew1 | refine below_set ?_ GE269.out | refine below_set ?_ GE275.out | refine below_set ?_ GE281.out | refine below_set ?_ GE289.out) | exact HB.out)) hb); clear BK269; clear BK275; clear BK281; clear BK289; clear HB; have BK269 := n0_; have BK275 := n1_; have BK281 := n2_; have BK289 := n3_; have HB := n4_; clear n0_ n1_ n2_ n3_ n4_; (try clear hb); (try clear hb2); (try clear hk); (try clear hi)))
                          go_ret
                          exact ⟨by first | rfl | (simp [errW_none, errW_some] <;> rfl) | (simp [*, errW_none, errW_some] <;> rfl), by repeat (first | (with_reducible first | exact HB.out | apply below_alloc | apply pw_below_drewN | apply below_drew1 | refine below_set ?_ GE269.out | refine below_set ?_ GE275.out | refine below_set ?_ GE281.out | refine below_set ?_ GE289.out) | exact HB.out)⟩
                        · rw [if_neg c78] at H
                          have c78b0 : (t279 == (wrap64 (t273 + t287))) = false := beq_eq_false_iff_ne.mpr c78
                          have c78b1 : (t279 != (wrap64 (t273 + t287))) = true := bne_iff_ne.mpr c78
                          obtain rfl := Option.some.inj H
                          have hnb93 := NB275_269.out
                          have hnc93 := NB269_275.out
                          have hnb94 := NB275_281.out
                          have hnc94 := NB281_275.out
                          have hcz95_0 : wc.cell? ⟨gb275, 0, none⟩ = some (.int .i64 t270) := (blk_cell BK275.out 0).trans rfl
                          have hcz95_1 : wc.cell? ⟨gb275, 1, none⟩ = some (.int .i64 t271) := (blk_cell BK275.out 1).trans rfl
                          have hcz95_2 : wc.cell? ⟨gb275, 2, none⟩ = some (.int .i64 t272) := (blk_cell BK275.out 2).trans rfl
                          have hfz95_0 := blk_frozen BK275.out 0
                          have hfz95_1 := blk_frozen BK275.out 1
                          have hfz95_2 := blk_frozen BK275.out 2
                          have hnb96 := NB269_281.out
                          have hnc96 := NB281_269.out
                          have hcz97_0 : wc.cell? ⟨gb269, 0, none⟩ = some (.int .i64 a0_0) := (blk_cell BK269.out 0).trans rfl
                          have hcz97_1 : wc.cell? ⟨gb269, 1, none⟩ = some (.int .i64 a0_1) := (blk_cell BK269.out 1).trans rfl
                          have hcz97_2 : wc.cell? ⟨gb269, 2, none⟩ = some (.int .i64 a0_2) := (blk_cell BK269.out 2).trans rfl
                          have hcz97_3 : wc.cell? ⟨gb269, 3, none⟩ = some (.int .i64 a0_3) := (blk_cell BK269.out 3).trans rfl
                          have hcz97_4 : wc.cell? ⟨gb269, 4, none⟩ = some (.int .i64 a0_4) := (blk_cell BK269.out 4).trans rfl
                          have hcz97_5 : wc.cell? ⟨gb269, 5, none⟩ = some (.int .i64 a0_5) := (blk_cell BK269.out 5).trans rfl
                          have hcz97_6 : wc.cell? ⟨gb269, 6, none⟩ = some (.int .i64 a0_6) := (blk_cell BK269.out 6).trans rfl
                          have hcz97_7 : wc.cell? ⟨gb269, 7, none⟩ = some (.int .i64 a0_7) := (blk_cell BK269.out 7).trans rfl
                          have hcz97_8 : wc.cell? ⟨gb269, 8, none⟩ = some (.int .i64 a0_8) := (blk_cell BK269.out 8).trans rfl
                          have hcz97_9 : wc.cell? ⟨gb269, 9, none⟩ = some (.int .i64 a0_9) := (blk_cell BK269.out 9).trans rfl
                          have hfz97_0 := blk_frozen BK269.out 0
                          have hfz97_1 := blk_frozen BK269.out 1
                          have hfz97_2 := blk_frozen BK269.out 2
                          have hfz97_3 := blk_frozen BK269.out 3
                          have hfz97_4 := blk_frozen BK269.out 4
                          have hfz97_5 := blk_frozen BK269.out 5
                          have hfz97_6 := blk_frozen BK269.out 6
                          have hfz97_7 := blk_frozen BK269.out 7
                          have hfz97_8 := blk_frozen BK269.out 8
                          have hfz97_9 := blk_frozen BK269.out 9
                          go_wp2_with (first | ((with_reducible refine gate_callee (f := 18) rfl ?_); refine goesL_ (some 128) rfl rfl Tryd.func18 (by kernel_rfl) rfl #[.agg #[.int .i64 t270, .int .i64 t271, .int .i64 t272], .agg #[.int .i64 a0_3, .int .i64 a0_4, .int .i64 a0_5, .int .i64 a0_6], .int .i64 a0_7, .int .i64 a0_8, .int .i64 (wrap64 (a1))] rfl (by (try simp only [List.map_toArray, List.map_cons, List.map_nil]); first | done | rfl | (simp only [List.length_drop, List.length_take]; rfl)) ?_; (with_reducible refine (drive_Steps.calls kj11 t270 t271 t272 a0_3 a0_4 a0_5 a0_6 a0_7 a0_8 (wrap64 (a1)) t284 t285 t286 t287 t288 _ ?side1 A74.out).mono ?_); (case side1 => exact Tg.Tab.below HTAB.out (by repeat (first | (with_reducible first | exact HB.out | apply below_alloc | apply pw_below_drewN | apply below_drew1 | refine below_set ?_ GE269.out | refine below_set ?_ GE275.out | refine below_set ?_ GE281.out) | exact HB.out))); rintro e w98 ⟨rfl, hb⟩; refine ⟨_, rfl, ?_⟩; have n0_ := Aside0.mk (blk_below (g := gb269) (o := .cells #[.int .i64 a0_0, .int .i64 a0_1, .int .i64 a0_2, .int .i64 a0_3, .int .i64 a0_4, .int .i64 a0_5, .int .i64 a0_6, .int .i64 a0_7, .int .i64 a0_8, .int .i64 a0_9] 30 (0, 0)) (by (with_reducible repeat (first | refine blk_drewN ?_ _ | refine blk_drew ?_ | refine blk_alloc ?_ _)); exact BK269.out) hb); have n1_ := Aside0.mk (blk_below (g := gb275) (o := .cells #[.int .i64 t270, .int .i64 t271, .int .i64 t272] 26 (0, 0)) (by (with_reducible repeat (first | refine blk_drewN ?_ _ | refine blk_drew ?_ | refine blk_alloc ?_ _)); exact BK275.out) hb); have n2_ := Aside0.mk (blk_below (g := gb281) (o := .cells #[.int .i64 t276, .int .i64 t277, .int .i64 t278] 26 (0, 0)) (by (with_reducible repeat (first | refine blk_drewN ?_ _ | refine blk_drew ?_ | refine blk_alloc ?_ _)); exact BK281.out) hb); have n3_ := Aside0.mk (below_step (by repeat (first | (with_reducible first | exact HB.out | apply below_alloc | apply pw_below_drewN | apply below_drew1 | refine below_set ?_ GE269.out | refine below_set ?_ GE275.out | refine below_set ?_ GE281.out) | exact HB.out)) hb); clear BK269; clear BK275; clear BK281; clear HB; have BK269 := n0_; have BK275 := n1_; have BK281 := n2_; have HB := n3_; clear n0_ n1_ n2_ n3_; (try clear hb); (try clear hb2); (try clear hk); (try clear hi)) | ((with_reducible refine gate_dst (N := 12) rfl ?_); refine box_event ?hg (N := 12) ?hd (cs := #[.int .i64 0, .int .i64 0, .int .i64 0]) (t := 26) ?hr ?_; (case hd => rfl); (case hg => rfl); (case hr => first | (go_simp; done) | (go_simp; rfl)); intro gb289 hg w99 hbox hb; have n0_ := Aside0.mk (blk_below (g := gb269) (o := .cells #[.int .i64 a0_0, .int .i64 a0_1, .int .i64 a0_2, .int .i64 a0_3, .int .i64 a0_4, .int .i64 a0_5, .int .i64 a0_6, .int .i64 a0_7, .int .i64 a0_8, .int .i64 a0_9] 30 (0, 0)) (by (with_reducible repeat (first | refine blk_drewN ?_ _ | refine blk_drew ?_ | refine blk_alloc ?_ _)); exact BK269.out) hb); have n1_ := Aside0.mk (blk_below (g := gb275) (o := .cells #[.int .i64 t270, .int .i64 t271, .int .i64 t272] 26 (0, 0)) (by (with_reducible repeat (first | refine blk_drewN ?_ _ | refine blk_drew ?_ | refine blk_alloc ?_ _)); exact BK275.out) hb); have n2_ := Aside0.mk (blk_below (g := gb281) (o := .cells #[.int .i64 t276, .int .i64 t277, .int .i64 t278] 26 (0, 0)) (by (with_reducible repeat (first | refine blk_drewN ?_ _ | refine blk_drew ?_ | refine blk_alloc ?_ _)); exact BK281.out) hb); have n3_ := Aside0.mk (below_step (by repeat (first | (with_reducible first | exact HB.out | apply below_alloc | apply pw_below_drewN | apply below_drew1 | refine below_set ?_ GE269.out | refine below_set ?_ GE275.out | refine below_set ?_ GE281.out) | exact HB.out)) hb); have n4_ := Aside0.mk (hbox); have n5_ := Aside0.mk ((by rw [hg]; exact (below_size (by repeat (first | (with_reducible first | exact HB.out | apply below_alloc | apply pw_below_drewN | apply below_drew1 | refine below_set ?_ GE269.out | refine below_set ?_ GE275.out | refine below_set ?_ GE281.out) | exact HB.out))) : w.heap.size ≤ gb289)); have n6_ := Aside0.mk ((by rw [hg]; exact (below_size (by repeat (first | (with_reducible first | exact HB.out | apply below_alloc | apply pw_below_drewN | apply below_drew1 | refine below_set ?_ GE269.out | refine below_set ?_ GE275.out | refine below_set ?_ GE281.out) | exact HB.out))) : w.heap.size ≤ gb289)); have n7_ := Aside0.mk ((by rw [hg]; exact Nat.ne_of_lt (blk_lt (g := gb269) (o := .cells #[.int .i64 a0_0, .int .i64 a0_1, .int .i64 a0_2, .int .i64 a0_3, .int .i64 a0_4, .int .i64 a0_5, .int .i64 a0_6, .int .i64 a0_7, .int .i64 a0_8, .int .i64 a0_9] 30 (0, 0)) (by (with_reducible repeat (first | refine blk_drewN ?_ _ | refine blk_drew ?_ | refine blk_alloc ?_ _)); exact BK269.out)) : gb269 ≠ gb289)); have n8_ := Aside0.mk ((by rw [hg]; exact Nat.ne_of_gt (blk_lt (g := gb269) (o := .cells #[.int .i64 a0_0, .int .i64 a0_1, .int .i64 a0_2, .int .i64 a0_3, .int .i64 a0_4, .int .i64 a0_5, .int .i64 a0_6, .int .i64 a0_7, .int .i64 a0_8, .int .i64 a0_9] 30 (0, 0)) (by (with_reducible repeat (first | refine blk_drewN ?_ _ | refine blk_drew ?_ | refine blk_alloc ?_ _)); exact BK269.out)) : gb289 ≠ gb269)); have n9_ := Aside0.mk ((by rw [hg]; exact Nat.ne_of_lt (blk_lt (g := gb275) (o := .cells #[.int .i64 t270, .int .i64 t271, .int .i64 t272] 26 (0, 0)) (by (with_reducible repeat (first | refine blk_drewN ?_ _ | refine blk_drew ?_ | refine blk_alloc ?_ _)); exact BK275.out)) : gb275 ≠ gb289)); have n10_ := Aside0.mk ((by rw [hg]; exact Nat.ne_of_gt (blk_lt (g := gb275) (o := .cells #[.int .i64 t270, .int .i64 t271, .int .i64 t272] 26 (0, 0)) (by (with_reducible repeat (first | refine blk_drewN ?_ _ | refine blk_drew ?_ | refine blk_alloc ?_ _)); exact BK275.out)) : gb289 ≠ gb275)); have n11_ := Aside0.mk ((by rw [hg]; exact Nat.ne_of_lt (blk_lt (g := gb281) (o := .cells #[.int .i64 t276, .int .i64 t277, .int .i64 t278] 26 (0, 0)) (by (with_reducible repeat (first | refine blk_drewN ?_ _ | refine blk_drew ?_ | refine blk_alloc ?_ _)); exact BK281.out)) : gb281 ≠ gb289)); have n12_ := Aside0.mk ((by rw [hg]; exact Nat.ne_of_gt (blk_lt (g := gb281) (o := .cells #[.int .i64 t276, .int .i64 t277, .int .i64 t278] 26 (0, 0)) (by (with_reducible repeat (first | refine blk_drewN ?_ _ | refine blk_drew ?_ | refine blk_alloc ?_ _)); exact BK281.out)) : gb289 ≠ gb281)); clear BK269; clear BK275; clear BK281; clear HB; have BK269 := n0_; have BK275 := n1_; have BK281 := n2_; have HB := n3_; have BK289 := n4_; have GW289 := n5_; have GE289 := n6_; have NB269_289 := n7_; have NB289_269 := n8_; have NB275_289 := n9_; have NB289_275 := n10_; have NB281_289 := n11_; have NB289_281 := n12_; clear n0_ n1_ n2_ n3_ n4_ n5_ n6_ n7_ n8_ n9_ n10_ n11_ n12_; clear hb hbox hg; have hnb100 := NB289_269.out; have hnc100 := NB269_289.out; have hnb101 := NB289_275.out; have hnc101 := NB275_289.out; have hnb102 := NB289_281.out; have hnc102 := NB281_289.out; have hcz103_0 : w99.cell? ⟨gb289, 0, none⟩ = some (.int .i64 0) := (blk_cell BK289.out 0).trans rfl; have hcz103_1 : w99.cell? ⟨gb289, 1, none⟩ = some (.int .i64 0) := (blk_cell BK289.out 1).trans rfl; have hcz103_2 : w99.cell? ⟨gb289, 2, none⟩ = some (.int .i64 0) := (blk_cell BK289.out 2).trans rfl; have hfz103_0 := blk_frozen BK289.out 0; have hfz103_1 := blk_frozen BK289.out 1; have hfz103_2 := blk_frozen BK289.out 2; have hcz104_0 : w99.cell? ⟨gb281, 0, none⟩ = some (.int .i64 t276) := (blk_cell BK281.out 0).trans rfl; have hcz104_1 : w99.cell? ⟨gb281, 1, none⟩ = some (.int .i64 t277) := (blk_cell BK281.out 1).trans rfl; have hcz104_2 : w99.cell? ⟨gb281, 2, none⟩ = some (.int .i64 t278) := (blk_cell BK281.out 2).trans rfl; have hfz104_0 := blk_frozen BK281.out 0; have hfz104_1 := blk_frozen BK281.out 1; have hfz104_2 := blk_frozen BK281.out 2))
                          go_ret
                          exact ⟨by first | rfl | (simp [errW_none, errW_some] <;> rfl) | (simp [*, errW_none, errW_some] <;> rfl), by repeat (first | (with_reducible first | exact HB.out | apply below_alloc | apply pw_below_drewN | apply below_drew1 | refine below_set ?_ GE269.out | refine below_set ?_ GE275.out | refine below_set ?_ GE281.out | refine below_set ?_ GE289.out) | exact HB.out)⟩
                      · rw [if_neg c77] at H
                        have c77b0 : (t276 == t284 && (t277 == t285 && (t278 == t286))) = false := by simpa using c77
                        (try (have c77b1 : decide (t276 = t284 && (t277 == t285 && (t278 == t286))) = false := by simpa using c77))
                        (try (have c77b2 : (t276 == t284 && (t277 == t285 && (t278 == t286))) = false := by simpa using c77))
                        (try (have c77b3 : ¬ (t276 = t284 && (t277 == t285 && (t278 == t286))) := by simpa using c77))
                        clear c77
                        obtain rfl := Option.some.inj H
                        have hnb105 := NB275_269.out
                        have hnc105 := NB269_275.out
                        have hnb106 := NB275_281.out
                        have hnc106 := NB281_275.out
                        have hcz107_0 : wc.cell? ⟨gb275, 0, none⟩ = some (.int .i64 t270) := (blk_cell BK275.out 0).trans rfl
                        have hcz107_1 : wc.cell? ⟨gb275, 1, none⟩ = some (.int .i64 t271) := (blk_cell BK275.out 1).trans rfl
                        have hcz107_2 : wc.cell? ⟨gb275, 2, none⟩ = some (.int .i64 t272) := (blk_cell BK275.out 2).trans rfl
                        have hfz107_0 := blk_frozen BK275.out 0
                        have hfz107_1 := blk_frozen BK275.out 1
                        have hfz107_2 := blk_frozen BK275.out 2
                        have hnb108 := NB269_281.out
                        have hnc108 := NB281_269.out
                        have hcz109_0 : wc.cell? ⟨gb269, 0, none⟩ = some (.int .i64 a0_0) := (blk_cell BK269.out 0).trans rfl
                        have hcz109_1 : wc.cell? ⟨gb269, 1, none⟩ = some (.int .i64 a0_1) := (blk_cell BK269.out 1).trans rfl
                        have hcz109_2 : wc.cell? ⟨gb269, 2, none⟩ = some (.int .i64 a0_2) := (blk_cell BK269.out 2).trans rfl
                        have hcz109_3 : wc.cell? ⟨gb269, 3, none⟩ = some (.int .i64 a0_3) := (blk_cell BK269.out 3).trans rfl
                        have hcz109_4 : wc.cell? ⟨gb269, 4, none⟩ = some (.int .i64 a0_4) := (blk_cell BK269.out 4).trans rfl
                        have hcz109_5 : wc.cell? ⟨gb269, 5, none⟩ = some (.int .i64 a0_5) := (blk_cell BK269.out 5).trans rfl
                        have hcz109_6 : wc.cell? ⟨gb269, 6, none⟩ = some (.int .i64 a0_6) := (blk_cell BK269.out 6).trans rfl
                        have hcz109_7 : wc.cell? ⟨gb269, 7, none⟩ = some (.int .i64 a0_7) := (blk_cell BK269.out 7).trans rfl
                        have hcz109_8 : wc.cell? ⟨gb269, 8, none⟩ = some (.int .i64 a0_8) := (blk_cell BK269.out 8).trans rfl
                        have hcz109_9 : wc.cell? ⟨gb269, 9, none⟩ = some (.int .i64 a0_9) := (blk_cell BK269.out 9).trans rfl
                        have hfz109_0 := blk_frozen BK269.out 0
                        have hfz109_1 := blk_frozen BK269.out 1
                        have hfz109_2 := blk_frozen BK269.out 2
                        have hfz109_3 := blk_frozen BK269.out 3
                        have hfz109_4 := blk_frozen BK269.out 4
                        have hfz109_5 := blk_frozen BK269.out 5
                        have hfz109_6 := blk_frozen BK269.out 6
                        have hfz109_7 := blk_frozen BK269.out 7
                        have hfz109_8 := blk_frozen BK269.out 8
                        have hfz109_9 := blk_frozen BK269.out 9
                        go_wp2_with (first | ((with_reducible refine gate_callee (f := 18) rfl ?_); refine goesL_ (some 128) rfl rfl Tryd.func18 (by kernel_rfl) rfl #[.agg #[.int .i64 t270, .int .i64 t271, .int .i64 t272], .agg #[.int .i64 a0_3, .int .i64 a0_4, .int .i64 a0_5, .int .i64 a0_6], .int .i64 a0_7, .int .i64 a0_8, .int .i64 (wrap64 (a1))] rfl (by (try simp only [List.map_toArray, List.map_cons, List.map_nil]); first | done | rfl | (simp only [List.length_drop, List.length_take]; rfl)) ?_; (with_reducible refine (drive_Steps.calls kj11 t270 t271 t272 a0_3 a0_4 a0_5 a0_6 a0_7 a0_8 (wrap64 (a1)) t284 t285 t286 t287 t288 _ ?side1 A74.out).mono ?_); (case side1 => exact Tg.Tab.below HTAB.out (by repeat (first | (with_reducible first | exact HB.out | apply below_alloc | apply pw_below_drewN | apply below_drew1 | refine below_set ?_ GE269.out | refine below_set ?_ GE275.out | refine below_set ?_ GE281.out) | exact HB.out))); rintro e w110 ⟨rfl, hb⟩; refine ⟨_, rfl, ?_⟩; have n0_ := Aside0.mk (blk_below (g := gb269) (o := .cells #[.int .i64 a0_0, .int .i64 a0_1, .int .i64 a0_2, .int .i64 a0_3, .int .i64 a0_4, .int .i64 a0_5, .int .i64 a0_6, .int .i64 a0_7, .int .i64 a0_8, .int .i64 a0_9] 30 (0, 0)) (by (with_reducible repeat (first | refine blk_drewN ?_ _ | refine blk_drew ?_ | refine blk_alloc ?_ _)); exact BK269.out) hb); have n1_ := Aside0.mk (blk_below (g := gb275) (o := .cells #[.int .i64 t270, .int .i64 t271, .int .i64 t272] 26 (0, 0)) (by (with_reducible repeat (first | refine blk_drewN ?_ _ | refine blk_drew ?_ | refine blk_alloc ?_ _)); exact BK275.out) hb); have n2_ := Aside0.mk (blk_below (g := gb281) (o := .cells #[.int .i64 t276, .int .i64 t277, .int .i64 t278] 26 (0, 0)) (by (with_reducible repeat (first | refine blk_drewN ?_ _ | refine blk_drew ?_ | refine blk_alloc ?_ _)); exact BK281.out) hb); have n3_ := Aside0.mk (below_step (by repeat (first | (with_reducible first | exact HB.out | apply below_alloc | apply pw_below_drewN | apply below_drew1 | refine below_set ?_ GE269.out | refine below_set ?_ GE275.out | refine below_set ?_ GE281.out) | exact HB.out)) hb); clear BK269; clear BK275; clear BK281; clear HB; have BK269 := n0_; have BK275 := n1_; have BK281 := n2_; have HB := n3_; clear n0_ n1_ n2_ n3_; (try clear hb); (try clear hb2); (try clear hk); (try clear hi)) | ((with_reducible refine gate_dst (N := 12) rfl ?_); refine box_event ?hg (N := 12) ?hd (cs := #[.int .i64 0, .int .i64 0, .int .i64 0]) (t := 26) ?hr ?_; (case hd => rfl); (case hg => rfl); (case hr => first | (go_simp; done) | (go_simp; rfl)); intro gb289 hg w111 hbox hb; have n0_ := Aside0.mk (blk_below (g := gb269) (o := .cells #[.int .i64 a0_0, .int .i64 a0_1, .int .i64 a0_2, .int .i64 a0_3, .int .i64 a0_4, .int .i64 a0_5, .int .i64 a0_6, .int .i64 a0_7, .int .i64 a0_8, .int .i64 a0_9] 30 (0, 0)) (by (with_reducible repeat (first | refine blk_drewN ?_ _ | refine blk_drew ?_ | refine blk_alloc ?_ _)); exact BK269.out) hb); have n1_ := Aside0.mk (blk_below (g := gb275) (o := .cells #[.int .i64 t270, .int .i64 t271, .int .i64 t272] 26 (0, 0)) (by (with_reducible repeat (first | refine blk_drewN ?_ _ | refine blk_drew ?_ | refine blk_alloc ?_ _)); exact BK275.out) hb); have n2_ := Aside0.mk (blk_below (g := gb281) (o := .cells #[.int .i64 t276, .int .i64 t277, .int .i64 t278] 26 (0, 0)) (by (with_reducible repeat (first | refine blk_drewN ?_ _ | refine blk_drew ?_ | refine blk_alloc ?_ _)); exact BK281.out) hb); have n3_ := Aside0.mk (below_step (by repeat (first | (with_reducible first | exact HB.out | apply below_alloc | apply pw_below_drewN | apply below_drew1 | refine below_set ?_ GE269.out | refine below_set ?_ GE275.out | refine below_set ?_ GE281.out) | exact HB.out)) hb); have n4_ := Aside0.mk (hbox); have n5_ := Aside0.mk ((by rw [hg]; exact (below_size (by repeat (first | (with_reducible first | exact HB.out | apply below_alloc | apply pw_below_drewN | apply below_drew1 | refine below_set ?_ GE269.out | refine below_set ?_ GE275.out | refine below_set ?_ GE281.out) | exact HB.out))) : w.heap.size ≤ gb289)); have n6_ := Aside0.mk ((by rw [hg]; exact (below_size (by repeat (first | (with_reducible first | exact HB.out | apply below_alloc | apply pw_below_drewN | apply below_drew1 | refine below_set ?_ GE269.out | refine below_set ?_ GE275.out | refine below_set ?_ GE281.out) | exact HB.out))) : w.heap.size ≤ gb289)); have n7_ := Aside0.mk ((by rw [hg]; exact Nat.ne_of_lt (blk_lt (g := gb269) (o := .cells #[.int .i64 a0_0, .int .i64 a0_1, .int .i64 a0_2, .int .i64 a0_3, .int .i64 a0_4, .int .i64 a0_5, .int .i64 a0_6, .int .i64 a0_7, .int .i64 a0_8, .int .i64 a0_9] 30 (0, 0)) (by (with_reducible repeat (first | refine blk_drewN ?_ _ | refine blk_drew ?_ | refine blk_alloc ?_ _)); exact BK269.out)) : gb269 ≠ gb289)); have n8_ := Aside0.mk ((by rw [hg]; exact Nat.ne_of_gt (blk_lt (g := gb269) (o := .cells #[.int .i64 a0_0, .int .i64 a0_1, .int .i64 a0_2, .int .i64 a0_3, .int .i64 a0_4, .int .i64 a0_5, .int .i64 a0_6, .int .i64 a0_7, .int .i64 a0_8, .int .i64 a0_9] 30 (0, 0)) (by (with_reducible repeat (first | refine blk_drewN ?_ _ | refine blk_drew ?_ | refine blk_alloc ?_ _)); exact BK269.out)) : gb289 ≠ gb269)); have n9_ := Aside0.mk ((by rw [hg]; exact Nat.ne_of_lt (blk_lt (g := gb275) (o := .cells #[.int .i64 t270, .int .i64 t271, .int .i64 t272] 26 (0, 0)) (by (with_reducible repeat (first | refine blk_drewN ?_ _ | refine blk_drew ?_ | refine blk_alloc ?_ _)); exact BK275.out)) : gb275 ≠ gb289)); have n10_ := Aside0.mk ((by rw [hg]; exact Nat.ne_of_gt (blk_lt (g := gb275) (o := .cells #[.int .i64 t270, .int .i64 t271, .int .i64 t272] 26 (0, 0)) (by (with_reducible repeat (first | refine blk_drewN ?_ _ | refine blk_drew ?_ | refine blk_alloc ?_ _)); exact BK275.out)) : gb289 ≠ gb275)); have n11_ := Aside0.mk ((by rw [hg]; exact Nat.ne_of_lt (blk_lt (g := gb281) (o := .cells #[.int .i64 t276, .int .i64 t277, .int .i64 t278] 26 (0, 0)) (by (with_reducible repeat (first | refine blk_drewN ?_ _ | refine blk_drew ?_ | refine blk_alloc ?_ _)); exact BK281.out)) : gb281 ≠ gb289)); have n12_ := Aside0.mk ((by rw [hg]; exact Nat.ne_of_gt (blk_lt (g := gb281) (o := .cells #[.int .i64 t276, .int .i64 t277, .int .i64 t278] 26 (0, 0)) (by (with_reducible repeat (first | refine blk_drewN ?_ _ | refine blk_drew ?_ | refine blk_alloc ?_ _)); exact BK281.out)) : gb289 ≠ gb281)); clear BK269; clear BK275; clear BK281; clear HB; have BK269 := n0_; have BK275 := n1_; have BK281 := n2_; have HB := n3_; have BK289 := n4_; have GW289 := n5_; have GE289 := n6_; have NB269_289 := n7_; have NB289_269 := n8_; have NB275_289 := n9_; have NB289_275 := n10_; have NB281_289 := n11_; have NB289_281 := n12_; clear n0_ n1_ n2_ n3_ n4_ n5_ n6_ n7_ n8_ n9_ n10_ n11_ n12_; clear hb hbox hg; have hnb112 := NB289_269.out; have hnc112 := NB269_289.out; have hnb113 := NB289_275.out; have hnc113 := NB275_289.out; have hnb114 := NB289_281.out; have hnc114 := NB281_289.out; have hcz115_0 : w111.cell? ⟨gb289, 0, none⟩ = some (.int .i64 0) := (blk_cell BK289.out 0).trans rfl; have hcz115_1 : w111.cell? ⟨gb289, 1, none⟩ = some (.int .i64 0) := (blk_cell BK289.out 1).trans rfl; have hcz115_2 : w111.cell? ⟨gb289, 2, none⟩ = some (.int .i64 0) := (blk_cell BK289.out 2).trans rfl; have hfz115_0 := blk_frozen BK289.out 0; have hfz115_1 := blk_frozen BK289.out 1; have hfz115_2 := blk_frozen BK289.out 2; have hcz116_0 : w111.cell? ⟨gb281, 0, none⟩ = some (.int .i64 t276) := (blk_cell BK281.out 0).trans rfl; have hcz116_1 : w111.cell? ⟨gb281, 1, none⟩ = some (.int .i64 t277) := (blk_cell BK281.out 1).trans rfl; have hcz116_2 : w111.cell? ⟨gb281, 2, none⟩ = some (.int .i64 t278) := (blk_cell BK281.out 2).trans rfl; have hfz116_0 := blk_frozen BK281.out 0; have hfz116_1 := blk_frozen BK281.out 1; have hfz116_2 := blk_frozen BK281.out 2))
                        go_ret
                        exact ⟨by first | rfl | (simp [errW_none, errW_some] <;> rfl) | (simp [*, errW_none, errW_some] <;> rfl), by repeat (first | (with_reducible first | exact HB.out | apply below_alloc | apply pw_below_drewN | apply below_drew1 | refine below_set ?_ GE269.out | refine below_set ?_ GE275.out | refine below_set ?_ GE281.out | refine below_set ?_ GE289.out) | exact HB.out)⟩
                    · rw [if_neg c76] at H
                      have c76b0 : (t288 == 0) = false := beq_eq_false_iff_ne.mpr c76
                      have c76b1 : (t288 != 0) = true := bne_iff_ne.mpr c76
                      obtain rfl := Option.some.inj H
                      have hnb117 := NB275_269.out
                      have hnc117 := NB269_275.out
                      have hnb118 := NB275_281.out
                      have hnc118 := NB281_275.out
                      have hcz119_0 : wc.cell? ⟨gb275, 0, none⟩ = some (.int .i64 t270) := (blk_cell BK275.out 0).trans rfl
                      have hcz119_1 : wc.cell? ⟨gb275, 1, none⟩ = some (.int .i64 t271) := (blk_cell BK275.out 1).trans rfl
                      have hcz119_2 : wc.cell? ⟨gb275, 2, none⟩ = some (.int .i64 t272) := (blk_cell BK275.out 2).trans rfl
                      have hfz119_0 := blk_frozen BK275.out 0
                      have hfz119_1 := blk_frozen BK275.out 1
                      have hfz119_2 := blk_frozen BK275.out 2
                      have hnb120 := NB269_281.out
                      have hnc120 := NB281_269.out
                      have hcz121_0 : wc.cell? ⟨gb269, 0, none⟩ = some (.int .i64 a0_0) := (blk_cell BK269.out 0).trans rfl
                      have hcz121_1 : wc.cell? ⟨gb269, 1, none⟩ = some (.int .i64 a0_1) := (blk_cell BK269.out 1).trans rfl
                      have hcz121_2 : wc.cell? ⟨gb269, 2, none⟩ = some (.int .i64 a0_2) := (blk_cell BK269.out 2).trans rfl
                      have hcz121_3 : wc.cell? ⟨gb269, 3, none⟩ = some (.int .i64 a0_3) := (blk_cell BK269.out 3).trans rfl
                      have hcz121_4 : wc.cell? ⟨gb269, 4, none⟩ = some (.int .i64 a0_4) := (blk_cell BK269.out 4).trans rfl
                      have hcz121_5 : wc.cell? ⟨gb269, 5, none⟩ = some (.int .i64 a0_5) := (blk_cell BK269.out 5).trans rfl
                      have hcz121_6 : wc.cell? ⟨gb269, 6, none⟩ = some (.int .i64 a0_6) := (blk_cell BK269.out 6).trans rfl
                      have hcz121_7 : wc.cell? ⟨gb269, 7, none⟩ = some (.int .i64 a0_7) := (blk_cell BK269.out 7).trans rfl
                      have hcz121_8 : wc.cell? ⟨gb269, 8, none⟩ = some (.int .i64 a0_8) := (blk_cell BK269.out 8).trans rfl
                      have hcz121_9 : wc.cell? ⟨gb269, 9, none⟩ = some (.int .i64 a0_9) := (blk_cell BK269.out 9).trans rfl
                      have hfz121_0 := blk_frozen BK269.out 0
                      have hfz121_1 := blk_frozen BK269.out 1
                      have hfz121_2 := blk_frozen BK269.out 2
                      have hfz121_3 := blk_frozen BK269.out 3
                      have hfz121_4 := blk_frozen BK269.out 4
                      have hfz121_5 := blk_frozen BK269.out 5
                      have hfz121_6 := blk_frozen BK269.out 6
                      have hfz121_7 := blk_frozen BK269.out 7
                      have hfz121_8 := blk_frozen BK269.out 8
                      have hfz121_9 := blk_frozen BK269.out 9
                      go_wp2_with (first | ((with_reducible refine gate_callee (f := 18) rfl ?_); refine goesL_ (some 128) rfl rfl Tryd.func18 (by kernel_rfl) rfl #[.agg #[.int .i64 t270, .int .i64 t271, .int .i64 t272], .agg #[.int .i64 a0_3, .int .i64 a0_4, .int .i64 a0_5, .int .i64 a0_6], .int .i64 a0_7, .int .i64 a0_8, .int .i64 (wrap64 (a1))] rfl (by (try simp only [List.map_toArray, List.map_cons, List.map_nil]); first | done | rfl | (simp only [List.length_drop, List.length_take]; rfl)) ?_; (with_reducible refine (drive_Steps.calls kj11 t270 t271 t272 a0_3 a0_4 a0_5 a0_6 a0_7 a0_8 (wrap64 (a1)) t284 t285 t286 t287 t288 _ ?side1 A74.out).mono ?_); (case side1 => exact Tg.Tab.below HTAB.out (by repeat (first | (with_reducible first | exact HB.out | apply below_alloc | apply pw_below_drewN | apply below_drew1 | refine below_set ?_ GE269.out | refine below_set ?_ GE275.out | refine below_set ?_ GE281.out) | exact HB.out))); rintro e w122 ⟨rfl, hb⟩; refine ⟨_, rfl, ?_⟩; have n0_ := Aside0.mk (blk_below (g := gb269) (o := .cells #[.int .i64 a0_0, .int .i64 a0_1, .int .i64 a0_2, .int .i64 a0_3, .int .i64 a0_4, .int .i64 a0_5, .int .i64 a0_6, .int .i64 a0_7, .int .i64 a0_8, .int .i64 a0_9] 30 (0, 0)) (by (with_reducible repeat (first | refine blk_drewN ?_ _ | refine blk_drew ?_ | refine blk_alloc ?_ _)); exact BK269.out) hb); have n1_ := Aside0.mk (blk_below (g := gb275) (o := .cells #[.int .i64 t270, .int .i64 t271, .int .i64 t272] 26 (0, 0)) (by (with_reducible repeat (first | refine blk_drewN ?_ _ | refine blk_drew ?_ | refine blk_alloc ?_ _)); exact BK275.out) hb); have n2_ := Aside0.mk (blk_below (g := gb281) (o := .cells #[.int .i64 t276, .int .i64 t277, .int .i64 t278] 26 (0, 0)) (by (with_reducible repeat (first | refine blk_drewN ?_ _ | refine blk_drew ?_ | refine blk_alloc ?_ _)); exact BK281.out) hb); have n3_ := Aside0.mk (below_step (by repeat (first | (with_reducible first | exact HB.out | apply below_alloc | apply pw_below_drewN | apply below_drew1 | refine below_set ?_ GE269.out | refine below_set ?_ GE275.out | refine below_set ?_ GE281.out) | exact HB.out)) hb); clear BK269; clear BK275; clear BK281; clear HB; have BK269 := n0_; have BK275 := n1_; have BK281 := n2_; have HB := n3_; clear n0_ n1_ n2_ n3_; (try clear hb); (try clear hb2); (try clear hk); (try clear hi)) | ((with_reducible refine gate_dst (N := 12) rfl ?_); refine box_event ?hg (N := 12) ?hd (cs := #[.int .i64 0, .int .i64 0, .int .i64 0]) (t := 26) ?hr ?_; (case hd => rfl); (case hg => rfl); (case hr => first | (go_simp; done) | (go_simp; rfl)); intro gb289 hg w123 hbox hb; have n0_ := Aside0.mk (blk_below (g := gb269) (o := .cells #[.int .i64 a0_0, .int .i64 a0_1, .int .i64 a0_2, .int .i64 a0_3, .int .i64 a0_4, .int .i64 a0_5, .int .i64 a0_6, .int .i64 a0_7, .int .i64 a0_8, .int .i64 a0_9] 30 (0, 0)) (by (with_reducible repeat (first | refine blk_drewN ?_ _ | refine blk_drew ?_ | refine blk_alloc ?_ _)); exact BK269.out) hb); have n1_ := Aside0.mk (blk_below (g := gb275) (o := .cells #[.int .i64 t270, .int .i64 t271, .int .i64 t272] 26 (0, 0)) (by (with_reducible repeat (first | refine blk_drewN ?_ _ | refine blk_drew ?_ | refine blk_alloc ?_ _)); exact BK275.out) hb); have n2_ := Aside0.mk (blk_below (g := gb281) (o := .cells #[.int .i64 t276, .int .i64 t277, .int .i64 t278] 26 (0, 0)) (by (with_reducible repeat (first | refine blk_drewN ?_ _ | refine blk_drew ?_ | refine blk_alloc ?_ _)); exact BK281.out) hb); have n3_ := Aside0.mk (below_step (by repeat (first | (with_reducible first | exact HB.out | apply below_alloc | apply pw_below_drewN | apply below_drew1 | refine below_set ?_ GE269.out | refine below_set ?_ GE275.out | refine below_set ?_ GE281.out) | exact HB.out)) hb); have n4_ := Aside0.mk (hbox); have n5_ := Aside0.mk ((by rw [hg]; exact (below_size (by repeat (first | (with_reducible first | exact HB.out | apply below_alloc | apply pw_below_drewN | apply below_drew1 | refine below_set ?_ GE269.out | refine below_set ?_ GE275.out | refine below_set ?_ GE281.out) | exact HB.out))) : w.heap.size ≤ gb289)); have n6_ := Aside0.mk ((by rw [hg]; exact (below_size (by repeat (first | (with_reducible first | exact HB.out | apply below_alloc | apply pw_below_drewN | apply below_drew1 | refine below_set ?_ GE269.out | refine below_set ?_ GE275.out | refine below_set ?_ GE281.out) | exact HB.out))) : w.heap.size ≤ gb289)); have n7_ := Aside0.mk ((by rw [hg]; exact Nat.ne_of_lt (blk_lt (g := gb269) (o := .cells #[.int .i64 a0_0, .int .i64 a0_1, .int .i64 a0_2, .int .i64 a0_3, .int .i64 a0_4, .int .i64 a0_5, .int .i64 a0_6, .int .i64 a0_7, .int .i64 a0_8, .int .i64 a0_9] 30 (0, 0)) (by (with_reducible repeat (first | refine blk_drewN ?_ _ | refine blk_drew ?_ | refine blk_alloc ?_ _)); exact BK269.out)) : gb269 ≠ gb289)); have n8_ := Aside0.mk ((by rw [hg]; exact Nat.ne_of_gt (blk_lt (g := gb269) (o := .cells #[.int .i64 a0_0, .int .i64 a0_1, .int .i64 a0_2, .int .i64 a0_3, .int .i64 a0_4, .int .i64 a0_5, .int .i64 a0_6, .int .i64 a0_7, .int .i64 a0_8, .int .i64 a0_9] 30 (0, 0)) (by (with_reducible repeat (first | refine blk_drewN ?_ _ | refine blk_drew ?_ | refine blk_alloc ?_ _)); exact BK269.out)) : gb289 ≠ gb269)); have n9_ := Aside0.mk ((by rw [hg]; exact Nat.ne_of_lt (blk_lt (g := gb275) (o := .cells #[.int .i64 t270, .int .i64 t271, .int .i64 t272] 26 (0, 0)) (by (with_reducible repeat (first | refine blk_drewN ?_ _ | refine blk_drew ?_ | refine blk_alloc ?_ _)); exact BK275.out)) : gb275 ≠ gb289)); have n10_ := Aside0.mk ((by rw [hg]; exact Nat.ne_of_gt (blk_lt (g := gb275) (o := .cells #[.int .i64 t270, .int .i64 t271, .int .i64 t272] 26 (0, 0)) (by (with_reducible repeat (first | refine blk_drewN ?_ _ | refine blk_drew ?_ | refine blk_alloc ?_ _)); exact BK275.out)) : gb289 ≠ gb275)); have n11_ := Aside0.mk ((by rw [hg]; exact Nat.ne_of_lt (blk_lt (g := gb281) (o := .cells #[.int .i64 t276, .int .i64 t277, .int .i64 t278] 26 (0, 0)) (by (with_reducible repeat (first | refine blk_drewN ?_ _ | refine blk_drew ?_ | refine blk_alloc ?_ _)); exact BK281.out)) : gb281 ≠ gb289)); have n12_ := Aside0.mk ((by rw [hg]; exact Nat.ne_of_gt (blk_lt (g := gb281) (o := .cells #[.int .i64 t276, .int .i64 t277, .int .i64 t278] 26 (0, 0)) (by (with_reducible repeat (first | refine blk_drewN ?_ _ | refine blk_drew ?_ | refine blk_alloc ?_ _)); exact BK281.out)) : gb289 ≠ gb281)); clear BK269; clear BK275; clear BK281; clear HB; have BK269 := n0_; have BK275 := n1_; have BK281 := n2_; have HB := n3_; have BK289 := n4_; have GW289 := n5_; have GE289 := n6_; have NB269_289 := n7_; have NB289_269 := n8_; have NB275_289 := n9_; have NB289_275 := n10_; have NB281_289 := n11_; have NB289_281 := n12_; clear n0_ n1_ n2_ n3_ n4_ n5_ n6_ n7_ n8_ n9_ n10_ n11_ n12_; clear hb hbox hg; have hnb124 := NB289_269.out; have hnc124 := NB269_289.out; have hnb125 := NB289_275.out; have hnc125 := NB275_289.out; have hnb126 := NB289_281.out; have hnc126 := NB281_289.out; have hcz127_0 : w123.cell? ⟨gb289, 0, none⟩ = some (.int .i64 0) := (blk_cell BK289.out 0).trans rfl; have hcz127_1 : w123.cell? ⟨gb289, 1, none⟩ = some (.int .i64 0) := (blk_cell BK289.out 1).trans rfl; have hcz127_2 : w123.cell? ⟨gb289, 2, none⟩ = some (.int .i64 0) := (blk_cell BK289.out 2).trans rfl; have hfz127_0 := blk_frozen BK289.out 0; have hfz127_1 := blk_frozen BK289.out 1; have hfz127_2 := blk_frozen BK289.out 2))
                      go_ret
                      exact ⟨by first | rfl | (simp [errW_none, errW_some] <;> rfl) | (simp [*, errW_none, errW_some] <;> rfl), by repeat (first | (with_reducible first | exact HB.out | apply below_alloc | apply pw_below_drewN | apply below_drew1 | refine below_set ?_ GE269.out | refine below_set ?_ GE275.out | refine below_set ?_ GE281.out | refine below_set ?_ GE289.out) | exact HB.out)⟩
                  · rw [if_neg c75] at H
                    have c75b0 : (t280 == 0) = false := beq_eq_false_iff_ne.mpr c75
                    have c75b1 : (t280 != 0) = true := bne_iff_ne.mpr c75
                    obtain rfl := Option.some.inj H
                    have hnb128 := NB275_269.out
                    have hnc128 := NB269_275.out
                    have hnb129 := NB275_281.out
                    have hnc129 := NB281_275.out
                    have hcz130_0 : wc.cell? ⟨gb275, 0, none⟩ = some (.int .i64 t270) := (blk_cell BK275.out 0).trans rfl
                    have hcz130_1 : wc.cell? ⟨gb275, 1, none⟩ = some (.int .i64 t271) := (blk_cell BK275.out 1).trans rfl
                    have hcz130_2 : wc.cell? ⟨gb275, 2, none⟩ = some (.int .i64 t272) := (blk_cell BK275.out 2).trans rfl
                    have hfz130_0 := blk_frozen BK275.out 0
                    have hfz130_1 := blk_frozen BK275.out 1
                    have hfz130_2 := blk_frozen BK275.out 2
                    have hnb131 := NB269_281.out
                    have hnc131 := NB281_269.out
                    have hcz132_0 : wc.cell? ⟨gb269, 0, none⟩ = some (.int .i64 a0_0) := (blk_cell BK269.out 0).trans rfl
                    have hcz132_1 : wc.cell? ⟨gb269, 1, none⟩ = some (.int .i64 a0_1) := (blk_cell BK269.out 1).trans rfl
                    have hcz132_2 : wc.cell? ⟨gb269, 2, none⟩ = some (.int .i64 a0_2) := (blk_cell BK269.out 2).trans rfl
                    have hcz132_3 : wc.cell? ⟨gb269, 3, none⟩ = some (.int .i64 a0_3) := (blk_cell BK269.out 3).trans rfl
                    have hcz132_4 : wc.cell? ⟨gb269, 4, none⟩ = some (.int .i64 a0_4) := (blk_cell BK269.out 4).trans rfl
                    have hcz132_5 : wc.cell? ⟨gb269, 5, none⟩ = some (.int .i64 a0_5) := (blk_cell BK269.out 5).trans rfl
                    have hcz132_6 : wc.cell? ⟨gb269, 6, none⟩ = some (.int .i64 a0_6) := (blk_cell BK269.out 6).trans rfl
                    have hcz132_7 : wc.cell? ⟨gb269, 7, none⟩ = some (.int .i64 a0_7) := (blk_cell BK269.out 7).trans rfl
                    have hcz132_8 : wc.cell? ⟨gb269, 8, none⟩ = some (.int .i64 a0_8) := (blk_cell BK269.out 8).trans rfl
                    have hcz132_9 : wc.cell? ⟨gb269, 9, none⟩ = some (.int .i64 a0_9) := (blk_cell BK269.out 9).trans rfl
                    have hfz132_0 := blk_frozen BK269.out 0
                    have hfz132_1 := blk_frozen BK269.out 1
                    have hfz132_2 := blk_frozen BK269.out 2
                    have hfz132_3 := blk_frozen BK269.out 3
                    have hfz132_4 := blk_frozen BK269.out 4
                    have hfz132_5 := blk_frozen BK269.out 5
                    have hfz132_6 := blk_frozen BK269.out 6
                    have hfz132_7 := blk_frozen BK269.out 7
                    have hfz132_8 := blk_frozen BK269.out 8
                    have hfz132_9 := blk_frozen BK269.out 9
                    go_wp2_with (first | ((with_reducible refine gate_callee (f := 18) rfl ?_); refine goesL_ (some 128) rfl rfl Tryd.func18 (by kernel_rfl) rfl #[.agg #[.int .i64 t270, .int .i64 t271, .int .i64 t272], .agg #[.int .i64 a0_3, .int .i64 a0_4, .int .i64 a0_5, .int .i64 a0_6], .int .i64 a0_7, .int .i64 a0_8, .int .i64 (wrap64 (a1))] rfl (by (try simp only [List.map_toArray, List.map_cons, List.map_nil]); first | done | rfl | (simp only [List.length_drop, List.length_take]; rfl)) ?_; (with_reducible refine (drive_Steps.calls kj11 t270 t271 t272 a0_3 a0_4 a0_5 a0_6 a0_7 a0_8 (wrap64 (a1)) t284 t285 t286 t287 t288 _ ?side1 A74.out).mono ?_); (case side1 => exact Tg.Tab.below HTAB.out (by repeat (first | (with_reducible first | exact HB.out | apply below_alloc | apply pw_below_drewN | apply below_drew1 | refine below_set ?_ GE269.out | refine below_set ?_ GE275.out | refine below_set ?_ GE281.out) | exact HB.out))); rintro e w133 ⟨rfl, hb⟩; refine ⟨_, rfl, ?_⟩; have n0_ := Aside0.mk (blk_below (g := gb269) (o := .cells #[.int .i64 a0_0, .int .i64 a0_1, .int .i64 a0_2, .int .i64 a0_3, .int .i64 a0_4, .int .i64 a0_5, .int .i64 a0_6, .int .i64 a0_7, .int .i64 a0_8, .int .i64 a0_9] 30 (0, 0)) (by (with_reducible repeat (first | refine blk_drewN ?_ _ | refine blk_drew ?_ | refine blk_alloc ?_ _)); exact BK269.out) hb); have n1_ := Aside0.mk (blk_below (g := gb275) (o := .cells #[.int .i64 t270, .int .i64 t271, .int .i64 t272] 26 (0, 0)) (by (with_reducible repeat (first | refine blk_drewN ?_ _ | refine blk_drew ?_ | refine blk_alloc ?_ _)); exact BK275.out) hb); have n2_ := Aside0.mk (blk_below (g := gb281) (o := .cells #[.int .i64 t276, .int .i64 t277, .int .i64 t278] 26 (0, 0)) (by (with_reducible repeat (first | refine blk_drewN ?_ _ | refine blk_drew ?_ | refine blk_alloc ?_ _)); exact BK281.out) hb); have n3_ := Aside0.mk (below_step (by repeat (first | (with_reducible first | exact HB.out | apply below_alloc | apply pw_below_drewN | apply below_drew1 | refine below_set ?_ GE269.out | refine below_set ?_ GE275.out | refine below_set ?_ GE281.out) | exact HB.out)) hb); clear BK269; clear BK275; clear BK281; clear HB; have BK269 := n0_; have BK275 := n1_; have BK281 := n2_; have HB := n3_; clear n0_ n1_ n2_ n3_; (try clear hb); (try clear hb2); (try clear hk); (try clear hi)) | ((with_reducible refine gate_dst (N := 12) rfl ?_); refine box_event ?hg (N := 12) ?hd (cs := #[.int .i64 0, .int .i64 0, .int .i64 0]) (t := 26) ?hr ?_; (case hd => rfl); (case hg => rfl); (case hr => first | (go_simp; done) | (go_simp; rfl)); intro gb289 hg w134 hbox hb; have n0_ := Aside0.mk (blk_below (g := gb269) (o := .cells #[.int .i64 a0_0, .int .i64 a0_1, .int .i64 a0_2, .int .i64 a0_3, .int .i64 a0_4, .int .i64 a0_5, .int .i64 a0_6, .int .i64 a0_7, .int .i64 a0_8, .int .i64 a0_9] 30 (0, 0)) (by (with_reducible repeat (first | refine blk_drewN ?_ _ | refine blk_drew ?_ | refine blk_alloc ?_ _)); exact BK269.out) hb); have n1_ := Aside0.mk (blk_below (g := gb275) (o := .cells #[.int .i64 t270, .int .i64 t271, .int .i64 t272] 26 (0, 0)) (by (with_reducible repeat (first | refine blk_drewN ?_ _ | refine blk_drew ?_ | refine blk_alloc ?_ _)); exact BK275.out) hb); have n2_ := Aside0.mk (blk_below (g := gb281) (o := .cells #[.int .i64 t276, .int .i64 t277, .int .i64 t278] 26 (0, 0)) (by (with_reducible repeat (first | refine blk_drewN ?_ _ | refine blk_drew ?_ | refine blk_alloc ?_ _)); exact BK281.out) hb); have n3_ := Aside0.mk (below_step (by repeat (first | (with_reducible first | exact HB.out | apply below_alloc | apply pw_below_drewN | apply below_drew1 | refine below_set ?_ GE269.out | refine below_set ?_ GE275.out | refine below_set ?_ GE281.out) | exact HB.out)) hb); have n4_ := Aside0.mk (hbox); have n5_ := Aside0.mk ((by rw [hg]; exact (below_size (by repeat (first | (with_reducible first | exact HB.out | apply below_alloc | apply pw_below_drewN | apply below_drew1 | refine below_set ?_ GE269.out | refine below_set ?_ GE275.out | refine below_set ?_ GE281.out) | exact HB.out))) : w.heap.size ≤ gb289)); have n6_ := Aside0.mk ((by rw [hg]; exact (below_size (by repeat (first | (with_reducible first | exact HB.out | apply below_alloc | apply pw_below_drewN | apply below_drew1 | refine below_set ?_ GE269.out | refine below_set ?_ GE275.out | refine below_set ?_ GE281.out) | exact HB.out))) : w.heap.size ≤ gb289)); have n7_ := Aside0.mk ((by rw [hg]; exact Nat.ne_of_lt (blk_lt (g := gb269) (o := .cells #[.int .i64 a0_0, .int .i64 a0_1, .int .i64 a0_2, .int .i64 a0_3, .int .i64 a0_4, .int .i64 a0_5, .int .i64 a0_6, .int .i64 a0_7, .int .i64 a0_8, .int .i64 a0_9] 30 (0, 0)) (by (with_reducible repeat (first | refine blk_drewN ?_ _ | refine blk_drew ?_ | refine blk_alloc ?_ _)); exact BK269.out)) : gb269 ≠ gb289)); have n8_ := Aside0.mk ((by rw [hg]; exact Nat.ne_of_gt (blk_lt (g := gb269) (o := .cells #[.int .i64 a0_0, .int .i64 a0_1, .int .i64 a0_2, .int .i64 a0_3, .int .i64 a0_4, .int .i64 a0_5, .int .i64 a0_6, .int .i64 a0_7, .int .i64 a0_8, .int .i64 a0_9] 30 (0, 0)) (by (with_reducible repeat (first | refine blk_drewN ?_ _ | refine blk_drew ?_ | refine blk_alloc ?_ _)); exact BK269.out)) : gb289 ≠ gb269)); have n9_ := Aside0.mk ((by rw [hg]; exact Nat.ne_of_lt (blk_lt (g := gb275) (o := .cells #[.int .i64 t270, .int .i64 t271, .int .i64 t272] 26 (0, 0)) (by (with_reducible repeat (first | refine blk_drewN ?_ _ | refine blk_drew ?_ | refine blk_alloc ?_ _)); exact BK275.out)) : gb275 ≠ gb289)); have n10_ := Aside0.mk ((by rw [hg]; exact Nat.ne_of_gt (blk_lt (g := gb275) (o := .cells #[.int .i64 t270, .int .i64 t271, .int .i64 t272] 26 (0, 0)) (by (with_reducible repeat (first | refine blk_drewN ?_ _ | refine blk_drew ?_ | refine blk_alloc ?_ _)); exact BK275.out)) : gb289 ≠ gb275)); have n11_ := Aside0.mk ((by rw [hg]; exact Nat.ne_of_lt (blk_lt (g := gb281) (o := .cells #[.int .i64 t276, .int .i64 t277, .int .i64 t278] 26 (0, 0)) (by (with_reducible repeat (first | refine blk_drewN ?_ _ | refine blk_drew ?_ | refine blk_alloc ?_ _)); exact BK281.out)) : gb281 ≠ gb289)); have n12_ := Aside0.mk ((by rw [hg]; exact Nat.ne_of_gt (blk_lt (g := gb281) (o := .cells #[.int .i64 t276, .int .i64 t277, .int .i64 t278] 26 (0, 0)) (by (with_reducible repeat (first | refine blk_drewN ?_ _ | refine blk_drew ?_ | refine blk_alloc ?_ _)); exact BK281.out)) : gb289 ≠ gb281)); clear BK269; clear BK275; clear BK281; clear HB; have BK269 := n0_; have BK275 := n1_; have BK281 := n2_; have HB := n3_; have BK289 := n4_; have GW289 := n5_; have GE289 := n6_; have NB269_289 := n7_; have NB289_269 := n8_; have NB275_289 := n9_; have NB289_275 := n10_; have NB281_289 := n11_; have NB289_281 := n12_; clear n0_ n1_ n2_ n3_ n4_ n5_ n6_ n7_ n8_ n9_ n10_ n11_ n12_; clear hb hbox hg; have hnb135 := NB289_269.out; have hnc135 := NB269_289.out; have hnb136 := NB289_275.out; have hnc136 := NB275_289.out; have hnb137 := NB289_281.out; have hnc137 := NB281_289.out; have hcz138_0 : w134.cell? ⟨gb289, 0, none⟩ = some (.int .i64 0) := (blk_cell BK289.out 0).trans rfl; have hcz138_1 : w134.cell? ⟨gb289, 1, none⟩ = some (.int .i64 0) := (blk_cell BK289.out 1).trans rfl; have hcz138_2 : w134.cell? ⟨gb289, 2, none⟩ = some (.int .i64 0) := (blk_cell BK289.out 2).trans rfl; have hfz138_0 := blk_frozen BK289.out 0; have hfz138_1 := blk_frozen BK289.out 1; have hfz138_2 := blk_frozen BK289.out 2))
                    go_ret
                    exact ⟨by first | rfl | (simp [errW_none, errW_some] <;> rfl) | (simp [*, errW_none, errW_some] <;> rfl), by repeat (first | (with_reducible first | exact HB.out | apply below_alloc | apply pw_below_drewN | apply below_drew1 | refine below_set ?_ GE269.out | refine below_set ?_ GE275.out | refine below_set ?_ GE281.out | refine below_set ?_ GE289.out) | exact HB.out)⟩
          · rw [if_neg c11] at H
            have c11b0 : (t274 == 0) = false := beq_eq_false_iff_ne.mpr c11
            have c11b1 : (t274 != 0) = true := bne_iff_ne.mpr c11
            by_cases c139 : t280 = t274
            · rw [if_pos c139] at H
              have c139b0 : (t280 == t274) = true := beq_iff_eq.mpr c139
              have c139b1 : (t280 != t274) = false := bne_eq_false_iff_eq.mpr c139
              clear c139
              by_cases c140 : t273 = 0
              · rw [if_pos c140] at H
                have c140b0 : (t273 == 0) = true := beq_iff_eq.mpr c140
                have c140b1 : (t273 != 0) = false := bne_eq_false_iff_eq.mpr c140
                clear c140
                by_cases c141 : t279 = 0
                · rw [if_pos c141] at H
                  have c141b0 : (t279 == 0) = true := beq_iff_eq.mpr c141
                  have c141b1 : (t279 != 0) = false := bne_eq_false_iff_eq.mpr c141
                  clear c141
                  replace H := Option.bind_eq_some_iff.mp H
                  obtain ⟨t282, A1420, H⟩ := H
                  replace H : (some t282) = some r := H
                  have A142 := Aside0.mk A1420
                  clear A1420
                  obtain rfl := Option.some.inj H
                  have hcz143_0 : wc.cell? ⟨gb269, 0, none⟩ = some (.int .i64 a0_0) := (blk_cell BK269.out 0).trans rfl
                  have hcz143_1 : wc.cell? ⟨gb269, 1, none⟩ = some (.int .i64 a0_1) := (blk_cell BK269.out 1).trans rfl
                  have hcz143_2 : wc.cell? ⟨gb269, 2, none⟩ = some (.int .i64 a0_2) := (blk_cell BK269.out 2).trans rfl
                  have hcz143_3 : wc.cell? ⟨gb269, 3, none⟩ = some (.int .i64 a0_3) := (blk_cell BK269.out 3).trans rfl
                  have hcz143_4 : wc.cell? ⟨gb269, 4, none⟩ = some (.int .i64 a0_4) := (blk_cell BK269.out 4).trans rfl
                  have hcz143_5 : wc.cell? ⟨gb269, 5, none⟩ = some (.int .i64 a0_5) := (blk_cell BK269.out 5).trans rfl
                  have hcz143_6 : wc.cell? ⟨gb269, 6, none⟩ = some (.int .i64 a0_6) := (blk_cell BK269.out 6).trans rfl
                  have hcz143_7 : wc.cell? ⟨gb269, 7, none⟩ = some (.int .i64 a0_7) := (blk_cell BK269.out 7).trans rfl
                  have hcz143_8 : wc.cell? ⟨gb269, 8, none⟩ = some (.int .i64 a0_8) := (blk_cell BK269.out 8).trans rfl
                  have hcz143_9 : wc.cell? ⟨gb269, 9, none⟩ = some (.int .i64 a0_9) := (blk_cell BK269.out 9).trans rfl
                  have hfz143_0 := blk_frozen BK269.out 0
                  have hfz143_1 := blk_frozen BK269.out 1
                  have hfz143_2 := blk_frozen BK269.out 2
                  have hfz143_3 := blk_frozen BK269.out 3
                  have hfz143_4 := blk_frozen BK269.out 4
                  have hfz143_5 := blk_frozen BK269.out 5
                  have hfz143_6 := blk_frozen BK269.out 6
                  have hfz143_7 := blk_frozen BK269.out 7
                  have hfz143_8 := blk_frozen BK269.out 8
                  have hfz143_9 := blk_frozen BK269.out 9
                  go_wp2_with (first | ((with_reducible refine gate_callee (f := 18) rfl ?_); refine goesL_ (some 33) rfl rfl Tryd.func18 (by kernel_rfl) rfl #[.agg #[.int .i64 a0_0, .int .i64 a0_1, .int .i64 a0_2], .agg #[.int .i64 a0_3, .int .i64 a0_4, .int .i64 a0_5, .int .i64 a0_6], .int .i64 a0_7, .int .i64 a0_8, .int .i64 x5_6] rfl (by (try simp only [List.map_toArray, List.map_cons, List.map_nil]); first | done | rfl | (simp only [List.length_drop, List.length_take]; rfl)) ?_; (with_reducible refine (drive_Steps.calls kj6 a0_0 a0_1 a0_2 a0_3 a0_4 a0_5 a0_6 a0_7 a0_8 x5_6 t270 t271 t272 t273 t274 _ ?side1 A9.out).mono ?_); (case side1 => exact Tg.Tab.below HTAB.out (by repeat (first | (with_reducible first | exact HB.out | apply below_alloc | apply pw_below_drewN | apply below_drew1 | refine below_set ?_ GE269.out) | exact HB.out))); rintro e w144 ⟨rfl, hb⟩; refine ⟨_, rfl, ?_⟩; have n0_ := Aside0.mk (blk_below (g := gb269) (o := .cells #[.int .i64 a0_0, .int .i64 a0_1, .int .i64 a0_2, .int .i64 a0_3, .int .i64 a0_4, .int .i64 a0_5, .int .i64 a0_6, .int .i64 a0_7, .int .i64 a0_8, .int .i64 a0_9] 30 (0, 0)) (by (with_reducible repeat (first | refine blk_drewN ?_ _ | refine blk_drew ?_ | refine blk_alloc ?_ _)); exact BK269.out) hb); have n1_ := Aside0.mk (below_step (by repeat (first | (with_reducible first | exact HB.out | apply below_alloc | apply pw_below_drewN | apply below_drew1 | refine below_set ?_ GE269.out) | exact HB.out)) hb); clear BK269; clear HB; have BK269 := n0_; have HB := n1_; clear n0_ n1_; (try clear hb); (try clear hb2); (try clear hk); (try clear hi)) | ((with_reducible refine gate_dst (N := 6) rfl ?_); refine box_event ?hg (N := 6) ?hd (cs := #[.int .i64 0, .int .i64 0, .int .i64 0]) (t := 26) ?hr ?_; (case hd => rfl); (case hg => rfl); (case hr => first | (go_simp; done) | (go_simp; rfl)); intro gb275 hg w145 hbox hb; have n0_ := Aside0.mk (blk_below (g := gb269) (o := .cells #[.int .i64 a0_0, .int .i64 a0_1, .int .i64 a0_2, .int .i64 a0_3, .int .i64 a0_4, .int .i64 a0_5, .int .i64 a0_6, .int .i64 a0_7, .int .i64 a0_8, .int .i64 a0_9] 30 (0, 0)) (by (with_reducible repeat (first | refine blk_drewN ?_ _ | refine blk_drew ?_ | refine blk_alloc ?_ _)); exact BK269.out) hb); have n1_ := Aside0.mk (below_step (by repeat (first | (with_reducible first | exact HB.out | apply below_alloc | apply pw_below_drewN | apply below_drew1 | refine below_set ?_ GE269.out) | exact HB.out)) hb); have n2_ := Aside0.mk (hbox); have n3_ := Aside0.mk ((by rw [hg]; exact (below_size (by repeat (first | (with_reducible first | exact HB.out | apply below_alloc | apply pw_below_drewN | apply below_drew1 | refine below_set ?_ GE269.out) | exact HB.out))) : w.heap.size ≤ gb275)); have n4_ := Aside0.mk ((by rw [hg]; exact (below_size (by repeat (first | (with_reducible first | exact HB.out | apply below_alloc | apply pw_below_drewN | apply below_drew1 | refine below_set ?_ GE269.out) | exact HB.out))) : w.heap.size ≤ gb275)); have n5_ := Aside0.mk ((by rw [hg]; exact Nat.ne_of_lt (blk_lt (g := gb269) (o := .cells #[.int .i64 a0_0, .int .i64 a0_1, .int .i64 a0_2, .int .i64 a0_3, .int .i64 a0_4, .int .i64 a0_5, .int .i64 a0_6, .int .i64 a0_7, .int .i64 a0_8, .int .i64 a0_9] 30 (0, 0)) (by (with_reducible repeat (first | refine blk_drewN ?_ _ | refine blk_drew ?_ | refine blk_alloc ?_ _)); exact BK269.out)) : gb269 ≠ gb275)); have n6_ := Aside0.mk ((by rw [hg]; exact Nat.ne_of_gt (blk_lt (g := gb269) (o := .cells #[.int .i64 a0_0, .int .i64 a0_1, .int .i64 a0_2, .int .i64 a0_3, .int .i64 a0_4, .int .i64 a0_5, .int .i64 a0_6, .int .i64 a0_7, .int .i64 a0_8, .int .i64 a0_9] 30 (0, 0)) (by (with_reducible repeat (first | refine blk_drewN ?_ _ | refine blk_drew ?_ | refine blk_alloc ?_ _)); exact BK269.out)) : gb275 ≠ gb269)); clear BK269; clear HB; have BK269 := n0_; have HB := n1_; have BK275 := n2_; have GW275 := n3_; have GE275 := n4_; have NB269_275 := n5_; have NB275_269 := n6_; clear n0_ n1_ n2_ n3_ n4_ n5_ n6_; clear hb hbox hg; have hnb146 := NB275_269.out; have hnc146 := NB269_275.out; have hcz147_0 : w145.cell? ⟨gb275, 0, none⟩ = some (.int .i64 0) := (blk_cell BK275.out 0).trans rfl; have hcz147_1 : w145.cell? ⟨gb275, 1, none⟩ = some (.int .i64 0) := (blk_cell BK275.out 1).trans rfl; have hcz147_2 : w145.cell? ⟨gb275, 2, none⟩ = some (.int .i64 0) := (blk_cell BK275.out 2).trans rfl; have hfz147_0 := blk_frozen BK275.out 0; have hfz147_1 := blk_frozen BK275.out 1; have hfz147_2 := blk_frozen BK275.out 2; have hcz148_0 : w145.cell? ⟨gb269, 0, none⟩ = some (.int .i64 a0_0) := (blk_cell BK269.out 0).trans rfl; have hcz148_1 : w145.cell? ⟨gb269, 1, none⟩ = some (.int .i64 a0_1) := (blk_cell BK269.out 1).trans rfl; have hcz148_2 : w145.cell? ⟨gb269, 2, none⟩ = some (.int .i64 a0_2) := (blk_cell BK269.out 2).trans rfl; have hcz148_3 : w145.cell? ⟨gb269, 3, none⟩ = some (.int .i64 a0_3) := (blk_cell BK269.out 3).trans rfl; have hcz148_4 : w145.cell? ⟨gb269, 4, none⟩ = some (.int .i64 a0_4) := (blk_cell BK269.out 4).trans rfl; have hcz148_5 : w145.cell? ⟨gb269, 5, none⟩ = some (.int .i64 a0_5) := (blk_cell BK269.out 5).trans rfl; have hcz148_6 : w145.cell? ⟨gb269, 6, none⟩ = some (.int .i64 a0_6) := (blk_cell BK269.out 6).trans rfl; have hcz148_7 : w145.cell? ⟨gb269, 7, none⟩ = some (.int .i64 a0_7) := (blk_cell BK269.out 7).trans rfl; have hcz148_8 : w145.cell? ⟨gb269, 8, none⟩ = some (.int .i64 a0_8) := (blk_cell BK269.out 8).trans rfl; have hcz148_9 : w145.cell? ⟨gb269, 9, none⟩ = some (.int .i64 a0_9) := (blk_cell BK269.out 9).trans rfl; have hfz148_0 := blk_frozen BK269.out 0; have hfz148_1 := blk_frozen BK269.out 1; have hfz148_2 := blk_frozen BK269.out 2; have hfz148_3 := blk_frozen BK269.out 3; have hfz148_4 := blk_frozen BK269.out 4; have hfz148_5 := blk_frozen BK269.out 5; have hfz148_6 := blk_frozen BK269.out 6; have hfz148_7 := blk_frozen BK269.out 7; have hfz148_8 := blk_frozen BK269.out 8; have hfz148_9 := blk_frozen BK269.out 9) | ((with_reducible refine gate_callee (f := 18) rfl ?_); refine goesL_ (some 50) rfl rfl Tryd.func18 (by kernel_rfl) rfl #[.agg #[.int .i64 a0_0, .int .i64 a0_1, .int .i64 a0_2], .agg #[.int .i64 a0_3, .int .i64 a0_4, .int .i64 a0_5, .int .i64 a0_6], .int .i64 a0_7, .int .i64 a0_8, .int .i64 (wrap64 (x5_6 + (wrap64 (a1))))] rfl (by (try simp only [List.map_toArray, List.map_cons, List.map_nil]); first | done | rfl | (simp only [List.length_drop, List.length_take]; rfl)) ?_; (with_reducible refine (drive_Steps.calls kj6 a0_0 a0_1 a0_2 a0_3 a0_4 a0_5 a0_6 a0_7 a0_8 (wrap64 (x5_6 + (wrap64 (a1)))) t276 t277 t278 t279 t280 _ ?side1 A10.out).mono ?_); (case side1 => exact Tg.Tab.below HTAB.out (by repeat (first | (with_reducible first | exact HB.out | apply below_alloc | apply pw_below_drewN | apply below_drew1 | refine below_set ?_ GE269.out | refine below_set ?_ GE275.out) | exact HB.out))); rintro e w149 ⟨rfl, hb⟩; refine ⟨_, rfl, ?_⟩; have n0_ := Aside0.mk (blk_below (g := gb269) (o := .cells #[.int .i64 a0_0, .int .i64 a0_1, .int .i64 a0_2, .int .i64 a0_3, .int .i64 a0_4, .int .i64 a0_5, .int .i64 a0_6, .int .i64 a0_7, .int .i64 a0_8, .int .i64 a0_9] 30 (0, 0)) (by (with_reducible repeat (first | refine blk_drewN ?_ _ | refine blk_drew ?_ | refine blk_alloc ?_ _)); refine blk_far ?_ NB269_275.out _; (with_reducible repeat (first | refine blk_drewN ?_ _ | refine blk_drew ?_ | refine blk_alloc ?_ _)); refine blk_far ?_ NB269_275.out _; (with_reducible repeat (first | refine blk_drewN ?_ _ | refine blk_drew ?_ | refine blk_alloc ?_ _)); refine blk_far ?_ NB269_275.out _; (with_reducible repeat (first | refine blk_drewN ?_ _ | refine blk_drew ?_ | refine blk_alloc ?_ _)); exact BK269.out) hb); have n1_ := Aside0.mk (blk_below (g := gb275) (o := .cells #[.int .i64 t270, .int .i64 t271, .int .i64 t272] 26 (0, 0)) (by (with_reducible repeat (first | refine blk_drewN ?_ _ | refine blk_drew ?_ | refine blk_alloc ?_ _)); refine blk_put (cs := #[.int .i64 t270, .int .i64 t271, .int .i64 0]) ?_ 2 _ rfl; (with_reducible repeat (first | refine blk_drewN ?_ _ | refine blk_drew ?_ | refine blk_alloc ?_ _)); refine blk_put (cs := #[.int .i64 t270, .int .i64 0, .int .i64 0]) ?_ 1 _ rfl; (with_reducible repeat (first | refine blk_drewN ?_ _ | refine blk_drew ?_ | refine blk_alloc ?_ _)); refine blk_put (cs := #[.int .i64 0, .int .i64 0, .int .i64 0]) ?_ 0 _ rfl; (with_reducible repeat (first | refine blk_drewN ?_ _ | refine blk_drew ?_ | refine blk_alloc ?_ _)); exact BK275.out) hb); have n2_ := Aside0.mk (below_step (by repeat (first | (with_reducible first | exact HB.out | apply below_alloc | apply pw_below_drewN | apply below_drew1 | refine below_set ?_ GE269.out | refine below_set ?_ GE275.out) | exact HB.out)) hb); clear BK269; clear BK275; clear HB; have BK269 := n0_; have BK275 := n1_; have HB := n2_; clear n0_ n1_ n2_; (try clear hb); (try clear hb2); (try clear hk); (try clear hi)) | ((with_reducible refine gate_dst (N := 9) rfl ?_); refine box_event ?hg (N := 9) ?hd (cs := #[.int .i64 0, .int .i64 0, .int .i64 0]) (t := 26) ?hr ?_; (case hd => rfl); (case hg => rfl); (case hr => first | (go_simp; done) | (go_simp; rfl)); intro gb281 hg w150 hbox hb; have n0_ := Aside0.mk (blk_below (g := gb269) (o := .cells #[.int .i64 a0_0, .int .i64 a0_1, .int .i64 a0_2, .int .i64 a0_3, .int .i64 a0_4, .int .i64 a0_5, .int .i64 a0_6, .int .i64 a0_7, .int .i64 a0_8, .int .i64 a0_9] 30 (0, 0)) (by (with_reducible repeat (first | refine blk_drewN ?_ _ | refine blk_drew ?_ | refine blk_alloc ?_ _)); exact BK269.out) hb); have n1_ := Aside0.mk (blk_below (g := gb275) (o := .cells #[.int .i64 t270, .int .i64 t271, .int .i64 t272] 26 (0, 0)) (by (with_reducible repeat (first | refine blk_drewN ?_ _ | refine blk_drew ?_ | refine blk_alloc ?_ _)); exact BK275.out) hb); have n2_ := Aside0.mk (below_step (by repeat (first | (with_reducible first | exact HB.out | apply below_alloc | apply pw_below_drewN | apply below_drew1 | refine below_set ?_ GE269.out | refine below_set ?_ GE275.out) | exact HB.out)) hb); have n3_ := Aside0.mk (hbox); have n4_ := Aside0.mk ((by rw [hg]; exact (below_size (by repeat (first | (with_reducible first | exact HB.out | apply below_alloc | apply pw_below_drewN | apply below_drew1 | refine below_set ?_ GE269.out | refine below_set ?_ GE275.out) | exact HB.out))) : w.heap.size ≤ gb281)); have n5_ := Aside0.mk ((by rw [hg]; exact (below_size (by repeat (first | (with_reducible first | exact HB.out | apply below_alloc | apply pw_below_drewN | apply below_drew1 | refine below_set ?_ GE269.out | refine below_set ?_ GE275.out) | exact HB.out))) : w.heap.size ≤ gb281)); have n6_ := Aside0.mk ((by rw [hg]; exact Nat.ne_of_lt (blk_lt (g := gb269) (o := .cells #[.int .i64 a0_0, .int .i64 a0_1, .int .i64 a0_2, .int .i64 a0_3, .int .i64 a0_4, .int .i64 a0_5, .int .i64 a0_6, .int .i64 a0_7, .int .i64 a0_8, .int .i64 a0_9] 30 (0, 0)) (by (with_reducible repeat (first | refine blk_drewN ?_ _ | refine blk_drew ?_ | refine blk_alloc ?_ _)); exact BK269.out)) : gb269 ≠ gb281)); have n7_ := Aside0.mk ((by rw [hg]; exact Nat.ne_of_gt (blk_lt (g := gb269) (o := .cells #[.int .i64 a0_0, .int .i64 a0_1, .int .i64 a0_2, .int .i64 a0_3, .int .i64 a0_4, .int .i64 a0_5, .int .i64 a0_6, .int .i64 a0_7, .int .i64 a0_8, .int .i64 a0_9] 30 (0, 0)) (by (with_reducible repeat (first | refine blk_drewN ?_ _ | refine blk_drew ?_ | refine blk_alloc ?_ _)); exact BK269.out)) : gb281 ≠ gb269)); have n8_ := Aside0.mk ((by rw [hg]; exact Nat.ne_of_lt (blk_lt (g := gb275) (o := .cells #[.int .i64 t270, .int .i64 t271, .int .i64 t272] 26 (0, 0)) (by (with_reducible repeat (first | refine blk_drewN ?_ _ | refine blk_drew ?_ | refine blk_alloc ?_ _)); exact BK275.out)) : gb275 ≠ gb281)); have n9_ := Aside0.mk ((by rw [hg]; exact Nat.ne_of_gt (blk_lt (g := gb275) (o := .cells #[.int .i64 t270, .int .i64 t271, .int .i64 t272] 26 (0, 0)) (by (with_reducible repeat (first | refine blk_drewN ?_ _ | refine blk_drew ?_ | refine blk_alloc ?_ _)); exact BK275.out)) : gb281 ≠ gb275)); clear BK269; clear BK275; clear HB; have BK269 := n0_; have BK275 := n1_; have HB := n2_; have BK281 := n3_; have GW281 := n4_; have GE281 := n5_; have NB269_281 := n6_; have NB281_269 := n7_; have NB275_281 := n8_; have NB281_275 := n9_; clear n0_ n1_ n2_ n3_ n4_ n5_ n6_ n7_ n8_ n9_; clear hb hbox hg; have hnb151 := NB281_269.out; have hnc151 := NB269_281.out; have hnb152 := NB281_275.out; have hnc152 := NB275_281.out; have hcz153_0 : w150.cell? ⟨gb281, 0, none⟩ = some (.int .i64 0) := (blk_cell BK281.out 0).trans rfl; have hcz153_1 : w150.cell? ⟨gb281, 1, none⟩ = some (.int .i64 0) := (blk_cell BK281.out 1).trans rfl; have hcz153_2 : w150.cell? ⟨gb281, 2, none⟩ = some (.int .i64 0) := (blk_cell BK281.out 2).trans rfl; have hfz153_0 := blk_frozen BK281.out 0; have hfz153_1 := blk_frozen BK281.out 1; have hfz153_2 := blk_frozen BK281.out 2) | (go_at_call 14; (with_reducible refine (bivouaclaw14_awake.calls kj6  t282 _ ?side1 A142.out).mono ?_); (case side1 => exact Tg.Tab.below HTAB.out (by repeat (first | (with_reducible first | exact HB.out | apply below_alloc | apply pw_below_drewN | apply below_drew1 | refine below_set ?_ GE269.out | refine below_set ?_ GE275.out | refine below_set ?_ GE281.out) | exact HB.out))); rintro e w154 ⟨rfl, hb⟩; have n0_ := Aside0.mk (blk_below (g := gb269) (o := .cells #[.int .i64 a0_0, .int .i64 a0_1, .int .i64 a0_2, .int .i64 a0_3, .int .i64 a0_4, .int .i64 a0_5, .int .i64 a0_6, .int .i64 a0_7, .int .i64 a0_8, .int .i64 a0_9] 30 (0, 0)) (by (with_reducible repeat (first | refine blk_drewN ?_ _ | refine blk_drew ?_ | refine blk_alloc ?_ _)); refine blk_far ?_ NB269_281.out _; (with_reducible repeat (first | refine blk_drewN ?_ _ | refine blk_drew ?_ | refine blk_alloc ?_ _)); refine blk_far ?_ NB269_281.out _; (with_reducible repeat (first | refine blk_drewN ?_ _ | refine blk_drew ?_ | refine blk_alloc ?_ _)); refine blk_far ?_ NB269_281.out _; (with_reducible repeat (first | refine blk_drewN ?_ _ | refine blk_drew ?_ | refine blk_alloc ?_ _)); exact BK269.out) hb); have n1_ := Aside0.mk (blk_below (g := gb275) (o := .cells #[.int .i64 t270, .int .i64 t271, .int .i64 t272] 26 (0, 0)) (by (with_reducible repeat (first | refine blk_drewN ?_ _ | refine blk_drew ?_ | refine blk_alloc ?_ _)); refine blk_far ?_ NB275_281.out _; (with_reducible repeat (first | refine blk_drewN ?_ _ | refine blk_drew ?_ | refine blk_alloc ?_ _)); refine blk_far ?_ NB275_281.out _; (with_reducible repeat (first | refine blk_drewN ?_ _ | refine blk_drew ?_ | refine blk_alloc ?_ _)); refine blk_far ?_ NB275_281.out _; (with_reducible repeat (first | refine blk_drewN ?_ _ | refine blk_drew ?_ | refine blk_alloc ?_ _)); exact BK275.out) hb); have n2_ := Aside0.mk (blk_below (g := gb281) (o := .cells #[.int .i64 t276, .int .i64 t277, .int .i64 t278] 26 (0, 0)) (by (with_reducible repeat (first | refine blk_drewN ?_ _ | refine blk_drew ?_ | refine blk_alloc ?_ _)); refine blk_put (cs := #[.int .i64 t276, .int .i64 t277, .int .i64 0]) ?_ 2 _ rfl; (with_reducible repeat (first | refine blk_drewN ?_ _ | refine blk_drew ?_ | refine blk_alloc ?_ _)); refine blk_put (cs := #[.int .i64 t276, .int .i64 0, .int .i64 0]) ?_ 1 _ rfl; (with_reducible repeat (first | refine blk_drewN ?_ _ | refine blk_drew ?_ | refine blk_alloc ?_ _)); refine blk_put (cs := #[.int .i64 0, .int .i64 0, .int .i64 0]) ?_ 0 _ rfl; (with_reducible repeat (first | refine blk_drewN ?_ _ | refine blk_drew ?_ | refine blk_alloc ?_ _)); exact BK281.out) hb); have n3_ := Aside0.mk (below_step (by repeat (first | (with_reducible first | exact HB.out | apply below_alloc | apply pw_below_drewN | apply below_drew1 | refine below_set ?_ GE269.out | refine below_set ?_ GE275.out | refine below_set ?_ GE281.out) | exact HB.out)) hb); clear BK269; clear BK275; clear BK281; clear HB; have BK269 := n0_; have BK275 := n1_; have BK281 := n2_; have HB := n3_; clear n0_ n1_ n2_ n3_; (try clear hb); (try clear hb2); (try clear hk); (try clear hi)))
                  go_ret
                  exact ⟨by first | rfl | (simp [errW_none, errW_some] <;> rfl) | (simp [*, errW_none, errW_some] <;> rfl), by repeat (first | (with_reducible first | exact HB.out | apply below_alloc | apply pw_below_drewN | apply below_drew1 | refine below_set ?_ GE269.out | refine below_set ?_ GE275.out | refine below_set ?_ GE281.out) | exact HB.out)⟩
                · rw [if_neg c141] at H
                  have c141b0 : (t279 == 0) = false := beq_eq_false_iff_ne.mpr c141
                  have c141b1 : (t279 != 0) = true := bne_iff_ne.mpr c141
                  obtain rfl := Option.some.inj H
                  have hcz155_0 : wc.cell? ⟨gb269, 0, none⟩ = some (.int .i64 a0_0) := (blk_cell BK269.out 0).trans rfl
                  have hcz155_1 : wc.cell? ⟨gb269, 1, none⟩ = some (.int .i64 a0_1) := (blk_cell BK269.out 1).trans rfl
                  have hcz155_2 : wc.cell? ⟨gb269, 2, none⟩ = some (.int .i64 a0_2) := (blk_cell BK269.out 2).trans rfl
                  have hcz155_3 : wc.cell? ⟨gb269, 3, none⟩ = some (.int .i64 a0_3) := (blk_cell BK269.out 3).trans rfl
                  have hcz155_4 : wc.cell? ⟨gb269, 4, none⟩ = some (.int .i64 a0_4) := (blk_cell BK269.out 4).trans rfl
                  have hcz155_5 : wc.cell? ⟨gb269, 5, none⟩ = some (.int .i64 a0_5) := (blk_cell BK269.out 5).trans rfl
                  have hcz155_6 : wc.cell? ⟨gb269, 6, none⟩ = some (.int .i64 a0_6) := (blk_cell BK269.out 6).trans rfl
                  have hcz155_7 : wc.cell? ⟨gb269, 7, none⟩ = some (.int .i64 a0_7) := (blk_cell BK269.out 7).trans rfl
                  have hcz155_8 : wc.cell? ⟨gb269, 8, none⟩ = some (.int .i64 a0_8) := (blk_cell BK269.out 8).trans rfl
                  have hcz155_9 : wc.cell? ⟨gb269, 9, none⟩ = some (.int .i64 a0_9) := (blk_cell BK269.out 9).trans rfl
                  have hfz155_0 := blk_frozen BK269.out 0
                  have hfz155_1 := blk_frozen BK269.out 1
                  have hfz155_2 := blk_frozen BK269.out 2
                  have hfz155_3 := blk_frozen BK269.out 3
                  have hfz155_4 := blk_frozen BK269.out 4
                  have hfz155_5 := blk_frozen BK269.out 5
                  have hfz155_6 := blk_frozen BK269.out 6
                  have hfz155_7 := blk_frozen BK269.out 7
                  have hfz155_8 := blk_frozen BK269.out 8
                  have hfz155_9 := blk_frozen BK269.out 9
                  go_wp2_with (first | ((with_reducible refine gate_callee (f := 18) rfl ?_); refine goesL_ (some 33) rfl rfl Tryd.func18 (by kernel_rfl) rfl #[.agg #[.int .i64 a0_0, .int .i64 a0_1, .int .i64 a0_2], .agg #[.int .i64 a0_3, .int .i64 a0_4, .int .i64 a0_5, .int .i64 a0_6], .int .i64 a0_7, .int .i64 a0_8, .int .i64 x5_6] rfl (by (try simp only [List.map_toArray, List.map_cons, List.map_nil]); first | done | rfl | (simp only [List.length_drop, List.length_take]; rfl)) ?_; (with_reducible refine (drive_Steps.calls kj6 a0_0 a0_1 a0_2 a0_3 a0_4 a0_5 a0_6 a0_7 a0_8 x5_6 t270 t271 t272 t273 t274 _ ?side1 A9.out).mono ?_); (case side1 => exact Tg.Tab.below HTAB.out (by repeat (first | (with_reducible first | exact HB.out | apply below_alloc | apply pw_below_drewN | apply below_drew1 | refine below_set ?_ GE269.out) | exact HB.out))); rintro e w156 ⟨rfl, hb⟩; refine ⟨_, rfl, ?_⟩; have n0_ := Aside0.mk (blk_below (g := gb269) (o := .cells #[.int .i64 a0_0, .int .i64 a0_1, .int .i64 a0_2, .int .i64 a0_3, .int .i64 a0_4, .int .i64 a0_5, .int .i64 a0_6, .int .i64 a0_7, .int .i64 a0_8, .int .i64 a0_9] 30 (0, 0)) (by (with_reducible repeat (first | refine blk_drewN ?_ _ | refine blk_drew ?_ | refine blk_alloc ?_ _)); exact BK269.out) hb); have n1_ := Aside0.mk (below_step (by repeat (first | (with_reducible first | exact HB.out | apply below_alloc | apply pw_below_drewN | apply below_drew1 | refine below_set ?_ GE269.out) | exact HB.out)) hb); clear BK269; clear HB; have BK269 := n0_; have HB := n1_; clear n0_ n1_; (try clear hb); (try clear hb2); (try clear hk); (try clear hi)) | ((with_reducible refine gate_dst (N := 6) rfl ?_); refine box_event ?hg (N := 6) ?hd (cs := #[.int .i64 0, .int .i64 0, .int .i64 0]) (t := 26) ?hr ?_; (case hd => rfl); (case hg => rfl); (case hr => first | (go_simp; done) | (go_simp; rfl)); intro gb275 hg w157 hbox hb; have n0_ := Aside0.mk (blk_below (g := gb269) (o := .cells #[.int .i64 a0_0, .int .i64 a0_1, .int .i64 a0_2, .int .i64 a0_3, .int .i64 a0_4, .int .i64 a0_5, .int .i64 a0_6, .int .i64 a0_7, .int .i64 a0_8, .int .i64 a0_9] 30 (0, 0)) (by (with_reducible repeat (first | refine blk_drewN ?_ _ | refine blk_drew ?_ | refine blk_alloc ?_ _)); exact BK269.out) hb); have n1_ := Aside0.mk (below_step (by repeat (first | (with_reducible first | exact HB.out | apply below_alloc | apply pw_below_drewN | apply below_drew1 | refine below_set ?_ GE269.out) | exact HB.out)) hb); have n2_ := Aside0.mk (hbox); have n3_ := Aside0.mk ((by rw [hg]; exact (below_size (by repeat (first | (with_reducible first | exact HB.out | apply below_alloc | apply pw_below_drewN | apply below_drew1 | refine below_set ?_ GE269.out) | exact HB.out))) : w.heap.size ≤ gb275)); have n4_ := Aside0.mk ((by rw [hg]; exact (below_size (by repeat (first | (with_reducible first | exact HB.out | apply below_alloc | apply pw_below_drewN | apply below_drew1 | refine below_set ?_ GE269.out) | exact HB.out))) : w.heap.size ≤ gb275)); have n5_ := Aside0.mk ((by rw [hg]; exact Nat.ne_of_lt (blk_lt (g := gb269) (o := .cells #[.int .i64 a0_0, .int .i64 a0_1, .int .i64 a0_2, .int .i64 a0_3, .int .i64 a0_4, .int .i64 a0_5, .int .i64 a0_6, .int .i64 a0_7, .int .i64 a0_8, .int .i64 a0_9] 30 (0, 0)) (by (with_reducible repeat (first | refine blk_drewN ?_ _ | refine blk_drew ?_ | refine blk_alloc ?_ _)); exact BK269.out)) : gb269 ≠ gb275)); have n6_ := Aside0.mk ((by rw [hg]; exact Nat.ne_of_gt (blk_lt (g := gb269) (o := .cells #[.int .i64 a0_0, .int .i64 a0_1, .int .i64 a0_2, .int .i64 a0_3, .int .i64 a0_4, .int .i64 a0_5, .int .i64 a0_6, .int .i64 a0_7, .int .i64 a0_8, .int .i64 a0_9] 30 (0, 0)) (by (with_reducible repeat (first | refine blk_drewN ?_ _ | refine blk_drew ?_ | refine blk_alloc ?_ _)); exact BK269.out)) : gb275 ≠ gb269)); clear BK269; clear HB; have BK269 := n0_; have HB := n1_; have BK275 := n2_; have GW275 := n3_; have GE275 := n4_; have NB269_275 := n5_; have NB275_269 := n6_; clear n0_ n1_ n2_ n3_ n4_ n5_ n6_; clear hb hbox hg; have hnb158 := NB275_269.out; have hnc158 := NB269_275.out; have hcz159_0 : w157.cell? ⟨gb275, 0, none⟩ = some (.int .i64 0) := (blk_cell BK275.out 0).trans rfl; have hcz159_1 : w157.cell? ⟨gb275, 1, none⟩ = some (.int .i64 0) := (blk_cell BK275.out 1).trans rfl; have hcz159_2 : w157.cell? ⟨gb275, 2, none⟩ = some (.int .i64 0) := (blk_cell BK275.out 2).trans rfl; have hfz159_0 := blk_frozen BK275.out 0; have hfz159_1 := blk_frozen BK275.out 1; have hfz159_2 := blk_frozen BK275.out 2; have hcz160_0 : w157.cell? ⟨gb269, 0, none⟩ = some (.int .i64 a0_0) := (blk_cell BK269.out 0).trans rfl; have hcz160_1 : w157.cell? ⟨gb269, 1, none⟩ = some (.int .i64 a0_1) := (blk_cell BK269.out 1).trans rfl; have hcz160_2 : w157.cell? ⟨gb269, 2, none⟩ = some (.int .i64 a0_2) := (blk_cell BK269.out 2).trans rfl; have hcz160_3 : w157.cell? ⟨gb269, 3, none⟩ = some (.int .i64 a0_3) := (blk_cell BK269.out 3).trans rfl; have hcz160_4 : w157.cell? ⟨gb269, 4, none⟩ = some (.int .i64 a0_4) := (blk_cell BK269.out 4).trans rfl; have hcz160_5 : w157.cell? ⟨gb269, 5, none⟩ = some (.int .i64 a0_5) := (blk_cell BK269.out 5).trans rfl; have hcz160_6 : w157.cell? ⟨gb269, 6, none⟩ = some (.int .i64 a0_6) := (blk_cell BK269.out 6).trans rfl; have hcz160_7 : w157.cell? ⟨gb269, 7, none⟩ = some (.int .i64 a0_7) := (blk_cell BK269.out 7).trans rfl; have hcz160_8 : w157.cell? ⟨gb269, 8, none⟩ = some (.int .i64 a0_8) := (blk_cell BK269.out 8).trans rfl; have hcz160_9 : w157.cell? ⟨gb269, 9, none⟩ = some (.int .i64 a0_9) := (blk_cell BK269.out 9).trans rfl; have hfz160_0 := blk_frozen BK269.out 0; have hfz160_1 := blk_frozen BK269.out 1; have hfz160_2 := blk_frozen BK269.out 2; have hfz160_3 := blk_frozen BK269.out 3; have hfz160_4 := blk_frozen BK269.out 4; have hfz160_5 := blk_frozen BK269.out 5; have hfz160_6 := blk_frozen BK269.out 6; have hfz160_7 := blk_frozen BK269.out 7; have hfz160_8 := blk_frozen BK269.out 8; have hfz160_9 := blk_frozen BK269.out 9) | ((with_reducible refine gate_callee (f := 18) rfl ?_); refine goesL_ (some 50) rfl rfl Tryd.func18 (by kernel_rfl) rfl #[.agg #[.int .i64 a0_0, .int .i64 a0_1, .int .i64 a0_2], .agg #[.int .i64 a0_3, .int .i64 a0_4, .int .i64 a0_5, .int .i64 a0_6], .int .i64 a0_7, .int .i64 a0_8, .int .i64 (wrap64 (x5_6 + (wrap64 (a1))))] rfl (by (try simp only [List.map_toArray, List.map_cons, List.map_nil]); first | done | rfl | (simp only [List.length_drop, List.length_take]; rfl)) ?_; (with_reducible refine (drive_Steps.calls kj6 a0_0 a0_1 a0_2 a0_3 a0_4 a0_5 a0_6 a0_7 a0_8 (wrap64 (x5_6 + (wrap64 (a1)))) t276 t277 t278 t279 t280 _ ?side1 A10.out).mono ?_); (case side1 => exact Tg.Tab.below HTAB.out (by repeat (first | (with_reducible first | exact HB.out | apply below_alloc | apply pw_below_drewN | apply below_drew1 | refine below_set ?_ GE269.out | refine below_set ?_ GE275.out) | exact HB.out))); rintro e w161 ⟨rfl, hb⟩; refine ⟨_, rfl, ?_⟩; have n0_ := Aside0.mk (blk_below (g := gb269) (o := .cells #[.int .i64 a0_0, .int .i64 a0_1, .int .i64 a0_2, .int .i64 a0_3, .int .i64 a0_4, .int .i64 a0_5, .int .i64 a0_6, .int .i64 a0_7, .int .i64 a0_8, .int .i64 a0_9] 30 (0, 0)) (by (with_reducible repeat (first | refine blk_drewN ?_ _ | refine blk_drew ?_ | refine blk_alloc ?_ _)); refine blk_far ?_ NB269_275.out _; (with_reducible repeat (first | refine blk_drewN ?_ _ | refine blk_drew ?_ | refine blk_alloc ?_ _)); refine blk_far ?_ NB269_275.out _; (with_reducible repeat (first | refine blk_drewN ?_ _ | refine blk_drew ?_ | refine blk_alloc ?_ _)); refine blk_far ?_ NB269_275.out _; (with_reducible repeat (first | refine blk_drewN ?_ _ | refine blk_drew ?_ | refine blk_alloc ?_ _)); exact BK269.out) hb); have n1_ := Aside0.mk (blk_below (g := gb275) (o := .cells #[.int .i64 t270, .int .i64 t271, .int .i64 t272] 26 (0, 0)) (by (with_reducible repeat (first | refine blk_drewN ?_ _ | refine blk_drew ?_ | refine blk_alloc ?_ _)); refine blk_put (cs := #[.int .i64 t270, .int .i64 t271, .int .i64 0]) ?_ 2 _ rfl; (with_reducible repeat (first | refine blk_drewN ?_ _ | refine blk_drew ?_ | refine blk_alloc ?_ _)); refine blk_put (cs := #[.int .i64 t270, .int .i64 0, .int .i64 0]) ?_ 1 _ rfl; (with_reducible repeat (first | refine blk_drewN ?_ _ | refine blk_drew ?_ | refine blk_alloc ?_ _)); refine blk_put (cs := #[.int .i64 0, .int .i64 0, .int .i64 0]) ?_ 0 _ rfl; (with_reducible repeat (first | refine blk_drewN ?_ _ | refine blk_drew ?_ | refine blk_alloc ?_ _)); exact BK275.out) hb); have n2_ := Aside0.mk (below_step (by repeat (first | (with_reducible first | exact HB.out | apply below_alloc | apply pw_below_drewN | apply below_drew1 | refine below_set ?_ GE269.out | refine below_set ?_ GE275.out) | exact HB.out)) hb); clear BK269; clear BK275; clear HB; have BK269 := n0_; have BK275 := n1_; have HB := n2_; clear n0_ n1_ n2_; (try clear hb); (try clear hb2); (try clear hk); (try clear hi)) | ((with_reducible refine gate_dst (N := 9) rfl ?_); refine box_event ?hg (N := 9) ?hd (cs := #[.int .i64 0, .int .i64 0, .int .i64 0]) (t := 26) ?hr ?_; (case hd => rfl); (case hg => rfl); (case hr => first | (go_simp; done) | (go_simp; rfl)); intro gb281 hg w162 hbox hb; have n0_ := Aside0.mk (blk_below (g := gb269) (o := .cells #[.int .i64 a0_0, .int .i64 a0_1, .int .i64 a0_2, .int .i64 a0_3, .int .i64 a0_4, .int .i64 a0_5, .int .i64 a0_6, .int .i64 a0_7, .int .i64 a0_8, .int .i64 a0_9] 30 (0, 0)) (by (with_reducible repeat (first | refine blk_drewN ?_ _ | refine blk_drew ?_ | refine blk_alloc ?_ _)); exact BK269.out) hb); have n1_ := Aside0.mk (blk_below (g := gb275) (o := .cells #[.int .i64 t270, .int .i64 t271, .int .i64 t272] 26 (0, 0)) (by (with_reducible repeat (first | refine blk_drewN ?_ _ | refine blk_drew ?_ | refine blk_alloc ?_ _)); exact BK275.out) hb); have n2_ := Aside0.mk (below_step (by repeat (first | (with_reducible first | exact HB.out | apply below_alloc | apply pw_below_drewN | apply below_drew1 | refine below_set ?_ GE269.out | refine below_set ?_ GE275.out) | exact HB.out)) hb); have n3_ := Aside0.mk (hbox); have n4_ := Aside0.mk ((by rw [hg]; exact (below_size (by repeat (first | (with_reducible first | exact HB.out | apply below_alloc | apply pw_below_drewN | apply below_drew1 | refine below_set ?_ GE269.out | refine below_set ?_ GE275.out) | exact HB.out))) : w.heap.size ≤ gb281)); have n5_ := Aside0.mk ((by rw [hg]; exact (below_size (by repeat (first | (with_reducible first | exact HB.out | apply below_alloc | apply pw_below_drewN | apply below_drew1 | refine below_set ?_ GE269.out | refine below_set ?_ GE275.out) | exact HB.out))) : w.heap.size ≤ gb281)); have n6_ := Aside0.mk ((by rw [hg]; exact Nat.ne_of_lt (blk_lt (g := gb269) (o := .cells #[.int .i64 a0_0, .int .i64 a0_1, .int .i64 a0_2, .int .i64 a0_3, .int .i64 a0_4, .int .i64 a0_5, .int .i64 a0_6, .int .i64 a0_7, .int .i64 a0_8, .int .i64 a0_9] 30 (0, 0)) (by (with_reducible repeat (first | refine blk_drewN ?_ _ | refine blk_drew ?_ | refine blk_alloc ?_ _)); exact BK269.out)) : gb269 ≠ gb281)); have n7_ := Aside0.mk ((by rw [hg]; exact Nat.ne_of_gt (blk_lt (g := gb269) (o := .cells #[.int .i64 a0_0, .int .i64 a0_1, .int .i64 a0_2, .int .i64 a0_3, .int .i64 a0_4, .int .i64 a0_5, .int .i64 a0_6, .int .i64 a0_7, .int .i64 a0_8, .int .i64 a0_9] 30 (0, 0)) (by (with_reducible repeat (first | refine blk_drewN ?_ _ | refine blk_drew ?_ | refine blk_alloc ?_ _)); exact BK269.out)) : gb281 ≠ gb269)); have n8_ := Aside0.mk ((by rw [hg]; exact Nat.ne_of_lt (blk_lt (g := gb275) (o := .cells #[.int .i64 t270, .int .i64 t271, .int .i64 t272] 26 (0, 0)) (by (with_reducible repeat (first | refine blk_drewN ?_ _ | refine blk_drew ?_ | refine blk_alloc ?_ _)); exact BK275.out)) : gb275 ≠ gb281)); have n9_ := Aside0.mk ((by rw [hg]; exact Nat.ne_of_gt (blk_lt (g := gb275) (o := .cells #[.int .i64 t270, .int .i64 t271, .int .i64 t272] 26 (0, 0)) (by (with_reducible repeat (first | refine blk_drewN ?_ _ | refine blk_drew ?_ | refine blk_alloc ?_ _)); exact BK275.out)) : gb281 ≠ gb275)); clear BK269; clear BK275; clear HB; have BK269 := n0_; have BK275 := n1_; have HB := n2_; have BK281 := n3_; have GW281 := n4_; have GE281 := n5_; have NB269_281 := n6_; have NB281_269 := n7_; have NB275_281 := n8_; have NB281_275 := n9_; clear n0_ n1_ n2_ n3_ n4_ n5_ n6_ n7_ n8_ n9_; clear hb hbox hg; have hnb163 := NB281_269.out; have hnc163 := NB269_281.out; have hnb164 := NB281_275.out; have hnc164 := NB275_281.out; have hcz165_0 : w162.cell? ⟨gb281, 0, none⟩ = some (.int .i64 0) := (blk_cell BK281.out 0).trans rfl; have hcz165_1 : w162.cell? ⟨gb281, 1, none⟩ = some (.int .i64 0) := (blk_cell BK281.out 1).trans rfl; have hcz165_2 : w162.cell? ⟨gb281, 2, none⟩ = some (.int .i64 0) := (blk_cell BK281.out 2).trans rfl; have hfz165_0 := blk_frozen BK281.out 0; have hfz165_1 := blk_frozen BK281.out 1; have hfz165_2 := blk_frozen BK281.out 2))
                  go_ret
                  exact ⟨by first | rfl | (simp [errW_none, errW_some] <;> rfl) | (simp [*, errW_none, errW_some] <;> rfl), by repeat (first | (with_reducible first | exact HB.out | apply below_alloc | apply pw_below_drewN | apply below_drew1 | refine below_set ?_ GE269.out | refine below_set ?_ GE275.out | refine below_set ?_ GE281.out) | exact HB.out)⟩
              · rw [if_neg c140] at H
                have c140b0 : (t273 == 0) = false := beq_eq_false_iff_ne.mpr c140
                have c140b1 : (t273 != 0) = true := bne_iff_ne.mpr c140
                obtain rfl := Option.some.inj H
                have hcz166_0 : wc.cell? ⟨gb269, 0, none⟩ = some (.int .i64 a0_0) := (blk_cell BK269.out 0).trans rfl
                have hcz166_1 : wc.cell? ⟨gb269, 1, none⟩ = some (.int .i64 a0_1) := (blk_cell BK269.out 1).trans rfl
                have hcz166_2 : wc.cell? ⟨gb269, 2, none⟩ = some (.int .i64 a0_2) := (blk_cell BK269.out 2).trans rfl
                have hcz166_3 : wc.cell? ⟨gb269, 3, none⟩ = some (.int .i64 a0_3) := (blk_cell BK269.out 3).trans rfl
                have hcz166_4 : wc.cell? ⟨gb269, 4, none⟩ = some (.int .i64 a0_4) := (blk_cell BK269.out 4).trans rfl
                have hcz166_5 : wc.cell? ⟨gb269, 5, none⟩ = some (.int .i64 a0_5) := (blk_cell BK269.out 5).trans rfl
                have hcz166_6 : wc.cell? ⟨gb269, 6, none⟩ = some (.int .i64 a0_6) := (blk_cell BK269.out 6).trans rfl
                have hcz166_7 : wc.cell? ⟨gb269, 7, none⟩ = some (.int .i64 a0_7) := (blk_cell BK269.out 7).trans rfl
                have hcz166_8 : wc.cell? ⟨gb269, 8, none⟩ = some (.int .i64 a0_8) := (blk_cell BK269.out 8).trans rfl
                have hcz166_9 : wc.cell? ⟨gb269, 9, none⟩ = some (.int .i64 a0_9) := (blk_cell BK269.out 9).trans rfl
                have hfz166_0 := blk_frozen BK269.out 0
                have hfz166_1 := blk_frozen BK269.out 1
                have hfz166_2 := blk_frozen BK269.out 2
                have hfz166_3 := blk_frozen BK269.out 3
                have hfz166_4 := blk_frozen BK269.out 4
                have hfz166_5 := blk_frozen BK269.out 5
                have hfz166_6 := blk_frozen BK269.out 6
                have hfz166_7 := blk_frozen BK269.out 7
                have hfz166_8 := blk_frozen BK269.out 8
                have hfz166_9 := blk_frozen BK269.out 9
                go_wp2_with (first | ((with_reducible refine gate_callee (f := 18) rfl ?_); refine goesL_ (some 33) rfl rfl Tryd.func18 (by kernel_rfl) rfl #[.agg #[.int .i64 a0_0, .int .i64 a0_1, .int .i64 a0_2], .agg #[.int .i64 a0_3, .int .i64 a0_4, .int .i64 a0_5, .int .i64 a0_6], .int .i64 a0_7, .int .i64 a0_8, .int .i64 x5_6] rfl (by (try simp only [List.map_toArray, List.map_cons, List.map_nil]); first | done | rfl | (simp only [List.length_drop, List.length_take]; rfl)) ?_; (with_reducible refine (drive_Steps.calls kj6 a0_0 a0_1 a0_2 a0_3 a0_4 a0_5 a0_6 a0_7 a0_8 x5_6 t270 t271 t272 t273 t274 _ ?side1 A9.out).mono ?_); (case side1 => exact Tg.Tab.below HTAB.out (by repeat (first | (with_reducible first | exact HB.out | apply below_alloc | apply pw_below_drewN | apply below_drew1 | refine below_set ?_ GE269.out) | exact HB.out))); rintro e w167 ⟨rfl, hb⟩; refine ⟨_, rfl, ?_⟩; have n0_ := Aside0.mk (blk_below (g := gb269) (o := .cells #[.int .i64 a0_0, .int .i64 a0_1, .int .i64 a0_2, .int .i64 a0_3, .int .i64 a0_4, .int .i64 a0_5, .int .i64 a0_6, .int .i64 a0_7, .int .i64 a0_8, .int .i64 a0_9] 30 (0, 0)) (by (with_reducible repeat (first | refine blk_drewN ?_ _ | refine blk_drew ?_ | refine blk_alloc ?_ _)); exact BK269.out) hb); have n1_ := Aside0.mk (below_step (by repeat (first | (with_reducible first | exact HB.out | apply below_alloc | apply pw_below_drewN | apply below_drew1 | refine below_set ?_ GE269.out) | exact HB.out)) hb); clear BK269; clear HB; have BK269 := n0_; have HB := n1_; clear n0_ n1_; (try clear hb); (try clear hb2); (try clear hk); (try clear hi)) | ((with_reducible refine gate_dst (N := 6) rfl ?_); refine box_event ?hg (N := 6) ?hd (cs := #[.int .i64 0, .int .i64 0, .int .i64 0]) (t := 26) ?hr ?_; (case hd => rfl); (case hg => rfl); (case hr => first | (go_simp; done) | (go_simp; rfl)); intro gb275 hg w168 hbox hb; have n0_ := Aside0.mk (blk_below (g := gb269) (o := .cells #[.int .i64 a0_0, .int .i64 a0_1, .int .i64 a0_2, .int .i64 a0_3, .int .i64 a0_4, .int .i64 a0_5, .int .i64 a0_6, .int .i64 a0_7, .int .i64 a0_8, .int .i64 a0_9] 30 (0, 0)) (by (with_reducible repeat (first | refine blk_drewN ?_ _ | refine blk_drew ?_ | refine blk_alloc ?_ _)); exact BK269.out) hb); have n1_ := Aside0.mk (below_step (by repeat (first | (with_reducible first | exact HB.out | apply below_alloc | apply pw_below_drewN | apply below_drew1 | refine below_set ?_ GE269.out) | exact HB.out)) hb); have n2_ := Aside0.mk (hbox); have n3_ := Aside0.mk ((by rw [hg]; exact (below_size (by repeat (first | (with_reducible first | exact HB.out | apply below_alloc | apply pw_below_drewN | apply below_drew1 | refine below_set ?_ GE269.out) | exact HB.out))) : w.heap.size ≤ gb275)); have n4_ := Aside0.mk ((by rw [hg]; exact (below_size (by repeat (first | (with_reducible first | exact HB.out | apply below_alloc | apply pw_below_drewN | apply below_drew1 | refine below_set ?_ GE269.out) | exact HB.out))) : w.heap.size ≤ gb275)); have n5_ := Aside0.mk ((by rw [hg]; exact Nat.ne_of_lt (blk_lt (g := gb269) (o := .cells #[.int .i64 a0_0, .int .i64 a0_1, .int .i64 a0_2, .int .i64 a0_3, .int .i64 a0_4, .int .i64 a0_5, .int .i64 a0_6, .int .i64 a0_7, .int .i64 a0_8, .int .i64 a0_9] 30 (0, 0)) (by (with_reducible repeat (first | refine blk_drewN ?_ _ | refine blk_drew ?_ | refine blk_alloc ?_ _)); exact BK269.out)) : gb269 ≠ gb275)); have n6_ := Aside0.mk ((by rw [hg]; exact Nat.ne_of_gt (blk_lt (g := gb269) (o := .cells #[.int .i64 a0_0, .int .i64 a0_1, .int .i64 a0_2, .int .i64 a0_3, .int .i64 a0_4, .int .i64 a0_5, .int .i64 a0_6, .int .i64 a0_7, .int .i64 a0_8, .int .i64 a0_9] 30 (0, 0)) (by (with_reducible repeat (first | refine blk_drewN ?_ _ | refine blk_drew ?_ | refine blk_alloc ?_ _)); exact BK269.out)) : gb275 ≠ gb269)); clear BK269; clear HB; have BK269 := n0_; have HB := n1_; have BK275 := n2_; have GW275 := n3_; have GE275 := n4_; have NB269_275 := n5_; have NB275_269 := n6_; clear n0_ n1_ n2_ n3_ n4_ n5_ n6_; clear hb hbox hg; have hnb169 := NB275_269.out; have hnc169 := NB269_275.out; have hcz170_0 : w168.cell? ⟨gb275, 0, none⟩ = some (.int .i64 0) := (blk_cell BK275.out 0).trans rfl; have hcz170_1 : w168.cell? ⟨gb275, 1, none⟩ = some (.int .i64 0) := (blk_cell BK275.out 1).trans rfl; have hcz170_2 : w168.cell? ⟨gb275, 2, none⟩ = some (.int .i64 0) := (blk_cell BK275.out 2).trans rfl; have hfz170_0 := blk_frozen BK275.out 0; have hfz170_1 := blk_frozen BK275.out 1; have hfz170_2 := blk_frozen BK275.out 2; have hcz171_0 : w168.cell? ⟨gb269, 0, none⟩ = some (.int .i64 a0_0) := (blk_cell BK269.out 0).trans rfl; have hcz171_1 : w168.cell? ⟨gb269, 1, none⟩ = some (.int .i64 a0_1) := (blk_cell BK269.out 1).trans rfl; have hcz171_2 : w168.cell? ⟨gb269, 2, none⟩ = some (.int .i64 a0_2) := (blk_cell BK269.out 2).trans rfl; have hcz171_3 : w168.cell? ⟨gb269, 3, none⟩ = some (.int .i64 a0_3) := (blk_cell BK269.out 3).trans rfl; have hcz171_4 : w168.cell? ⟨gb269, 4, none⟩ = some (.int .i64 a0_4) := (blk_cell BK269.out 4).trans rfl; have hcz171_5 : w168.cell? ⟨gb269, 5, none⟩ = some (.int .i64 a0_5) := (blk_cell BK269.out 5).trans rfl; have hcz171_6 : w168.cell? ⟨gb269, 6, none⟩ = some (.int .i64 a0_6) := (blk_cell BK269.out 6).trans rfl; have hcz171_7 : w168.cell? ⟨gb269, 7, none⟩ = some (.int .i64 a0_7) := (blk_cell BK269.out 7).trans rfl; have hcz171_8 : w168.cell? ⟨gb269, 8, none⟩ = some (.int .i64 a0_8) := (blk_cell BK269.out 8).trans rfl; have hcz171_9 : w168.cell? ⟨gb269, 9, none⟩ = some (.int .i64 a0_9) := (blk_cell BK269.out 9).trans rfl; have hfz171_0 := blk_frozen BK269.out 0; have hfz171_1 := blk_frozen BK269.out 1; have hfz171_2 := blk_frozen BK269.out 2; have hfz171_3 := blk_frozen BK269.out 3; have hfz171_4 := blk_frozen BK269.out 4; have hfz171_5 := blk_frozen BK269.out 5; have hfz171_6 := blk_frozen BK269.out 6; have hfz171_7 := blk_frozen BK269.out 7; have hfz171_8 := blk_frozen BK269.out 8; have hfz171_9 := blk_frozen BK269.out 9) | ((with_reducible refine gate_callee (f := 18) rfl ?_); refine goesL_ (some 50) rfl rfl Tryd.func18 (by kernel_rfl) rfl #[.agg #[.int .i64 a0_0, .int .i64 a0_1, .int .i64 a0_2], .agg #[.int .i64 a0_3, .int .i64 a0_4, .int .i64 a0_5, .int .i64 a0_6], .int .i64 a0_7, .int .i64 a0_8, .int .i64 (wrap64 (x5_6 + (wrap64 (a1))))] rfl (by (try simp only [List.map_toArray, List.map_cons, List.map_nil]); first | done | rfl | (simp only [List.length_drop, List.length_take]; rfl)) ?_; (with_reducible refine (drive_Steps.calls kj6 a0_0 a0_1 a0_2 a0_3 a0_4 a0_5 a0_6 a0_7 a0_8 (wrap64 (x5_6 + (wrap64 (a1)))) t276 t277 t278 t279 t280 _ ?side1 A10.out).mono ?_); (case side1 => exact Tg.Tab.below HTAB.out (by repeat (first | (with_reducible first | exact HB.out | apply below_alloc | apply pw_below_drewN | apply below_drew1 | refine below_set ?_ GE269.out | refine below_set ?_ GE275.out) | exact HB.out))); rintro e w172 ⟨rfl, hb⟩; refine ⟨_, rfl, ?_⟩; have n0_ := Aside0.mk (blk_below (g := gb269) (o := .cells #[.int .i64 a0_0, .int .i64 a0_1, .int .i64 a0_2, .int .i64 a0_3, .int .i64 a0_4, .int .i64 a0_5, .int .i64 a0_6, .int .i64 a0_7, .int .i64 a0_8, .int .i64 a0_9] 30 (0, 0)) (by (with_reducible repeat (first | refine blk_drewN ?_ _ | refine blk_drew ?_ | refine blk_alloc ?_ _)); refine blk_far ?_ NB269_275.out _; (with_reducible repeat (first | refine blk_drewN ?_ _ | refine blk_drew ?_ | refine blk_alloc ?_ _)); refine blk_far ?_ NB269_275.out _; (with_reducible repeat (first | refine blk_drewN ?_ _ | refine blk_drew ?_ | refine blk_alloc ?_ _)); refine blk_far ?_ NB269_275.out _; (with_reducible repeat (first | refine blk_drewN ?_ _ | refine blk_drew ?_ | refine blk_alloc ?_ _)); exact BK269.out) hb); have n1_ := Aside0.mk (blk_below (g := gb275) (o := .cells #[.int .i64 t270, .int .i64 t271, .int .i64 t272] 26 (0, 0)) (by (with_reducible repeat (first | refine blk_drewN ?_ _ | refine blk_drew ?_ | refine blk_alloc ?_ _)); refine blk_put (cs := #[.int .i64 t270, .int .i64 t271, .int .i64 0]) ?_ 2 _ rfl; (with_reducible repeat (first | refine blk_drewN ?_ _ | refine blk_drew ?_ | refine blk_alloc ?_ _)); refine blk_put (cs := #[.int .i64 t270, .int .i64 0, .int .i64 0]) ?_ 1 _ rfl; (with_reducible repeat (first | refine blk_drewN ?_ _ | refine blk_drew ?_ | refine blk_alloc ?_ _)); refine blk_put (cs := #[.int .i64 0, .int .i64 0, .int .i64 0]) ?_ 0 _ rfl; (with_reducible repeat (first | refine blk_drewN ?_ _ | refine blk_drew ?_ | refine blk_alloc ?_ _)); exact BK275.out) hb); have n2_ := Aside0.mk (below_step (by repeat (first | (with_reducible first | exact HB.out | apply below_alloc | apply pw_below_drewN | apply below_drew1 | refine below_set ?_ GE269.out | refine below_set ?_ GE275.out) | exact HB.out)) hb); clear BK269; clear BK275; clear HB; have BK269 := n0_; have BK275 := n1_; have HB := n2_; clear n0_ n1_ n2_; (try clear hb); (try clear hb2); (try clear hk); (try clear hi)) | ((with_reducible refine gate_dst (N := 9) rfl ?_); refine box_event ?hg (N := 9) ?hd (cs := #[.int .i64 0, .int .i64 0, .int .i64 0]) (t := 26) ?hr ?_; (case hd => rfl); (case hg => rfl); (case hr => first | (go_simp; done) | (go_simp; rfl)); intro gb281 hg w173 hbox hb; have n0_ := Aside0.mk (blk_below (g := gb269) (o := .cells #[.int .i64 a0_0, .int .i64 a0_1, .int .i64 a0_2, .int .i64 a0_3, .int .i64 a0_4, .int .i64 a0_5, .int .i64 a0_6, .int .i64 a0_7, .int .i64 a0_8, .int .i64 a0_9] 30 (0, 0)) (by (with_reducible repeat (first | refine blk_drewN ?_ _ | refine blk_drew ?_ | refine blk_alloc ?_ _)); exact BK269.out) hb); have n1_ := Aside0.mk (blk_below (g := gb275) (o := .cells #[.int .i64 t270, .int .i64 t271, .int .i64 t272] 26 (0, 0)) (by (with_reducible repeat (first | refine blk_drewN ?_ _ | refine blk_drew ?_ | refine blk_alloc ?_ _)); exact BK275.out) hb); have n2_ := Aside0.mk (below_step (by repeat (first | (with_reducible first | exact HB.out | apply below_alloc | apply pw_below_drewN | apply below_drew1 | refine below_set ?_ GE269.out | refine below_set ?_ GE275.out) | exact HB.out)) hb); have n3_ := Aside0.mk (hbox); have n4_ := Aside0.mk ((by rw [hg]; exact (below_size (by repeat (first | (with_reducible first | exact HB.out | apply below_alloc | apply pw_below_drewN | apply below_drew1 | refine below_set ?_ GE269.out | refine below_set ?_ GE275.out) | exact HB.out))) : w.heap.size ≤ gb281)); have n5_ := Aside0.mk ((by rw [hg]; exact (below_size (by repeat (first | (with_reducible first | exact HB.out | apply below_alloc | apply pw_below_drewN | apply below_drew1 | refine below_set ?_ GE269.out | refine below_set ?_ GE275.out) | exact HB.out))) : w.heap.size ≤ gb281)); have n6_ := Aside0.mk ((by rw [hg]; exact Nat.ne_of_lt (blk_lt (g := gb269) (o := .cells #[.int .i64 a0_0, .int .i64 a0_1, .int .i64 a0_2, .int .i64 a0_3, .int .i64 a0_4, .int .i64 a0_5, .int .i64 a0_6, .int .i64 a0_7, .int .i64 a0_8, .int .i64 a0_9] 30 (0, 0)) (by (with_reducible repeat (first | refine blk_drewN ?_ _ | refine blk_drew ?_ | refine blk_alloc ?_ _)); exact BK269.out)) : gb269 ≠ gb281)); have n7_ := Aside0.mk ((by rw [hg]; exact Nat.ne_of_gt (blk_lt (g := gb269) (o := .cells #[.int .i64 a0_0, .int .i64 a0_1, .int .i64 a0_2, .int .i64 a0_3, .int .i64 a0_4, .int .i64 a0_5, .int .i64 a0_6, .int .i64 a0_7, .int .i64 a0_8, .int .i64 a0_9] 30 (0, 0)) (by (with_reducible repeat (first | refine blk_drewN ?_ _ | refine blk_drew ?_ | refine blk_alloc ?_ _)); exact BK269.out)) : gb281 ≠ gb269)); have n8_ := Aside0.mk ((by rw [hg]; exact Nat.ne_of_lt (blk_lt (g := gb275) (o := .cells #[.int .i64 t270, .int .i64 t271, .int .i64 t272] 26 (0, 0)) (by (with_reducible repeat (first | refine blk_drewN ?_ _ | refine blk_drew ?_ | refine blk_alloc ?_ _)); exact BK275.out)) : gb275 ≠ gb281)); have n9_ := Aside0.mk ((by rw [hg]; exact Nat.ne_of_gt (blk_lt (g := gb275) (o := .cells #[.int .i64 t270, .int .i64 t271, .int .i64 t272] 26 (0, 0)) (by (with_reducible repeat (first | refine blk_drewN ?_ _ | refine blk_drew ?_ | refine blk_alloc ?_ _)); exact BK275.out)) : gb281 ≠ gb275)); clear BK269; clear BK275; clear HB; have BK269 := n0_; have BK275 := n1_; have HB := n2_; have BK281 := n3_; have GW281 := n4_; have GE281 := n5_; have NB269_281 := n6_; have NB281_269 := n7_; have NB275_281 := n8_; have NB281_275 := n9_; clear n0_ n1_ n2_ n3_ n4_ n5_ n6_ n7_ n8_ n9_; clear hb hbox hg; have hnb174 := NB281_269.out; have hnc174 := NB269_281.out; have hnb175 := NB281_275.out; have hnc175 := NB275_281.out; have hcz176_0 : w173.cell? ⟨gb281, 0, none⟩ = some (.int .i64 0) := (blk_cell BK281.out 0).trans rfl; have hcz176_1 : w173.cell? ⟨gb281, 1, none⟩ = some (.int .i64 0) := (blk_cell BK281.out 1).trans rfl; have hcz176_2 : w173.cell? ⟨gb281, 2, none⟩ = some (.int .i64 0) := (blk_cell BK281.out 2).trans rfl; have hfz176_0 := blk_frozen BK281.out 0; have hfz176_1 := blk_frozen BK281.out 1; have hfz176_2 := blk_frozen BK281.out 2))
                go_ret
                exact ⟨by first | rfl | (simp [errW_none, errW_some] <;> rfl) | (simp [*, errW_none, errW_some] <;> rfl), by repeat (first | (with_reducible first | exact HB.out | apply below_alloc | apply pw_below_drewN | apply below_drew1 | refine below_set ?_ GE269.out | refine below_set ?_ GE275.out | refine below_set ?_ GE281.out) | exact HB.out)⟩
            · rw [if_neg c139] at H
              have c139b0 : (t280 == t274) = false := beq_eq_false_iff_ne.mpr c139
              have c139b1 : (t280 != t274) = true := bne_iff_ne.mpr c139
              obtain rfl := Option.some.inj H
              have hcz177_0 : wc.cell? ⟨gb269, 0, none⟩ = some (.int .i64 a0_0) := (blk_cell BK269.out 0).trans rfl
              have hcz177_1 : wc.cell? ⟨gb269, 1, none⟩ = some (.int .i64 a0_1) := (blk_cell BK269.out 1).trans rfl
              have hcz177_2 : wc.cell? ⟨gb269, 2, none⟩ = some (.int .i64 a0_2) := (blk_cell BK269.out 2).trans rfl
              have hcz177_3 : wc.cell? ⟨gb269, 3, none⟩ = some (.int .i64 a0_3) := (blk_cell BK269.out 3).trans rfl
              have hcz177_4 : wc.cell? ⟨gb269, 4, none⟩ = some (.int .i64 a0_4) := (blk_cell BK269.out 4).trans rfl
              have hcz177_5 : wc.cell? ⟨gb269, 5, none⟩ = some (.int .i64 a0_5) := (blk_cell BK269.out 5).trans rfl
              have hcz177_6 : wc.cell? ⟨gb269, 6, none⟩ = some (.int .i64 a0_6) := (blk_cell BK269.out 6).trans rfl
              have hcz177_7 : wc.cell? ⟨gb269, 7, none⟩ = some (.int .i64 a0_7) := (blk_cell BK269.out 7).trans rfl
              have hcz177_8 : wc.cell? ⟨gb269, 8, none⟩ = some (.int .i64 a0_8) := (blk_cell BK269.out 8).trans rfl
              have hcz177_9 : wc.cell? ⟨gb269, 9, none⟩ = some (.int .i64 a0_9) := (blk_cell BK269.out 9).trans rfl
              have hfz177_0 := blk_frozen BK269.out 0
              have hfz177_1 := blk_frozen BK269.out 1
              have hfz177_2 := blk_frozen BK269.out 2
              have hfz177_3 := blk_frozen BK269.out 3
              have hfz177_4 := blk_frozen BK269.out 4
              have hfz177_5 := blk_frozen BK269.out 5
              have hfz177_6 := blk_frozen BK269.out 6
              have hfz177_7 := blk_frozen BK269.out 7
              have hfz177_8 := blk_frozen BK269.out 8
              have hfz177_9 := blk_frozen BK269.out 9
              go_wp2_with (first | ((with_reducible refine gate_callee (f := 18) rfl ?_); refine goesL_ (some 33) rfl rfl Tryd.func18 (by kernel_rfl) rfl #[.agg #[.int .i64 a0_0, .int .i64 a0_1, .int .i64 a0_2], .agg #[.int .i64 a0_3, .int .i64 a0_4, .int .i64 a0_5, .int .i64 a0_6], .int .i64 a0_7, .int .i64 a0_8, .int .i64 x5_6] rfl (by (try simp only [List.map_toArray, List.map_cons, List.map_nil]); first | done | rfl | (simp only [List.length_drop, List.length_take]; rfl)) ?_; (with_reducible refine (drive_Steps.calls kj6 a0_0 a0_1 a0_2 a0_3 a0_4 a0_5 a0_6 a0_7 a0_8 x5_6 t270 t271 t272 t273 t274 _ ?side1 A9.out).mono ?_); (case side1 => exact Tg.Tab.below HTAB.out (by repeat (first | (with_reducible first | exact HB.out | apply below_alloc | apply pw_below_drewN | apply below_drew1 | refine below_set ?_ GE269.out) | exact HB.out))); rintro e w178 ⟨rfl, hb⟩; refine ⟨_, rfl, ?_⟩; have n0_ := Aside0.mk (blk_below (g := gb269) (o := .cells #[.int .i64 a0_0, .int .i64 a0_1, .int .i64 a0_2, .int .i64 a0_3, .int .i64 a0_4, .int .i64 a0_5, .int .i64 a0_6, .int .i64 a0_7, .int .i64 a0_8, .int .i64 a0_9] 30 (0, 0)) (by (with_reducible repeat (first | refine blk_drewN ?_ _ | refine blk_drew ?_ | refine blk_alloc ?_ _)); exact BK269.out) hb); have n1_ := Aside0.mk (below_step (by repeat (first | (with_reducible first | exact HB.out | apply below_alloc | apply pw_below_drewN | apply below_drew1 | refine below_set ?_ GE269.out) | exact HB.out)) hb); clear BK269; clear HB; have BK269 := n0_; have HB := n1_; clear n0_ n1_; (try clear hb); (try clear hb2); (try clear hk); (try clear hi)) | ((with_reducible refine gate_dst (N := 6) rfl ?_); refine box_event ?hg (N := 6) ?hd (cs := #[.int .i64 0, .int .i64 0, .int .i64 0]) (t := 26) ?hr ?_; (case hd => rfl); (case hg => rfl); (case hr => first | (go_simp; done) | (go_simp; rfl)); intro gb275 hg w179 hbox hb; have n0_ := Aside0.mk (blk_below (g := gb269) (o := .cells #[.int .i64 a0_0, .int .i64 a0_1, .int .i64 a0_2, .int .i64 a0_3, .int .i64 a0_4, .int .i64 a0_5, .int .i64 a0_6, .int .i64 a0_7, .int .i64 a0_8, .int .i64 a0_9] 30 (0, 0)) (by (with_reducible repeat (first | refine blk_drewN ?_ _ | refine blk_drew ?_ | refine blk_alloc ?_ _)); exact BK269.out) hb); have n1_ := Aside0.mk (below_step (by repeat (first | (with_reducible first | exact HB.out | apply below_alloc | apply pw_below_drewN | apply below_drew1 | refine below_set ?_ GE269.out) | exact HB.out)) hb); have n2_ := Aside0.mk (hbox); have n3_ := Aside0.mk ((by rw [hg]; exact (below_size (by repeat (first | (with_reducible first | exact HB.out | apply below_alloc | apply pw_below_drewN | apply below_drew1 | refine below_set ?_ GE269.out) | exact HB.out))) : w.heap.size ≤ gb275)); have n4_ := Aside0.mk ((by rw [hg]; exact (below_size (by repeat (first | (with_reducible first | exact HB.out | apply below_alloc | apply pw_below_drewN | apply below_drew1 | refine below_set ?_ GE269.out) | exact HB.out))) : w.heap.size ≤ gb275)); have n5_ := Aside0.mk ((by rw [hg]; exact Nat.ne_of_lt (blk_lt (g := gb269) (o := .cells #[.int .i64 a0_0, .int .i64 a0_1, .int .i64 a0_2, .int .i64 a0_3, .int .i64 a0_4, .int .i64 a0_5, .int .i64 a0_6, .int .i64 a0_7, .int .i64 a0_8, .int .i64 a0_9] 30 (0, 0)) (by (with_reducible repeat (first | refine blk_drewN ?_ _ | refine blk_drew ?_ | refine blk_alloc ?_ _)); exact BK269.out)) : gb269 ≠ gb275)); have n6_ := Aside0.mk ((by rw [hg]; exact Nat.ne_of_gt (blk_lt (g := gb269) (o := .cells #[.int .i64 a0_0, .int .i64 a0_1, .int .i64 a0_2, .int .i64 a0_3, .int .i64 a0_4, .int .i64 a0_5, .int .i64 a0_6, .int .i64 a0_7, .int .i64 a0_8, .int .i64 a0_9] 30 (0, 0)) (by (with_reducible repeat (first | refine blk_drewN ?_ _ | refine blk_drew ?_ | refine blk_alloc ?_ _)); exact BK269.out)) : gb275 ≠ gb269)); clear BK269; clear HB; have BK269 := n0_; have HB := n1_; have BK275 := n2_; have GW275 := n3_; have GE275 := n4_; have NB269_275 := n5_; have NB275_269 := n6_; clear n0_ n1_ n2_ n3_ n4_ n5_ n6_; clear hb hbox hg; have hnb180 := NB275_269.out; have hnc180 := NB269_275.out; have hcz181_0 : w179.cell? ⟨gb275, 0, none⟩ = some (.int .i64 0) := (blk_cell BK275.out 0).trans rfl; have hcz181_1 : w179.cell? ⟨gb275, 1, none⟩ = some (.int .i64 0) := (blk_cell BK275.out 1).trans rfl; have hcz181_2 : w179.cell? ⟨gb275, 2, none⟩ = some (.int .i64 0) := (blk_cell BK275.out 2).trans rfl; have hfz181_0 := blk_frozen BK275.out 0; have hfz181_1 := blk_frozen BK275.out 1; have hfz181_2 := blk_frozen BK275.out 2; have hcz182_0 : w179.cell? ⟨gb269, 0, none⟩ = some (.int .i64 a0_0) := (blk_cell BK269.out 0).trans rfl; have hcz182_1 : w179.cell? ⟨gb269, 1, none⟩ = some (.int .i64 a0_1) := (blk_cell BK269.out 1).trans rfl; have hcz182_2 : w179.cell? ⟨gb269, 2, none⟩ = some (.int .i64 a0_2) := (blk_cell BK269.out 2).trans rfl; have hcz182_3 : w179.cell? ⟨gb269, 3, none⟩ = some (.int .i64 a0_3) := (blk_cell BK269.out 3).trans rfl; have hcz182_4 : w179.cell? ⟨gb269, 4, none⟩ = some (.int .i64 a0_4) := (blk_cell BK269.out 4).trans rfl; have hcz182_5 : w179.cell? ⟨gb269, 5, none⟩ = some (.int .i64 a0_5) := (blk_cell BK269.out 5).trans rfl; have hcz182_6 : w179.cell? ⟨gb269, 6, none⟩ = some (.int .i64 a0_6) := (blk_cell BK269.out 6).trans rfl; have hcz182_7 : w179.cell? ⟨gb269, 7, none⟩ = some (.int .i64 a0_7) := (blk_cell BK269.out 7).trans rfl; have hcz182_8 : w179.cell? ⟨gb269, 8, none⟩ = some (.int .i64 a0_8) := (blk_cell BK269.out 8).trans rfl; have hcz182_9 : w179.cell? ⟨gb269, 9, none⟩ = some (.int .i64 a0_9) := (blk_cell BK269.out 9).trans rfl; have hfz182_0 := blk_frozen BK269.out 0; have hfz182_1 := blk_frozen BK269.out 1; have hfz182_2 := blk_frozen BK269.out 2; have hfz182_3 := blk_frozen BK269.out 3; have hfz182_4 := blk_frozen BK269.out 4; have hfz182_5 := blk_frozen BK269.out 5; have hfz182_6 := blk_frozen BK269.out 6; have hfz182_7 := blk_frozen BK269.out 7; have hfz182_8 := blk_frozen BK269.out 8; have hfz182_9 := blk_frozen BK269.out 9) | ((with_reducible refine gate_callee (f := 18) rfl ?_); refine goesL_ (some 50) rfl rfl Tryd.func18 (by kernel_rfl) rfl #[.agg #[.int .i64 a0_0, .int .i64 a0_1, .int .i64 a0_2], .agg #[.int .i64 a0_3, .int .i64 a0_4, .int .i64 a0_5, .int .i64 a0_6], .int .i64 a0_7, .int .i64 a0_8, .int .i64 (wrap64 (x5_6 + (wrap64 (a1))))] rfl (by (try simp only [List.map_toArray, List.map_cons, List.map_nil]); first | done | rfl | (simp only [List.length_drop, List.length_take]; rfl)) ?_; (with_reducible refine (drive_Steps.calls kj6 a0_0 a0_1 a0_2 a0_3 a0_4 a0_5 a0_6 a0_7 a0_8 (wrap64 (x5_6 + (wrap64 (a1)))) t276 t277 t278 t279 t280 _ ?side1 A10.out).mono ?_); (case side1 => exact Tg.Tab.below HTAB.out (by repeat (first | (with_reducible first | exact HB.out | apply below_alloc | apply pw_below_drewN | apply below_drew1 | refine below_set ?_ GE269.out | refine below_set ?_ GE275.out) | exact HB.out))); rintro e w183 ⟨rfl, hb⟩; refine ⟨_, rfl, ?_⟩; have n0_ := Aside0.mk (blk_below (g := gb269) (o := .cells #[.int .i64 a0_0, .int .i64 a0_1, .int .i64 a0_2, .int .i64 a0_3, .int .i64 a0_4, .int .i64 a0_5, .int .i64 a0_6, .int .i64 a0_7, .int .i64 a0_8, .int .i64 a0_9] 30 (0, 0)) (by (with_reducible repeat (first | refine blk_drewN ?_ _ | refine blk_drew ?_ | refine blk_alloc ?_ _)); refine blk_far ?_ NB269_275.out _; (with_reducible repeat (first | refine blk_drewN ?_ _ | refine blk_drew ?_ | refine blk_alloc ?_ _)); refine blk_far ?_ NB269_275.out _; (with_reducible repeat (first | refine blk_drewN ?_ _ | refine blk_drew ?_ | refine blk_alloc ?_ _)); refine blk_far ?_ NB269_275.out _; (with_reducible repeat (first | refine blk_drewN ?_ _ | refine blk_drew ?_ | refine blk_alloc ?_ _)); exact BK269.out) hb); have n1_ := Aside0.mk (blk_below (g := gb275) (o := .cells #[.int .i64 t270, .int .i64 t271, .int .i64 t272] 26 (0, 0)) (by (with_reducible repeat (first | refine blk_drewN ?_ _ | refine blk_drew ?_ | refine blk_alloc ?_ _)); refine blk_put (cs := #[.int .i64 t270, .int .i64 t271, .int .i64 0]) ?_ 2 _ rfl; (with_reducible repeat (first | refine blk_drewN ?_ _ | refine blk_drew ?_ | refine blk_alloc ?_ _)); refine blk_put (cs := #[.int .i64 t270, .int .i64 0, .int .i64 0]) ?_ 1 _ rfl; (with_reducible repeat (first | refine blk_drewN ?_ _ | refine blk_drew ?_ | refine blk_alloc ?_ _)); refine blk_put (cs := #[.int .i64 0, .int .i64 0, .int .i64 0]) ?_ 0 _ rfl; (with_reducible repeat (first | refine blk_drewN ?_ _ | refine blk_drew ?_ | refine blk_alloc ?_ _)); exact BK275.out) hb); have n2_ := Aside0.mk (below_step (by repeat (first | (with_reducible first | exact HB.out | apply below_alloc | apply pw_below_drewN | apply below_drew1 | refine below_set ?_ GE269.out | refine below_set ?_ GE275.out) | exact HB.out)) hb); clear BK269; clear BK275; clear HB; have BK269 := n0_; have BK275 := n1_; have HB := n2_; clear n0_ n1_ n2_; (try clear hb); (try clear hb2); (try clear hk); (try clear hi)) | ((with_reducible refine gate_dst (N := 9) rfl ?_); refine box_event ?hg (N := 9) ?hd (cs := #[.int .i64 0, .int .i64 0, .int .i64 0]) (t := 26) ?hr ?_; (case hd => rfl); (case hg => rfl); (case hr => first | (go_simp; done) | (go_simp; rfl)); intro gb281 hg w184 hbox hb; have n0_ := Aside0.mk (blk_below (g := gb269) (o := .cells #[.int .i64 a0_0, .int .i64 a0_1, .int .i64 a0_2, .int .i64 a0_3, .int .i64 a0_4, .int .i64 a0_5, .int .i64 a0_6, .int .i64 a0_7, .int .i64 a0_8, .int .i64 a0_9] 30 (0, 0)) (by (with_reducible repeat (first | refine blk_drewN ?_ _ | refine blk_drew ?_ | refine blk_alloc ?_ _)); exact BK269.out) hb); have n1_ := Aside0.mk (blk_below (g := gb275) (o := .cells #[.int .i64 t270, .int .i64 t271, .int .i64 t272] 26 (0, 0)) (by (with_reducible repeat (first | refine blk_drewN ?_ _ | refine blk_drew ?_ | refine blk_alloc ?_ _)); exact BK275.out) hb); have n2_ := Aside0.mk (below_step (by repeat (first | (with_reducible first | exact HB.out | apply below_alloc | apply pw_below_drewN | apply below_drew1 | refine below_set ?_ GE269.out | refine below_set ?_ GE275.out) | exact HB.out)) hb); have n3_ := Aside0.mk (hbox); have n4_ := Aside0.mk ((by rw [hg]; exact (below_size (by repeat (first | (with_reducible first | exact HB.out | apply below_alloc | apply pw_below_drewN | apply below_drew1 | refine below_set ?_ GE269.out | refine below_set ?_ GE275.out) | exact HB.out))) : w.heap.size ≤ gb281)); have n5_ := Aside0.mk ((by rw [hg]; exact (below_size (by repeat (first | (with_reducible first | exact HB.out | apply below_alloc | apply pw_below_drewN | apply below_drew1 | refine below_set ?_ GE269.out | refine below_set ?_ GE275.out) | exact HB.out))) : w.heap.size ≤ gb281)); have n6_ := Aside0.mk ((by rw [hg]; exact Nat.ne_of_lt (blk_lt (g := gb269) (o := .cells #[.int .i64 a0_0, .int .i64 a0_1, .int .i64 a0_2, .int .i64 a0_3, .int .i64 a0_4, .int .i64 a0_5, .int .i64 a0_6, .int .i64 a0_7, .int .i64 a0_8, .int .i64 a0_9] 30 (0, 0)) (by (with_reducible repeat (first | refine blk_drewN ?_ _ | refine blk_drew ?_ | refine blk_alloc ?_ _)); exact BK269.out)) : gb269 ≠ gb281)); have n7_ := Aside0.mk ((by rw [hg]; exact Nat.ne_of_gt (blk_lt (g := gb269) (o := .cells #[.int .i64 a0_0, .int .i64 a0_1, .int .i64 a0_2, .int .i64 a0_3, .int .i64 a0_4, .int .i64 a0_5, .int .i64 a0_6, .int .i64 a0_7, .int .i64 a0_8, .int .i64 a0_9] 30 (0, 0)) (by (with_reducible repeat (first | refine blk_drewN ?_ _ | refine blk_drew ?_ | refine blk_alloc ?_ _)); exact BK269.out)) : gb281 ≠ gb269)); have n8_ := Aside0.mk ((by rw [hg]; exact Nat.ne_of_lt (blk_lt (g := gb275) (o := .cells #[.int .i64 t270, .int .i64 t271, .int .i64 t272] 26 (0, 0)) (by (with_reducible repeat (first | refine blk_drewN ?_ _ | refine blk_drew ?_ | refine blk_alloc ?_ _)); exact BK275.out)) : gb275 ≠ gb281)); have n9_ := Aside0.mk ((by rw [hg]; exact Nat.ne_of_gt (blk_lt (g := gb275) (o := .cells #[.int .i64 t270, .int .i64 t271, .int .i64 t272] 26 (0, 0)) (by (with_reducible repeat (first | refine blk_drewN ?_ _ | refine blk_drew ?_ | refine blk_alloc ?_ _)); exact BK275.out)) : gb281 ≠ gb275)); clear BK269; clear BK275; clear HB; have BK269 := n0_; have BK275 := n1_; have HB := n2_; have BK281 := n3_; have GW281 := n4_; have GE281 := n5_; have NB269_281 := n6_; have NB281_269 := n7_; have NB275_281 := n8_; have NB281_275 := n9_; clear n0_ n1_ n2_ n3_ n4_ n5_ n6_ n7_ n8_ n9_; clear hb hbox hg; have hnb185 := NB281_269.out; have hnc185 := NB269_281.out; have hnb186 := NB281_275.out; have hnc186 := NB275_281.out; have hcz187_0 : w184.cell? ⟨gb281, 0, none⟩ = some (.int .i64 0) := (blk_cell BK281.out 0).trans rfl; have hcz187_1 : w184.cell? ⟨gb281, 1, none⟩ = some (.int .i64 0) := (blk_cell BK281.out 1).trans rfl; have hcz187_2 : w184.cell? ⟨gb281, 2, none⟩ = some (.int .i64 0) := (blk_cell BK281.out 2).trans rfl; have hfz187_0 := blk_frozen BK281.out 0; have hfz187_1 := blk_frozen BK281.out 1; have hfz187_2 := blk_frozen BK281.out 2))
              go_ret
              exact ⟨by first | rfl | (simp [errW_none, errW_some] <;> rfl) | (simp [*, errW_none, errW_some] <;> rfl), by repeat (first | (with_reducible first | exact HB.out | apply below_alloc | apply pw_below_drewN | apply below_drew1 | refine below_set ?_ GE269.out | refine below_set ?_ GE275.out | refine below_set ?_ GE281.out) | exact HB.out)⟩
end Go.Proofs.YtbcddiaplpbhjaaDoor.MDr
