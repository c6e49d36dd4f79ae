/- What the claim's proof leans on: texts of this claim, laid together. -/
import Derived.Test.YtbcddiaplpbhjaaDoorZ4
namespace Go.Proofs.YtbcddiaplpbhjaaDoor.MDr
open Go.RowKit Go.Proofs.YtbcddiaplpbhjaaDoorW.PrintWords Go.Proofs.YtbcddiaplpbhjaaDoorW.PrintLast Go.Proofs.YtbcddiaplpbhjaaDoorW.PrintMore
attribute [local go_sem] max2_int min2_int max_two min_two max_three min_three max_four min_four
set_option linter.unusedVariables false
set_option linter.unusedSimpArgs false
noncomputable def bivouacref14_May.f (a0_0 : Int) (a0_1 : Int) (a0_2 : Int) (a1_0 : Int) (a1_1 : Int) (a1_2 : Int) (a1_3 : Int) (a2 : Int) (a3 : Int) : Option (Bool) := if 0 ≤ a1_0 then (if a1_0 ≤ 65536 then (if 0 ≤ a1_1 then (if a1_1 ≤ 32768 then (if 1 ≤ a1_2 then (if a1_2 ≤ 64 then (if 1 ≤ a1_3 then (if a1_3 ≤ 64 then ((bivouacref14_On.f a1_0 a1_1 a1_2 a1_3 a0_0 a0_1).bind fun t198 => (if t198 = true then ((bivouacref14_On.f a1_0 a1_1 a1_2 a1_3 a2 a3).bind fun t199 => (if t199 = true then (if 0 ≤ a0_2 then (some (decide (a0_2 < 65536))) else (some false)) else (some false))) else (some false))) else (some false)) else (some false)) else (some false)) else (some false)) else (some false)) else (some false)) else (some false)) else (some false)
set_option maxHeartbeats 8000000 in
set_option maxRecDepth 100000 in
theorem bivouacref14_May.calls (a0_0 : Int) (a0_1 : Int) (a0_2 : Int) (a1_0 : Int) (a1_1 : Int) (a1_2 : Int) (a1_3 : Int) (a2 : Int) (a3 : Int) (r : Bool) (w : World) (h : bivouacref14_May.f a0_0 a0_1 a0_2 a1_0 a1_1 a1_2 a1_3 a2 a3 = some r) :
    Calls Tryd.prog 16 #[.agg #[.int .i64 a0_0, .int .i64 a0_1, .int .i64 a0_2], .agg #[.int .i64 a1_0, .int .i64 a1_1, .int .i64 a1_2, .int .i64 a1_3], .int .i64 a2, .int .i64 a3] w fun e w' => e = .returned (.bool r) ∧ Below w.heap.size w w' := by
  have hu26 := Tryd.underlying26
  have hu28 := Tryd.underlying28
  have HB := Aside0.mk (Below.refl w.heap.size w)
  have H : (if 0 ≤ a1_0 then (if a1_0 ≤ 65536 then (if 0 ≤ a1_1 then (if a1_1 ≤ 32768 then (if 1 ≤ a1_2 then (if a1_2 ≤ 64 then (if 1 ≤ a1_3 then (if a1_3 ≤ 64 then ((bivouacref14_On.f a1_0 a1_1 a1_2 a1_3 a0_0 a0_1).bind fun t198 => (if t198 = true then ((bivouacref14_On.f a1_0 a1_1 a1_2 a1_3 a2 a3).bind fun t199 => (if t199 = true then (if 0 ≤ a0_2 then (some (decide (a0_2 < 65536))) else (some false)) else (some false))) else (some false))) else (some false)) else (some false)) else (some false)) else (some false)) else (some false)) else (some false)) else (some false)) else (some false)) = some r := h
  clear h
  by_cases c5 : 0 ≤ a1_0
  · rw [if_pos c5] at H
    have c5b0 : decide (0 ≤ a1_0) = true := decide_eq_true c5
    clear c5
    by_cases c6 : a1_0 ≤ 65536
    · rw [if_pos c6] at H
      have c6b0 : decide (a1_0 ≤ 65536) = true := decide_eq_true c6
      clear c6
      by_cases c7 : 0 ≤ a1_1
      · rw [if_pos c7] at H
        have c7b0 : decide (0 ≤ a1_1) = true := decide_eq_true c7
        clear c7
        by_cases c8 : a1_1 ≤ 32768
        · rw [if_pos c8] at H
          have c8b0 : decide (a1_1 ≤ 32768) = true := decide_eq_true c8
          clear c8
          by_cases c9 : 1 ≤ a1_2
          · rw [if_pos c9] at H
            have c9b0 : decide (1 ≤ a1_2) = true := decide_eq_true c9
            clear c9
            by_cases c10 : a1_2 ≤ 64
            · rw [if_pos c10] at H
              have c10b0 : decide (a1_2 ≤ 64) = true := decide_eq_true c10
              clear c10
              by_cases c11 : 1 ≤ a1_3
              · rw [if_pos c11] at H
                have c11b0 : decide (1 ≤ a1_3) = true := decide_eq_true c11
                clear c11
                by_cases c12 : a1_3 ≤ 64
                · rw [if_pos c12] at H
                  have c12b0 : decide (a1_3 ≤ 64) = true := decide_eq_true c12
                  clear c12
                  replace H := Option.bind_eq_some_iff.mp H
                  obtain ⟨t198, A130, H⟩ := H
                  replace H : (if t198 = true then ((bivouacref14_On.f a1_0 a1_1 a1_2 a1_3 a2 a3).bind fun t199 => (if t199 = true then (if 0 ≤ a0_2 then (some (decide (a0_2 < 65536))) else (some false)) else (some false))) else (some false)) = some r := H
                  have A13 := Aside0.mk A130
                  clear A130
                  by_cases c14 : t198 = true
                  · subst c14
                    have H1 : ((bivouacref14_On.f a1_0 a1_1 a1_2 a1_3 a2 a3).bind fun t199 => (if t199 = true then (if 0 ≤ a0_2 then (some (decide (a0_2 < 65536))) else (some false)) else (some false))) = some r := by rw [if_pos rfl] at H; exact H
                    clear H
                    have H := H1
                    clear H1
                    replace H := Option.bind_eq_some_iff.mp H
                    obtain ⟨t199, A150, H⟩ := H
                    replace H : (if t199 = true then (if 0 ≤ a0_2 then (some (decide (a0_2 < 65536))) else (some false)) else (some false)) = some r := H
                    have A15 := Aside0.mk A150
                    clear A150
                    by_cases c16 : t199 = true
                    · subst c16
                      have H1 : (if 0 ≤ a0_2 then (some (decide (a0_2 < 65536))) else (some false)) = some r := by rw [if_pos rfl] at H; exact H
                      clear H
                      have H := H1
                      clear H1
                      by_cases c17 : 0 ≤ a0_2
                      · rw [if_pos c17] at H
                        have c17b0 : decide (0 ≤ a0_2) = true := decide_eq_true c17
                        clear c17
                        obtain rfl := Option.some.inj H
                        go_enter Tryd.func16, Tryd.ntmps16
                        go_wp2_with (first | ((with_reducible refine gate_dst (N := 4) rfl ?_); refine box_event ?hg (N := 4) ?hd (cs := #[.int .i64 a0_0, .int .i64 a0_1, .int .i64 a0_2]) (t := 26) ?hr ?_; (case hd => rfl); (case hg => rfl); (case hr => first | (go_simp; done) | (go_simp; rfl)); intro gb196 hg w18 hbox hb; have n0_ := Aside0.mk (below_step (by repeat (first | (with_reducible first | exact HB.out | apply below_alloc | apply pw_below_drewN | apply below_drew1) | exact HB.out)) hb); have n1_ := Aside0.mk (hbox); have n2_ := Aside0.mk ((by rw [hg]; exact (below_size (by repeat (first | (with_reducible first | exact HB.out | apply below_alloc | apply pw_below_drewN | apply below_drew1) | exact HB.out))) : w.heap.size ≤ gb196)); have n3_ := Aside0.mk ((by rw [hg]; exact (below_size (by repeat (first | (with_reducible first | exact HB.out | apply below_alloc | apply pw_below_drewN | apply below_drew1) | exact HB.out))) : w.heap.size ≤ gb196)); clear HB; have HB := n0_; have BK196 := n1_; have GW196 := n2_; have GE196 := n3_; clear n0_ n1_ n2_ n3_; clear hb hbox hg) | ((with_reducible refine gate_dst (N := 5) rfl ?_); refine box_event ?hg (N := 5) ?hd (cs := #[.int .i64 a1_0, .int .i64 a1_1, .int .i64 a1_2, .int .i64 a1_3]) (t := 28) ?hr ?_; (case hd => rfl); (case hg => rfl); (case hr => first | (go_simp; done) | (go_simp; rfl)); intro gb197 hg w19 hbox hb; have n0_ := Aside0.mk (blk_below (g := gb196) (o := .cells #[.int .i64 a0_0, .int .i64 a0_1, .int .i64 a0_2] 26 (0, 0)) (by (with_reducible repeat (first | refine blk_drewN ?_ _ | refine blk_drew ?_ | refine blk_alloc ?_ _)); exact BK196.out) hb); have n1_ := Aside0.mk (below_step (by repeat (first | (with_reducible first | exact HB.out | apply below_alloc | apply pw_below_drewN | apply below_drew1 | refine below_set ?_ GE196.out) | exact HB.out)) hb); have n2_ := Aside0.mk (hbox); have n3_ := Aside0.mk ((by rw [hg]; exact (below_size (by repeat (first | (with_reducible first | exact HB.out | apply below_alloc | apply pw_below_drewN | apply below_drew1 | refine below_set ?_ GE196.out) | exact HB.out))) : w.heap.size ≤ gb197)); have n4_ := Aside0.mk ((by rw [hg]; exact (below_size (by repeat (first | (with_reducible first | exact HB.out | apply below_alloc | apply pw_below_drewN | apply below_drew1 | refine below_set ?_ GE196.out) | exact HB.out))) : w.heap.size ≤ gb197)); have n5_ := Aside0.mk ((by rw [hg]; exact Nat.ne_of_lt (blk_lt (g := gb196) (o := .cells #[.int .i64 a0_0, .int .i64 a0_1, .int .i64 a0_2] 26 (0, 0)) (by (with_reducible repeat (first | refine blk_drewN ?_ _ | refine blk_drew ?_ | refine blk_alloc ?_ _)); exact BK196.out)) : gb196 ≠ gb197)); have n6_ := Aside0.mk ((by rw [hg]; exact Nat.ne_of_gt (blk_lt (g := gb196) (o := .cells #[.int .i64 a0_0, .int .i64 a0_1, .int .i64 a0_2] 26 (0, 0)) (by (with_reducible repeat (first | refine blk_drewN ?_ _ | refine blk_drew ?_ | refine blk_alloc ?_ _)); exact BK196.out)) : gb197 ≠ gb196)); clear BK196; clear HB; have BK196 := n0_; have HB := n1_; have BK197 := n2_; have GW197 := n3_; have GE197 := n4_; have NB196_197 := n5_; have NB197_196 := n6_; clear n0_ n1_ n2_ n3_ n4_ n5_ n6_; clear hb hbox hg; have hnb20 := NB197_196.out; have hnc20 := NB196_197.out; have hcz21_0 : w19.cell? ⟨gb197, 0, none⟩ = some (.int .i64 a1_0) := (blk_cell BK197.out 0).trans rfl; have hcz21_1 : w19.cell? ⟨gb197, 1, none⟩ = some (.int .i64 a1_1) := (blk_cell BK197.out 1).trans rfl; have hcz21_2 : w19.cell? ⟨gb197, 2, none⟩ = some (.int .i64 a1_2) := (blk_cell BK197.out 2).trans rfl; have hcz21_3 : w19.cell? ⟨gb197, 3, none⟩ = some (.int .i64 a1_3) := (blk_cell BK197.out 3).trans rfl; have hfz21_0 := blk_frozen BK197.out 0; have hfz21_1 := blk_frozen BK197.out 1; have hfz21_2 := blk_frozen BK197.out 2; have hfz21_3 := blk_frozen BK197.out 3; have hcz22_0 : w19.cell? ⟨gb196, 0, none⟩ = some (.int .i64 a0_0) := (blk_cell BK196.out 0).trans rfl; have hcz22_1 : w19.cell? ⟨gb196, 1, none⟩ = some (.int .i64 a0_1) := (blk_cell BK196.out 1).trans rfl; have hcz22_2 : w19.cell? ⟨gb196, 2, none⟩ = some (.int .i64 a0_2) := (blk_cell BK196.out 2).trans rfl; have hfz22_0 := blk_frozen BK196.out 0; have hfz22_1 := blk_frozen BK196.out 1; have hfz22_2 := blk_frozen BK196.out 2) | (go_at_call 42; (with_reducible refine (bivouacref14_On.calls a1_0 a1_1 a1_2 a1_3 a0_0 a0_1 true _ A13.out).mono ?_); rintro e w23 ⟨rfl, hb⟩; have n0_ := Aside0.mk (blk_below (g := gb196) (o := .cells #[.int .i64 a0_0, .int .i64 a0_1, .int .i64 a0_2] 26 (0, 0)) (by (with_reducible repeat (first | refine blk_drewN ?_ _ | refine blk_drew ?_ | refine blk_alloc ?_ _)); exact BK196.out) hb); have n1_ := Aside0.mk (blk_below (g := gb197) (o := .cells #[.int .i64 a1_0, .int .i64 a1_1, .int .i64 a1_2, .int .i64 a1_3] 28 (0, 0)) (by (with_reducible repeat (first | refine blk_drewN ?_ _ | refine blk_drew ?_ | refine blk_alloc ?_ _)); exact BK197.out) hb); have n2_ := Aside0.mk (below_step (by repeat (first | (with_reducible first | exact HB.out | apply below_alloc | apply pw_below_drewN | apply below_drew1 | refine below_set ?_ GE196.out | refine below_set ?_ GE197.out) | exact HB.out)) hb); clear BK196; clear BK197; clear HB; have BK196 := n0_; have BK197 := n1_; have HB := n2_; clear n0_ n1_ n2_; (try clear hb); (try clear hb2); (try clear hk); (try clear hi); have hcz24_0 : w23.cell? ⟨gb197, 0, none⟩ = some (.int .i64 a1_0) := (blk_cell BK197.out 0).trans rfl; have hcz24_1 : w23.cell? ⟨gb197, 1, none⟩ = some (.int .i64 a1_1) := (blk_cell BK197.out 1).trans rfl; have hcz24_2 : w23.cell? ⟨gb197, 2, none⟩ = some (.int .i64 a1_2) := (blk_cell BK197.out 2).trans rfl; have hcz24_3 : w23.cell? ⟨gb197, 3, none⟩ = some (.int .i64 a1_3) := (blk_cell BK197.out 3).trans rfl; have hfz24_0 := blk_frozen BK197.out 0; have hfz24_1 := blk_frozen BK197.out 1; have hfz24_2 := blk_frozen BK197.out 2; have hfz24_3 := blk_frozen BK197.out 3) | (go_at_call 42; (with_reducible refine (bivouacref14_On.calls a1_0 a1_1 a1_2 a1_3 a2 a3 true _ A15.out).mono ?_); rintro e w25 ⟨rfl, hb⟩; have n0_ := Aside0.mk (blk_below (g := gb196) (o := .cells #[.int .i64 a0_0, .int .i64 a0_1, .int .i64 a0_2] 26 (0, 0)) (by (with_reducible repeat (first | refine blk_drewN ?_ _ | refine blk_drew ?_ | refine blk_alloc ?_ _)); exact BK196.out) hb); have n1_ := Aside0.mk (blk_below (g := gb197) (o := .cells #[.int .i64 a1_0, .int .i64 a1_1, .int .i64 a1_2, .int .i64 a1_3] 28 (0, 0)) (by (with_reducible repeat (first | refine blk_drewN ?_ _ | refine blk_drew ?_ | refine blk_alloc ?_ _)); exact BK197.out) hb); have n2_ := Aside0.mk (below_step (by repeat (first | (with_reducible first | exact HB.out | apply below_alloc | apply pw_below_drewN | apply below_drew1 | refine below_set ?_ GE196.out | refine below_set ?_ GE197.out) | exact HB.out)) hb); clear BK196; clear BK197; clear HB; have BK196 := n0_; have BK197 := n1_; have HB := n2_; clear n0_ n1_ n2_; (try clear hb); (try clear hb2); (try clear hk); (try clear hi); have hcz26_0 : w25.cell? ⟨gb196, 0, none⟩ = some (.int .i64 a0_0) := (blk_cell BK196.out 0).trans rfl; have hcz26_1 : w25.cell? ⟨gb196, 1, none⟩ = some (.int .i64 a0_1) := (blk_cell BK196.out 1).trans rfl; have hcz26_2 : w25.cell? ⟨gb196, 2, none⟩ = some (.int .i64 a0_2) := (blk_cell BK196.out 2).trans rfl; have hfz26_0 := blk_frozen BK196.out 0; have hfz26_1 := blk_frozen BK196.out 1; have hfz26_2 := blk_frozen BK196.out 2))
                        go_ret
                        exact ⟨by first | rfl | (simp [errW_none, errW_some] <;> rfl) | (simp [*, errW_none, errW_some] <;> rfl), by repeat (first | (with_reducible first | exact HB.out | apply below_alloc | apply pw_below_drewN | apply below_drew1 | refine below_set ?_ GE196.out | refine below_set ?_ GE197.out) | exact HB.out)⟩
                      · rw [if_neg c17] at H
                        have c17b0 : decide (0 ≤ a0_2) = false := decide_eq_false c17
                        clear c17
                        obtain rfl := Option.some.inj H
                        go_enter Tryd.func16, Tryd.ntmps16
                        go_wp2_with (first | ((with_reducible refine gate_dst (N := 4) rfl ?_); refine box_event ?hg (N := 4) ?hd (cs := #[.int .i64 a0_0, .int .i64 a0_1, .int .i64 a0_2]) (t := 26) ?hr ?_; (case hd => rfl); (case hg => rfl); (case hr => first | (go_simp; done) | (go_simp; rfl)); intro gb196 hg w27 hbox hb; have n0_ := Aside0.mk (below_step (by repeat (first | (with_reducible first | exact HB.out | apply below_alloc | apply pw_below_drewN | apply below_drew1) | exact HB.out)) hb); have n1_ := Aside0.mk (hbox); have n2_ := Aside0.mk ((by rw [hg]; exact (below_size (by repeat (first | (with_reducible first | exact HB.out | apply below_alloc | apply pw_below_drewN | apply below_drew1) | exact HB.out))) : w.heap.size ≤ gb196)); have n3_ := Aside0.mk ((by rw [hg]; exact (below_size (by repeat (first | (with_reducible first | exact HB.out | apply below_alloc | apply pw_below_drewN | apply below_drew1) | exact HB.out))) : w.heap.size ≤ gb196)); clear HB; have HB := n0_; have BK196 := n1_; have GW196 := n2_; have GE196 := n3_; clear n0_ n1_ n2_ n3_; clear hb hbox hg) | ((with_reducible refine gate_dst (N := 5) rfl ?_); refine box_event ?hg (N := 5) ?hd (cs := #[.int .i64 a1_0, .int .i64 a1_1, .int .i64 a1_2, .int .i64 a1_3]) (t := 28) ?hr ?_; (case hd => rfl); (case hg => rfl); (case hr => first | (go_simp; done) | (go_simp; rfl)); intro gb197 hg w28 hbox hb; have n0_ := Aside0.mk (blk_below (g := gb196) (o := .cells #[.int .i64 a0_0, .int .i64 a0_1, .int .i64 a0_2] 26 (0, 0)) (by (with_reducible repeat (first | refine blk_drewN ?_ _ | refine blk_drew ?_ | refine blk_alloc ?_ _)); exact BK196.out) hb); have n1_ := Aside0.mk (below_step (by repeat (first | (with_reducible first | exact HB.out | apply below_alloc | apply pw_below_drewN | apply below_drew1 | refine below_set ?_ GE196.out) | exact HB.out)) hb); have n2_ := Aside0.mk (hbox); have n3_ := Aside0.mk ((by rw [hg]; exact (below_size (by repeat (first | (with_reducible first | exact HB.out | apply below_alloc | apply pw_below_drewN | apply below_drew1 | refine below_set ?_ GE196.out) | exact HB.out))) : w.heap.size ≤ gb197)); have n4_ := Aside0.mk ((by rw [hg]; exact (below_size (by repeat (first | (with_reducible first | exact HB.out | apply below_alloc | apply pw_below_drewN | apply below_drew1 | refine below_set ?_ GE196.out) | exact HB.out))) : w.heap.size ≤ gb197)); have n5_ := Aside0.mk ((by rw [hg]; exact Nat.ne_of_lt (blk_lt (g := gb196) (o := .cells #[.int .i64 a0_0, .int .i64 a0_1, .int .i64 a0_2] 26 (0, 0)) (by (with_reducible repeat (first | refine blk_drewN ?_ _ | refine blk_drew ?_ | refine blk_alloc ?_ _)); exact BK196.out)) : gb196 ≠ gb197)); have n6_ := Aside0.mk ((by rw [hg]; exact Nat.ne_of_gt (blk_lt (g := gb196) (o := .cells #[.int .i64 a0_0, .int .i64 a0_1, .int .i64 a0_2] 26 (0, 0)) (by (with_reducible repeat (first | refine blk_drewN ?_ _ | refine blk_drew ?_ | refine blk_alloc ?_ _)); exact BK196.out)) : gb197 ≠ gb196)); clear BK196; clear HB; have BK196 := n0_; have HB := n1_; have BK197 := n2_; have GW197 := n3_; have GE197 := n4_; have NB196_197 := n5_; have NB197_196 := n6_; clear n0_ n1_ n2_ n3_ n4_ n5_ n6_; clear hb hbox hg; have hnb29 := NB197_196.out; have hnc29 := NB196_197.out; have hcz30_0 : w28.cell? ⟨gb197, 0, none⟩ = some (.int .i64 a1_0) := (blk_cell BK197.out 0).trans rfl; have hcz30_1 : w28.cell? ⟨gb197, 1, none⟩ = some (.int .i64 a1_1) := (blk_cell BK197.out 1).trans rfl; have hcz30_2 : w28.cell? ⟨gb197, 2, none⟩ = some (.int .i64 a1_2) := (blk_cell BK197.out 2).trans rfl; have hcz30_3 : w28.cell? ⟨gb197, 3, none⟩ = some (.int .i64 a1_3) := (blk_cell BK197.out 3).trans rfl; have hfz30_0 := blk_frozen BK197.out 0; have hfz30_1 := blk_frozen BK197.out 1; have hfz30_2 := blk_frozen BK197.out 2; have hfz30_3 := blk_frozen BK197.out 3; have hcz31_0 : w28.cell? ⟨gb196, 0, none⟩ = some (.int .i64 a0_0) := (blk_cell BK196.out 0).trans rfl; have hcz31_1 : w28.cell? ⟨gb196, 1, none⟩ = some (.int .i64 a0_1) := (blk_cell BK196.out 1).trans rfl; have hcz31_2 : w28.cell? ⟨gb196, 2, none⟩ = some (.int .i64 a0_2) := (blk_cell BK196.out 2).trans rfl; have hfz31_0 := blk_frozen BK196.out 0; have hfz31_1 := blk_frozen BK196.out 1; have hfz31_2 := blk_frozen BK196.out 2) | (go_at_call 42; (with_reducible refine (bivouacref14_On.calls a1_0 a1_1 a1_2 a1_3 a0_0 a0_1 true _ A13.out).mono ?_); rintro e w32 ⟨rfl, hb⟩; have n0_ := Aside0.mk (blk_below (g := gb196) (o := .cells #[.int .i64 a0_0, .int .i64 a0_1, .int .i64 a0_2] 26 (0, 0)) (by (with_reducible repeat (first | refine blk_drewN ?_ _ | refine blk_drew ?_ | refine blk_alloc ?_ _)); exact BK196.out) hb); have n1_ := Aside0.mk (blk_below (g := gb197) (o := .cells #[.int .i64 a1_0, .int .i64 a1_1, .int .i64 a1_2, .int .i64 a1_3] 28 (0, 0)) (by (with_reducible repeat (first | refine blk_drewN ?_ _ | refine blk_drew ?_ | refine blk_alloc ?_ _)); exact BK197.out) hb); have n2_ := Aside0.mk (below_step (by repeat (first | (with_reducible first | exact HB.out | apply below_alloc | apply pw_below_drewN | apply below_drew1 | refine below_set ?_ GE196.out | refine below_set ?_ GE197.out) | exact HB.out)) hb); clear BK196; clear BK197; clear HB; have BK196 := n0_; have BK197 := n1_; have HB := n2_; clear n0_ n1_ n2_; (try clear hb); (try clear hb2); (try clear hk); (try clear hi); have hcz33_0 : w32.cell? ⟨gb197, 0, none⟩ = some (.int .i64 a1_0) := (blk_cell BK197.out 0).trans rfl; have hcz33_1 : w32.cell? ⟨gb197, 1, none⟩ = some (.int .i64 a1_1) := (blk_cell BK197.out 1).trans rfl; have hcz33_2 : w32.cell? ⟨gb197, 2, none⟩ = some (.int .i64 a1_2) := (blk_cell BK197.out 2).trans rfl; have hcz33_3 : w32.cell? ⟨gb197, 3, none⟩ = some (.int .i64 a1_3) := (blk_cell BK197.out 3).trans rfl; have hfz33_0 := blk_frozen BK197.out 0; have hfz33_1 := blk_frozen BK197.out 1; have hfz33_2 := blk_frozen BK197.out 2; have hfz33_3 := blk_frozen BK197.out 3) | (go_at_call 42; (with_reducible refine (bivouacref14_On.calls a1_0 a1_1 a1_2 a1_3 a2 a3 true _ A15.out).mono ?_); rintro e w34 ⟨rfl, hb⟩; have n0_ := Aside0.mk (blk_below (g := gb196) (o := .cells #[.int .i64 a0_0, .int .i64 a0_1, .int .i64 a0_2] 26 (0, 0)) (by (with_reducible repeat (first | refine blk_drewN ?_ _ | refine blk_drew ?_ | refine blk_alloc ?_ _)); exact BK196.out) hb); have n1_ := Aside0.mk (blk_below (g := gb197) (o := .cells #[.int .i64 a1_0, .int .i64 a1_1, .int .i64 a1_2, .int .i64 a1_3] 28 (0, 0)) (by (with_reducible repeat (first | refine blk_drewN ?_ _ | refine blk_drew ?_ | refine blk_alloc ?_ _)); exact BK197.out) hb); have n2_ := Aside0.mk (below_step (by repeat (first | (with_reducible first | exact HB.out | apply below_alloc | apply pw_below_drewN | apply below_drew1 | refine below_set ?_ GE196.out | refine below_set ?_ GE197.out) | exact HB.out)) hb); clear BK196; clear BK197; clear HB; have BK196 := n0_; have BK197 := n1_; have HB := n2_; clear n0_ n1_ n2_; (try clear hb); (try clear hb2); (try clear hk); (try clear hi); have hcz35_0 : w34.cell? ⟨gb196, 0, none⟩ = some (.int .i64 a0_0) := (blk_cell BK196.out 0).trans rfl; have hcz35_1 : w34.cell? ⟨gb196, 1, none⟩ = some (.int .i64 a0_1) := (blk_cell BK196.out 1).trans rfl; have hcz35_2 : w34.cell? ⟨gb196, 2, none⟩ = some (.int .i64 a0_2) := (blk_cell BK196.out 2).trans rfl; have hfz35_0 := blk_frozen BK196.out 0; have hfz35_1 := blk_frozen BK196.out 1; have hfz35_2 := blk_frozen BK196.out 2))
                        go_ret
                        exact ⟨by first | rfl | (simp [errW_none, errW_some] <;> rfl) | (simp [*, errW_none, errW_some] <;> rfl), by repeat (first | (with_reducible first | exact HB.out | apply below_alloc | apply pw_below_drewN | apply below_drew1 | refine below_set ?_ GE196.out | refine below_set ?_ GE197.out) | exact HB.out)⟩
                    · replace c16 := Bool.eq_false_iff.mpr c16
                      subst c16
                      have H1 : (some false) = some r := by rw [if_neg (show ¬ (false = true) by decide)] at H; exact H
                      clear H
                      have H := H1
                      clear H1
                      obtain rfl := Option.some.inj H
                      go_enter Tryd.func16, Tryd.ntmps16
                      go_wp2_with (first | ((with_reducible refine gate_dst (N := 4) rfl ?_); refine box_event ?hg (N := 4) ?hd (cs := #[.int .i64 a0_0, .int .i64 a0_1, .int .i64 a0_2]) (t := 26) ?hr ?_; (case hd => rfl); (case hg => rfl); (case hr => first | (go_simp; done) | (go_simp; rfl)); intro gb196 hg w36 hbox hb; have n0_ := Aside0.mk (below_step (by repeat (first | (with_reducible first | exact HB.out | apply below_alloc | apply pw_below_drewN | apply below_drew1) | exact HB.out)) hb); have n1_ := Aside0.mk (hbox); have n2_ := Aside0.mk ((by rw [hg]; exact (below_size (by repeat (first | (with_reducible first | exact HB.out | apply below_alloc | apply pw_below_drewN | apply below_drew1) | exact HB.out))) : w.heap.size ≤ gb196)); have n3_ := Aside0.mk ((by rw [hg]; exact (below_size (by repeat (first | (with_reducible first | exact HB.out | apply below_alloc | apply pw_below_drewN | apply below_drew1) | exact HB.out))) : w.heap.size ≤ gb196)); clear HB; have HB := n0_; have BK196 := n1_; have GW196 := n2_; have GE196 := n3_; clear n0_ n1_ n2_ n3_; clear hb hbox hg) | ((with_reducible refine gate_dst (N := 5) rfl ?_); refine box_event ?hg (N := 5) ?hd (cs := #[.int .i64 a1_0, .int .i64 a1_1, .int .i64 a1_2, .int .i64 a1_3]) (t := 28) ?hr ?_; (case hd => rfl); (case hg => rfl); (case hr => first | (go_simp; done) | (go_simp; rfl)); intro gb197 hg w37 hbox hb; have n0_ := Aside0.mk (blk_below (g := gb196) (o := .cells #[.int .i64 a0_0, .int .i64 a0_1, .int .i64 a0_2] 26 (0, 0)) (by (with_reducible repeat (first | refine blk_drewN ?_ _ | refine blk_drew ?_ | refine blk_alloc ?_ _)); exact BK196.out) hb); have n1_ := Aside0.mk (below_step (by repeat (first | (with_reducible first | exact HB.out | apply below_alloc | apply pw_below_drewN | apply below_drew1 | refine below_set ?_ GE196.out) | exact HB.out)) hb); have n2_ := Aside0.mk (hbox); have n3_ := Aside0.mk ((by rw [hg]; exact (below_size (by repeat (first | (with_reducible first | exact HB.out | apply below_alloc | apply pw_below_drewN | apply below_drew1 | refine below_set ?_ GE196.out) | exact HB.out))) : w.heap.size ≤ gb197)); have n4_ := Aside0.mk ((by rw [hg]; exact (below_size (by repeat (first | (with_reducible first | exact HB.out | apply below_alloc | apply pw_below_drewN | apply below_drew1 | refine below_set ?_ GE196.out) | exact HB.out))) : w.heap.size ≤ gb197)); have n5_ := Aside0.mk ((by rw [hg]; exact Nat.ne_of_lt (blk_lt (g := gb196) (o := .cells #[.int .i64 a0_0, .int .i64 a0_1, .int .i64 a0_2] 26 (0, 0)) (by (with_reducible repeat (first | refine blk_drewN ?_ _ | refine blk_drew ?_ | refine blk_alloc ?_ _)); exact BK196.out)) : gb196 ≠ gb197)); have n6_ := Aside0.mk ((by rw [hg]; exact Nat.ne_of_gt (blk_lt (g := gb196) (o := .cells #[.int .i64 a0_0, .int .i64 a0_1, .int .i64 a0_2] 26 (0, 0)) (by (with_reducible repeat (first | refine blk_drewN ?_ _ | refine blk_drew ?_ | refine blk_alloc ?_ _)); exact BK196.out)) : gb197 ≠ gb196)); clear BK196; clear HB; have BK196 := n0_; have HB := n1_; have BK197 := n2_; have GW197 := n3_; have GE197 := n4_; have NB196_197 := n5_; have NB197_196 := n6_; clear n0_ n1_ n2_ n3_ n4_ n5_ n6_; clear hb hbox hg; have hnb38 := NB197_196.out; have hnc38 := NB196_197.out; have hcz39_0 : w37.cell? ⟨gb197, 0, none⟩ = some (.int .i64 a1_0) := (blk_cell BK197.out 0).trans rfl; have hcz39_1 : w37.cell? ⟨gb197, 1, none⟩ = some (.int .i64 a1_1) := (blk_cell BK197.out 1).trans rfl; have hcz39_2 : w37.cell? ⟨gb197, 2, none⟩ = some (.int .i64 a1_2) := (blk_cell BK197.out 2).trans rfl; have hcz39_3 : w37.cell? ⟨gb197, 3, none⟩ = some (.int .i64 a1_3) := (blk_cell BK197.out 3).trans rfl; have hfz39_0 := blk_frozen BK197.out 0; have hfz39_1 := blk_frozen BK197.out 1; have hfz39_2 := blk_frozen BK197.out 2; have hfz39_3 := blk_frozen BK197.out 3; have hcz40_0 : w37.cell? ⟨gb196, 0, none⟩ = some (.int .i64 a0_0) := (blk_cell BK196.out 0).trans rfl; have hcz40_1 : w37.cell? ⟨gb196, 1, none⟩ = some (.int .i64 a0_1) := (blk_cell BK196.out 1).trans rfl; have hcz40_2 : w37.cell? ⟨gb196, 2, none⟩ = some (.int .i64 a0_2) := (blk_cell BK196.out 2).trans rfl; have hfz40_0 := blk_frozen BK196.out 0; have hfz40_1 := blk_frozen BK196.out 1; have hfz40_2 := blk_frozen BK196.out 2) | (go_at_call 42; (with_reducible refine (bivouacref14_On.calls a1_0 a1_1 a1_2 a1_3 a0_0 a0_1 true _ A13.out).mono ?_); rintro e w41 ⟨rfl, hb⟩; have n0_ := Aside0.mk (blk_below (g := gb196) (o := .cells #[.int .i64 a0_0, .int .i64 a0_1, .int .i64 a0_2] 26 (0, 0)) (by (with_reducible repeat (first | refine blk_drewN ?_ _ | refine blk_drew ?_ | refine blk_alloc ?_ _)); exact BK196.out) hb); have n1_ := Aside0.mk (blk_below (g := gb197) (o := .cells #[.int .i64 a1_0, .int .i64 a1_1, .int .i64 a1_2, .int .i64 a1_3] 28 (0, 0)) (by (with_reducible repeat (first | refine blk_drewN ?_ _ | refine blk_drew ?_ | refine blk_alloc ?_ _)); exact BK197.out) hb); have n2_ := Aside0.mk (below_step (by repeat (first | (with_reducible first | exact HB.out | apply below_alloc | apply pw_below_drewN | apply below_drew1 | refine below_set ?_ GE196.out | refine below_set ?_ GE197.out) | exact HB.out)) hb); clear BK196; clear BK197; clear HB; have BK196 := n0_; have BK197 := n1_; have HB := n2_; clear n0_ n1_ n2_; (try clear hb); (try clear hb2); (try clear hk); (try clear hi); have hcz42_0 : w41.cell? ⟨gb197, 0, none⟩ = some (.int .i64 a1_0) := (blk_cell BK197.out 0).trans rfl; have hcz42_1 : w41.cell? ⟨gb197, 1, none⟩ = some (.int .i64 a1_1) := (blk_cell BK197.out 1).trans rfl; have hcz42_2 : w41.cell? ⟨gb197, 2, none⟩ = some (.int .i64 a1_2) := (blk_cell BK197.out 2).trans rfl; have hcz42_3 : w41.cell? ⟨gb197, 3, none⟩ = some (.int .i64 a1_3) := (blk_cell BK197.out 3).trans rfl; have hfz42_0 := blk_frozen BK197.out 0; have hfz42_1 := blk_frozen BK197.out 1; have hfz42_2 := blk_frozen BK197.out 2; have hfz42_3 := blk_frozen BK197.out 3) | (go_at_call 42; (with_reducible refine (bivouacref14_On.calls a1_0 a1_1 a1_2 a1_3 a2 a3 false _ A15.out).mono ?_); rintro e w43 ⟨rfl, hb⟩; have n0_ := Aside0.mk (blk_below (g := gb196) (o := .cells #[.int .i64 a0_0, .int .i64 a0_1, .int .i64 a0_2] 26 (0, 0)) (by (with_reducible repeat (first | refine blk_drewN ?_ _ | refine blk_drew ?_ | refine blk_alloc ?_ _)); exact BK196.out) hb); have n1_ := Aside0.mk (blk_below (g := gb197) (o := .cells #[.int .i64 a1_0, .int .i64 a1_1, .int .i64 a1_2, .int .i64 a1_3] 28 (0, 0)) (by (with_reducible repeat (first | refine blk_drewN ?_ _ | refine blk_drew ?_ | refine blk_alloc ?_ _)); exact BK197.out) hb); have n2_ := Aside0.mk (below_step (by repeat (first | (with_reducible first | exact HB.out | apply below_alloc | apply pw_below_drewN | apply below_drew1 | refine below_set ?_ GE196.out | refine below_set ?_ GE197.out) | exact HB.out)) hb); clear BK196; clear BK197; clear HB; have BK196 := n0_; have BK197 := n1_; have HB := n2_; clear n0_ n1_ n2_; (try clear hb); (try clear hb2); (try clear hk); (try clear hi)))
                      go_ret
                      exact ⟨by first | rfl | (simp [errW_none, errW_some] <;> rfl) | (simp [*, errW_none, errW_some] <;> rfl), by repeat (first | (with_reducible first | exact HB.out | apply below_alloc | apply pw_below_drewN | apply below_drew1 | refine below_set ?_ GE196.out | refine below_set ?_ GE197.out) | exact HB.out)⟩
                  · replace c14 := Bool.eq_false_iff.mpr c14
                    subst c14
                    have H1 : (some false) = some r := by rw [if_neg (show ¬ (false = true) by decide)] at H; exact H
                    clear H
                    have H := H1
                    clear H1
                    obtain rfl := Option.some.inj H
                    go_enter Tryd.func16, Tryd.ntmps16
                    go_wp2_with (first | ((with_reducible refine gate_dst (N := 4) rfl ?_); refine box_event ?hg (N := 4) ?hd (cs := #[.int .i64 a0_0, .int .i64 a0_1, .int .i64 a0_2]) (t := 26) ?hr ?_; (case hd => rfl); (case hg => rfl); (case hr => first | (go_simp; done) | (go_simp; rfl)); intro gb196 hg w44 hbox hb; have n0_ := Aside0.mk (below_step (by repeat (first | (with_reducible first | exact HB.out | apply below_alloc | apply pw_below_drewN | apply below_drew1) | exact HB.out)) hb); have n1_ := Aside0.mk (hbox); have n2_ := Aside0.mk ((by rw [hg]; exact (below_size (by repeat (first | (with_reducible first | exact HB.out | apply below_alloc | apply pw_below_drewN | apply below_drew1) | exact HB.out))) : w.heap.size ≤ gb196)); have n3_ := Aside0.mk ((by rw [hg]; exact (below_size (by repeat (first | (with_reducible first | exact HB.out | apply below_alloc | apply pw_below_drewN | apply below_drew1) | exact HB.out))) : w.heap.size ≤ gb196)); clear HB; have HB := n0_; have BK196 := n1_; have GW196 := n2_; have GE196 := n3_; clear n0_ n1_ n2_ n3_; clear hb hbox hg) | ((with_reducible refine gate_dst (N := 5) rfl ?_); refine box_event ?hg (N := 5) ?hd (cs := #[.int .i64 a1_0, .int .i64 a1_1, .int .i64 a1_2, .int .i64 a1_3]) (t := 28) ?hr ?_; (case hd => rfl); (case hg => rfl); (case hr => first | (go_simp; done) | (go_simp; rfl)); intro gb197 hg w45 hbox hb; have n0_ := Aside0.mk (blk_below (g := gb196) (o := .cells #[.int .i64 a0_0, .int .i64 a0_1, .int .i64 a0_2] 26 (0, 0)) (by (with_reducible repeat (first | refine blk_drewN ?_ _ | refine blk_drew ?_ | refine blk_alloc ?_ _)); exact BK196.out) hb); have n1_ := Aside0.mk (below_step (by repeat (first | (with_reducible first | exact HB.out | apply below_alloc | apply pw_below_drewN | apply below_drew1 | refine below_set ?_ GE196.out) | exact HB.out)) hb); have n2_ := Aside0.mk (hbox); have n3_ := Aside0.mk ((by rw [hg]; exact (below_size (by repeat (first | (with_reducible first | exact HB.out | apply below_alloc | apply pw_below_drewN | apply below_drew1 | refine below_set ?_ GE196.out) | exact HB.out))) : w.heap.size ≤ gb197)); have n4_ := Aside0.mk ((by rw [hg]; exact (below_size (by repeat (first | (with_reducible first | exact HB.out | apply below_alloc | apply pw_below_drewN | apply below_drew1 | refine below_set ?_ GE196.out) | exact HB.out))) : w.heap.size ≤ gb197)); have n5_ := Aside0.mk ((by rw [hg]; exact Nat.ne_of_lt (blk_lt (g := gb196) (o := .cells #[.int .i64 a0_0, .int .i64 a0_1, .int .i64 a0_2] 26 (0, 0)) (by (with_reducible repeat (first | refine blk_drewN ?_ _ | refine blk_drew ?_ | refine blk_alloc ?_ _)); exact BK196.out)) : gb196 ≠ gb197)); have n6_ := Aside0.mk ((by rw [hg]; exact Nat.ne_of_gt (blk_lt (g := gb196) (o := .cells #[.int .i64 a0_0, .int .i64 a0_1, .int .i64 a0_2] 26 (0, 0)) (by (with_reducible repeat (first | refine blk_drewN ?_ _ | refine blk_drew ?_ | refine blk_alloc ?_ _)); exact BK196.out)) : gb197 ≠ gb196)); clear BK196; clear HB; have BK196 := n0_; have HB := n1_; have BK197 := n2_; have GW197 := n3_; have GE197 := n4_; have NB196_197 := n5_; have NB197_196 := n6_; clear n0_ n1_ n2_ n3_ n4_ n5_ n6_; clear hb hbox hg; have hnb46 := NB197_196.out; have hnc46 := NB196_197.out; have hcz47_0 : w45.cell? ⟨gb197, 0, none⟩ = some (.int .i64 a1_0) := (blk_cell BK197.out 0).trans rfl; have hcz47_1 : w45.cell? ⟨gb197, 1, none⟩ = some (.int .i64 a1_1) := (blk_cell BK197.out 1).trans rfl; have hcz47_2 : w45.cell? ⟨gb197, 2, none⟩ = some (.int .i64 a1_2) := (blk_cell BK197.out 2).trans rfl; have hcz47_3 : w45.cell? ⟨gb197, 3, none⟩ = some (.int .i64 a1_3) := (blk_cell BK197.out 3).trans rfl; have hfz47_0 := blk_frozen BK197.out 0; have hfz47_1 := blk_frozen BK197.out 1; have hfz47_2 := blk_frozen BK197.out 2; have hfz47_3 := blk_frozen BK197.out 3; have hcz48_0 : w45.cell? ⟨gb196, 0, none⟩ = some (.int .i64 a0_0) := (blk_cell BK196.out 0).trans rfl; have hcz48_1 : w45.cell? ⟨gb196, 1, none⟩ = some (.int .i64 a0_1) := (blk_cell BK196.out 1).trans rfl; have hcz48_2 : w45.cell? ⟨gb196, 2, none⟩ = some (.int .i64 a0_2) := (blk_cell BK196.out 2).trans rfl; have hfz48_0 := blk_frozen BK196.out 0; have hfz48_1 := blk_frozen BK196.out 1; have hfz48_2 := blk_frozen BK196.out 2) | (go_at_call 42; (with_reducible refine (bivouacref14_On.calls a1_0 a1_1 a1_2 a1_3 a0_0 a0_1 false _ A13.out).mono ?_); rintro e w49 ⟨rfl, hb⟩; have n0_ := Aside0.mk (blk_below (g := gb196) (o := .cells #[.int .i64 a0_0, .int .i64 a0_1, .int .i64 a0_2] 26 (0, 0)) (by (with_reducible repeat (first | refine blk_drewN ?_ _ | refine blk_drew ?_ | refine blk_alloc ?_ _)); exact BK196.out) hb); have n1_ := Aside0.mk (blk_below (g := gb197) (o := .cells #[.int .i64 a1_0, .int .i64 a1_1, .int .i64 a1_2, .int .i64 a1_3] 28 (0, 0)) (by (with_reducible repeat (first | refine blk_drewN ?_ _ | refine blk_drew ?_ | refine blk_alloc ?_ _)); exact BK197.out) hb); have n2_ := Aside0.mk (below_step (by repeat (first | (with_reducible first | exact HB.out | apply below_alloc | apply pw_below_drewN | apply below_drew1 | refine below_set ?_ GE196.out | refine below_set ?_ GE197.out) | exact HB.out)) hb); clear BK196; clear BK197; clear HB; have BK196 := n0_; have BK197 := n1_; have HB := n2_; clear n0_ n1_ n2_; (try clear hb); (try clear hb2); (try clear hk); (try clear hi)))
                    go_ret
                    exact ⟨by first | rfl | (simp [errW_none, errW_some] <;> rfl) | (simp [*, errW_none, errW_some] <;> rfl), by repeat (first | (with_reducible first | exact HB.out | apply below_alloc | apply pw_below_drewN | apply below_drew1 | refine below_set ?_ GE196.out | refine below_set ?_ GE197.out) | exact HB.out)⟩
                · rw [if_neg c12] at H
                  have c12b0 : decide (a1_3 ≤ 64) = false := decide_eq_false c12
                  clear c12
                  obtain rfl := Option.some.inj H
                  go_enter Tryd.func16, Tryd.ntmps16
                  go_wp2_with (first | ((with_reducible refine gate_dst (N := 4) rfl ?_); refine box_event ?hg (N := 4) ?hd (cs := #[.int .i64 a0_0, .int .i64 a0_1, .int .i64 a0_2]) (t := 26) ?hr ?_; (case hd => rfl); (case hg => rfl); (case hr => first | (go_simp; done) | (go_simp; rfl)); intro gb196 hg w50 hbox hb; have n0_ := Aside0.mk (below_step (by repeat (first | (with_reducible first | exact HB.out | apply below_alloc | apply pw_below_drewN | apply below_drew1) | exact HB.out)) hb); have n1_ := Aside0.mk (hbox); have n2_ := Aside0.mk ((by rw [hg]; exact (below_size (by repeat (first | (with_reducible first | exact HB.out | apply below_alloc | apply pw_below_drewN | apply below_drew1) | exact HB.out))) : w.heap.size ≤ gb196)); have n3_ := Aside0.mk ((by rw [hg]; exact (below_size (by repeat (first | (with_reducible first | exact HB.out | apply below_alloc | apply pw_below_drewN | apply below_drew1) | exact HB.out))) : w.heap.size ≤ gb196)); clear HB; have HB := n0_; have BK196 := n1_; have GW196 := n2_; have GE196 := n3_; clear n0_ n1_ n2_ n3_; clear hb hbox hg) | ((with_reducible refine gate_dst (N := 5) rfl ?_); refine box_event ?hg (N := 5) ?hd (cs := #[.int .i64 a1_0, .int .i64 a1_1, .int .i64 a1_2, .int .i64 a1_3]) (t := 28) ?hr ?_; (case hd => rfl); (case hg => rfl); (case hr => first | (go_simp; done) | (go_simp; rfl)); intro gb197 hg w51 hbox hb; have n0_ := Aside0.mk (blk_below (g := gb196) (o := .cells #[.int .i64 a0_0, .int .i64 a0_1, .int .i64 a0_2] 26 (0, 0)) (by (with_reducible repeat (first | refine blk_drewN ?_ _ | refine blk_drew ?_ | refine blk_alloc ?_ _)); exact BK196.out) hb); have n1_ := Aside0.mk (below_step (by repeat (first | (with_reducible first | exact HB.out | apply below_alloc | apply pw_below_drewN | apply below_drew1 | refine below_set ?_ GE196.out) | exact HB.out)) hb); have n2_ := Aside0.mk (hbox); have n3_ := Aside0.mk ((by rw [hg]; exact (below_size (by repeat (first | (with_reducible first | exact HB.out | apply below_alloc | apply pw_below_drewN | apply below_drew1 | refine below_set ?_ GE196.out) | exact HB.out))) : w.heap.size ≤ gb197)); have n4_ := Aside0.mk ((by rw [hg]; exact (below_size (by repeat (first | (with_reducible first | exact HB.out | apply below_alloc | apply pw_below_drewN | apply below_drew1 | refine below_set ?_ GE196.out) | exact HB.out))) : w.heap.size ≤ gb197)); have n5_ := Aside0.mk ((by rw [hg]; exact Nat.ne_of_lt (blk_lt (g := gb196) (o := .cells #[.int .i64 a0_0, .int .i64 a0_1, .int .i64 a0_2] 26 (0, 0)) (by (with_reducible repeat (first | refine blk_drewN ?_ _ | refine blk_drew ?_ | refine blk_alloc ?_ _)); exact BK196.out)) : gb196 ≠ gb197)); have n6_ := Aside0.mk ((by rw [hg]; exact Nat.ne_of_gt (blk_lt (g := gb196) (o := .cells #[.int .i64 a0_0, .int .i64 a0_1, .int .i64 a0_2] 26 (0, 0)) (by (with_reducible repeat (first | refine blk_drewN ?_ _ | refine blk_drew ?_ | refine blk_alloc ?_ _)); exact BK196.out)) : gb197 ≠ gb196)); clear BK196; clear HB; have BK196 := n0_; have HB := n1_; have BK197 := n2_; have GW197 := n3_; have GE197 := n4_; have NB196_197 := n5_; have NB197_196 := n6_; clear n0_ n1_ n2_ n3_ n4_ n5_ n6_; clear hb hbox hg; have hnb52 := NB197_196.out; have hnc52 := NB196_197.out; have hcz53_0 : w51.cell? ⟨gb197, 0, none⟩ = some (.int .i64 a1_0) := (blk_cell BK197.out 0).trans rfl; have hcz53_1 : w51.cell? ⟨gb197, 1, none⟩ = some (.int .i64 a1_1) := (blk_cell BK197.out 1).trans rfl; have hcz53_2 : w51.cell? ⟨gb197, 2, none⟩ = some (.int .i64 a1_2) := (blk_cell BK197.out 2).trans rfl; have hcz53_3 : w51.cell? ⟨gb197, 3, none⟩ = some (.int .i64 a1_3) := (blk_cell BK197.out 3).trans rfl; have hfz53_0 := blk_frozen BK197.out 0; have hfz53_1 := blk_frozen BK197.out 1; have hfz53_2 := blk_frozen BK197.out 2; have hfz53_3 := blk_frozen BK197.out 3))
                  go_ret
                  exact ⟨by first | rfl | (simp [errW_none, errW_some] <;> rfl) | (simp [*, errW_none, errW_some] <;> rfl), by repeat (first | (with_reducible first | exact HB.out | apply below_alloc | apply pw_below_drewN | apply below_drew1 | refine below_set ?_ GE196.out | refine below_set ?_ GE197.out) | exact HB.out)⟩
              · rw [if_neg c11] at H
                have c11b0 : decide (1 ≤ a1_3) = false := decide_eq_false c11
                clear c11
                obtain rfl := Option.some.inj H
                go_enter Tryd.func16, Tryd.ntmps16
                go_wp2_with (first | ((with_reducible refine gate_dst (N := 4) rfl ?_); refine box_event ?hg (N := 4) ?hd (cs := #[.int .i64 a0_0, .int .i64 a0_1, .int .i64 a0_2]) (t := 26) ?hr ?_; (case hd => rfl); (case hg => rfl); (case hr => first | (go_simp; done) | (go_simp; rfl)); intro gb196 hg w54 hbox hb; have n0_ := Aside0.mk (below_step (by repeat (first | (with_reducible first | exact HB.out | apply below_alloc | apply pw_below_drewN | apply below_drew1) | exact HB.out)) hb); have n1_ := Aside0.mk (hbox); have n2_ := Aside0.mk ((by rw [hg]; exact (below_size (by repeat (first | (with_reducible first | exact HB.out | apply below_alloc | apply pw_below_drewN | apply below_drew1) | exact HB.out))) : w.heap.size ≤ gb196)); have n3_ := Aside0.mk ((by rw [hg]; exact (below_size (by repeat (first | (with_reducible first | exact HB.out | apply below_alloc | apply pw_below_drewN | apply below_drew1) | exact HB.out))) : w.heap.size ≤ gb196)); clear HB; have HB := n0_; have BK196 := n1_; have GW196 := n2_; have GE196 := n3_; clear n0_ n1_ n2_ n3_; clear hb hbox hg) | ((with_reducible refine gate_dst (N := 5) rfl ?_); refine box_event ?hg (N := 5) ?hd (cs := #[.int .i64 a1_0, .int .i64 a1_1, .int .i64 a1_2, .int .i64 a1_3]) (t := 28) ?hr ?_; (case hd => rfl); (case hg => rfl); (case hr => first | (go_simp; done) | (go_simp; rfl)); intro gb197 hg w55 hbox hb; have n0_ := Aside0.mk (blk_below (g := gb196) (o := .cells #[.int .i64 a0_0, .int .i64 a0_1, .int .i64 a0_2] 26 (0, 0)) (by (with_reducible repeat (first | refine blk_drewN ?_ _ | refine blk_drew ?_ | refine blk_alloc ?_ _)); exact BK196.out) hb); have n1_ := Aside0.mk (below_step (by repeat (first | (with_reducible first | exact HB.out | apply below_alloc | apply pw_below_drewN | apply below_drew1 | refine below_set ?_ GE196.out) | exact HB.out)) hb); have n2_ := Aside0.mk (hbox); have n3_ := Aside0.mk ((by rw [hg]; exact (below_size (by repeat (first | (with_reducible first | exact HB.out | apply below_alloc | apply pw_below_drewN | apply below_drew1 | refine below_set ?_ GE196.out) | exact HB.out))) : w.heap.size ≤ gb197)); have n4_ := Aside0.mk ((by rw [hg]; exact (below_size (by repeat (first | (with_reducible first | exact HB.out | apply below_alloc | apply pw_below_drewN | apply below_drew1 | refine below_set ?_ GE196.out) | exact HB.out))) : w.heap.size ≤ gb197)); have n5_ := Aside0.mk ((by rw [hg]; exact Nat.ne_of_lt (blk_lt (g := gb196) (o := .cells #[.int .i64 a0_0, .int .i64 a0_1, .int .i64 a0_2] 26 (0, 0)) (by (with_reducible repeat (first | refine blk_drewN ?_ _ | refine blk_drew ?_ | refine blk_alloc ?_ _)); exact BK196.out)) : gb196 ≠ gb197)); have n6_ := Aside0.mk ((by rw [hg]; exact Nat.ne_of_gt (blk_lt (g := gb196) (o := .cells #[.int .i64 a0_0, .int .i64 a0_1, .int .i64 a0_2] 26 (0, 0)) (by (with_reducible repeat (first | refine blk_drewN ?_ _ | refine blk_drew ?_ | refine blk_alloc ?_ _)); exact BK196.out)) : gb197 ≠ gb196)); clear BK196; clear HB; have BK196 := n0_; have HB := n1_; have BK197 := n2_; have GW197 := n3_; have GE197 := n4_; have NB196_197 := n5_; have NB197_196 := n6_; clear n0_ n1_ n2_ n3_ n4_ n5_ n6_; clear hb hbox hg; have hnb56 := NB197_196.out; have hnc56 := NB196_197.out; have hcz57_0 : w55.cell? ⟨gb197, 0, none⟩ = some (.int .i64 a1_0) := (blk_cell BK197.out 0).trans rfl; have hcz57_1 : w55.cell? ⟨gb197, 1, none⟩ = some (.int .i64 a1_1) := (blk_cell BK197.out 1).trans rfl; have hcz57_2 : w55.cell? ⟨gb197, 2, none⟩ = some (.int .i64 a1_2) := (blk_cell BK197.out 2).trans rfl; have hcz57_3 : w55.cell? ⟨gb197, 3, none⟩ = some (.int .i64 a1_3) := (blk_cell BK197.out 3).trans rfl; have hfz57_0 := blk_frozen BK197.out 0; have hfz57_1 := blk_frozen BK197.out 1; have hfz57_2 := blk_frozen BK197.out 2; have hfz57_3 := blk_frozen BK197.out 3))
                go_ret
                exact ⟨by first | rfl | (simp [errW_none, errW_some] <;> rfl) | (simp [*, errW_none, errW_some] <;> rfl), by repeat (first | (with_reducible first | exact HB.out | apply below_alloc | apply pw_below_drewN | apply below_drew1 | refine below_set ?_ GE196.out | refine below_set ?_ GE197.out) | exact HB.out)⟩
            · rw [if_neg c10] at H
              have c10b0 : decide (a1_2 ≤ 64) = false := decide_eq_false c10
              clear c10
              obtain rfl := Option.some.inj H
              go_enter Tryd.func16, Tryd.ntmps16
              go_wp2_with (first | ((with_reducible refine gate_dst (N := 4) rfl ?_); refine box_event ?hg (N := 4) ?hd (cs := #[.int .i64 a0_0, .int .i64 a0_1, .int .i64 a0_2]) (t := 26) ?hr ?_; (case hd => rfl); (case hg => rfl); (case hr => first | (go_simp; done) | (go_simp; rfl)); intro gb196 hg w58 hbox hb; have n0_ := Aside0.mk (below_step (by repeat (first | (with_reducible first | exact HB.out | apply below_alloc | apply pw_below_drewN | apply below_drew1) | exact HB.out)) hb); have n1_ := Aside0.mk (hbox); have n2_ := Aside0.mk ((by rw [hg]; exact (below_size (by repeat (first | (with_reducible first | exact HB.out | apply below_alloc | apply pw_below_drewN | apply below_drew1) | exact HB.out))) : w.heap.size ≤ gb196)); have n3_ := Aside0.mk ((by rw [hg]; exact (below_size (by repeat (first | (with_reducible first | exact HB.out | apply below_alloc | apply pw_below_drewN | apply below_drew1) | exact HB.out))) : w.heap.size ≤ gb196)); clear HB; have HB := n0_; have BK196 := n1_; have GW196 := n2_; have GE196 := n3_; clear n0_ n1_ n2_ n3_; clear hb hbox hg) | ((with_reducible refine gate_dst (N := 5) rfl ?_); refine box_event ?hg (N := 5) ?hd (cs := #[.int .i64 a1_0, .int .i64 a1_1, .int .i64 a1_2, .int .i64 a1_3]) (t := 28) ?hr ?_; (case hd => rfl); (case hg => rfl); (case hr => first | (go_simp; done) | (go_simp; rfl)); intro gb197 hg w59 hbox hb; have n0_ := Aside0.mk (blk_below (g := gb196) (o := .cells #[.int .i64 a0_0, .int .i64 a0_1, .int .i64 a0_2] 26 (0, 0)) (by (with_reducible repeat (first | refine blk_drewN ?_ _ | refine blk_drew ?_ | refine blk_alloc ?_ _)); exact BK196.out) hb); have n1_ := Aside0.mk (below_step (by repeat (first | (with_reducible first | exact HB.out | apply below_alloc | apply pw_below_drewN | apply below_drew1 | refine below_set ?_ GE196.out) | exact HB.out)) hb); have n2_ := Aside0.mk (hbox); have n3_ := Aside0.mk ((by rw [hg]; exact (below_size (by repeat (first | (with_reducible first | exact HB.out | apply below_alloc | apply pw_below_drewN | apply below_drew1 | refine below_set ?_ GE196.out) | exact HB.out))) : w.heap.size ≤ gb197)); have n4_ := Aside0.mk ((by rw [hg]; exact (below_size (by repeat (first | (with_reducible first | exact HB.out | apply below_alloc | apply pw_below_drewN | apply below_drew1 | refine below_set ?_ GE196.out) | exact HB.out))) : w.heap.size ≤ gb197)); have n5_ := Aside0.mk ((by rw [hg]; exact Nat.ne_of_lt (blk_lt (g := gb196) (o := .cells #[.int .i64 a0_0, .int .i64 a0_1, .int .i64 a0_2] 26 (0, 0)) (by (with_reducible repeat (first | refine blk_drewN ?_ _ | refine blk_drew ?_ | refine blk_alloc ?_ _)); exact BK196.out)) : gb196 ≠ gb197)); have n6_ := Aside0.mk ((by rw [hg]; exact Nat.ne_of_gt (blk_lt (g := gb196) (o := .cells #[.int .i64 a0_0, .int .i64 a0_1, .int .i64 a0_2] 26 (0, 0)) (by (with_reducible repeat (first | refine blk_drewN ?_ _ | refine blk_drew ?_ | refine blk_alloc ?_ _)); exact BK196.out)) : gb197 ≠ gb196)); clear BK196; clear HB; have BK196 := n0_; have HB := n1_; have BK197 := n2_; have GW197 := n3_; have GE197 := n4_; have NB196_197 := n5_; have NB197_196 := n6_; clear n0_ n1_ n2_ n3_ n4_ n5_ n6_; clear hb hbox hg; have hnb60 := NB197_196.out; have hnc60 := NB196_197.out; have hcz61_0 : w59.cell? ⟨gb197, 0, none⟩ = some (.int .i64 a1_0) := (blk_cell BK197.out 0).trans rfl; have hcz61_1 : w59.cell? ⟨gb197, 1, none⟩ = some (.int .i64 a1_1) := (blk_cell BK197.out 1).trans rfl; have hcz61_2 : w59.cell? ⟨gb197, 2, none⟩ = some (.int .i64 a1_2) := (blk_cell BK197.out 2).trans rfl; have hcz61_3 : w59.cell? ⟨gb197, 3, none⟩ = some (.int .i64 a1_3) := (blk_cell BK197.out 3).trans rfl; have hfz61_0 := blk_frozen BK197.out 0; have hfz61_1 := blk_frozen BK197.out 1; have hfz61_2 := blk_frozen BK197.out 2; have hfz61_3 := blk_frozen BK197.out 3))
              go_ret
              exact ⟨by first | rfl | (simp [errW_none, errW_some] <;> rfl) | (simp [*, errW_none, errW_some] <;> rfl), by repeat (first | (with_reducible first | exact HB.out | apply below_alloc | apply pw_below_drewN | apply below_drew1 | refine below_set ?_ GE196.out | refine below_set ?_ GE197.out) | exact HB.out)⟩
          · rw [if_neg c9] at H
            have c9b0 : decide (1 ≤ a1_2) = false := decide_eq_false c9
            clear c9
            obtain rfl := Option.some.inj H
            go_enter Tryd.func16, Tryd.ntmps16
            go_wp2_with (first | ((with_reducible refine gate_dst (N := 4) rfl ?_); refine box_event ?hg (N := 4) ?hd (cs := #[.int .i64 a0_0, .int .i64 a0_1, .int .i64 a0_2]) (t := 26) ?hr ?_; (case hd => rfl); (case hg => rfl); (case hr => first | (go_simp; done) | (go_simp; rfl)); intro gb196 hg w62 hbox hb; have n0_ := Aside0.mk (below_step (by repeat (first | (with_reducible first | exact HB.out | apply below_alloc | apply pw_below_drewN | apply below_drew1) | exact HB.out)) hb); have n1_ := Aside0.mk (hbox); have n2_ := Aside0.mk ((by rw [hg]; exact (below_size (by repeat (first | (with_reducible first | exact HB.out | apply below_alloc | apply pw_below_drewN | apply below_drew1) | exact HB.out))) : w.heap.size ≤ gb196)); have n3_ := Aside0.mk ((by rw [hg]; exact (below_size (by repeat (first | (with_reducible first | exact HB.out | apply below_alloc | apply pw_below_drewN | apply below_drew1) | exact HB.out))) : w.heap.size ≤ gb196)); clear HB; have HB := n0_; have BK196 := n1_; have GW196 := n2_; have GE196 := n3_; clear n0_ n1_ n2_ n3_; clear hb hbox hg) | ((with_reducible refine gate_dst (N := 5) rfl ?_); refine box_event ?hg (N := 5) ?hd (cs := #[.int .i64 a1_0, .int .i64 a1_1, .int .i64 a1_2, .int .i64 a1_3]) (t := 28) ?hr ?_; (case hd => rfl); (case hg => rfl); (case hr => first | (go_simp; done) | (go_simp; rfl)); intro gb197 hg w63 hbox hb; have n0_ := Aside0.mk (blk_below (g := gb196) (o := .cells #[.int .i64 a0_0, .int .i64 a0_1, .int .i64 a0_2] 26 (0, 0)) (by (with_reducible repeat (first | refine blk_drewN ?_ _ | refine blk_drew ?_ | refine blk_alloc ?_ _)); exact BK196.out) hb); have n1_ := Aside0.mk (below_step (by repeat (first | (with_reducible first | exact HB.out | apply below_alloc | apply pw_below_drewN | apply below_drew1 | refine below_set ?_ GE196.out) | exact HB.out)) hb); have n2_ := Aside0.mk (hbox); have n3_ := Aside0.mk ((by rw [hg]; exact (below_size (by repeat (first | (with_reducible first | exact HB.out | apply below_alloc | apply pw_below_drewN | apply below_drew1 | refine below_set ?_ GE196.out) | exact HB.out))) : w.heap.size ≤ gb197)); have n4_ := Aside0.mk ((by rw [hg]; exact (below_size (by repeat (first | (with_reducible first | exact HB.out | apply below_alloc | apply pw_below_drewN | apply below_drew1 | refine below_set ?_ GE196.out) | exact HB.out))) : w.heap.size ≤ gb197)); have n5_ := Aside0.mk ((by rw [hg]; exact Nat.ne_of_lt (blk_lt (g := gb196) (o := .cells #[.int .i64 a0_0, .int .i64 a0_1, .int .i64 a0_2] 26 (0, 0)) (by (with_reducible repeat (first | refine blk_drewN ?_ _ | refine blk_drew ?_ | refine blk_alloc ?_ _)); exact BK196.out)) : gb196 ≠ gb197)); have n6_ := Aside0.mk ((by rw [hg]; exact Nat.ne_of_gt (blk_lt (g := gb196) (o := .cells #[.int .i64 a0_0, .int .i64 a0_1, .int .i64 a0_2] 26 (0, 0)) (by (with_reducible repeat (first | refine blk_drewN ?_ _ | refine blk_drew ?_ | refine blk_alloc ?_ _)); exact BK196.out)) : gb197 ≠ gb196)); clear BK196; clear HB; have BK196 := n0_; have HB := n1_; have BK197 := n2_; have GW197 := n3_; have GE197 := n4_; have NB196_197 := n5_; have NB197_196 := n6_; clear n0_ n1_ n2_ n3_ n4_ n5_ n6_; clear hb hbox hg; have hnb64 := NB197_196.out; have hnc64 := NB196_197.out; have hcz65_0 : w63.cell? ⟨gb197, 0, none⟩ = some (.int .i64 a1_0) := (blk_cell BK197.out 0).trans rfl; have hcz65_1 : w63.cell? ⟨gb197, 1, none⟩ = some (.int .i64 a1_1) := (blk_cell BK197.out 1).trans rfl; have hcz65_2 : w63.cell? ⟨gb197, 2, none⟩ = some (.int .i64 a1_2) := (blk_cell BK197.out 2).trans rfl; have hcz65_3 : w63.cell? ⟨gb197, 3, none⟩ = some (.int .i64 a1_3) := (blk_cell BK197.out 3).trans rfl; have hfz65_0 := blk_frozen BK197.out 0; have hfz65_1 := blk_frozen BK197.out 1; have hfz65_2 := blk_frozen BK197.out 2; have hfz65_3 := blk_frozen BK197.out 3))
            go_ret
            exact ⟨by first | rfl | (simp [errW_none, errW_some] <;> rfl) | (simp [*, errW_none, errW_some] <;> rfl), by repeat (first | (with_reducible first | exact HB.out | apply below_alloc | apply pw_below_drewN | apply below_drew1 | refine below_set ?_ GE196.out | refine below_set ?_ GE197.out) | exact HB.out)⟩
        · rw [if_neg c8] at H
          have c8b0 : decide (a1_1 ≤ 32768) = false := decide_eq_false c8
          clear c8
          obtain rfl := Option.some.inj H
          go_enter Tryd.func16, Tryd.ntmps16
          go_wp2_with (first | ((with_reducible refine gate_dst (N := 4) rfl ?_); refine box_event ?hg (N := 4) ?hd (cs := #[.int .i64 a0_0, .int .i64 a0_1, .int .i64 a0_2]) (t := 26) ?hr ?_; (case hd => rfl); (case hg => rfl); (case hr => first | (go_simp; done) | (go_simp; rfl)); intro gb196 hg w66 hbox hb; have n0_ := Aside0.mk (below_step (by repeat (first | (with_reducible first | exact HB.out | apply below_alloc | apply pw_below_drewN | apply below_drew1) | exact HB.out)) hb); have n1_ := Aside0.mk (hbox); have n2_ := Aside0.mk ((by rw [hg]; exact (below_size (by repeat (first | (with_reducible first | exact HB.out | apply below_alloc | apply pw_below_drewN | apply below_drew1) | exact HB.out))) : w.heap.size ≤ gb196)); have n3_ := Aside0.mk ((by rw [hg]; exact (below_size (by repeat (first | (with_reducible first | exact HB.out | apply below_alloc | apply pw_below_drewN | apply below_drew1) | exact HB.out))) : w.heap.size ≤ gb196)); clear HB; have HB := n0_; have BK196 := n1_; have GW196 := n2_; have GE196 := n3_; clear n0_ n1_ n2_ n3_; clear hb hbox hg) | ((with_reducible refine gate_dst (N := 5) rfl ?_); refine box_event ?hg (N := 5) ?hd (cs := #[.int .i64 a1_0, .int .i64 a1_1, .int .i64 a1_2, .int .i64 a1_3]) (t := 28) ?hr ?_; (case hd => rfl); (case hg => rfl); (case hr => first | (go_simp; done) | (go_simp; rfl)); intro gb197 hg w67 hbox hb; have n0_ := Aside0.mk (blk_below (g := gb196) (o := .cells #[.int .i64 a0_0, .int .i64 a0_1, .int .i64 a0_2] 26 (0, 0)) (by (with_reducible repeat (first | refine blk_drewN ?_ _ | refine blk_drew ?_ | refine blk_alloc ?_ _)); exact BK196.out) hb); have n1_ := Aside0.mk (below_step (by repeat (first | (with_reducible first | exact HB.out | apply below_alloc | apply pw_below_drewN | apply below_drew1 | refine below_set ?_ GE196.out) | exact HB.out)) hb); have n2_ := Aside0.mk (hbox); have n3_ := Aside0.mk ((by rw [hg]; exact (below_size (by repeat (first | (with_reducible first | exact HB.out | apply below_alloc | apply pw_below_drewN | apply below_drew1 | refine below_set ?_ GE196.out) | exact HB.out))) : w.heap.size ≤ gb197)); have n4_ := Aside0.mk ((by rw [hg]; exact (below_size (by repeat (first | (with_reducible first | exact HB.out | apply below_alloc | apply pw_below_drewN | apply below_drew1 | refine below_set ?_ GE196.out) | exact HB.out))) : w.heap.size ≤ gb197)); have n5_ := Aside0.mk ((by rw [hg]; exact Nat.ne_of_lt (blk_lt (g := gb196) (o := .cells #[.int .i64 a0_0, .int .i64 a0_1, .int .i64 a0_2] 26 (0, 0)) (by (with_reducible repeat (first | refine blk_drewN ?_ _ | refine blk_drew ?_ | refine blk_alloc ?_ _)); exact BK196.out)) : gb196 ≠ gb197)); have n6_ := Aside0.mk ((by rw [hg]; exact Nat.ne_of_gt (blk_lt (g := gb196) (o := .cells #[.int .i64 a0_0, .int .i64 a0_1, .int .i64 a0_2] 26 (0, 0)) (by (with_reducible repeat (first | refine blk_drewN ?_ _ | refine blk_drew ?_ | refine blk_alloc ?_ _)); exact BK196.out)) : gb197 ≠ gb196)); clear BK196; clear HB; have BK196 := n0_; have HB := n1_; have BK197 := n2_; have GW197 := n3_; have GE197 := n4_; have NB196_197 := n5_; have NB197_196 := n6_; clear n0_ n1_ n2_ n3_ n4_ n5_ n6_; clear hb hbox hg; have hnb68 := NB197_196.out; have hnc68 := NB196_197.out; have hcz69_0 : w67.cell? ⟨gb197, 0, none⟩ = some (.int .i64 a1_0) := (blk_cell BK197.out 0).trans rfl; have hcz69_1 : w67.cell? ⟨gb197, 1, none⟩ = some (.int .i64 a1_1) := (blk_cell BK197.out 1).trans rfl; have hcz69_2 : w67.cell? ⟨gb197, 2, none⟩ = some (.int .i64 a1_2) := (blk_cell BK197.out 2).trans rfl; have hcz69_3 : w67.cell? ⟨gb197, 3, none⟩ = some (.int .i64 a1_3) := (blk_cell BK197.out 3).trans rfl; have hfz69_0 := blk_frozen BK197.out 0; have hfz69_1 := blk_frozen BK197.out 1; have hfz69_2 := blk_frozen BK197.out 2; have hfz69_3 := blk_frozen BK197.out 3))
          go_ret
          exact ⟨by first | rfl | (simp [errW_none, errW_some] <;> rfl) | (simp [*, errW_none, errW_some] <;> rfl), by repeat (first | (with_reducible first | exact HB.out | apply below_alloc | apply pw_below_drewN | apply below_drew1 | refine below_set ?_ GE196.out | refine below_set ?_ GE197.out) | exact HB.out)⟩
      · rw [if_neg c7] at H
        have c7b0 : decide (0 ≤ a1_1) = false := decide_eq_false c7
        clear c7
        obtain rfl := Option.some.inj H
        go_enter Tryd.func16, Tryd.ntmps16
        go_wp2_with (first | ((with_reducible refine gate_dst (N := 4) rfl ?_); refine box_event ?hg (N := 4) ?hd (cs := #[.int .i64 a0_0, .int .i64 a0_1, .int .i64 a0_2]) (t := 26) ?hr ?_; (case hd => rfl); (case hg => rfl); (case hr => first | (go_simp; done) | (go_simp; rfl)); intro gb196 hg w70 hbox hb; have n0_ := Aside0.mk (below_step (by repeat (first | (with_reducible first | exact HB.out | apply below_alloc | apply pw_below_drewN | apply below_drew1) | exact HB.out)) hb); have n1_ := Aside0.mk (hbox); have n2_ := Aside0.mk ((by rw [hg]; exact (below_size (by repeat (first | (with_reducible first | exact HB.out | apply below_alloc | apply pw_below_drewN | apply below_drew1) | exact HB.out))) : w.heap.size ≤ gb196)); have n3_ := Aside0.mk ((by rw [hg]; exact (below_size (by repeat (first | (with_reducible first | exact HB.out | apply below_alloc | apply pw_below_drewN | apply below_drew1) | exact HB.out))) : w.heap.size ≤ gb196)); clear HB; have HB := n0_; have BK196 := n1_; have GW196 := n2_; have GE196 := n3_; clear n0_ n1_ n2_ n3_; clear hb hbox hg) | ((with_reducible refine gate_dst (N := 5) rfl ?_); refine box_event ?hg (N := 5) ?hd (cs := #[.int .i64 a1_0, .int .i64 a1_1, .int .i64 a1_2, .int .i64 a1_3]) (t := 28) ?hr ?_; (case hd => rfl); (case hg => rfl); (case hr => first | (go_simp; done) | (go_simp; rfl)); intro gb197 hg w71 hbox hb; have n0_ := Aside0.mk (blk_below (g := gb196) (o := .cells #[.int .i64 a0_0, .int .i64 a0_1, .int .i64 a0_2] 26 (0, 0)) (by (with_reducible repeat (first | refine blk_drewN ?_ _ | refine blk_drew ?_ | refine blk_alloc ?_ _)); exact BK196.out) hb); have n1_ := Aside0.mk (below_step (by repeat (first | (with_reducible first | exact HB.out | apply below_alloc | apply pw_below_drewN | apply below_drew1 | refine below_set ?_ GE196.out) | exact HB.out)) hb); have n2_ := Aside0.mk (hbox); have n3_ := Aside0.mk ((by rw [hg]; exact (below_size (by repeat (first | (with_reducible first | exact HB.out | apply below_alloc | apply pw_below_drewN | apply below_drew1 | refine below_set ?_ GE196.out) | exact HB.out))) : w.heap.size ≤ gb197)); have n4_ := Aside0.mk ((by rw [hg]; exact (below_size (by repeat (first | (with_reducible first | exact HB.out | apply below_alloc | apply pw_below_drewN | apply below_drew1 | refine below_set ?_ GE196.out) | exact HB.out))) : w.heap.size ≤ gb197)); have n5_ := Aside0.mk ((by rw [hg]; exact Nat.ne_of_lt (blk_lt (g := gb196) (o := .cells #[.int .i64 a0_0, .int .i64 a0_1, .int .i64 a0_2] 26 (0, 0)) (by (with_reducible repeat (first | refine blk_drewN ?_ _ | refine blk_drew ?_ | refine blk_alloc ?_ _)); exact BK196.out)) : gb196 ≠ gb197)); have n6_ := Aside0.mk ((by rw [hg]; exact Nat.ne_of_gt (blk_lt (g := gb196) (o := .cells #[.int .i64 a0_0, .int .i64 a0_1, .int .i64 a0_2] 26 (0, 0)) (by (with_reducible repeat (first | refine blk_drewN ?_ _ | refine blk_drew ?_ | refine blk_alloc ?_ _)); exact BK196.out)) : gb197 ≠ gb196)); clear BK196; clear HB; have BK196 := n0_; have HB := n1_; have BK197 := n2_; have GW197 := n3_; have GE197 := n4_; have NB196_197 := n5_; have NB197_196 := n6_; clear n0_ n1_ n2_ n3_ n4_ n5_ n6_; clear hb hbox hg; have hnb72 := NB197_196.out; have hnc72 := NB196_197.out; have hcz73_0 : w71.cell? ⟨gb197, 0, none⟩ = some (.int .i64 a1_0) := (blk_cell BK197.out 0).trans rfl; have hcz73_1 : w71.cell? ⟨gb197, 1, none⟩ = some (.int .i64 a1_1) := (blk_cell BK197.out 1).trans rfl; have hcz73_2 : w71.cell? ⟨gb197, 2, none⟩ = some (.int .i64 a1_2) := (blk_cell BK197.out 2).trans rfl; have hcz73_3 : w71.cell? ⟨gb197, 3, none⟩ = some (.int .i64 a1_3) := (blk_cell BK197.out 3).trans rfl; have hfz73_0 := blk_frozen BK197.out 0; have hfz73_1 := blk_frozen BK197.out 1; have hfz73_2 := blk_frozen BK197.out 2; have hfz73_3 := blk_frozen BK197.out 3))
        go_ret
        exact ⟨by first | rfl | (simp [errW_none, errW_some] <;> rfl) | (simp [*, errW_none, errW_some] <;> rfl), by repeat (first | (with_reducible first | exact HB.out | apply below_alloc | apply pw_below_drewN | apply below_drew1 | refine below_set ?_ GE196.out | refine below_set ?_ GE197.out) | exact HB.out)⟩
    · rw [if_neg c6] at H
      have c6b0 : decide (a1_0 ≤ 65536) = false := decide_eq_false c6
      clear c6
      obtain rfl := Option.some.inj H
      go_enter Tryd.func16, Tryd.ntmps16
      go_wp2_with (first | ((with_reducible refine gate_dst (N := 4) rfl ?_); refine box_event ?hg (N := 4) ?hd (cs := #[.int .i64 a0_0, .int .i64 a0_1, .int .i64 a0_2]) (t := 26) ?hr ?_; (case hd => rfl); (case hg => rfl); (case hr => first | (go_simp; done) | (go_simp; rfl)); intro gb196 hg w74 hbox hb; have n0_ := Aside0.mk (below_step (by repeat (first | (with_reducible first | exact HB.out | apply below_alloc | apply pw_below_drewN | apply below_drew1) | exact HB.out)) hb); have n1_ := Aside0.mk (hbox); have n2_ := Aside0.mk ((by rw [hg]; exact (below_size (by repeat (first | (with_reducible first | exact HB.out | apply below_alloc | apply pw_below_drewN | apply below_drew1) | exact HB.out))) : w.heap.size ≤ gb196)); have n3_ := Aside0.mk ((by rw [hg]; exact (below_size (by repeat (first | (with_reducible first | exact HB.out | apply below_alloc | apply pw_below_drewN | apply below_drew1) | exact HB.out))) : w.heap.size ≤ gb196)); clear HB; have HB := n0_; have BK196 := n1_; have GW196 := n2_; have GE196 := n3_; clear n0_ n1_ n2_ n3_; clear hb hbox hg) | ((with_reducible refine gate_dst (N := 5) rfl ?_); refine box_event ?hg (N := 5) ?hd (cs := #[.int .i64 a1_0, .int .i64 a1_1, .int .i64 a1_2, .int .i64 a1_3]) (t := 28) ?hr ?_; (case hd => rfl); (case hg => rfl); (case hr => first | (go_simp; done) | (go_simp; rfl)); intro gb197 hg w75 hbox hb; have n0_ := Aside0.mk (blk_below (g := gb196) (o := .cells #[.int .i64 a0_0, .int .i64 a0_1, .int .i64 a0_2] 26 (0, 0)) (by (with_reducible repeat (first | refine blk_drewN ?_ _ | refine blk_drew ?_ | refine blk_alloc ?_ _)); exact BK196.out) hb); have n1_ := Aside0.mk (below_step (by repeat (first | (with_reducible first | exact HB.out | apply below_alloc | apply pw_below_drewN | apply below_drew1 | refine below_set ?_ GE196.out) | exact HB.out)) hb); have n2_ := Aside0.mk (hbox); have n3_ := Aside0.mk ((by rw [hg]; exact (below_size (by repeat (first | (with_reducible first | exact HB.out | apply below_alloc | apply pw_below_drewN | apply below_drew1 | refine below_set ?_ GE196.out) | exact HB.out))) : w.heap.size ≤ gb197)); have n4_ := Aside0.mk ((by rw [hg]; exact (below_size (by repeat (first | (with_reducible first | exact HB.out | apply below_alloc | apply pw_below_drewN | apply below_drew1 | refine below_set ?_ GE196.out) | exact HB.out))) : w.heap.size ≤ gb197)); have n5_ := Aside0.mk ((by rw [hg]; exact Nat.ne_of_lt (blk_lt (g := gb196) (o := .cells #[.int .i64 a0_0, .int .i64 a0_1, .int .i64 a0_2] 26 (0, 0)) (by (with_reducible repeat (first | refine blk_drewN ?_ _ | refine blk_drew ?_ | refine blk_alloc ?_ _)); exact BK196.out)) : gb196 ≠ gb197)); have n6_ := Aside0.mk ((by rw [hg]; exact Nat.ne_of_gt (blk_lt (g := gb196) (o := .cells #[.int .i64 a0_0, .int .i64 a0_1, .int .i64 a0_2] 26 (0, 0)) (by (with_reducible repeat (first | refine blk_drewN ?_ _ | refine blk_drew ?_ | refine blk_alloc ?_ _)); exact BK196.out)) : gb197 ≠ gb196)); clear BK196; clear HB; have BK196 := n0_; have HB := n1_; have BK197 := n2_; have GW197 := n3_; have GE197 := n4_; have NB196_197 := n5_; have NB197_196 := n6_; clear n0_ n1_ n2_ n3_ n4_ n5_ n6_; clear hb hbox hg; have hnb76 := NB197_196.out; have hnc76 := NB196_197.out; have hcz77_0 : w75.cell? ⟨gb197, 0, none⟩ = some (.int .i64 a1_0) := (blk_cell BK197.out 0).trans rfl; have hcz77_1 : w75.cell? ⟨gb197, 1, none⟩ = some (.int .i64 a1_1) := (blk_cell BK197.out 1).trans rfl; have hcz77_2 : w75.cell? ⟨gb197, 2, none⟩ = some (.int .i64 a1_2) := (blk_cell BK197.out 2).trans rfl; have hcz77_3 : w75.cell? ⟨gb197, 3, none⟩ = some (.int .i64 a1_3) := (blk_cell BK197.out 3).trans rfl; have hfz77_0 := blk_frozen BK197.out 0; have hfz77_1 := blk_frozen BK197.out 1; have hfz77_2 := blk_frozen BK197.out 2; have hfz77_3 := blk_frozen BK197.out 3))
      go_ret
      exact ⟨by first | rfl | (simp [errW_none, errW_some] <;> rfl) | (simp [*, errW_none, errW_some] <;> rfl), by repeat (first | (with_reducible first | exact HB.out | apply below_alloc | apply pw_below_drewN | apply below_drew1 | refine below_set ?_ GE196.out | refine below_set ?_ GE197.out) | exact HB.out)⟩
  · rw [if_neg c5] at H
    have c5b0 : decide (0 ≤ a1_0) = false := decide_eq_false c5
    clear c5
    obtain rfl := Option.some.inj H
    go_enter Tryd.func16, Tryd.ntmps16
    go_wp2_with (first | ((with_reducible refine gate_dst (N := 4) rfl ?_); refine box_event ?hg (N := 4) ?hd (cs := #[.int .i64 a0_0, .int .i64 a0_1, .int .i64 a0_2]) (t := 26) ?hr ?_; (case hd => rfl); (case hg => rfl); (case hr => first | (go_simp; done) | (go_simp; rfl)); intro gb196 hg w78 hbox hb; have n0_ := Aside0.mk (below_step (by repeat (first | (with_reducible first | exact HB.out | apply below_alloc | apply pw_below_drewN | apply below_drew1) | exact HB.out)) hb); have n1_ := Aside0.mk (hbox); have n2_ := Aside0.mk ((by rw [hg]; exact (below_size (by repeat (first | (with_reducible first | exact HB.out | apply below_alloc | apply pw_below_drewN | apply below_drew1) | exact HB.out))) : w.heap.size ≤ gb196)); have n3_ := Aside0.mk ((by rw [hg]; exact (below_size (by repeat (first | (with_reducible first | exact HB.out | apply below_alloc | apply pw_below_drewN | apply below_drew1) | exact HB.out))) : w.heap.size ≤ gb196)); clear HB; have HB := n0_; have BK196 := n1_; have GW196 := n2_; have GE196 := n3_; clear n0_ n1_ n2_ n3_; clear hb hbox hg) | ((with_reducible refine gate_dst (N := 5) rfl ?_); refine box_event ?hg (N := 5) ?hd (cs := #[.int .i64 a1_0, .int .i64 a1_1, .int .i64 a1_2, .int .i64 a1_3]) (t := 28) ?hr ?_; (case hd => rfl); (case hg => rfl); (case hr => first | (go_simp; done) | (go_simp; rfl)); intro gb197 hg w79 hbox hb; have n0_ := Aside0.mk (blk_below (g := gb196) (o := .cells #[.int .i64 a0_0, .int .i64 a0_1, .int .i64 a0_2] 26 (0, 0)) (by (with_reducible repeat (first | refine blk_drewN ?_ _ | refine blk_drew ?_ | refine blk_alloc ?_ _)); exact BK196.out) hb); have n1_ := Aside0.mk (below_step (by repeat (first | (with_reducible first | exact HB.out | apply below_alloc | apply pw_below_drewN | apply below_drew1 | refine below_set ?_ GE196.out) | exact HB.out)) hb); have n2_ := Aside0.mk (hbox); have n3_ := Aside0.mk ((by rw [hg]; exact (below_size (by repeat (first | (with_reducible first | exact HB.out | apply below_alloc | apply pw_below_drewN | apply below_drew1 | refine below_set ?_ GE196.out) | exact HB.out))) : w.heap.size ≤ gb197)); have n4_ := Aside0.mk ((by rw [hg]; exact (below_size (by repeat (first | (with_reducible first | exact HB.out | apply below_alloc | apply pw_below_drewN | apply below_drew1 | refine below_set ?_ GE196.out) | exact HB.out))) : w.heap.size ≤ gb197)); have n5_ := Aside0.mk ((by rw [hg]; exact Nat.ne_of_lt (blk_lt (g := gb196) (o := .cells #[.int .i64 a0_0, .int .i64 a0_1, .int .i64 a0_2] 26 (0, 0)) (by (with_reducible repeat (first | refine blk_drewN ?_ _ | refine blk_drew ?_ | refine blk_alloc ?_ _)); exact BK196.out)) : gb196 ≠ gb197)); have n6_ := Aside0.mk ((by rw [hg]; exact Nat.ne_of_gt (blk_lt (g := gb196) (o := .cells #[.int .i64 a0_0, .int .i64 a0_1, .int .i64 a0_2] 26 (0, 0)) (by (with_reducible repeat (first | refine blk_drewN ?_ _ | refine blk_drew ?_ | refine blk_alloc ?_ _)); exact BK196.out)) : gb197 ≠ gb196)); clear BK196; clear HB; have BK196 := n0_; have HB := n1_; have BK197 := n2_; have GW197 := n3_; have GE197 := n4_; have NB196_197 := n5_; have NB197_196 := n6_; clear n0_ n1_ n2_ n3_ n4_ n5_ n6_; clear hb hbox hg; have hnb80 := NB197_196.out; have hnc80 := NB196_197.out; have hcz81_0 : w79.cell? ⟨gb197, 0, none⟩ = some (.int .i64 a1_0) := (blk_cell BK197.out 0).trans rfl; have hcz81_1 : w79.cell? ⟨gb197, 1, none⟩ = some (.int .i64 a1_1) := (blk_cell BK197.out 1).trans rfl; have hcz81_2 : w79.cell? ⟨gb197, 2, none⟩ = some (.int .i64 a1_2) := (blk_cell BK197.out 2).trans rfl; have hcz81_3 : w79.cell? ⟨gb197, 3, none⟩ = some (.int .i64 a1_3) := (blk_cell BK197.out 3).trans rfl; have hfz81_0 := blk_frozen BK197.out 0; have hfz81_1 := blk_frozen BK197.out 1; have hfz81_2 := blk_frozen BK197.out 2; have hfz81_3 := blk_frozen BK197.out 3))
    go_ret
    exact ⟨by first | rfl | (simp [errW_none, errW_some] <;> rfl) | (simp [*, errW_none, errW_some] <;> rfl), by repeat (first | (with_reducible first | exact HB.out | apply below_alloc | apply pw_below_drewN | apply below_drew1 | refine below_set ?_ GE196.out | refine below_set ?_ GE197.out) | exact HB.out)⟩
noncomputable def bivouacref03_Heading.f (x y : Int) : Option Int := if Tg.farB x = true then none else if Tg.farB y = true then none else some (Tr.headR x y)
theorem bivouacref03_Heading.calls (a0 a1 r : Int) (w : World) (hT_ : Tg.TabR w) (h : bivouacref03_Heading.f a0 a1 = some r) : Calls Tryd.prog 43 #[.int .i64 a0, .int .i64 a1] w fun e w' => e = .returned (.int .i64 r) ∧ Below w.heap.size w w' := by
  unfold bivouacref03_Heading.f at h
  split at h
  · cases h
  · split at h
    · cases h
    · rename_i hx hy
      obtain rfl := Option.some.inj h
      refine (Tg.rheading_any a0 a1 w hT_ (Tg.farB_false (by simpa using hx)) (Tg.farB_false (by simpa using hy))).mono fun e w' q => ⟨q.1, ?_⟩
      obtain ⟨n, rfl⟩ := q.2
      exact Tg.below_drewN _ _ _
noncomputable def bivouacref03_Toward.f (a b c : Int) : Option Int := some (Tr.toward a b c)
theorem bivouacref03_Toward.calls (a0 a1 a2 r : Int) (w : World) (h : bivouacref03_Toward.f a0 a1 a2 = some r) : Calls Tryd.prog 44 #[.int .i64 a0, .int .i64 a1, .int .i64 a2] w fun e w' => e = .returned (.int .i64 r) ∧ Below w.heap.size w w' := by
  obtain rfl := Option.some.inj h
  exact (Tg.rtoward_any a0 a1 a2 w).mono fun e w' q => ⟨q.1, q.2 ▸ Below.refl _ _⟩
noncomputable def bivouacref02_Root.f (a : Int) : Option Int := if 0 ≤ a then (if a ≤ 18446744073709551615 then some (Rt.rt a) else none) else none
theorem bivouacref02_Root.calls (a0 r : Int) (w : World) (h : bivouacref02_Root.f a0 = some r) : Calls Tryd.prog 45 #[.int .u64 a0] w fun e w' => e = .returned (.int .u64 r) ∧ Below w.heap.size w w' := by
  unfold bivouacref02_Root.f at h
  split at h
  · split at h
    · rename_i h0 h1
      obtain rfl := Option.some.inj h
      exact (Rt.refRoot_any a0 w h0 h1).mono fun e w' q => ⟨q.1, q.2 ▸ Below.refl _ _⟩
    · cases h
  · cases h
noncomputable def bivouacref14_clamp.f (a0 : Int) (a1 : Int) : Option (Int) := if a0 < 0 then (some 0) else (if a0 ≥ (wrap64 (a1 * 65536)) then (some (wrap64 ((wrap64 (a1 * 65536)) - 1))) else (some a0))
set_option maxHeartbeats 8000000 in
set_option maxRecDepth 100000 in
theorem bivouacref14_clamp.calls (a0 : Int) (a1 : Int) (r : Int) (w : World) (h : bivouacref14_clamp.f a0 a1 = some r) :
    Calls Tryd.prog 46 #[.int .i64 a0, .int .i64 a1] w fun e w' => e = .returned (.int .i64 r) ∧ Below w.heap.size w w' := by
  have HB := Aside0.mk (Below.refl w.heap.size w)
  have H : (if a0 < 0 then (some 0) else (if a0 ≥ (wrap64 (a1 * 65536)) then (some (wrap64 ((wrap64 (a1 * 65536)) - 1))) else (some a0))) = some r := h
  clear h
  by_cases c3 : a0 < 0
  · rw [if_pos c3] at H
    have c3b0 : decide (a0 < 0) = true := decide_eq_true c3
    clear c3
    obtain rfl := Option.some.inj H
    go_enter Tryd.func46, Tryd.ntmps46
    go_wp2
    go_ret
    exact ⟨by first | rfl | (simp [errW_none, errW_some] <;> rfl) | (simp [*, errW_none, errW_some] <;> rfl), by repeat (first | (with_reducible first | exact HB.out | apply below_alloc | apply pw_below_drewN | apply below_drew1) | exact HB.out)⟩
  · rw [if_neg c3] at H
    have c3b0 : decide (a0 < 0) = false := decide_eq_false c3
    clear c3
    by_cases c4 : a0 ≥ (wrap64 (a1 * 65536))
    · rw [if_pos c4] at H
      have c4b0 : decide ((wrap64 (a1 * 65536)) ≤ a0) = true := decide_eq_true c4
      clear c4
      obtain rfl := Option.some.inj H
      go_enter Tryd.func46, Tryd.ntmps46
      go_wp2
      go_ret
      exact ⟨by first | rfl | (simp [errW_none, errW_some] <;> rfl) | (simp [*, errW_none, errW_some] <;> rfl), by repeat (first | (with_reducible first | exact HB.out | apply below_alloc | apply pw_below_drewN | apply below_drew1) | exact HB.out)⟩
    · rw [if_neg c4] at H
      have c4b0 : decide ((wrap64 (a1 * 65536)) ≤ a0) = false := decide_eq_false c4
      clear c4
      obtain rfl := Option.some.inj H
      go_enter Tryd.func46, Tryd.ntmps46
      go_wp2
      go_ret
      exact ⟨by first | rfl | (simp [errW_none, errW_some] <;> rfl) | (simp [*, errW_none, errW_some] <;> rfl), by repeat (first | (with_reducible first | exact HB.out | apply below_alloc | apply pw_below_drewN | apply below_drew1) | exact HB.out)⟩
noncomputable def bivouacref14_times.f (a b : Int) : Option Int := if fits a then (if fits b then some (timesS a b) else none) else none
theorem bivouacref14_times.calls (a0 a1 r : Int) (w : World) (h : bivouacref14_times.f a0 a1 = some r) : Calls Tryd.prog 47 #[.int .i64 a0, .int .i64 a1] w fun e w' => e = .returned (.int .i64 r) ∧ Below w.heap.size w w' := by
  unfold bivouacref14_times.f at h
  split at h
  · split at h
    · rename_i h0 h1
      obtain rfl := Option.some.inj h
      exact times14_any a0 a1 w h0 h1
    · cases h
  · cases h
noncomputable def bivouacref03_Cos.f (a : Int) : Option Int := some (Tr.cosA a)
theorem bivouacref03_Cos.calls (a0 r : Int) (w : World) (hT_ : Tg.TabR w) (h : bivouacref03_Cos.f a0 = some r) : Calls Tryd.prog 48 #[.int .i64 a0] w fun e w' => e = .returned (.int .i64 r) ∧ Below w.heap.size w w' := by
  obtain rfl := Option.some.inj h
  refine (Tg.rcos_any a0 w hT_).mono fun e w' q => ⟨q.1, ?_⟩
  obtain ⟨n, rfl⟩ := q.2
  exact Tg.below_drewN _ _ _
noncomputable def bivouacref03_Sin.f (a : Int) : Option Int := some (Tr.sinA a)
theorem bivouacref03_Sin.calls (a0 r : Int) (w : World) (hT_ : Tg.TabR w) (h : bivouacref03_Sin.f a0 = some r) : Calls Tryd.prog 49 #[.int .i64 a0] w fun e w' => e = .returned (.int .i64 r) ∧ Below w.heap.size w w' := by
  obtain rfl := Option.some.inj h
  refine (Tg.rsin_any a0 w hT_).mono fun e w' q => ⟨q.1, ?_⟩
  obtain ⟨n, rfl⟩ := q.2
  exact Tg.below_drewN _ _ _
end Go.Proofs.YtbcddiaplpbhjaaDoor.MDr
namespace Go.Proofs.YtbcddiaplpbhjaaDoor.MDr
open Go.RowKit Go.Proofs.YtbcddiaplpbhjaaDoorW.PrintWords Go.Proofs.YtbcddiaplpbhjaaDoorW.PrintLast Go.Proofs.YtbcddiaplpbhjaaDoorW.PrintMore
attribute [local go_sem] max2_int min2_int max_two min_two max_three min_three max_four min_four
set_option linter.unusedVariables false
set_option linter.unusedSimpArgs false
noncomputable def bivouacref14_Step.j0 : Nat → Int → Int → Bool → Int → Int → Int → Int → Int → Int → Int → Option (Int × Int × Int × Bool)
  | 0, _, _, _, _, _, _, _, _, _, _ => none
  | k + 1, x2, x3, x22, x201000, x201001, x201002, x202000, x202001, x202002, x202003 => if x22 = true then (some (x201000, x201001, x201002, true)) else ((bivouacref03_Heading.f (wrap64 (x2 - x201000)) (wrap64 (x3 - x201001))).bind fun t203 => ((bivouacref03_Toward.f x201002 (wrap64 (256 * t203)) x202001).bind fun t204 => ((bivouacref14_Off.f t204 (wrap64 (256 * t203))).bind fun t205 => (if t205 > 8192 then (some (x201000, x201001, t204, false)) else ((bivouacref02_Root.f (IntKind.u64.wrap (wrap64 ((wrap64 ((wrap64 (x2 - x201000)) * (wrap64 (x2 - x201000)))) + (wrap64 ((wrap64 (x3 - x201001)) * (wrap64 (x3 - x201001)))))))).bind fun t206 => (if (wrap64 (t206)) ≤ x202000 then (some (x2, x3, t204, true)) else ((bivouacref03_Cos.f t204).bind fun t207 => ((bivouacref14_times.f x202000 t207).bind fun t208 => ((bivouacref14_clamp.f (wrap64 (x201000 + t208)) x202002).bind fun t209 => ((bivouacref03_Sin.f t204).bind fun t210 => ((bivouacref14_times.f x202000 t210).bind fun t211 => ((bivouacref14_clamp.f (wrap64 (x201001 + t211)) x202003).bind fun t212 => (some (t209, t212, t204, false))))))))))))))
noncomputable def bivouacref14_Step.f (k : Nat) (a0_0 : Int) (a0_1 : Int) (a0_2 : Int) (a1_0 : Int) (a1_1 : Int) (a1_2 : Int) (a1_3 : Int) (a2 : Int) (a3 : Int) : Option (Int × Int × Int × Bool) := if a0_0 = a2 then (bivouacref14_Step.j0 k a2 a3 (a0_1 == a3) a0_0 a0_1 a0_2 a1_0 a1_1 a1_2 a1_3) else (bivouacref14_Step.j0 k a2 a3 false a0_0 a0_1 a0_2 a1_0 a1_1 a1_2 a1_3)
theorem bivouacref14_Step.mono_l : ∀ k, (∀ y0 y1 y2 y3 y4 y5 y6 y7 y8 y9, LeO (bivouacref14_Step.j0 k y0 y1 y2 y3 y4 y5 y6 y7 y8 y9) (bivouacref14_Step.j0 (k + 1) y0 y1 y2 y3 y4 y5 y6 y7 y8 y9))
  | 0 => fun _ _ _ _ _ _ _ _ _ _ r h => by simp [bivouacref14_Step.j0] at h
  | k + 1 => by
    have ih0 := bivouacref14_Step.mono_l k
    · intro y0 y1 y2 y3 y4 y5 y6 y7 y8 y9
      unfold bivouacref14_Step.j0
      repeat' first
      | (with_reducible exact ih0 _ _ _ _ _ _ _ _ _ _)
      | (with_reducible exact LeO.refl _)
      | (with_reducible exact LeO.none _)
      | (with_reducible refine LeO.ite ?_ ?_)
      | (with_reducible refine LeO.bind ?_ (fun _ => ?_))
      | exact ih0 _ _ _ _ _ _ _ _ _ _
      | exact LeO.none _
      | refine LeO.ite ?_ ?_
      | refine LeO.bind ?_ (fun _ => ?_)
theorem bivouacref14_Step.mono : ∀ a0 a1 a2 a3 a4 a5 a6 a7 a8 k, LeO (bivouacref14_Step.f k a0 a1 a2 a3 a4 a5 a6 a7 a8) (bivouacref14_Step.f (k + 1) a0 a1 a2 a3 a4 a5 a6 a7 a8) := by
  intro a0 a1 a2 a3 a4 a5 a6 a7 a8 k
  have ih0 := bivouacref14_Step.mono_l k
  unfold bivouacref14_Step.f
  repeat' first
      | (with_reducible exact ih0 _ _ _ _ _ _ _ _ _ _)
      | (with_reducible exact LeO.refl _)
      | (with_reducible exact LeO.none _)
      | (with_reducible refine LeO.ite ?_ ?_)
      | (with_reducible refine LeO.bind ?_ (fun _ => ?_))
      | exact ih0 _ _ _ _ _ _ _ _ _ _
      | exact LeO.none _
      | refine LeO.ite ?_ ?_
      | refine LeO.bind ?_ (fun _ => ?_)
def bivouacref14_Step.T7 : Bool × List (List Nat × List Nat) := (true, [([], []), ([], []), ([1], [1]), ([0, 2], [0, 2]), ([], []), ([], []), ([5], [5]), ([4, 6], [4, 6]), ([3, 0, 1, 2, 3], [3]), ([7, 8, 0, 1, 2, 3, 4, 5, 6, 7, 8], [7])])
def bivouacref14_Step.B7 : List Nat := [0, 0, 2, 7, 0, 0, 32, 112, 15, 511]
theorem bivouacref14_Step.tab7 : rtab .any (opsOf Tryd.f17 7) = bivouacref14_Step.T7 := by kernel_rfl
theorem bivouacref14_Step.bits7 : waitsOk bivouacref14_Step.T7.2 bivouacref14_Step.B7 = true := by kernel_rfl
def bivouacref14_Step.T8 : Bool × List (List Nat × List Nat) := (true, [([], []), ([], []), ([0, 1], [0, 1]), ([], []), ([], []), ([3, 4], [3, 4]), ([2, 5], [2, 5]), ([6], [6]), ([7], [7]), ([8], [8]), ([], []), ([10], [10]), ([9, 11], [9, 11])])
def bivouacref14_Step.B8 : List Nat := [0, 0, 3, 0, 0, 24, 63, 127, 255, 511, 0, 1024, 4095]
theorem bivouacref14_Step.tab8 : rtab .any (opsOf Tryd.f17 8) = bivouacref14_Step.T8 := by kernel_rfl
theorem bivouacref14_Step.bits8 : waitsOk bivouacref14_Step.T8.2 bivouacref14_Step.B8 = true := by kernel_rfl
def bivouacref14_Step.T10 : Bool × List (List Nat × List Nat) := (true, [([], []), ([0], [0]), ([], []), ([2], [2]), ([], []), ([4], [4]), ([5], [5]), ([3, 6, 6], [3, 6]), ([1, 7], [1, 7]), ([], []), ([9], [9]), ([8, 10, 7], [8, 10]), ([0, 1, 2, 3, 4, 5, 6, 7, 8, 9, 10, 11], []), ([12, 11, 11, 0, 1, 2, 3, 4, 5, 6, 7, 8, 9, 10, 11], [11, 12])])
def bivouacref14_Step.B10 : List Nat := [0, 1, 0, 4, 0, 16, 48, 124, 255, 0, 512, 2047, 4095, 8191]
theorem bivouacref14_Step.tab10 : rtab .any (opsOf Tryd.f17 10) = bivouacref14_Step.T10 := by kernel_rfl
theorem bivouacref14_Step.bits10 : waitsOk bivouacref14_Step.T10.2 bivouacref14_Step.B10 = true := by kernel_rfl
def bivouacref14_Step.T11 : Bool × List (List Nat × List Nat) := (true, [([], []), ([0], [0]), ([], []), ([2], [2]), ([], []), ([4], [4]), ([5], [5]), ([3, 6, 6], [3, 6]), ([1, 7], [1, 7]), ([], []), ([9], [9]), ([8, 10, 7], [8, 10]), ([0, 1, 2, 3, 4, 5, 6, 7, 8, 9, 10, 11], []), ([12, 11, 11, 0, 1, 2, 3, 4, 5, 6, 7, 8, 9, 10, 11], [11, 12])])
def bivouacref14_Step.B11 : List Nat := [0, 1, 0, 4, 0, 16, 48, 124, 255, 0, 512, 2047, 4095, 8191]
theorem bivouacref14_Step.tab11 : rtab .any (opsOf Tryd.f17 11) = bivouacref14_Step.T11 := by kernel_rfl
theorem bivouacref14_Step.bits11 : waitsOk bivouacref14_Step.T11.2 bivouacref14_Step.B11 = true := by kernel_rfl
set_option maxHeartbeats 8000000 in
set_option maxRecDepth 100000 in
theorem bivouacref14_Step.calls (k : Nat) (a0_0 : Int) (a0_1 : Int) (a0_2 : Int) (a1_0 : Int) (a1_1 : Int) (a1_2 : Int) (a1_3 : Int) (a2 : Int) (a3 : Int) (r1 : Int) (r2 : Int) (r3 : Int) (r4 : Bool) (w : World) (hT_ : Tg.TabR w) (h : bivouacref14_Step.f k a0_0 a0_1 a0_2 a1_0 a1_1 a1_2 a1_3 a2 a3 = some (r1, r2, r3, r4)) :
    Calls Tryd.prog 17 #[.agg #[.int .i64 a0_0, .int .i64 a0_1, .int .i64 a0_2], .agg #[.int .i64 a1_0, .int .i64 a1_1, .int .i64 a1_2, .int .i64 a1_3], .int .i64 a2, .int .i64 a3] w fun e w' => e = .returned (.tuple #[.agg #[.int .i64 r1, .int .i64 r2, .int .i64 r3], .bool r4]) ∧ Below w.heap.size w w' := by
  have hu26 := Tryd.underlying26
  have hu28 := Tryd.underlying28
  have HB := Aside0.mk (Below.refl w.heap.size w)
  have HTAB := Aside0.mk hT_
  clear hT_
  have H : (if a0_0 = a2 then (bivouacref14_Step.j0 k a2 a3 (a0_1 == a3) a0_0 a0_1 a0_2 a1_0 a1_1 a1_2 a1_3) else (bivouacref14_Step.j0 k a2 a3 false a0_0 a0_1 a0_2 a1_0 a1_1 a1_2 a1_3)) = some (r1, r2, r3, r4) := h
  clear h
  have HC5 := Aside0.mk H
  clear H
  go_enter Tryd.func17, Tryd.ntmps17
  go_upto_region 1 with (first | ((with_reducible refine gate_dst (N := 4) rfl ?_); refine box_event ?hg (N := 4) ?hd (cs := #[.int .i64 a0_0, .int .i64 a0_1, .int .i64 a0_2]) (t := 26) ?hr ?_; (case hd => rfl); (case hg => rfl); (case hr => first | (go_simp; done) | (go_simp; rfl)); intro gb200 hg w6 hbox hb; have n0_ := Aside0.mk (below_step (by repeat (first | (with_reducible first | exact HB.out | apply below_alloc | apply pw_below_drewN | apply below_drew1) | exact HB.out)) hb); have n1_ := Aside0.mk (hbox); have n2_ := Aside0.mk ((by rw [hg]; exact (below_size (by repeat (first | (with_reducible first | exact HB.out | apply below_alloc | apply pw_below_drewN | apply below_drew1) | exact HB.out))) : w.heap.size ≤ gb200)); have n3_ := Aside0.mk ((by rw [hg]; exact (below_size (by repeat (first | (with_reducible first | exact HB.out | apply below_alloc | apply pw_below_drewN | apply below_drew1) | exact HB.out))) : w.heap.size ≤ gb200)); clear HB; have HB := n0_; have BK200 := n1_; have GW200 := n2_; have GE200 := n3_; clear n0_ n1_ n2_ n3_; clear hb hbox hg) | ((with_reducible refine gate_dst (N := 5) rfl ?_); refine box_event ?hg (N := 5) ?hd (cs := #[.int .i64 a1_0, .int .i64 a1_1, .int .i64 a1_2, .int .i64 a1_3]) (t := 28) ?hr ?_; (case hd => rfl); (case hg => rfl); (case hr => first | (go_simp; done) | (go_simp; rfl)); intro gb201 hg w7 hbox hb; have n0_ := Aside0.mk (blk_below (g := gb200) (o := .cells #[.int .i64 a0_0, .int .i64 a0_1, .int .i64 a0_2] 26 (0, 0)) (by (with_reducible repeat (first | refine blk_drewN ?_ _ | refine blk_drew ?_ | refine blk_alloc ?_ _)); exact BK200.out) hb); have n1_ := Aside0.mk (below_step (by repeat (first | (with_reducible first | exact HB.out | apply below_alloc | apply pw_below_drewN | apply below_drew1 | refine below_set ?_ GE200.out) | exact HB.out)) hb); have n2_ := Aside0.mk (hbox); have n3_ := Aside0.mk ((by rw [hg]; exact (below_size (by repeat (first | (with_reducible first | exact HB.out | apply below_alloc | apply pw_below_drewN | apply below_drew1 | refine below_set ?_ GE200.out) | exact HB.out))) : w.heap.size ≤ gb201)); have n4_ := Aside0.mk ((by rw [hg]; exact (below_size (by repeat (first | (with_reducible first | exact HB.out | apply below_alloc | apply pw_below_drewN | apply below_drew1 | refine below_set ?_ GE200.out) | exact HB.out))) : w.heap.size ≤ gb201)); have n5_ := Aside0.mk ((by rw [hg]; exact Nat.ne_of_lt (blk_lt (g := gb200) (o := .cells #[.int .i64 a0_0, .int .i64 a0_1, .int .i64 a0_2] 26 (0, 0)) (by (with_reducible repeat (first | refine blk_drewN ?_ _ | refine blk_drew ?_ | refine blk_alloc ?_ _)); exact BK200.out)) : gb200 ≠ gb201)); have n6_ := Aside0.mk ((by rw [hg]; exact Nat.ne_of_gt (blk_lt (g := gb200) (o := .cells #[.int .i64 a0_0, .int .i64 a0_1, .int .i64 a0_2] 26 (0, 0)) (by (with_reducible repeat (first | refine blk_drewN ?_ _ | refine blk_drew ?_ | refine blk_alloc ?_ _)); exact BK200.out)) : gb201 ≠ gb200)); clear BK200; clear HB; have BK200 := n0_; have HB := n1_; have BK201 := n2_; have GW201 := n3_; have GE201 := n4_; have NB200_201 := n5_; have NB201_200 := n6_; clear n0_ n1_ n2_ n3_ n4_ n5_ n6_; clear hb hbox hg) | ((with_reducible refine gate_dst (N := 8) rfl ?_); refine box_event ?hg (N := 8) ?hd (cs := #[.int .i64 0, .int .i64 0, .int .i64 0]) (t := 26) ?hr ?_; (case hd => rfl); (case hg => rfl); (case hr => first | (go_simp; done) | (go_simp; rfl)); intro gb202 hg w8 hbox hb; have n0_ := Aside0.mk (blk_below (g := gb200) (o := .cells #[.int .i64 a0_0, .int .i64 a0_1, .int .i64 a0_2] 26 (0, 0)) (by (with_reducible repeat (first | refine blk_drewN ?_ _ | refine blk_drew ?_ | refine blk_alloc ?_ _)); exact BK200.out) hb); have n1_ := Aside0.mk (blk_below (g := gb201) (o := .cells #[.int .i64 a1_0, .int .i64 a1_1, .int .i64 a1_2, .int .i64 a1_3] 28 (0, 0)) (by (with_reducible repeat (first | refine blk_drewN ?_ _ | refine blk_drew ?_ | refine blk_alloc ?_ _)); exact BK201.out) hb); have n2_ := Aside0.mk (below_step (by repeat (first | (with_reducible first | exact HB.out | apply below_alloc | apply pw_below_drewN | apply below_drew1 | refine below_set ?_ GE200.out | refine below_set ?_ GE201.out) | exact HB.out)) hb); have n3_ := Aside0.mk (hbox); have n4_ := Aside0.mk ((by rw [hg]; exact (below_size (by repeat (first | (with_reducible first | exact HB.out | apply below_alloc | apply pw_below_drewN | apply below_drew1 | refine below_set ?_ GE200.out | refine below_set ?_ GE201.out) | exact HB.out))) : w.heap.size ≤ gb202)); have n5_ := Aside0.mk ((by rw [hg]; exact (below_size (by repeat (first | (with_reducible first | exact HB.out | apply below_alloc | apply pw_below_drewN | apply below_drew1 | refine below_set ?_ GE200.out | refine below_set ?_ GE201.out) | exact HB.out))) : w.heap.size ≤ gb202)); have n6_ := Aside0.mk ((by rw [hg]; exact Nat.ne_of_lt (blk_lt (g := gb200) (o := .cells #[.int .i64 a0_0, .int .i64 a0_1, .int .i64 a0_2] 26 (0, 0)) (by (with_reducible repeat (first | refine blk_drewN ?_ _ | refine blk_drew ?_ | refine blk_alloc ?_ _)); exact BK200.out)) : gb200 ≠ gb202)); have n7_ := Aside0.mk ((by rw [hg]; exact Nat.ne_of_gt (blk_lt (g := gb200) (o := .cells #[.int .i64 a0_0, .int .i64 a0_1, .int .i64 a0_2] 26 (0, 0)) (by (with_reducible repeat (first | refine blk_drewN ?_ _ | refine blk_drew ?_ | refine blk_alloc ?_ _)); exact BK200.out)) : gb202 ≠ gb200)); have n8_ := Aside0.mk ((by rw [hg]; exact Nat.ne_of_lt (blk_lt (g := gb201) (o := .cells #[.int .i64 a1_0, .int .i64 a1_1, .int .i64 a1_2, .int .i64 a1_3] 28 (0, 0)) (by (with_reducible repeat (first | refine blk_drewN ?_ _ | refine blk_drew ?_ | refine blk_alloc ?_ _)); exact BK201.out)) : gb201 ≠ gb202)); have n9_ := Aside0.mk ((by rw [hg]; exact Nat.ne_of_gt (blk_lt (g := gb201) (o := .cells #[.int .i64 a1_0, .int .i64 a1_1, .int .i64 a1_2, .int .i64 a1_3] 28 (0, 0)) (by (with_reducible repeat (first | refine blk_drewN ?_ _ | refine blk_drew ?_ | refine blk_alloc ?_ _)); exact BK201.out)) : gb202 ≠ gb201)); clear BK200; clear BK201; clear HB; have BK200 := n0_; have BK201 := n1_; have HB := n2_; have BK202 := n3_; have GW202 := n4_; have GE202 := n5_; have NB200_202 := n6_; have NB202_200 := n7_; have NB201_202 := n8_; have NB202_201 := n9_; clear n0_ n1_ n2_ n3_ n4_ n5_ n6_ n7_ n8_ n9_; clear hb hbox hg))
  (try simp only [Act.put, List.setIfInBounds_toArray, List.set_cons_zero, List.set_cons_succ])
  go_cut [22] (fun v22 wc => ∃ (kq : Nat) (x22_4 : Bool), v22 = .bool x22_4 ∧ Aside0 (bivouacref14_Step.j0 kq a2 a3 x22_4 a0_0 a0_1 a0_2 a1_0 a1_1 a1_2 a1_3 = some (r1, r2, r3, r4)) ∧ Aside0 (kq ≤ k) ∧ Aside0 (wc.heap[gb200]? = some (.cells #[.int .i64 a0_0, .int .i64 a0_1, .int .i64 a0_2] 26 (0, 0))) ∧ Aside0 (wc.heap[gb201]? = some (.cells #[.int .i64 a1_0, .int .i64 a1_1, .int .i64 a1_2, .int .i64 a1_3] 28 (0, 0))) ∧ Aside0 (wc.heap[gb202]? = some (.cells #[.int .i64 0, .int .i64 0, .int .i64 0] 26 (0, 0))) ∧ Aside0 (Below w.heap.size w wc))
  case first =>
    have H := HC5.out
    clear HC5
    by_cases c9 : a0_0 = a2
    · rw [if_pos c9] at H
      have c9b0 : (a0_0 == a2) = true := beq_iff_eq.mpr c9
      have c9b1 : (a0_0 != a2) = false := bne_eq_false_iff_eq.mpr c9
      clear c9
      (first | rw [c9b0] | (simp only [i64_w, i32_w]; rw [c9b0]) | skip)
      have H' := Aside0.mk H
      clear H
      have hnb10 := NB200_201.out
      have hnc10 := NB201_200.out
      have hnb11 := NB200_202.out
      have hnc11 := NB202_200.out
      have hcz12_0 : w8.cell? ⟨gb200, 0, none⟩ = some (.int .i64 a0_0) := (blk_cell BK200.out 0).trans rfl
      have hcz12_1 : w8.cell? ⟨gb200, 1, none⟩ = some (.int .i64 a0_1) := (blk_cell BK200.out 1).trans rfl
      have hcz12_2 : w8.cell? ⟨gb200, 2, none⟩ = some (.int .i64 a0_2) := (blk_cell BK200.out 2).trans rfl
      have hfz12_0 := blk_frozen BK200.out 0
      have hfz12_1 := blk_frozen BK200.out 1
      have hfz12_2 := blk_frozen BK200.out 2
      go_wp2
      go_meet
      case rel => exact ⟨_, ((a0_1 == a3)), (by first | rfl | (simp; done) | (simp [*]; done)), H', ⟨by first | omega | exact Nat.le_refl _⟩, ⟨by (with_reducible repeat (first | refine blk_drewN ?_ _ | refine blk_drew ?_ | refine blk_alloc ?_ _)); exact BK200.out⟩, ⟨by (with_reducible repeat (first | refine blk_drewN ?_ _ | refine blk_drew ?_ | refine blk_alloc ?_ _)); exact BK201.out⟩, ⟨by (with_reducible repeat (first | refine blk_drewN ?_ _ | refine blk_drew ?_ | refine blk_alloc ?_ _)); exact BK202.out⟩, ⟨by repeat (first | (with_reducible first | exact HB.out | apply below_alloc | apply pw_below_drewN | apply below_drew1 | refine below_set ?_ GE200.out | refine below_set ?_ GE201.out | refine below_set ?_ GE202.out) | exact HB.out)⟩⟩
    · rw [if_neg c9] at H
      have c9b0 : (a0_0 == a2) = false := beq_eq_false_iff_ne.mpr c9
      have c9b1 : (a0_0 != a2) = true := bne_iff_ne.mpr c9
      (first | rw [c9b0] | (simp only [i64_w, i32_w]; rw [c9b0]) | skip)
      have H' := Aside0.mk H
      clear H
      have hnb13 := NB200_201.out
      have hnc13 := NB201_200.out
      have hnb14 := NB200_202.out
      have hnc14 := NB202_200.out
      have hcz15_0 : w8.cell? ⟨gb200, 0, none⟩ = some (.int .i64 a0_0) := (blk_cell BK200.out 0).trans rfl
      have hcz15_1 : w8.cell? ⟨gb200, 1, none⟩ = some (.int .i64 a0_1) := (blk_cell BK200.out 1).trans rfl
      have hcz15_2 : w8.cell? ⟨gb200, 2, none⟩ = some (.int .i64 a0_2) := (blk_cell BK200.out 2).trans rfl
      have hfz15_0 := blk_frozen BK200.out 0
      have hfz15_1 := blk_frozen BK200.out 1
      have hfz15_2 := blk_frozen BK200.out 2
      go_wp2
      go_meet
      case rel => exact ⟨_, (false), (by first | rfl | (simp; done) | (simp [*]; done)), H', ⟨by first | omega | exact Nat.le_refl _⟩, ⟨by (with_reducible repeat (first | refine blk_drewN ?_ _ | refine blk_drew ?_ | refine blk_alloc ?_ _)); exact BK200.out⟩, ⟨by (with_reducible repeat (first | refine blk_drewN ?_ _ | refine blk_drew ?_ | refine blk_alloc ?_ _)); exact BK201.out⟩, ⟨by (with_reducible repeat (first | refine blk_drewN ?_ _ | refine blk_drew ?_ | refine blk_alloc ?_ _)); exact BK202.out⟩, ⟨by repeat (first | (with_reducible first | exact HB.out | apply below_alloc | apply pw_below_drewN | apply below_drew1 | refine below_set ?_ GE200.out | refine below_set ?_ GE201.out | refine below_set ?_ GE202.out) | exact HB.out)⟩⟩
  case rest =>
    clear HC5
    try clear c1
    try clear p2
    try clear c9
    try clear c9b0
    try clear c9b1
    try clear c10
    try clear c11
    try clear c13
    try clear c14
    try clear hcz12_0
    try clear hcz12_1
    try clear hcz12_2
    try clear hcz15_0
    try clear hcz15_1
    try clear hcz15_2
    try clear hfz12_0
    try clear hfz12_1
    try clear hfz12_2
    try clear hfz15_0
    try clear hfz15_1
    try clear hfz15_2
    obtain ⟨kq, x22_4, rfl, HA, HJ4, BK200, BK201, BK202, HB⟩ := hcut
    cases kq with
    | zero => exact absurd HA.out (by simp [bivouacref14_Step.j0])
    | succ kj4 =>
      have H := HA.out
      clear HA
      simp only [bivouacref14_Step.j0] at H
      by_cases c16 : x22_4 = true
      · subst c16
        have H1 : (some (a0_0, a0_1, a0_2, true)) = some (r1, r2, r3, r4) := by rw [if_pos rfl] at H; exact H
        clear H
        have H := H1
        clear H1
        simp only [Option.some.injEq, Prod.mk.injEq] at H
        obtain ⟨rfl, rfl, rfl, rfl⟩ := H
        have hnb17 := NB200_201.out
        have hnc17 := NB201_200.out
        have hnb18 := NB200_202.out
        have hnc18 := NB202_200.out
        have hcz19_0 : wc.cell? ⟨gb200, 0, none⟩ = some (.int .i64 a0_0) := (blk_cell BK200.out 0).trans rfl
        have hcz19_1 : wc.cell? ⟨gb200, 1, none⟩ = some (.int .i64 a0_1) := (blk_cell BK200.out 1).trans rfl
        have hcz19_2 : wc.cell? ⟨gb200, 2, none⟩ = some (.int .i64 a0_2) := (blk_cell BK200.out 2).trans rfl
        have hfz19_0 := blk_frozen BK200.out 0
        have hfz19_1 := blk_frozen BK200.out 1
        have hfz19_2 := blk_frozen BK200.out 2
        have hnb20 := NB202_201.out
        have hnc20 := NB201_202.out
        have hcz21_0 : wc.cell? ⟨gb202, 0, none⟩ = some (.int .i64 0) := (blk_cell BK202.out 0).trans rfl
        have hcz21_1 : wc.cell? ⟨gb202, 1, none⟩ = some (.int .i64 0) := (blk_cell BK202.out 1).trans rfl
        have hcz21_2 : wc.cell? ⟨gb202, 2, none⟩ = some (.int .i64 0) := (blk_cell BK202.out 2).trans rfl
        have hfz21_0 := blk_frozen BK202.out 0
        have hfz21_1 := blk_frozen BK202.out 1
        have hfz21_2 := blk_frozen BK202.out 2
        go_wp2
        refine bodyPost_ret (results_ct rfl _ _ gb202 26 #[.int .i64 a0_0, .int .i64 a0_1, .int .i64 a0_2] (0, 0) _ rfl (by (with_reducible repeat (first | refine blk_drewN ?_ _ | refine blk_drew ?_ | refine blk_alloc ?_ _)); refine blk_put (cs := #[.int .i64 a0_0, .int .i64 a0_1, .int .i64 0]) ?_ 2 _ rfl; (with_reducible repeat (first | refine blk_drewN ?_ _ | refine blk_drew ?_ | refine blk_alloc ?_ _)); refine blk_put (cs := #[.int .i64 a0_0, .int .i64 0, .int .i64 0]) ?_ 1 _ rfl; (with_reducible repeat (first | refine blk_drewN ?_ _ | refine blk_drew ?_ | refine blk_alloc ?_ _)); refine blk_put (cs := #[.int .i64 0, .int .i64 0, .int .i64 0]) ?_ 0 _ rfl; (with_reducible repeat (first | refine blk_drewN ?_ _ | refine blk_drew ?_ | refine blk_alloc ?_ _)); exact BK202.out) Tryd.underlying26 rfl (by kernel_rfl)) rfl ?_
        exact ⟨by first | rfl | (simp [errW_none, errW_some] <;> rfl) | (simp [*, errW_none, errW_some] <;> rfl), by repeat (first | (with_reducible first | exact HB.out | apply below_alloc | apply pw_below_drewN | apply below_drew1 | refine below_set ?_ GE200.out | refine below_set ?_ GE201.out | refine below_set ?_ GE202.out) | exact HB.out)⟩
      · replace c16 := Bool.eq_false_iff.mpr c16
        subst c16
        have H1 : ((bivouacref03_Heading.f (wrap64 (a2 - a0_0)) (wrap64 (a3 - a0_1))).bind fun t203 => ((bivouacref03_Toward.f a0_2 (wrap64 (256 * t203)) a1_1).bind fun t204 => ((bivouacref14_Off.f t204 (wrap64 (256 * t203))).bind fun t205 => (if t205 > 8192 then (some (a0_0, a0_1, t204, false)) else ((bivouacref02_Root.f (IntKind.u64.wrap (wrap64 ((wrap64 ((wrap64 (a2 - a0_0)) * (wrap64 (a2 - a0_0)))) + (wrap64 ((wrap64 (a3 - a0_1)) * (wrap64 (a3 - a0_1)))))))).bind fun t206 => (if (wrap64 (t206)) ≤ a1_0 then (some (a2, a3, t204, true)) else ((bivouacref03_Cos.f t204).bind fun t207 => ((bivouacref14_times.f a1_0 t207).bind fun t208 => ((bivouacref14_clamp.f (wrap64 (a0_0 + t208)) a1_2).bind fun t209 => ((bivouacref03_Sin.f t204).bind fun t210 => ((bivouacref14_times.f a1_0 t210).bind fun t211 => ((bivouacref14_clamp.f (wrap64 (a0_1 + t211)) a1_3).bind fun t212 => (some (t209, t212, t204, false)))))))))))))) = some (r1, r2, r3, r4) := by rw [if_neg (show ¬ (false = true) by decide)] at H; exact H
        clear H
        have H := H1
        clear H1
        replace H := Option.bind_eq_some_iff.mp H
        obtain ⟨t203, A220, H⟩ := H
        replace H : ((bivouacref03_Toward.f a0_2 (wrap64 (256 * t203)) a1_1).bind fun t204 => ((bivouacref14_Off.f t204 (wrap64 (256 * t203))).bind fun t205 => (if t205 > 8192 then (some (a0_0, a0_1, t204, false)) else ((bivouacref02_Root.f (IntKind.u64.wrap (wrap64 ((wrap64 ((wrap64 (a2 - a0_0)) * (wrap64 (a2 - a0_0)))) + (wrap64 ((wrap64 (a3 - a0_1)) * (wrap64 (a3 - a0_1)))))))).bind fun t206 => (if (wrap64 (t206)) ≤ a1_0 then (some (a2, a3, t204, true)) else ((bivouacref03_Cos.f t204).bind fun t207 => ((bivouacref14_times.f a1_0 t207).bind fun t208 => ((bivouacref14_clamp.f (wrap64 (a0_0 + t208)) a1_2).bind fun t209 => ((bivouacref03_Sin.f t204).bind fun t210 => ((bivouacref14_times.f a1_0 t210).bind fun t211 => ((bivouacref14_clamp.f (wrap64 (a0_1 + t211)) a1_3).bind fun t212 => (some (t209, t212, t204, false))))))))))))) = some (r1, r2, r3, r4) := H
        have A22 := Aside0.mk A220
        clear A220
        replace H := Option.bind_eq_some_iff.mp H
        obtain ⟨t204, A230, H⟩ := H
        replace H : ((bivouacref14_Off.f t204 (wrap64 (256 * t203))).bind fun t205 => (if t205 > 8192 then (some (a0_0, a0_1, t204, false)) else ((bivouacref02_Root.f (IntKind.u64.wrap (wrap64 ((wrap64 ((wrap64 (a2 - a0_0)) * (wrap64 (a2 - a0_0)))) + (wrap64 ((wrap64 (a3 - a0_1)) * (wrap64 (a3 - a0_1)))))))).bind fun t206 => (if (wrap64 (t206)) ≤ a1_0 then (some (a2, a3, t204, true)) else ((bivouacref03_Cos.f t204).bind fun t207 => ((bivouacref14_times.f a1_0 t207).bind fun t208 => ((bivouacref14_clamp.f (wrap64 (a0_0 + t208)) a1_2).bind fun t209 => ((bivouacref03_Sin.f t204).bind fun t210 => ((bivouacref14_times.f a1_0 t210).bind fun t211 => ((bivouacref14_clamp.f (wrap64 (a0_1 + t211)) a1_3).bind fun t212 => (some (t209, t212, t204, false)))))))))))) = some (r1, r2, r3, r4) := H
        have A23 := Aside0.mk A230
        clear A230
        replace H := Option.bind_eq_some_iff.mp H
        obtain ⟨t205, A240, H⟩ := H
        replace H : (if t205 > 8192 then (some (a0_0, a0_1, t204, false)) else ((bivouacref02_Root.f (IntKind.u64.wrap (wrap64 ((wrap64 ((wrap64 (a2 - a0_0)) * (wrap64 (a2 - a0_0)))) + (wrap64 ((wrap64 (a3 - a0_1)) * (wrap64 (a3 - a0_1)))))))).bind fun t206 => (if (wrap64 (t206)) ≤ a1_0 then (some (a2, a3, t204, true)) else ((bivouacref03_Cos.f t204).bind fun t207 => ((bivouacref14_times.f a1_0 t207).bind fun t208 => ((bivouacref14_clamp.f (wrap64 (a0_0 + t208)) a1_2).bind fun t209 => ((bivouacref03_Sin.f t204).bind fun t210 => ((bivouacref14_times.f a1_0 t210).bind fun t211 => ((bivouacref14_clamp.f (wrap64 (a0_1 + t211)) a1_3).bind fun t212 => (some (t209, t212, t204, false))))))))))) = some (r1, r2, r3, r4) := H
        have A24 := Aside0.mk A240
        clear A240
        by_cases c25 : t205 > 8192
        · rw [if_pos c25] at H
          have c25b0 : decide (8192 < t205) = true := decide_eq_true c25
          clear c25
          simp only [Option.some.injEq, Prod.mk.injEq] at H
          obtain ⟨rfl, rfl, rfl, rfl⟩ := H
          have hnb26 := NB200_201.out
          have hnc26 := NB201_200.out
          have hnb27 := NB200_202.out
          have hnc27 := NB202_200.out
          have hcz28_0 : wc.cell? ⟨gb200, 0, none⟩ = some (.int .i64 a0_0) := (blk_cell BK200.out 0).trans rfl
          have hcz28_1 : wc.cell? ⟨gb200, 1, none⟩ = some (.int .i64 a0_1) := (blk_cell BK200.out 1).trans rfl
          have hcz28_2 : wc.cell? ⟨gb200, 2, none⟩ = some (.int .i64 a0_2) := (blk_cell BK200.out 2).trans rfl
          have hfz28_0 := blk_frozen BK200.out 0
          have hfz28_1 := blk_frozen BK200.out 1
          have hfz28_2 := blk_frozen BK200.out 2
          go_wp2_with (first | ((with_reducible refine gate_callee (f := 43) rfl ?_); refine goesL_ (some 32) rfl rfl Tryd.func43 (by kernel_rfl) rfl #[.int .i64 (wrap64 (a2 - a0_0)), .int .i64 (wrap64 (a3 - a0_1))] rfl (by (try simp only [List.map_toArray, List.map_cons, List.map_nil]); first | done | rfl | (simp only [List.length_drop, List.length_take]; rfl)) ?_; (with_reducible refine (bivouacref03_Heading.calls (wrap64 (a2 - a0_0)) (wrap64 (a3 - a0_1)) t203 _ ?side1 A22.out).mono ?_); (case side1 => exact Tg.TabR.below HTAB.out (by repeat (first | (with_reducible first | exact HB.out | apply below_alloc | apply pw_below_drewN | apply below_drew1 | refine below_set ?_ GE200.out | refine below_set ?_ GE201.out | refine below_set ?_ GE202.out) | exact HB.out))); rintro e w29 ⟨rfl, hb⟩; refine ⟨_, rfl, ?_⟩; have n0_ := Aside0.mk (blk_below (g := gb200) (o := .cells #[.int .i64 a0_0, .int .i64 a0_1, .int .i64 a0_2] 26 (0, 0)) (by (with_reducible repeat (first | refine blk_drewN ?_ _ | refine blk_drew ?_ | refine blk_alloc ?_ _)); exact BK200.out) hb); have n1_ := Aside0.mk (blk_below (g := gb201) (o := .cells #[.int .i64 a1_0, .int .i64 a1_1, .int .i64 a1_2, .int .i64 a1_3] 28 (0, 0)) (by (with_reducible repeat (first | refine blk_drewN ?_ _ | refine blk_drew ?_ | refine blk_alloc ?_ _)); exact BK201.out) hb); have n2_ := Aside0.mk (blk_below (g := gb202) (o := .cells #[.int .i64 0, .int .i64 0, .int .i64 0] 26 (0, 0)) (by (with_reducible repeat (first | refine blk_drewN ?_ _ | refine blk_drew ?_ | refine blk_alloc ?_ _)); exact BK202.out) hb); have n3_ := Aside0.mk (below_step (by repeat (first | (with_reducible first | exact HB.out | apply below_alloc | apply pw_below_drewN | apply below_drew1 | refine below_set ?_ GE200.out | refine below_set ?_ GE201.out | refine below_set ?_ GE202.out) | exact HB.out)) hb); clear BK200; clear BK201; clear BK202; clear HB; have BK200 := n0_; have BK201 := n1_; have BK202 := n2_; have HB := n3_; clear n0_ n1_ n2_ n3_; (try clear hb); (try clear hb2); (try clear hk); (try clear hi); have hcz30_0 : w29.cell? ⟨gb200, 0, none⟩ = some (.int .i64 a0_0) := (blk_cell BK200.out 0).trans rfl; have hcz30_1 : w29.cell? ⟨gb200, 1, none⟩ = some (.int .i64 a0_1) := (blk_cell BK200.out 1).trans rfl; have hcz30_2 : w29.cell? ⟨gb200, 2, none⟩ = some (.int .i64 a0_2) := (blk_cell BK200.out 2).trans rfl; have hfz30_0 := blk_frozen BK200.out 0; have hfz30_1 := blk_frozen BK200.out 1; have hfz30_2 := blk_frozen BK200.out 2; have hnb31 := NB201_202.out; have hnc31 := NB202_201.out; have hcz32_0 : w29.cell? ⟨gb201, 0, none⟩ = some (.int .i64 a1_0) := (blk_cell BK201.out 0).trans rfl; have hcz32_1 : w29.cell? ⟨gb201, 1, none⟩ = some (.int .i64 a1_1) := (blk_cell BK201.out 1).trans rfl; have hcz32_2 : w29.cell? ⟨gb201, 2, none⟩ = some (.int .i64 a1_2) := (blk_cell BK201.out 2).trans rfl; have hcz32_3 : w29.cell? ⟨gb201, 3, none⟩ = some (.int .i64 a1_3) := (blk_cell BK201.out 3).trans rfl; have hfz32_0 := blk_frozen BK201.out 0; have hfz32_1 := blk_frozen BK201.out 1; have hfz32_2 := blk_frozen BK201.out 2; have hfz32_3 := blk_frozen BK201.out 3) | ((with_reducible refine gate_callee (f := 44) rfl ?_); refine goesL_ (some 39) rfl rfl Tryd.func44 (by kernel_rfl) rfl #[.int .i64 a0_2, .int .i64 (wrap64 (256 * t203)), .int .i64 a1_1] rfl (by (try simp only [List.map_toArray, List.map_cons, List.map_nil]); first | done | rfl | (simp only [List.length_drop, List.length_take]; rfl)) ?_; (with_reducible refine (bivouacref03_Toward.calls a0_2 (wrap64 (256 * t203)) a1_1 t204 _ A23.out).mono ?_); rintro e w33 ⟨rfl, hb⟩; refine ⟨_, rfl, ?_⟩; have n0_ := Aside0.mk (blk_below (g := gb200) (o := .cells #[.int .i64 a0_0, .int .i64 a0_1, .int .i64 a0_2] 26 (0, 0)) (by (with_reducible repeat (first | refine blk_drewN ?_ _ | refine blk_drew ?_ | refine blk_alloc ?_ _)); exact BK200.out) hb); have n1_ := Aside0.mk (blk_below (g := gb201) (o := .cells #[.int .i64 a1_0, .int .i64 a1_1, .int .i64 a1_2, .int .i64 a1_3] 28 (0, 0)) (by (with_reducible repeat (first | refine blk_drewN ?_ _ | refine blk_drew ?_ | refine blk_alloc ?_ _)); exact BK201.out) hb); have n2_ := Aside0.mk (blk_below (g := gb202) (o := .cells #[.int .i64 0, .int .i64 0, .int .i64 0] 26 (0, 0)) (by (with_reducible repeat (first | refine blk_drewN ?_ _ | refine blk_drew ?_ | refine blk_alloc ?_ _)); exact BK202.out) hb); have n3_ := Aside0.mk (below_step (by repeat (first | (with_reducible first | exact HB.out | apply below_alloc | apply pw_below_drewN | apply below_drew1 | refine below_set ?_ GE200.out | refine below_set ?_ GE201.out | refine below_set ?_ GE202.out) | exact HB.out)) hb); clear BK200; clear BK201; clear BK202; clear HB; have BK200 := n0_; have BK201 := n1_; have BK202 := n2_; have HB := n3_; clear n0_ n1_ n2_ n3_; (try clear hb); (try clear hb2); (try clear hk); (try clear hi); have hcz34_0 : w33.cell? ⟨gb200, 0, none⟩ = some (.int .i64 a0_0) := (blk_cell BK200.out 0).trans rfl; have hcz34_1 : w33.cell? ⟨gb200, 1, none⟩ = some (.int .i64 a0_1) := (blk_cell BK200.out 1).trans rfl; have hcz34_2 : w33.cell? ⟨gb200, 2, none⟩ = some (.int .i64 a0_2) := (blk_cell BK200.out 2).trans rfl; have hfz34_0 := blk_frozen BK200.out 0; have hfz34_1 := blk_frozen BK200.out 1; have hfz34_2 := blk_frozen BK200.out 2) | ((with_reducible refine gate_callee (f := 13) rfl ?_); refine goesL_ (some 44) rfl rfl Tryd.func13 (by kernel_rfl) rfl #[.int .i64 t204, .int .i64 (wrap64 (256 * t203))] rfl (by (try simp only [List.map_toArray, List.map_cons, List.map_nil]); first | done | rfl | (simp only [List.length_drop, List.length_take]; rfl)) ?_; (with_reducible refine (bivouacref14_Off.calls t204 (wrap64 (256 * t203)) t205 _ A24.out).mono ?_); rintro e w35 ⟨rfl, hb⟩; refine ⟨_, rfl, ?_⟩; have n0_ := Aside0.mk (blk_below (g := gb200) (o := .cells #[.int .i64 a0_0, .int .i64 a0_1, .int .i64 t204] 26 (0, 0)) (by (with_reducible repeat (first | refine blk_drewN ?_ _ | refine blk_drew ?_ | refine blk_alloc ?_ _)); refine blk_put (cs := #[.int .i64 a0_0, .int .i64 a0_1, .int .i64 a0_2]) ?_ 2 _ rfl; (with_reducible repeat (first | refine blk_drewN ?_ _ | refine blk_drew ?_ | refine blk_alloc ?_ _)); exact BK200.out) hb); have n1_ := Aside0.mk (blk_below (g := gb201) (o := .cells #[.int .i64 a1_0, .int .i64 a1_1, .int .i64 a1_2, .int .i64 a1_3] 28 (0, 0)) (by (with_reducible repeat (first | refine blk_drewN ?_ _ | refine blk_drew ?_ | refine blk_alloc ?_ _)); refine blk_far ?_ NB201_200.out _; (with_reducible repeat (first | refine blk_drewN ?_ _ | refine blk_drew ?_ | refine blk_alloc ?_ _)); exact BK201.out) hb); have n2_ := Aside0.mk (blk_below (g := gb202) (o := .cells #[.int .i64 0, .int .i64 0, .int .i64 0] 26 (0, 0)) (by (with_reducible repeat (first | refine blk_drewN ?_ _ | refine blk_drew ?_ | refine blk_alloc ?_ _)); refine blk_far ?_ NB202_200.out _; (with_reducible repeat (first | refine blk_drewN ?_ _ | refine blk_drew ?_ | refine blk_alloc ?_ _)); exact BK202.out) hb); have n3_ := Aside0.mk (below_step (by repeat (first | (with_reducible first | exact HB.out | apply below_alloc | apply pw_below_drewN | apply below_drew1 | refine below_set ?_ GE200.out | refine below_set ?_ GE201.out | refine below_set ?_ GE202.out) | exact HB.out)) hb); clear BK200; clear BK201; clear BK202; clear HB; have BK200 := n0_; have BK201 := n1_; have BK202 := n2_; have HB := n3_; clear n0_ n1_ n2_ n3_; (try clear hb); (try clear hb2); (try clear hk); (try clear hi); have hcz36_0 : w35.cell? ⟨gb200, 0, none⟩ = some (.int .i64 a0_0) := (blk_cell BK200.out 0).trans rfl; have hcz36_1 : w35.cell? ⟨gb200, 1, none⟩ = some (.int .i64 a0_1) := (blk_cell BK200.out 1).trans rfl; have hcz36_2 : w35.cell? ⟨gb200, 2, none⟩ = some (.int .i64 t204) := (blk_cell BK200.out 2).trans rfl; have hfz36_0 := blk_frozen BK200.out 0; have hfz36_1 := blk_frozen BK200.out 1; have hfz36_2 := blk_frozen BK200.out 2; have hcz37_0 : w35.cell? ⟨gb202, 0, none⟩ = some (.int .i64 0) := (blk_cell BK202.out 0).trans rfl; have hcz37_1 : w35.cell? ⟨gb202, 1, none⟩ = some (.int .i64 0) := (blk_cell BK202.out 1).trans rfl; have hcz37_2 : w35.cell? ⟨gb202, 2, none⟩ = some (.int .i64 0) := (blk_cell BK202.out 2).trans rfl; have hfz37_0 := blk_frozen BK202.out 0; have hfz37_1 := blk_frozen BK202.out 1; have hfz37_2 := blk_frozen BK202.out 2))
          refine bodyPost_ret (results_ct rfl _ _ gb202 26 #[.int .i64 a0_0, .int .i64 a0_1, .int .i64 t204] (0, 0) _ rfl (by (with_reducible repeat (first | refine blk_drewN ?_ _ | refine blk_drew ?_ | refine blk_alloc ?_ _)); refine blk_put (cs := #[.int .i64 a0_0, .int .i64 a0_1, .int .i64 0]) ?_ 2 _ rfl; (with_reducible repeat (first | refine blk_drewN ?_ _ | refine blk_drew ?_ | refine blk_alloc ?_ _)); refine blk_put (cs := #[.int .i64 a0_0, .int .i64 0, .int .i64 0]) ?_ 1 _ rfl; (with_reducible repeat (first | refine blk_drewN ?_ _ | refine blk_drew ?_ | refine blk_alloc ?_ _)); refine blk_put (cs := #[.int .i64 0, .int .i64 0, .int .i64 0]) ?_ 0 _ rfl; (with_reducible repeat (first | refine blk_drewN ?_ _ | refine blk_drew ?_ | refine blk_alloc ?_ _)); exact BK202.out) Tryd.underlying26 rfl (by kernel_rfl)) rfl ?_
          exact ⟨by first | rfl | (simp [errW_none, errW_some] <;> rfl) | (simp [*, errW_none, errW_some] <;> rfl), by repeat (first | (with_reducible first | exact HB.out | apply below_alloc | apply pw_below_drewN | apply below_drew1 | refine below_set ?_ GE200.out | refine below_set ?_ GE201.out | refine below_set ?_ GE202.out) | exact HB.out)⟩
        · rw [if_neg c25] at H
          have c25b0 : decide (8192 < t205) = false := decide_eq_false c25
          clear c25
          replace H := Option.bind_eq_some_iff.mp H
          obtain ⟨t206, A380, H⟩ := H
          replace H : (if (wrap64 (t206)) ≤ a1_0 then (some (a2, a3, t204, true)) else ((bivouacref03_Cos.f t204).bind fun t207 => ((bivouacref14_times.f a1_0 t207).bind fun t208 => ((bivouacref14_clamp.f (wrap64 (a0_0 + t208)) a1_2).bind fun t209 => ((bivouacref03_Sin.f t204).bind fun t210 => ((bivouacref14_times.f a1_0 t210).bind fun t211 => ((bivouacref14_clamp.f (wrap64 (a0_1 + t211)) a1_3).bind fun t212 => (some (t209, t212, t204, false))))))))) = some (r1, r2, r3, r4) := H
          have A38 := Aside0.mk A380
          clear A380
          by_cases c39 : (wrap64 (t206)) ≤ a1_0
          · rw [if_pos c39] at H
            have c39b0 : decide ((wrap64 (t206)) ≤ a1_0) = true := decide_eq_true c39
            clear c39
            simp only [Option.some.injEq, Prod.mk.injEq] at H
            obtain ⟨rfl, rfl, rfl, rfl⟩ := H
            have hnb40 := NB200_201.out
            have hnc40 := NB201_200.out
            have hnb41 := NB200_202.out
            have hnc41 := NB202_200.out
            have hcz42_0 : wc.cell? ⟨gb200, 0, none⟩ = some (.int .i64 a0_0) := (blk_cell BK200.out 0).trans rfl
            have hcz42_1 : wc.cell? ⟨gb200, 1, none⟩ = some (.int .i64 a0_1) := (blk_cell BK200.out 1).trans rfl
            have hcz42_2 : wc.cell? ⟨gb200, 2, none⟩ = some (.int .i64 a0_2) := (blk_cell BK200.out 2).trans rfl
            have hfz42_0 := blk_frozen BK200.out 0
            have hfz42_1 := blk_frozen BK200.out 1
            have hfz42_2 := blk_frozen BK200.out 2
            try go_wp2_with (first | ((with_reducible refine gate_callee (f := 43) rfl ?_); refine goesL_ (some 32) rfl rfl Tryd.func43 (by kernel_rfl) rfl #[.int .i64 (wrap64 (a2 - a0_0)), .int .i64 (wrap64 (a3 - a0_1))] rfl (by (try simp only [List.map_toArray, List.map_cons, List.map_nil]); first | done | rfl | (simp only [List.length_drop, List.length_take]; rfl)) ?_; (with_reducible refine (bivouacref03_Heading.calls (wrap64 (a2 - a0_0)) (wrap64 (a3 - a0_1)) t203 _ ?side1 A22.out).mono ?_); (case side1 => exact Tg.TabR.below HTAB.out (by repeat (first | (with_reducible first | exact HB.out | apply below_alloc | apply pw_below_drewN | apply below_drew1 | refine below_set ?_ GE200.out | refine below_set ?_ GE201.out | refine below_set ?_ GE202.out) | exact HB.out))); rintro e w43 ⟨rfl, hb⟩; refine ⟨_, rfl, ?_⟩; have n0_ := Aside0.mk (blk_below (g := gb200) (o := .cells #[.int .i64 a0_0, .int .i64 a0_1, .int .i64 a0_2] 26 (0, 0)) (by (with_reducible repeat (first | refine blk_drewN ?_ _ | refine blk_drew ?_ | refine blk_alloc ?_ _)); exact BK200.out) hb); have n1_ := Aside0.mk (blk_below (g := gb201) (o := .cells #[.int .i64 a1_0, .int .i64 a1_1, .int .i64 a1_2, .int .i64 a1_3] 28 (0, 0)) (by (with_reducible repeat (first | refine blk_drewN ?_ _ | refine blk_drew ?_ | refine blk_alloc ?_ _)); exact BK201.out) hb); have n2_ := Aside0.mk (blk_below (g := gb202) (o := .cells #[.int .i64 0, .int .i64 0, .int .i64 0] 26 (0, 0)) (by (with_reducible repeat (first | refine blk_drewN ?_ _ | refine blk_drew ?_ | refine blk_alloc ?_ _)); exact BK202.out) hb); have n3_ := Aside0.mk (below_step (by repeat (first | (with_reducible first | exact HB.out | apply below_alloc | apply pw_below_drewN | apply below_drew1 | refine below_set ?_ GE200.out | refine below_set ?_ GE201.out | refine below_set ?_ GE202.out) | exact HB.out)) hb); clear BK200; clear BK201; clear BK202; clear HB; have BK200 := n0_; have BK201 := n1_; have BK202 := n2_; have HB := n3_; clear n0_ n1_ n2_ n3_; (try clear hb); (try clear hb2); (try clear hk); (try clear hi); have hcz44_0 : w43.cell? ⟨gb200, 0, none⟩ = some (.int .i64 a0_0) := (blk_cell BK200.out 0).trans rfl; have hcz44_1 : w43.cell? ⟨gb200, 1, none⟩ = some (.int .i64 a0_1) := (blk_cell BK200.out 1).trans rfl; have hcz44_2 : w43.cell? ⟨gb200, 2, none⟩ = some (.int .i64 a0_2) := (blk_cell BK200.out 2).trans rfl; have hfz44_0 := blk_frozen BK200.out 0; have hfz44_1 := blk_frozen BK200.out 1; have hfz44_2 := blk_frozen BK200.out 2; have hnb45 := NB201_202.out; have hnc45 := NB202_201.out; have hcz46_0 : w43.cell? ⟨gb201, 0, none⟩ = some (.int .i64 a1_0) := (blk_cell BK201.out 0).trans rfl; have hcz46_1 : w43.cell? ⟨gb201, 1, none⟩ = some (.int .i64 a1_1) := (blk_cell BK201.out 1).trans rfl; have hcz46_2 : w43.cell? ⟨gb201, 2, none⟩ = some (.int .i64 a1_2) := (blk_cell BK201.out 2).trans rfl; have hcz46_3 : w43.cell? ⟨gb201, 3, none⟩ = some (.int .i64 a1_3) := (blk_cell BK201.out 3).trans rfl; have hfz46_0 := blk_frozen BK201.out 0; have hfz46_1 := blk_frozen BK201.out 1; have hfz46_2 := blk_frozen BK201.out 2; have hfz46_3 := blk_frozen BK201.out 3) | ((with_reducible refine gate_callee (f := 44) rfl ?_); refine goesL_ (some 39) rfl rfl Tryd.func44 (by kernel_rfl) rfl #[.int .i64 a0_2, .int .i64 (wrap64 (256 * t203)), .int .i64 a1_1] rfl (by (try simp only [List.map_toArray, List.map_cons, List.map_nil]); first | done | rfl | (simp only [List.length_drop, List.length_take]; rfl)) ?_; (with_reducible refine (bivouacref03_Toward.calls a0_2 (wrap64 (256 * t203)) a1_1 t204 _ A23.out).mono ?_); rintro e w47 ⟨rfl, hb⟩; refine ⟨_, rfl, ?_⟩; have n0_ := Aside0.mk (blk_below (g := gb200) (o := .cells #[.int .i64 a0_0, .int .i64 a0_1, .int .i64 a0_2] 26 (0, 0)) (by (with_reducible repeat (first | refine blk_drewN ?_ _ | refine blk_drew ?_ | refine blk_alloc ?_ _)); exact BK200.out) hb); have n1_ := Aside0.mk (blk_below (g := gb201) (o := .cells #[.int .i64 a1_0, .int .i64 a1_1, .int .i64 a1_2, .int .i64 a1_3] 28 (0, 0)) (by (with_reducible repeat (first | refine blk_drewN ?_ _ | refine blk_drew ?_ | refine blk_alloc ?_ _)); exact BK201.out) hb); have n2_ := Aside0.mk (blk_below (g := gb202) (o := .cells #[.int .i64 0, .int .i64 0, .int .i64 0] 26 (0, 0)) (by (with_reducible repeat (first | refine blk_drewN ?_ _ | refine blk_drew ?_ | refine blk_alloc ?_ _)); exact BK202.out) hb); have n3_ := Aside0.mk (below_step (by repeat (first | (with_reducible first | exact HB.out | apply below_alloc | apply pw_below_drewN | apply below_drew1 | refine below_set ?_ GE200.out | refine below_set ?_ GE201.out | refine below_set ?_ GE202.out) | exact HB.out)) hb); clear BK200; clear BK201; clear BK202; clear HB; have BK200 := n0_; have BK201 := n1_; have BK202 := n2_; have HB := n3_; clear n0_ n1_ n2_ n3_; (try clear hb); (try clear hb2); (try clear hk); (try clear hi); have hcz48_0 : w47.cell? ⟨gb200, 0, none⟩ = some (.int .i64 a0_0) := (blk_cell BK200.out 0).trans rfl; have hcz48_1 : w47.cell? ⟨gb200, 1, none⟩ = some (.int .i64 a0_1) := (blk_cell BK200.out 1).trans rfl; have hcz48_2 : w47.cell? ⟨gb200, 2, none⟩ = some (.int .i64 a0_2) := (blk_cell BK200.out 2).trans rfl; have hfz48_0 := blk_frozen BK200.out 0; have hfz48_1 := blk_frozen BK200.out 1; have hfz48_2 := blk_frozen BK200.out 2) | ((with_reducible refine gate_callee (f := 13) rfl ?_); refine goesL_ (some 44) rfl rfl Tryd.func13 (by kernel_rfl) rfl #[.int .i64 t204, .int .i64 (wrap64 (256 * t203))] rfl (by (try simp only [List.map_toArray, List.map_cons, List.map_nil]); first | done | rfl | (simp only [List.length_drop, List.length_take]; rfl)) ?_; (with_reducible refine (bivouacref14_Off.calls t204 (wrap64 (256 * t203)) t205 _ A24.out).mono ?_); rintro e w49 ⟨rfl, hb⟩; refine ⟨_, rfl, ?_⟩; have n0_ := Aside0.mk (blk_below (g := gb200) (o := .cells #[.int .i64 a0_0, .int .i64 a0_1, .int .i64 t204] 26 (0, 0)) (by (with_reducible repeat (first | refine blk_drewN ?_ _ | refine blk_drew ?_ | refine blk_alloc ?_ _)); refine blk_put (cs := #[.int .i64 a0_0, .int .i64 a0_1, .int .i64 a0_2]) ?_ 2 _ rfl; (with_reducible repeat (first | refine blk_drewN ?_ _ | refine blk_drew ?_ | refine blk_alloc ?_ _)); exact BK200.out) hb); have n1_ := Aside0.mk (blk_below (g := gb201) (o := .cells #[.int .i64 a1_0, .int .i64 a1_1, .int .i64 a1_2, .int .i64 a1_3] 28 (0, 0)) (by (with_reducible repeat (first | refine blk_drewN ?_ _ | refine blk_drew ?_ | refine blk_alloc ?_ _)); refine blk_far ?_ NB201_200.out _; (with_reducible repeat (first | refine blk_drewN ?_ _ | refine blk_drew ?_ | refine blk_alloc ?_ _)); exact BK201.out) hb); have n2_ := Aside0.mk (blk_below (g := gb202) (o := .cells #[.int .i64 0, .int .i64 0, .int .i64 0] 26 (0, 0)) (by (with_reducible repeat (first | refine blk_drewN ?_ _ | refine blk_drew ?_ | refine blk_alloc ?_ _)); refine blk_far ?_ NB202_200.out _; (with_reducible repeat (first | refine blk_drewN ?_ _ | refine blk_drew ?_ | refine blk_alloc ?_ _)); exact BK202.out) hb); have n3_ := Aside0.mk (below_step (by repeat (first | (with_reducible first | exact HB.out | apply below_alloc | apply pw_below_drewN | apply below_drew1 | refine below_set ?_ GE200.out | refine below_set ?_ GE201.out | refine below_set ?_ GE202.out) | exact HB.out)) hb); clear BK200; clear BK201; clear BK202; clear HB; have BK200 := n0_; have BK201 := n1_; have BK202 := n2_; have HB := n3_; clear n0_ n1_ n2_ n3_; (try clear hb); (try clear hb2); (try clear hk); (try clear hi)))
            have n0_ := Aside0.mk (blk_drew BK200.out)
            have n1_ := Aside0.mk (blk_drew BK201.out)
            have n2_ := Aside0.mk (blk_drew BK202.out)
            have n3_ := Aside0.mk (below_drew1 HB.out)
            clear BK200
            clear BK201
            clear BK202
            clear HB
            have BK200 := n0_
            have BK201 := n1_
            have BK202 := n2_
            have HB := n3_
            clear n0_ n1_ n2_ n3_
            refine start_ (n := 10) (S := fun w' => w'.cell? ⟨gb200, 0, none⟩ = some (.int .i64 a0_0) ∧ w'.cell? ⟨gb200, 1, none⟩ = some (.int .i64 a0_1) ∧ w'.cell? ⟨gb200, 2, none⟩ = some (.int .i64 t204)) (ds := []) #[false, false, false, false, false, false, false, false, false, false] (by kernel_rfl) rfl rfl ⟨(blk_cell BK200.out 0).trans rfl, (blk_cell BK200.out 1).trans rfl, (blk_cell BK200.out 2).trans rfl⟩ (fun hHeld => ?_); refine with_tabW bivouacref14_Step.tab7 bivouacref14_Step.bits7 (fun HT_ HW_ => ?_)
            generalize w49.drew = w50 at BK200 BK201 BK202 HB hHeld ⊢
            refine pure_ (i := 0) (N := some 47) (v := ?_) (a' := ?_) #[true, false, false, false, false, false, false, false, false, false] rfl rfl (any_of HT_.out (by kernel_rfl)) (fun _ _ _ h => h) (Or.inl ⟨by rfl, ?_⟩) ?_ ?_
            rotate_left
            · intro w'
              go_simp
              with_reducible rfl
            rotate_left
            · simp only [Act.put, List.setIfInBounds_toArray, List.set_cons_zero, List.set_cons_succ, i64_w, i32_w]
              rfl
            refine pure_ (i := 1) (N := some 48) (v := ?_) (a' := ?_) #[true, true, false, false, false, false, false, false, false, false] rfl rfl (any_of HT_.out (by kernel_rfl)) (fun _ _ _ h => h) (Or.inl ⟨by rfl, ?_⟩) ?_ ?_
            rotate_left
            · intro w'
              go_simp
              with_reducible rfl
            rotate_left
            · simp only [Act.put, List.setIfInBounds_toArray, List.set_cons_zero, List.set_cons_succ, i64_w, i32_w]
              rfl
            refine pure_ (i := 4) (N := some 51) (v := ?_) (a' := ?_) #[true, true, false, false, true, false, false, false, false, false] rfl rfl (any_of HT_.out (by kernel_rfl)) (fun _ _ _ h => h) (Or.inl ⟨by rfl, ?_⟩) ?_ ?_
            rotate_left
            · intro w'
              go_simp
              with_reducible rfl
            rotate_left
            · simp only [Act.put, List.setIfInBounds_toArray, List.set_cons_zero, List.set_cons_succ, i64_w, i32_w]
              rfl
            refine pure_ (i := 5) (N := some 52) (v := ?_) (a' := ?_) #[true, true, false, false, true, true, false, false, false, false] rfl rfl (any_of HT_.out (by kernel_rfl)) (fun _ _ _ h => h) (Or.inl ⟨by rfl, ?_⟩) ?_ ?_
            rotate_left
            · intro w'
              go_simp
              with_reducible rfl
            rotate_left
            · simp only [Act.put, List.setIfInBounds_toArray, List.set_cons_zero, List.set_cons_succ, i64_w, i32_w]
              rfl
            refine take_ (i := 2) (N := some 49) (v := ?_) (a' := ?_) #[true, true, true, false, true, true, false, false, false, false] rfl rfl (take_ofW HT_.out HW_.out (by kernel_rfl)) (fun _ _ _ h => h) (Or.inl ⟨by rfl, ?_⟩) hHeld ?_ ?_
            rotate_left
            · rintro w' ⟨s0, s1, s2⟩
              go_simp
              with_reducible rfl
            rotate_left
            · simp only [Act.put, List.setIfInBounds_toArray, List.set_cons_zero, List.set_cons_succ, i64_w, i32_w]
              rfl
            refine pure_ (i := 3) (N := some 50) (v := ?_) (a' := ?_) #[true, true, true, true, true, true, false, false, false, false] rfl rfl (any_of HT_.out (by kernel_rfl)) (fun _ _ _ h => h) (Or.inl ⟨by rfl, ?_⟩) ?_ ?_
            rotate_left
            · intro w'
              go_simp
              with_reducible rfl
            rotate_left
            · simp only [Act.put, List.setIfInBounds_toArray, List.set_cons_zero, List.set_cons_succ, i64_w, i32_w]
              rfl
            refine pure_ (i := 8) (N := some 11) (v := ?_) (a' := ?_) #[true, true, true, true, true, true, false, false, true, false] rfl rfl (any_of HT_.out (by kernel_rfl)) (fun _ _ _ h => h) (Or.inl ⟨by rfl, ?_⟩) ?_ ?_
            rotate_left
            · intro w'
              go_simp
              with_reducible rfl
            rotate_left
            · simp only [Act.put, List.setIfInBounds_toArray, List.set_cons_zero, List.set_cons_succ, i64_w, i32_w]
              rfl
            refine take_ (i := 6) (N := some 53) (v := ?_) (a' := ?_) #[true, true, true, true, true, true, true, false, true, false] rfl rfl (take_ofW HT_.out HW_.out (by kernel_rfl)) (fun _ _ _ h => h) (Or.inl ⟨by rfl, ?_⟩) hHeld ?_ ?_
            rotate_left
            · rintro w' ⟨s0, s1, s2⟩
              go_simp
              with_reducible rfl
            rotate_left
            · simp only [Act.put, List.setIfInBounds_toArray, List.set_cons_zero, List.set_cons_succ, i64_w, i32_w]
              rfl
            refine pure_ (i := 7) (N := some 54) (v := ?_) (a' := ?_) #[true, true, true, true, true, true, true, true, true, false] rfl rfl (any_of HT_.out (by kernel_rfl)) (fun _ _ _ h => h) (Or.inl ⟨by rfl, ?_⟩) ?_ ?_
            rotate_left
            · intro w'
              go_simp
              with_reducible rfl
            rotate_left
            · simp only [Act.put, List.setIfInBounds_toArray, List.set_cons_zero, List.set_cons_succ, i64_w, i32_w]
              rfl
            refine pure_ (i := 9) (N := some 12) (v := ?_) (a' := ?_) #[true, true, true, true, true, true, true, true, true, true] rfl rfl (any_of HT_.out (by kernel_rfl)) (fun _ _ _ h => h) (Or.inl ⟨by rfl, ?_⟩) ?_ ?_
            rotate_left
            · intro w'
              go_simp
              with_reducible rfl
            rotate_left
            · simp only [Act.put, List.setIfInBounds_toArray, List.set_cons_zero, List.set_cons_succ, i64_w, i32_w]
              rfl
            refine done_ (done_of HT_.out (by kernel_rfl)) ?_
            try go_wp2
            have n0_ := Aside0.mk (blk_drew BK200.out)
            have n1_ := Aside0.mk (blk_drew BK201.out)
            have n2_ := Aside0.mk (blk_drew BK202.out)
            have n3_ := Aside0.mk (below_drew1 HB.out)
            clear BK200
            clear BK201
            clear BK202
            clear HB
            have BK200 := n0_
            have BK201 := n1_
            have BK202 := n2_
            have HB := n3_
            clear n0_ n1_ n2_ n3_
            refine start_ (n := 13) (S := fun w' => w'.cell? ⟨gb201, 0, none⟩ = some (.int .i64 a1_0) ∧ w'.cell? ⟨gb201, 1, none⟩ = some (.int .i64 a1_1) ∧ w'.cell? ⟨gb201, 2, none⟩ = some (.int .i64 a1_2) ∧ w'.cell? ⟨gb201, 3, none⟩ = some (.int .i64 a1_3)) (ds := []) #[false, false, false, false, false, false, false, false, false, false, false, false, false] (by kernel_rfl) rfl rfl ⟨(blk_cell BK201.out 0).trans rfl, (blk_cell BK201.out 1).trans rfl, (blk_cell BK201.out 2).trans rfl, (blk_cell BK201.out 3).trans rfl⟩ (fun hHeld => ?_); refine with_tabW bivouacref14_Step.tab8 bivouacref14_Step.bits8 (fun HT_ HW_ => ?_)
            generalize w50.drew = w51 at BK200 BK201 BK202 HB hHeld ⊢
            refine pure_ (i := 0) (N := some 55) (v := ?_) (a' := ?_) #[true, false, false, false, false, false, false, false, false, false, false, false, false] rfl rfl (any_of HT_.out (by kernel_rfl)) (fun _ _ _ h => h) (Or.inl ⟨by rfl, ?_⟩) ?_ ?_
            rotate_left
            · intro w'
              go_simp
              with_reducible rfl
            rotate_left
            · simp only [Act.put, List.setIfInBounds_toArray, List.set_cons_zero, List.set_cons_succ, i64_w, i32_w]
              rfl
            refine pure_ (i := 1) (N := some 56) (v := ?_) (a' := ?_) #[true, true, false, false, false, false, false, false, false, false, false, false, false] rfl rfl (any_of HT_.out (by kernel_rfl)) (fun _ _ _ h => h) (Or.inl ⟨by rfl, ?_⟩) ?_ ?_
            rotate_left
            · intro w'
              go_simp
              with_reducible rfl
            rotate_left
            · simp only [Act.put, List.setIfInBounds_toArray, List.set_cons_zero, List.set_cons_succ, i64_w, i32_w]
              rfl
            refine pure_ (i := 2) (N := some 57) (v := ?_) (a' := ?_) #[true, true, true, false, false, false, false, false, false, false, false, false, false] rfl rfl (any_of HT_.out (by kernel_rfl)) (fun _ _ _ h => h) (Or.inl ⟨by rfl, ?_⟩) ?_ ?_
            rotate_left
            · intro w'
              go_simp
              with_reducible rfl
            rotate_left
            · simp only [Act.put, List.setIfInBounds_toArray, List.set_cons_zero, List.set_cons_succ, i64_w, i32_w]
              rfl
            refine pure_ (i := 3) (N := some 58) (v := ?_) (a' := ?_) #[true, true, true, true, false, false, false, false, false, false, false, false, false] rfl rfl (any_of HT_.out (by kernel_rfl)) (fun _ _ _ h => h) (Or.inl ⟨by rfl, ?_⟩) ?_ ?_
            rotate_left
            · intro w'
              go_simp
              with_reducible rfl
            rotate_left
            · simp only [Act.put, List.setIfInBounds_toArray, List.set_cons_zero, List.set_cons_succ, i64_w, i32_w]
              rfl
            refine pure_ (i := 4) (N := some 59) (v := ?_) (a' := ?_) #[true, true, true, true, true, false, false, false, false, false, false, false, false] rfl rfl (any_of HT_.out (by kernel_rfl)) (fun _ _ _ h => h) (Or.inl ⟨by rfl, ?_⟩) ?_ ?_
            rotate_left
            · intro w'
              go_simp
              with_reducible rfl
            rotate_left
            · simp only [Act.put, List.setIfInBounds_toArray, List.set_cons_zero, List.set_cons_succ, i64_w, i32_w]
              rfl
            refine pure_ (i := 5) (N := some 60) (v := ?_) (a' := ?_) #[true, true, true, true, true, true, false, false, false, false, false, false, false] rfl rfl (any_of HT_.out (by kernel_rfl)) (fun _ _ _ h => h) (Or.inl ⟨by rfl, ?_⟩) ?_ ?_
            rotate_left
            · intro w'
              go_simp
              with_reducible rfl
            rotate_left
            · simp only [Act.put, List.setIfInBounds_toArray, List.set_cons_zero, List.set_cons_succ, i64_w, i32_w]
              rfl
            refine pure_ (i := 6) (N := some 61) (v := ?_) (a' := ?_) #[true, true, true, true, true, true, true, false, false, false, false, false, false] rfl rfl (any_of HT_.out (by kernel_rfl)) (fun _ _ _ h => h) (Or.inl ⟨by rfl, ?_⟩) ?_ ?_
            rotate_left
            · intro w'
              go_simp
              with_reducible rfl
            rotate_left
            · simp only [Act.put, List.setIfInBounds_toArray, List.set_cons_zero, List.set_cons_succ, i64_w, i32_w]
              rfl
            refine pure_ (i := 7) (N := some 62) (v := ?_) (a' := ?_) #[true, true, true, true, true, true, true, true, false, false, false, false, false] rfl rfl (any_of HT_.out (by kernel_rfl)) (fun _ _ _ h => h) (Or.inl ⟨by rfl, ?_⟩) ?_ ?_
            rotate_left
            · intro w'
              go_simp
              with_reducible rfl
            rotate_left
            · simp only [Act.put, List.setIfInBounds_toArray, List.set_cons_zero, List.set_cons_succ, i64_w, i32_w]
              rfl
            refine pure_ (i := 10) (N := some 65) (v := ?_) (a' := ?_) #[true, true, true, true, true, true, true, true, false, false, true, false, false] rfl rfl (any_of HT_.out (by kernel_rfl)) (fun _ _ _ h => h) (Or.inl ⟨by rfl, ?_⟩) ?_ ?_
            rotate_left
            · intro w'
              go_simp
              with_reducible rfl
            rotate_left
            · simp only [Act.put, List.setIfInBounds_toArray, List.set_cons_zero, List.set_cons_succ, i64_w, i32_w]
              rfl
            refine take_ (i := 11) (N := some 66) (v := ?_) (a' := ?_) #[true, true, true, true, true, true, true, true, false, false, true, true, false] rfl rfl (take_ofW HT_.out HW_.out (by kernel_rfl)) (fun _ _ _ h => h) (Or.inl ⟨by rfl, ?_⟩) hHeld ?_ ?_
            rotate_left
            · rintro w' ⟨s0, s1, s2, s3⟩
              go_simp
              with_reducible rfl
            rotate_left
            · simp only [Act.put, List.setIfInBounds_toArray, List.set_cons_zero, List.set_cons_succ, i64_w, i32_w]
              rfl
            refine one_ (i := 8) (N := some 63) #[true, true, true, true, true, true, true, true, true, false, true, true, false] rfl rfl (one_of HT_.out (by kernel_rfl)) (by decide) (fun K hK => ?_)
            refine goes_ Tryd.func45 (by kernel_rfl) rfl #[.int .u64 (IntKind.u64.wrap (wrap64 ((wrap64 ((wrap64 (a2 - a0_0)) * (wrap64 (a2 - a0_0)))) + (wrap64 ((wrap64 (a3 - a0_1)) * (wrap64 (a3 - a0_1)))))))] (by rfl) rfl rfl (by (try simp only [List.map_toArray, List.map_cons, List.map_nil]); first | done | rfl | (simp only [List.length_drop, List.length_take]; rfl)) ?_
            with_reducible refine (bivouacref02_Root.calls (IntKind.u64.wrap (wrap64 ((wrap64 ((wrap64 (a2 - a0_0)) * (wrap64 (a2 - a0_0)))) + (wrap64 ((wrap64 (a3 - a0_1)) * (wrap64 (a3 - a0_1))))))) t206 _ A38.out).mono ?_
            rintro e w52 ⟨rfl, hb⟩
            refine ⟨_, rfl, ?_⟩
            have n0_ := Aside0.mk (blk_below (g := gb200) (o := .cells #[.int .i64 a0_0, .int .i64 a0_1, .int .i64 t204] 26 (0, 0)) (by (with_reducible repeat (first | refine blk_drewN ?_ _ | refine blk_drew ?_ | refine blk_alloc ?_ _)); exact BK200.out) hb)
            have n1_ := Aside0.mk (blk_below (g := gb201) (o := .cells #[.int .i64 a1_0, .int .i64 a1_1, .int .i64 a1_2, .int .i64 a1_3] 28 (0, 0)) (by (with_reducible repeat (first | refine blk_drewN ?_ _ | refine blk_drew ?_ | refine blk_alloc ?_ _)); exact BK201.out) hb)
            have n2_ := Aside0.mk (blk_below (g := gb202) (o := .cells #[.int .i64 0, .int .i64 0, .int .i64 0] 26 (0, 0)) (by (with_reducible repeat (first | refine blk_drewN ?_ _ | refine blk_drew ?_ | refine blk_alloc ?_ _)); exact BK202.out) hb)
            have n3_ := Aside0.mk (below_step (by repeat (first | (with_reducible first | exact HB.out | apply below_alloc | apply pw_below_drewN | apply below_drew1 | refine below_set ?_ GE200.out | refine below_set ?_ GE201.out | refine below_set ?_ GE202.out) | exact HB.out)) hb)
            clear BK200
            clear BK201
            clear BK202
            clear HB
            have BK200 := n0_
            have BK201 := n1_
            have BK202 := n2_
            have HB := n3_
            clear n0_ n1_ n2_ n3_
            (try clear hb)
            (try clear hb2)
            (try clear hk)
            (try clear hi)
            refine hK.out _ _ ⟨(blk_cell BK201.out 0).trans rfl, (blk_cell BK201.out 1).trans rfl, (blk_cell BK201.out 2).trans rfl, (blk_cell BK201.out 3).trans rfl⟩ (fun hHeld => ?_)
            clear hK K
            refine norm_ (a' := ?_) ?_ ?_
            rotate_left
            · show Act.put _ (some 63) _ = _
              simp only [Act.put, List.setIfInBounds_toArray, List.set_cons_zero, List.set_cons_succ, i64_w, i32_w]
              rfl
            refine pure_ (i := 9) (N := some 64) (v := ?_) (a' := ?_) #[true, true, true, true, true, true, true, true, true, true, true, true, false] rfl rfl (any_of HT_.out (by kernel_rfl)) (fun _ _ _ h => h) (Or.inl ⟨by rfl, ?_⟩) ?_ ?_
            rotate_left
            · intro w'
              go_simp
              with_reducible rfl
            rotate_left
            · simp only [Act.put, List.setIfInBounds_toArray, List.set_cons_zero, List.set_cons_succ, i64_w, i32_w]
              rfl
            refine pure_ (i := 12) (N := some 67) (v := ?_) (a' := ?_) #[true, true, true, true, true, true, true, true, true, true, true, true, true] rfl rfl (any_of HT_.out (by kernel_rfl)) (fun _ _ _ h => h) (Or.inl ⟨by rfl, ?_⟩) ?_ ?_
            rotate_left
            · intro w'
              go_simp
              with_reducible rfl
            rotate_left
            · simp only [Act.put, List.setIfInBounds_toArray, List.set_cons_zero, List.set_cons_succ, i64_w, i32_w]
              rfl
            refine done_ (done_of HT_.out (by kernel_rfl)) ?_
            have hcz53_0 : w52.cell? ⟨gb200, 0, none⟩ = some (.int .i64 a0_0) := (blk_cell BK200.out 0).trans rfl
            have hcz53_1 : w52.cell? ⟨gb200, 1, none⟩ = some (.int .i64 a0_1) := (blk_cell BK200.out 1).trans rfl
            have hcz53_2 : w52.cell? ⟨gb200, 2, none⟩ = some (.int .i64 t204) := (blk_cell BK200.out 2).trans rfl
            have hfz53_0 := blk_frozen BK200.out 0
            have hfz53_1 := blk_frozen BK200.out 1
            have hfz53_2 := blk_frozen BK200.out 2
            have hcz54_0 : w52.cell? ⟨gb202, 0, none⟩ = some (.int .i64 0) := (blk_cell BK202.out 0).trans rfl
            have hcz54_1 : w52.cell? ⟨gb202, 1, none⟩ = some (.int .i64 0) := (blk_cell BK202.out 1).trans rfl
            have hcz54_2 : w52.cell? ⟨gb202, 2, none⟩ = some (.int .i64 0) := (blk_cell BK202.out 2).trans rfl
            have hfz54_0 := blk_frozen BK202.out 0
            have hfz54_1 := blk_frozen BK202.out 1
            have hfz54_2 := blk_frozen BK202.out 2
            try go_wp2
            refine bodyPost_ret (results_ct rfl _ _ gb202 26 #[.int .i64 a2, .int .i64 a3, .int .i64 t204] (0, 0) _ rfl (by (with_reducible repeat (first | refine blk_drewN ?_ _ | refine blk_drew ?_ | refine blk_alloc ?_ _)); refine blk_put (cs := #[.int .i64 a2, .int .i64 a3, .int .i64 0]) ?_ 2 _ rfl; (with_reducible repeat (first | refine blk_drewN ?_ _ | refine blk_drew ?_ | refine blk_alloc ?_ _)); refine blk_put (cs := #[.int .i64 a2, .int .i64 0, .int .i64 0]) ?_ 1 _ rfl; (with_reducible repeat (first | refine blk_drewN ?_ _ | refine blk_drew ?_ | refine blk_alloc ?_ _)); refine blk_put (cs := #[.int .i64 0, .int .i64 0, .int .i64 0]) ?_ 0 _ rfl; (with_reducible repeat (first | refine blk_drewN ?_ _ | refine blk_drew ?_ | refine blk_alloc ?_ _)); exact BK202.out) Tryd.underlying26 rfl (by kernel_rfl)) rfl ?_
            exact ⟨by first | rfl | (simp [errW_none, errW_some] <;> rfl) | (simp [*, errW_none, errW_some] <;> rfl), by repeat (first | (with_reducible first | exact HB.out | apply below_alloc | apply pw_below_drewN | apply below_drew1 | refine below_set ?_ GE200.out | refine below_set ?_ GE201.out | refine below_set ?_ GE202.out) | exact HB.out)⟩
          · rw [if_neg c39] at H
            have c39b0 : decide ((wrap64 (t206)) ≤ a1_0) = false := decide_eq_false c39
            clear c39
            replace H := Option.bind_eq_some_iff.mp H
            obtain ⟨t207, A550, H⟩ := H
            replace H : ((bivouacref14_times.f a1_0 t207).bind fun t208 => ((bivouacref14_clamp.f (wrap64 (a0_0 + t208)) a1_2).bind fun t209 => ((bivouacref03_Sin.f t204).bind fun t210 => ((bivouacref14_times.f a1_0 t210).bind fun t211 => ((bivouacref14_clamp.f (wrap64 (a0_1 + t211)) a1_3).bind fun t212 => (some (t209, t212, t204, false))))))) = some (r1, r2, r3, r4) := H
            have A55 := Aside0.mk A550
            clear A550
            replace H := Option.bind_eq_some_iff.mp H
            obtain ⟨t208, A560, H⟩ := H
            replace H : ((bivouacref14_clamp.f (wrap64 (a0_0 + t208)) a1_2).bind fun t209 => ((bivouacref03_Sin.f t204).bind fun t210 => ((bivouacref14_times.f a1_0 t210).bind fun t211 => ((bivouacref14_clamp.f (wrap64 (a0_1 + t211)) a1_3).bind fun t212 => (some (t209, t212, t204, false)))))) = some (r1, r2, r3, r4) := H
            have A56 := Aside0.mk A560
            clear A560
            replace H := Option.bind_eq_some_iff.mp H
            obtain ⟨t209, A570, H⟩ := H
            replace H : ((bivouacref03_Sin.f t204).bind fun t210 => ((bivouacref14_times.f a1_0 t210).bind fun t211 => ((bivouacref14_clamp.f (wrap64 (a0_1 + t211)) a1_3).bind fun t212 => (some (t209, t212, t204, false))))) = some (r1, r2, r3, r4) := H
            have A57 := Aside0.mk A570
            clear A570
            replace H := Option.bind_eq_some_iff.mp H
            obtain ⟨t210, A580, H⟩ := H
            replace H : ((bivouacref14_times.f a1_0 t210).bind fun t211 => ((bivouacref14_clamp.f (wrap64 (a0_1 + t211)) a1_3).bind fun t212 => (some (t209, t212, t204, false)))) = some (r1, r2, r3, r4) := H
            have A58 := Aside0.mk A580
            clear A580
            replace H := Option.bind_eq_some_iff.mp H
            obtain ⟨t211, A590, H⟩ := H
            replace H : ((bivouacref14_clamp.f (wrap64 (a0_1 + t211)) a1_3).bind fun t212 => (some (t209, t212, t204, false))) = some (r1, r2, r3, r4) := H
            have A59 := Aside0.mk A590
            clear A590
            replace H := Option.bind_eq_some_iff.mp H
            obtain ⟨t212, A600, H⟩ := H
            replace H : (some (t209, t212, t204, false)) = some (r1, r2, r3, r4) := H
            have A60 := Aside0.mk A600
            clear A600
            simp only [Option.some.injEq, Prod.mk.injEq] at H
            obtain ⟨rfl, rfl, rfl, rfl⟩ := H
            have hnb61 := NB200_201.out
            have hnc61 := NB201_200.out
            have hnb62 := NB200_202.out
            have hnc62 := NB202_200.out
            have hcz63_0 : wc.cell? ⟨gb200, 0, none⟩ = some (.int .i64 a0_0) := (blk_cell BK200.out 0).trans rfl
            have hcz63_1 : wc.cell? ⟨gb200, 1, none⟩ = some (.int .i64 a0_1) := (blk_cell BK200.out 1).trans rfl
            have hcz63_2 : wc.cell? ⟨gb200, 2, none⟩ = some (.int .i64 a0_2) := (blk_cell BK200.out 2).trans rfl
            have hfz63_0 := blk_frozen BK200.out 0
            have hfz63_1 := blk_frozen BK200.out 1
            have hfz63_2 := blk_frozen BK200.out 2
            try go_wp2_with (first | ((with_reducible refine gate_callee (f := 43) rfl ?_); refine goesL_ (some 32) rfl rfl Tryd.func43 (by kernel_rfl) rfl #[.int .i64 (wrap64 (a2 - a0_0)), .int .i64 (wrap64 (a3 - a0_1))] rfl (by (try simp only [List.map_toArray, List.map_cons, List.map_nil]); first | done | rfl | (simp only [List.length_drop, List.length_take]; rfl)) ?_; (with_reducible refine (bivouacref03_Heading.calls (wrap64 (a2 - a0_0)) (wrap64 (a3 - a0_1)) t203 _ ?side1 A22.out).mono ?_); (case side1 => exact Tg.TabR.below HTAB.out (by repeat (first | (with_reducible first | exact HB.out | apply below_alloc | apply pw_below_drewN | apply below_drew1 | refine below_set ?_ GE200.out | refine below_set ?_ GE201.out | refine below_set ?_ GE202.out) | exact HB.out))); rintro e w64 ⟨rfl, hb⟩; refine ⟨_, rfl, ?_⟩; have n0_ := Aside0.mk (blk_below (g := gb200) (o := .cells #[.int .i64 a0_0, .int .i64 a0_1, .int .i64 a0_2] 26 (0, 0)) (by (with_reducible repeat (first | refine blk_drewN ?_ _ | refine blk_drew ?_ | refine blk_alloc ?_ _)); exact BK200.out) hb); have n1_ := Aside0.mk (blk_below (g := gb201) (o := .cells #[.int .i64 a1_0, .int .i64 a1_1, .int .i64 a1_2, .int .i64 a1_3] 28 (0, 0)) (by (with_reducible repeat (first | refine blk_drewN ?_ _ | refine blk_drew ?_ | refine blk_alloc ?_ _)); exact BK201.out) hb); have n2_ := Aside0.mk (blk_below (g := gb202) (o := .cells #[.int .i64 0, .int .i64 0, .int .i64 0] 26 (0, 0)) (by (with_reducible repeat (first | refine blk_drewN ?_ _ | refine blk_drew ?_ | refine blk_alloc ?_ _)); exact BK202.out) hb); have n3_ := Aside0.mk (below_step (by repeat (first | (with_reducible first | exact HB.out | apply below_alloc | apply pw_below_drewN | apply below_drew1 | refine below_set ?_ GE200.out | refine below_set ?_ GE201.out | refine below_set ?_ GE202.out) | exact HB.out)) hb); clear BK200; clear BK201; clear BK202; clear HB; have BK200 := n0_; have BK201 := n1_; have BK202 := n2_; have HB := n3_; clear n0_ n1_ n2_ n3_; (try clear hb); (try clear hb2); (try clear hk); (try clear hi); have hcz65_0 : w64.cell? ⟨gb200, 0, none⟩ = some (.int .i64 a0_0) := (blk_cell BK200.out 0).trans rfl; have hcz65_1 : w64.cell? ⟨gb200, 1, none⟩ = some (.int .i64 a0_1) := (blk_cell BK200.out 1).trans rfl; have hcz65_2 : w64.cell? ⟨gb200, 2, none⟩ = some (.int .i64 a0_2) := (blk_cell BK200.out 2).trans rfl; have hfz65_0 := blk_frozen BK200.out 0; have hfz65_1 := blk_frozen BK200.out 1; have hfz65_2 := blk_frozen BK200.out 2; have hnb66 := NB201_202.out; have hnc66 := NB202_201.out; have hcz67_0 : w64.cell? ⟨gb201, 0, none⟩ = some (.int .i64 a1_0) := (blk_cell BK201.out 0).trans rfl; have hcz67_1 : w64.cell? ⟨gb201, 1, none⟩ = some (.int .i64 a1_1) := (blk_cell BK201.out 1).trans rfl; have hcz67_2 : w64.cell? ⟨gb201, 2, none⟩ = some (.int .i64 a1_2) := (blk_cell BK201.out 2).trans rfl; have hcz67_3 : w64.cell? ⟨gb201, 3, none⟩ = some (.int .i64 a1_3) := (blk_cell BK201.out 3).trans rfl; have hfz67_0 := blk_frozen BK201.out 0; have hfz67_1 := blk_frozen BK201.out 1; have hfz67_2 := blk_frozen BK201.out 2; have hfz67_3 := blk_frozen BK201.out 3) | ((with_reducible refine gate_callee (f := 44) rfl ?_); refine goesL_ (some 39) rfl rfl Tryd.func44 (by kernel_rfl) rfl #[.int .i64 a0_2, .int .i64 (wrap64 (256 * t203)), .int .i64 a1_1] rfl (by (try simp only [List.map_toArray, List.map_cons, List.map_nil]); first | done | rfl | (simp only [List.length_drop, List.length_take]; rfl)) ?_; (with_reducible refine (bivouacref03_Toward.calls a0_2 (wrap64 (256 * t203)) a1_1 t204 _ A23.out).mono ?_); rintro e w68 ⟨rfl, hb⟩; refine ⟨_, rfl, ?_⟩; have n0_ := Aside0.mk (blk_below (g := gb200) (o := .cells #[.int .i64 a0_0, .int .i64 a0_1, .int .i64 a0_2] 26 (0, 0)) (by (with_reducible repeat (first | refine blk_drewN ?_ _ | refine blk_drew ?_ | refine blk_alloc ?_ _)); exact BK200.out) hb); have n1_ := Aside0.mk (blk_below (g := gb201) (o := .cells #[.int .i64 a1_0, .int .i64 a1_1, .int .i64 a1_2, .int .i64 a1_3] 28 (0, 0)) (by (with_reducible repeat (first | refine blk_drewN ?_ _ | refine blk_drew ?_ | refine blk_alloc ?_ _)); exact BK201.out) hb); have n2_ := Aside0.mk (blk_below (g := gb202) (o := .cells #[.int .i64 0, .int .i64 0, .int .i64 0] 26 (0, 0)) (by (with_reducible repeat (first | refine blk_drewN ?_ _ | refine blk_drew ?_ | refine blk_alloc ?_ _)); exact BK202.out) hb); have n3_ := Aside0.mk (below_step (by repeat (first | (with_reducible first | exact HB.out | apply below_alloc | apply pw_below_drewN | apply below_drew1 | refine below_set ?_ GE200.out | refine below_set ?_ GE201.out | refine below_set ?_ GE202.out) | exact HB.out)) hb); clear BK200; clear BK201; clear BK202; clear HB; have BK200 := n0_; have BK201 := n1_; have BK202 := n2_; have HB := n3_; clear n0_ n1_ n2_ n3_; (try clear hb); (try clear hb2); (try clear hk); (try clear hi); have hcz69_0 : w68.cell? ⟨gb200, 0, none⟩ = some (.int .i64 a0_0) := (blk_cell BK200.out 0).trans rfl; have hcz69_1 : w68.cell? ⟨gb200, 1, none⟩ = some (.int .i64 a0_1) := (blk_cell BK200.out 1).trans rfl; have hcz69_2 : w68.cell? ⟨gb200, 2, none⟩ = some (.int .i64 a0_2) := (blk_cell BK200.out 2).trans rfl; have hfz69_0 := blk_frozen BK200.out 0; have hfz69_1 := blk_frozen BK200.out 1; have hfz69_2 := blk_frozen BK200.out 2) | ((with_reducible refine gate_callee (f := 13) rfl ?_); refine goesL_ (some 44) rfl rfl Tryd.func13 (by kernel_rfl) rfl #[.int .i64 t204, .int .i64 (wrap64 (256 * t203))] rfl (by (try simp only [List.map_toArray, List.map_cons, List.map_nil]); first | done | rfl | (simp only [List.length_drop, List.length_take]; rfl)) ?_; (with_reducible refine (bivouacref14_Off.calls t204 (wrap64 (256 * t203)) t205 _ A24.out).mono ?_); rintro e w70 ⟨rfl, hb⟩; refine ⟨_, rfl, ?_⟩; have n0_ := Aside0.mk (blk_below (g := gb200) (o := .cells #[.int .i64 a0_0, .int .i64 a0_1, .int .i64 t204] 26 (0, 0)) (by (with_reducible repeat (first | refine blk_drewN ?_ _ | refine blk_drew ?_ | refine blk_alloc ?_ _)); refine blk_put (cs := #[.int .i64 a0_0, .int .i64 a0_1, .int .i64 a0_2]) ?_ 2 _ rfl; (with_reducible repeat (first | refine blk_drewN ?_ _ | refine blk_drew ?_ | refine blk_alloc ?_ _)); exact BK200.out) hb); have n1_ := Aside0.mk (blk_below (g := gb201) (o := .cells #[.int .i64 a1_0, .int .i64 a1_1, .int .i64 a1_2, .int .i64 a1_3] 28 (0, 0)) (by (with_reducible repeat (first | refine blk_drewN ?_ _ | refine blk_drew ?_ | refine blk_alloc ?_ _)); refine blk_far ?_ NB201_200.out _; (with_reducible repeat (first | refine blk_drewN ?_ _ | refine blk_drew ?_ | refine blk_alloc ?_ _)); exact BK201.out) hb); have n2_ := Aside0.mk (blk_below (g := gb202) (o := .cells #[.int .i64 0, .int .i64 0, .int .i64 0] 26 (0, 0)) (by (with_reducible repeat (first | refine blk_drewN ?_ _ | refine blk_drew ?_ | refine blk_alloc ?_ _)); refine blk_far ?_ NB202_200.out _; (with_reducible repeat (first | refine blk_drewN ?_ _ | refine blk_drew ?_ | refine blk_alloc ?_ _)); exact BK202.out) hb); have n3_ := Aside0.mk (below_step (by repeat (first | (with_reducible first | exact HB.out | apply below_alloc | apply pw_below_drewN | apply below_drew1 | refine below_set ?_ GE200.out | refine below_set ?_ GE201.out | refine below_set ?_ GE202.out) | exact HB.out)) hb); clear BK200; clear BK201; clear BK202; clear HB; have BK200 := n0_; have BK201 := n1_; have BK202 := n2_; have HB := n3_; clear n0_ n1_ n2_ n3_; (try clear hb); (try clear hb2); (try clear hk); (try clear hi)))
            have n0_ := Aside0.mk (blk_drew BK200.out)
            have n1_ := Aside0.mk (blk_drew BK201.out)
            have n2_ := Aside0.mk (blk_drew BK202.out)
            have n3_ := Aside0.mk (below_drew1 HB.out)
            clear BK200
            clear BK201
            clear BK202
            clear HB
            have BK200 := n0_
            have BK201 := n1_
            have BK202 := n2_
            have HB := n3_
            clear n0_ n1_ n2_ n3_
            refine start_ (n := 10) (S := fun w' => w'.cell? ⟨gb200, 0, none⟩ = some (.int .i64 a0_0) ∧ w'.cell? ⟨gb200, 1, none⟩ = some (.int .i64 a0_1) ∧ w'.cell? ⟨gb200, 2, none⟩ = some (.int .i64 t204)) (ds := []) #[false, false, false, false, false, false, false, false, false, false] (by kernel_rfl) rfl rfl ⟨(blk_cell BK200.out 0).trans rfl, (blk_cell BK200.out 1).trans rfl, (blk_cell BK200.out 2).trans rfl⟩ (fun hHeld => ?_); refine with_tabW bivouacref14_Step.tab7 bivouacref14_Step.bits7 (fun HT_ HW_ => ?_)
            generalize w70.drew = w71 at BK200 BK201 BK202 HB hHeld ⊢
            refine pure_ (i := 0) (N := some 47) (v := ?_) (a' := ?_) #[true, false, false, false, false, false, false, false, false, false] rfl rfl (any_of HT_.out (by kernel_rfl)) (fun _ _ _ h => h) (Or.inl ⟨by rfl, ?_⟩) ?_ ?_
            rotate_left
            · intro w'
              go_simp
              with_reducible rfl
            rotate_left
            · simp only [Act.put, List.setIfInBounds_toArray, List.set_cons_zero, List.set_cons_succ, i64_w, i32_w]
              rfl
            refine pure_ (i := 1) (N := some 48) (v := ?_) (a' := ?_) #[true, true, false, false, false, false, false, false, false, false] rfl rfl (any_of HT_.out (by kernel_rfl)) (fun _ _ _ h => h) (Or.inl ⟨by rfl, ?_⟩) ?_ ?_
            rotate_left
            · intro w'
              go_simp
              with_reducible rfl
            rotate_left
            · simp only [Act.put, List.setIfInBounds_toArray, List.set_cons_zero, List.set_cons_succ, i64_w, i32_w]
              rfl
            refine pure_ (i := 4) (N := some 51) (v := ?_) (a' := ?_) #[true, true, false, false, true, false, false, false, false, false] rfl rfl (any_of HT_.out (by kernel_rfl)) (fun _ _ _ h => h) (Or.inl ⟨by rfl, ?_⟩) ?_ ?_
            rotate_left
            · intro w'
              go_simp
              with_reducible rfl
            rotate_left
            · simp only [Act.put, List.setIfInBounds_toArray, List.set_cons_zero, List.set_cons_succ, i64_w, i32_w]
              rfl
            refine pure_ (i := 5) (N := some 52) (v := ?_) (a' := ?_) #[true, true, false, false, true, true, false, false, false, false] rfl rfl (any_of HT_.out (by kernel_rfl)) (fun _ _ _ h => h) (Or.inl ⟨by rfl, ?_⟩) ?_ ?_
            rotate_left
            · intro w'
              go_simp
              with_reducible rfl
            rotate_left
            · simp only [Act.put, List.setIfInBounds_toArray, List.set_cons_zero, List.set_cons_succ, i64_w, i32_w]
              rfl
            refine take_ (i := 2) (N := some 49) (v := ?_) (a' := ?_) #[true, true, true, false, true, true, false, false, false, false] rfl rfl (take_ofW HT_.out HW_.out (by kernel_rfl)) (fun _ _ _ h => h) (Or.inl ⟨by rfl, ?_⟩) hHeld ?_ ?_
            rotate_left
            · rintro w' ⟨s0, s1, s2⟩
              go_simp
              with_reducible rfl
            rotate_left
            · simp only [Act.put, List.setIfInBounds_toArray, List.set_cons_zero, List.set_cons_succ, i64_w, i32_w]
              rfl
            refine pure_ (i := 3) (N := some 50) (v := ?_) (a' := ?_) #[true, true, true, true, true, true, false, false, false, false] rfl rfl (any_of HT_.out (by kernel_rfl)) (fun _ _ _ h => h) (Or.inl ⟨by rfl, ?_⟩) ?_ ?_
            rotate_left
            · intro w'
              go_simp
              with_reducible rfl
            rotate_left
            · simp only [Act.put, List.setIfInBounds_toArray, List.set_cons_zero, List.set_cons_succ, i64_w, i32_w]
              rfl
            refine pure_ (i := 8) (N := some 11) (v := ?_) (a' := ?_) #[true, true, true, true, true, true, false, false, true, false] rfl rfl (any_of HT_.out (by kernel_rfl)) (fun _ _ _ h => h) (Or.inl ⟨by rfl, ?_⟩) ?_ ?_
            rotate_left
            · intro w'
              go_simp
              with_reducible rfl
            rotate_left
            · simp only [Act.put, List.setIfInBounds_toArray, List.set_cons_zero, List.set_cons_succ, i64_w, i32_w]
              rfl
            refine take_ (i := 6) (N := some 53) (v := ?_) (a' := ?_) #[true, true, true, true, true, true, true, false, true, false] rfl rfl (take_ofW HT_.out HW_.out (by kernel_rfl)) (fun _ _ _ h => h) (Or.inl ⟨by rfl, ?_⟩) hHeld ?_ ?_
            rotate_left
            · rintro w' ⟨s0, s1, s2⟩
              go_simp
              with_reducible rfl
            rotate_left
            · simp only [Act.put, List.setIfInBounds_toArray, List.set_cons_zero, List.set_cons_succ, i64_w, i32_w]
              rfl
            refine pure_ (i := 7) (N := some 54) (v := ?_) (a' := ?_) #[true, true, true, true, true, true, true, true, true, false] rfl rfl (any_of HT_.out (by kernel_rfl)) (fun _ _ _ h => h) (Or.inl ⟨by rfl, ?_⟩) ?_ ?_
            rotate_left
            · intro w'
              go_simp
              with_reducible rfl
            rotate_left
            · simp only [Act.put, List.setIfInBounds_toArray, List.set_cons_zero, List.set_cons_succ, i64_w, i32_w]
              rfl
            refine pure_ (i := 9) (N := some 12) (v := ?_) (a' := ?_) #[true, true, true, true, true, true, true, true, true, true] rfl rfl (any_of HT_.out (by kernel_rfl)) (fun _ _ _ h => h) (Or.inl ⟨by rfl, ?_⟩) ?_ ?_
            rotate_left
            · intro w'
              go_simp
              with_reducible rfl
            rotate_left
            · simp only [Act.put, List.setIfInBounds_toArray, List.set_cons_zero, List.set_cons_succ, i64_w, i32_w]
              rfl
            refine done_ (done_of HT_.out (by kernel_rfl)) ?_
            try go_wp2
            have n0_ := Aside0.mk (blk_drew BK200.out)
            have n1_ := Aside0.mk (blk_drew BK201.out)
            have n2_ := Aside0.mk (blk_drew BK202.out)
            have n3_ := Aside0.mk (below_drew1 HB.out)
            clear BK200
            clear BK201
            clear BK202
            clear HB
            have BK200 := n0_
            have BK201 := n1_
            have BK202 := n2_
            have HB := n3_
            clear n0_ n1_ n2_ n3_
            refine start_ (n := 13) (S := fun w' => w'.cell? ⟨gb201, 0, none⟩ = some (.int .i64 a1_0) ∧ w'.cell? ⟨gb201, 1, none⟩ = some (.int .i64 a1_1) ∧ w'.cell? ⟨gb201, 2, none⟩ = some (.int .i64 a1_2) ∧ w'.cell? ⟨gb201, 3, none⟩ = some (.int .i64 a1_3)) (ds := []) #[false, false, false, false, false, false, false, false, false, false, false, false, false] (by kernel_rfl) rfl rfl ⟨(blk_cell BK201.out 0).trans rfl, (blk_cell BK201.out 1).trans rfl, (blk_cell BK201.out 2).trans rfl, (blk_cell BK201.out 3).trans rfl⟩ (fun hHeld => ?_); refine with_tabW bivouacref14_Step.tab8 bivouacref14_Step.bits8 (fun HT_ HW_ => ?_)
            generalize w71.drew = w72 at BK200 BK201 BK202 HB hHeld ⊢
            refine pure_ (i := 0) (N := some 55) (v := ?_) (a' := ?_) #[true, false, false, false, false, false, false, false, false, false, false, false, false] rfl rfl (any_of HT_.out (by kernel_rfl)) (fun _ _ _ h => h) (Or.inl ⟨by rfl, ?_⟩) ?_ ?_
            rotate_left
            · intro w'
              go_simp
              with_reducible rfl
            rotate_left
            · simp only [Act.put, List.setIfInBounds_toArray, List.set_cons_zero, List.set_cons_succ, i64_w, i32_w]
              rfl
            refine pure_ (i := 1) (N := some 56) (v := ?_) (a' := ?_) #[true, true, false, false, false, false, false, false, false, false, false, false, false] rfl rfl (any_of HT_.out (by kernel_rfl)) (fun _ _ _ h => h) (Or.inl ⟨by rfl, ?_⟩) ?_ ?_
            rotate_left
            · intro w'
              go_simp
              with_reducible rfl
            rotate_left
            · simp only [Act.put, List.setIfInBounds_toArray, List.set_cons_zero, List.set_cons_succ, i64_w, i32_w]
              rfl
            refine pure_ (i := 2) (N := some 57) (v := ?_) (a' := ?_) #[true, true, true, false, false, false, false, false, false, false, false, false, false] rfl rfl (any_of HT_.out (by kernel_rfl)) (fun _ _ _ h => h) (Or.inl ⟨by rfl, ?_⟩) ?_ ?_
            rotate_left
            · intro w'
              go_simp
              with_reducible rfl
            rotate_left
            · simp only [Act.put, List.setIfInBounds_toArray, List.set_cons_zero, List.set_cons_succ, i64_w, i32_w]
              rfl
            refine pure_ (i := 3) (N := some 58) (v := ?_) (a' := ?_) #[true, true, true, true, false, false, false, false, false, false, false, false, false] rfl rfl (any_of HT_.out (by kernel_rfl)) (fun _ _ _ h => h) (Or.inl ⟨by rfl, ?_⟩) ?_ ?_
            rotate_left
            · intro w'
              go_simp
              with_reducible rfl
            rotate_left
            · simp only [Act.put, List.setIfInBounds_toArray, List.set_cons_zero, List.set_cons_succ, i64_w, i32_w]
              rfl
            refine pure_ (i := 4) (N := some 59) (v := ?_) (a' := ?_) #[true, true, true, true, true, false, false, false, false, false, false, false, false] rfl rfl (any_of HT_.out (by kernel_rfl)) (fun _ _ _ h => h) (Or.inl ⟨by rfl, ?_⟩) ?_ ?_
            rotate_left
            · intro w'
              go_simp
              with_reducible rfl
            rotate_left
            · simp only [Act.put, List.setIfInBounds_toArray, List.set_cons_zero, List.set_cons_succ, i64_w, i32_w]
              rfl
            refine pure_ (i := 5) (N := some 60) (v := ?_) (a' := ?_) #[true, true, true, true, true, true, false, false, false, false, false, false, false] rfl rfl (any_of HT_.out (by kernel_rfl)) (fun _ _ _ h => h) (Or.inl ⟨by rfl, ?_⟩) ?_ ?_
            rotate_left
            · intro w'
              go_simp
              with_reducible rfl
            rotate_left
            · simp only [Act.put, List.setIfInBounds_toArray, List.set_cons_zero, List.set_cons_succ, i64_w, i32_w]
              rfl
            refine pure_ (i := 6) (N := some 61) (v := ?_) (a' := ?_) #[true, true, true, true, true, true, true, false, false, false, false, false, false] rfl rfl (any_of HT_.out (by kernel_rfl)) (fun _ _ _ h => h) (Or.inl ⟨by rfl, ?_⟩) ?_ ?_
            rotate_left
            · intro w'
              go_simp
              with_reducible rfl
            rotate_left
            · simp only [Act.put, List.setIfInBounds_toArray, List.set_cons_zero, List.set_cons_succ, i64_w, i32_w]
              rfl
            refine pure_ (i := 7) (N := some 62) (v := ?_) (a' := ?_) #[true, true, true, true, true, true, true, true, false, false, false, false, false] rfl rfl (any_of HT_.out (by kernel_rfl)) (fun _ _ _ h => h) (Or.inl ⟨by rfl, ?_⟩) ?_ ?_
            rotate_left
            · intro w'
              go_simp
              with_reducible rfl
            rotate_left
            · simp only [Act.put, List.setIfInBounds_toArray, List.set_cons_zero, List.set_cons_succ, i64_w, i32_w]
              rfl
            refine pure_ (i := 10) (N := some 65) (v := ?_) (a' := ?_) #[true, true, true, true, true, true, true, true, false, false, true, false, false] rfl rfl (any_of HT_.out (by kernel_rfl)) (fun _ _ _ h => h) (Or.inl ⟨by rfl, ?_⟩) ?_ ?_
            rotate_left
            · intro w'
              go_simp
              with_reducible rfl
            rotate_left
            · simp only [Act.put, List.setIfInBounds_toArray, List.set_cons_zero, List.set_cons_succ, i64_w, i32_w]
              rfl
            refine take_ (i := 11) (N := some 66) (v := ?_) (a' := ?_) #[true, true, true, true, true, true, true, true, false, false, true, true, false] rfl rfl (take_ofW HT_.out HW_.out (by kernel_rfl)) (fun _ _ _ h => h) (Or.inl ⟨by rfl, ?_⟩) hHeld ?_ ?_
            rotate_left
            · rintro w' ⟨s0, s1, s2, s3⟩
              go_simp
              with_reducible rfl
            rotate_left
            · simp only [Act.put, List.setIfInBounds_toArray, List.set_cons_zero, List.set_cons_succ, i64_w, i32_w]
              rfl
            refine one_ (i := 8) (N := some 63) #[true, true, true, true, true, true, true, true, true, false, true, true, false] rfl rfl (one_of HT_.out (by kernel_rfl)) (by decide) (fun K hK => ?_)
            refine goes_ Tryd.func45 (by kernel_rfl) rfl #[.int .u64 (IntKind.u64.wrap (wrap64 ((wrap64 ((wrap64 (a2 - a0_0)) * (wrap64 (a2 - a0_0)))) + (wrap64 ((wrap64 (a3 - a0_1)) * (wrap64 (a3 - a0_1)))))))] (by rfl) rfl rfl (by (try simp only [List.map_toArray, List.map_cons, List.map_nil]); first | done | rfl | (simp only [List.length_drop, List.length_take]; rfl)) ?_
            with_reducible refine (bivouacref02_Root.calls (IntKind.u64.wrap (wrap64 ((wrap64 ((wrap64 (a2 - a0_0)) * (wrap64 (a2 - a0_0)))) + (wrap64 ((wrap64 (a3 - a0_1)) * (wrap64 (a3 - a0_1))))))) t206 _ A38.out).mono ?_
            rintro e w73 ⟨rfl, hb⟩
            refine ⟨_, rfl, ?_⟩
            have n0_ := Aside0.mk (blk_below (g := gb200) (o := .cells #[.int .i64 a0_0, .int .i64 a0_1, .int .i64 t204] 26 (0, 0)) (by (with_reducible repeat (first | refine blk_drewN ?_ _ | refine blk_drew ?_ | refine blk_alloc ?_ _)); exact BK200.out) hb)
            have n1_ := Aside0.mk (blk_below (g := gb201) (o := .cells #[.int .i64 a1_0, .int .i64 a1_1, .int .i64 a1_2, .int .i64 a1_3] 28 (0, 0)) (by (with_reducible repeat (first | refine blk_drewN ?_ _ | refine blk_drew ?_ | refine blk_alloc ?_ _)); exact BK201.out) hb)
            have n2_ := Aside0.mk (blk_below (g := gb202) (o := .cells #[.int .i64 0, .int .i64 0, .int .i64 0] 26 (0, 0)) (by (with_reducible repeat (first | refine blk_drewN ?_ _ | refine blk_drew ?_ | refine blk_alloc ?_ _)); exact BK202.out) hb)
            have n3_ := Aside0.mk (below_step (by repeat (first | (with_reducible first | exact HB.out | apply below_alloc | apply pw_below_drewN | apply below_drew1 | refine below_set ?_ GE200.out | refine below_set ?_ GE201.out | refine below_set ?_ GE202.out) | exact HB.out)) hb)
            clear BK200
            clear BK201
            clear BK202
            clear HB
            have BK200 := n0_
            have BK201 := n1_
            have BK202 := n2_
            have HB := n3_
            clear n0_ n1_ n2_ n3_
            (try clear hb)
            (try clear hb2)
            (try clear hk)
            (try clear hi)
            refine hK.out _ _ ⟨(blk_cell BK201.out 0).trans rfl, (blk_cell BK201.out 1).trans rfl, (blk_cell BK201.out 2).trans rfl, (blk_cell BK201.out 3).trans rfl⟩ (fun hHeld => ?_)
            clear hK K
            refine norm_ (a' := ?_) ?_ ?_
            rotate_left
            · show Act.put _ (some 63) _ = _
              simp only [Act.put, List.setIfInBounds_toArray, List.set_cons_zero, List.set_cons_succ, i64_w, i32_w]
              rfl
            refine pure_ (i := 9) (N := some 64) (v := ?_) (a' := ?_) #[true, true, true, true, true, true, true, true, true, true, true, true, false] rfl rfl (any_of HT_.out (by kernel_rfl)) (fun _ _ _ h => h) (Or.inl ⟨by rfl, ?_⟩) ?_ ?_
            rotate_left
            · intro w'
              go_simp
              with_reducible rfl
            rotate_left
            · simp only [Act.put, List.setIfInBounds_toArray, List.set_cons_zero, List.set_cons_succ, i64_w, i32_w]
              rfl
            refine pure_ (i := 12) (N := some 67) (v := ?_) (a' := ?_) #[true, true, true, true, true, true, true, true, true, true, true, true, true] rfl rfl (any_of HT_.out (by kernel_rfl)) (fun _ _ _ h => h) (Or.inl ⟨by rfl, ?_⟩) ?_ ?_
            rotate_left
            · intro w'
              go_simp
              with_reducible rfl
            rotate_left
            · simp only [Act.put, List.setIfInBounds_toArray, List.set_cons_zero, List.set_cons_succ, i64_w, i32_w]
              rfl
            refine done_ (done_of HT_.out (by kernel_rfl)) ?_
            try go_wp2
            have n0_ := Aside0.mk (blk_drew BK200.out)
            have n1_ := Aside0.mk (blk_drew BK201.out)
            have n2_ := Aside0.mk (blk_drew BK202.out)
            have n3_ := Aside0.mk (below_drew1 HB.out)
            clear BK200
            clear BK201
            clear BK202
            clear HB
            have BK200 := n0_
            have BK201 := n1_
            have BK202 := n2_
            have HB := n3_
            clear n0_ n1_ n2_ n3_
            refine start_ (n := 14) (S := fun w' => w'.cell? ⟨gb200, 0, none⟩ = some (.int .i64 a0_0) ∧ w'.cell? ⟨gb200, 1, none⟩ = some (.int .i64 a0_1) ∧ w'.cell? ⟨gb200, 2, none⟩ = some (.int .i64 t204) ∧ w'.cell? ⟨gb201, 0, none⟩ = some (.int .i64 a1_0) ∧ w'.cell? ⟨gb201, 1, none⟩ = some (.int .i64 a1_1) ∧ w'.cell? ⟨gb201, 2, none⟩ = some (.int .i64 a1_2) ∧ w'.cell? ⟨gb201, 3, none⟩ = some (.int .i64 a1_3)) (ds := [13]) #[false, false, false, false, false, false, false, false, false, false, false, false, false, false] (by kernel_rfl) rfl rfl ⟨(blk_cell BK200.out 0).trans rfl, (blk_cell BK200.out 1).trans rfl, (blk_cell BK200.out 2).trans rfl, (blk_cell BK201.out 0).trans rfl, (blk_cell BK201.out 1).trans rfl, (blk_cell BK201.out 2).trans rfl, (blk_cell BK201.out 3).trans rfl⟩ (fun hHeld => ?_); refine with_tabW bivouacref14_Step.tab10 bivouacref14_Step.bits10 (fun HT_ HW_ => ?_)
            generalize w73.drew = w74 at BK200 BK201 BK202 HB hHeld ⊢
            refine pure_ (i := 0) (N := some 73) (v := ?_) (a' := ?_) #[true, false, false, false, false, false, false, false, false, false, false, false, false, false] rfl rfl (any_of HT_.out (by kernel_rfl)) (fun _ _ _ h => h) (Or.inl ⟨by rfl, ?_⟩) ?_ ?_
            rotate_left
            · intro w'
              go_simp
              with_reducible rfl
            rotate_left
            · simp only [Act.put, List.setIfInBounds_toArray, List.set_cons_zero, List.set_cons_succ, i64_w, i32_w]
              rfl
            refine pure_ (i := 2) (N := some 75) (v := ?_) (a' := ?_) #[true, false, true, false, false, false, false, false, false, false, false, false, false, false] rfl rfl (any_of HT_.out (by kernel_rfl)) (fun _ _ _ h => h) (Or.inl ⟨by rfl, ?_⟩) ?_ ?_
            rotate_left
            · intro w'
              go_simp
              with_reducible rfl
            rotate_left
            · simp only [Act.put, List.setIfInBounds_toArray, List.set_cons_zero, List.set_cons_succ, i64_w, i32_w]
              rfl
            refine pure_ (i := 4) (N := some 77) (v := ?_) (a' := ?_) #[true, false, true, false, true, false, false, false, false, false, false, false, false, false] rfl rfl (any_of HT_.out (by kernel_rfl)) (fun _ _ _ h => h) (Or.inl ⟨by rfl, ?_⟩) ?_ ?_
            rotate_left
            · intro w'
              go_simp
              with_reducible rfl
            rotate_left
            · simp only [Act.put, List.setIfInBounds_toArray, List.set_cons_zero, List.set_cons_succ, i64_w, i32_w]
              rfl
            refine pure_ (i := 9) (N := some 82) (v := ?_) (a' := ?_) #[true, false, true, false, true, false, false, false, false, true, false, false, false, false] rfl rfl (any_of HT_.out (by kernel_rfl)) (fun _ _ _ h => h) (Or.inl ⟨by rfl, ?_⟩) ?_ ?_
            rotate_left
            · intro w'
              go_simp
              with_reducible rfl
            rotate_left
            · simp only [Act.put, List.setIfInBounds_toArray, List.set_cons_zero, List.set_cons_succ, i64_w, i32_w]
              rfl
            refine take_ (i := 1) (N := some 74) (v := ?_) (a' := ?_) #[true, true, true, false, true, false, false, false, false, true, false, false, false, false] rfl rfl (take_ofW HT_.out HW_.out (by kernel_rfl)) (fun _ _ _ h => h) (Or.inl ⟨by rfl, ?_⟩) hHeld ?_ ?_
            rotate_left
            · rintro w' ⟨s0, s1, s2, s3, s4, s5, s6⟩
              go_simp
              with_reducible rfl
            rotate_left
            · simp only [Act.put, List.setIfInBounds_toArray, List.set_cons_zero, List.set_cons_succ, i64_w, i32_w]
              rfl
            refine take_ (i := 3) (N := some 76) (v := ?_) (a' := ?_) #[true, true, true, true, true, false, false, false, false, true, false, false, false, false] rfl rfl (take_ofW HT_.out HW_.out (by kernel_rfl)) (fun _ _ _ h => h) (Or.inl ⟨by rfl, ?_⟩) hHeld ?_ ?_
            rotate_left
            · rintro w' ⟨s0, s1, s2, s3, s4, s5, s6⟩
              go_simp
              with_reducible rfl
            rotate_left
            · simp only [Act.put, List.setIfInBounds_toArray, List.set_cons_zero, List.set_cons_succ, i64_w, i32_w]
              rfl
            refine take_ (i := 5) (N := some 78) (v := ?_) (a' := ?_) #[true, true, true, true, true, true, false, false, false, true, false, false, false, false] rfl rfl (take_ofW HT_.out HW_.out (by kernel_rfl)) (fun _ _ _ h => h) (Or.inl ⟨by rfl, ?_⟩) hHeld ?_ ?_
            rotate_left
            · rintro w' ⟨s0, s1, s2, s3, s4, s5, s6⟩
              go_simp
              with_reducible rfl
            rotate_left
            · simp only [Act.put, List.setIfInBounds_toArray, List.set_cons_zero, List.set_cons_succ, i64_w, i32_w]
              rfl
            refine take_ (i := 10) (N := some 83) (v := ?_) (a' := ?_) #[true, true, true, true, true, true, false, false, false, true, true, false, false, false] rfl rfl (take_ofW HT_.out HW_.out (by kernel_rfl)) (fun _ _ _ h => h) (Or.inl ⟨by rfl, ?_⟩) hHeld ?_ ?_
            rotate_left
            · rintro w' ⟨s0, s1, s2, s3, s4, s5, s6⟩
              go_simp
              with_reducible rfl
            rotate_left
            · simp only [Act.put, List.setIfInBounds_toArray, List.set_cons_zero, List.set_cons_succ, i64_w, i32_w]
              rfl
            refine one_ (i := 6) (N := some 79) #[true, true, true, true, true, true, true, false, false, true, true, false, false, false] rfl rfl (one_of HT_.out (by kernel_rfl)) (by decide) (fun K hK => ?_)
            refine goes_ Tryd.func48 (by kernel_rfl) rfl #[.int .i64 t204] (by rfl) rfl rfl (by (try simp only [List.map_toArray, List.map_cons, List.map_nil]); first | done | rfl | (simp only [List.length_drop, List.length_take]; rfl)) ?_
            with_reducible refine (bivouacref03_Cos.calls t204 t207 _ ?side1 A55.out).mono ?_
            (case side1 => exact Tg.TabR.below HTAB.out (by repeat (first | (with_reducible first | exact HB.out | apply below_alloc | apply pw_below_drewN | apply below_drew1 | refine below_set ?_ GE200.out | refine below_set ?_ GE201.out | refine below_set ?_ GE202.out) | exact HB.out)))
            rintro e w75 ⟨rfl, hb⟩
            refine ⟨_, rfl, ?_⟩
            have n0_ := Aside0.mk (blk_below (g := gb200) (o := .cells #[.int .i64 a0_0, .int .i64 a0_1, .int .i64 t204] 26 (0, 0)) (by (with_reducible repeat (first | refine blk_drewN ?_ _ | refine blk_drew ?_ | refine blk_alloc ?_ _)); exact BK200.out) hb)
            have n1_ := Aside0.mk (blk_below (g := gb201) (o := .cells #[.int .i64 a1_0, .int .i64 a1_1, .int .i64 a1_2, .int .i64 a1_3] 28 (0, 0)) (by (with_reducible repeat (first | refine blk_drewN ?_ _ | refine blk_drew ?_ | refine blk_alloc ?_ _)); exact BK201.out) hb)
            have n2_ := Aside0.mk (blk_below (g := gb202) (o := .cells #[.int .i64 0, .int .i64 0, .int .i64 0] 26 (0, 0)) (by (with_reducible repeat (first | refine blk_drewN ?_ _ | refine blk_drew ?_ | refine blk_alloc ?_ _)); exact BK202.out) hb)
            have n3_ := Aside0.mk (below_step (by repeat (first | (with_reducible first | exact HB.out | apply below_alloc | apply pw_below_drewN | apply below_drew1 | refine below_set ?_ GE200.out | refine below_set ?_ GE201.out | refine below_set ?_ GE202.out) | exact HB.out)) hb)
            clear BK200
            clear BK201
            clear BK202
            clear HB
            have BK200 := n0_
            have BK201 := n1_
            have BK202 := n2_
            have HB := n3_
            clear n0_ n1_ n2_ n3_
            (try clear hb)
            (try clear hb2)
            (try clear hk)
            (try clear hi)
            refine hK.out _ _ ⟨(blk_cell BK200.out 0).trans rfl, (blk_cell BK200.out 1).trans rfl, (blk_cell BK200.out 2).trans rfl, (blk_cell BK201.out 0).trans rfl, (blk_cell BK201.out 1).trans rfl, (blk_cell BK201.out 2).trans rfl, (blk_cell BK201.out 3).trans rfl⟩ (fun hHeld => ?_)
            clear hK K
            refine norm_ (a' := ?_) ?_ ?_
            rotate_left
            · show Act.put _ (some 79) _ = _
              simp only [Act.put, List.setIfInBounds_toArray, List.set_cons_zero, List.set_cons_succ, i64_w, i32_w]
              rfl
            refine one_ (i := 7) (N := some 80) #[true, true, true, true, true, true, true, true, false, true, true, false, false, false] rfl rfl (one_of HT_.out (by kernel_rfl)) (by decide) (fun K hK => ?_)
            refine goes_ Tryd.func47 (by kernel_rfl) rfl #[.int .i64 a1_0, .int .i64 t207] (by rfl) rfl rfl (by (try simp only [List.map_toArray, List.map_cons, List.map_nil]); first | done | rfl | (simp only [List.length_drop, List.length_take]; rfl)) ?_
            with_reducible refine (bivouacref14_times.calls a1_0 t207 t208 _ A56.out).mono ?_
            rintro e w76 ⟨rfl, hb⟩
            refine ⟨_, rfl, ?_⟩
            have n0_ := Aside0.mk (blk_below (g := gb200) (o := .cells #[.int .i64 a0_0, .int .i64 a0_1, .int .i64 t204] 26 (0, 0)) (by (with_reducible repeat (first | refine blk_drewN ?_ _ | refine blk_drew ?_ | refine blk_alloc ?_ _)); exact BK200.out) hb)
            have n1_ := Aside0.mk (blk_below (g := gb201) (o := .cells #[.int .i64 a1_0, .int .i64 a1_1, .int .i64 a1_2, .int .i64 a1_3] 28 (0, 0)) (by (with_reducible repeat (first | refine blk_drewN ?_ _ | refine blk_drew ?_ | refine blk_alloc ?_ _)); exact BK201.out) hb)
            have n2_ := Aside0.mk (blk_below (g := gb202) (o := .cells #[.int .i64 0, .int .i64 0, .int .i64 0] 26 (0, 0)) (by (with_reducible repeat (first | refine blk_drewN ?_ _ | refine blk_drew ?_ | refine blk_alloc ?_ _)); exact BK202.out) hb)
            have n3_ := Aside0.mk (below_step (by repeat (first | (with_reducible first | exact HB.out | apply below_alloc | apply pw_below_drewN | apply below_drew1 | refine below_set ?_ GE200.out | refine below_set ?_ GE201.out | refine below_set ?_ GE202.out) | exact HB.out)) hb)
            clear BK200
            clear BK201
            clear BK202
            clear HB
            have BK200 := n0_
            have BK201 := n1_
            have BK202 := n2_
            have HB := n3_
            clear n0_ n1_ n2_ n3_
            (try clear hb)
            (try clear hb2)
            (try clear hk)
            (try clear hi)
            refine hK.out _ _ ⟨(blk_cell BK200.out 0).trans rfl, (blk_cell BK200.out 1).trans rfl, (blk_cell BK200.out 2).trans rfl, (blk_cell BK201.out 0).trans rfl, (blk_cell BK201.out 1).trans rfl, (blk_cell BK201.out 2).trans rfl, (blk_cell BK201.out 3).trans rfl⟩ (fun hHeld => ?_)
            clear hK K
            refine norm_ (a' := ?_) ?_ ?_
            rotate_left
            · show Act.put _ (some 80) _ = _
              simp only [Act.put, List.setIfInBounds_toArray, List.set_cons_zero, List.set_cons_succ, i64_w, i32_w]
              rfl
            refine pure_ (i := 8) (N := some 81) (v := ?_) (a' := ?_) #[true, true, true, true, true, true, true, true, true, true, true, false, false, false] rfl rfl (any_of HT_.out (by kernel_rfl)) (fun _ _ _ h => h) (Or.inl ⟨by rfl, ?_⟩) ?_ ?_
            rotate_left
            · intro w'
              go_simp
              with_reducible rfl
            rotate_left
            · simp only [Act.put, List.setIfInBounds_toArray, List.set_cons_zero, List.set_cons_succ, i64_w, i32_w]
              rfl
            refine one_ (i := 11) (N := some 84) #[true, true, true, true, true, true, true, true, true, true, true, true, false, false] rfl rfl (one_of HT_.out (by kernel_rfl)) (by decide) (fun K hK => ?_)
            refine goes_ Tryd.func46 (by kernel_rfl) rfl #[.int .i64 (wrap64 (a0_0 + t208)), .int .i64 a1_2] (by rfl) rfl rfl (by (try simp only [List.map_toArray, List.map_cons, List.map_nil]); first | done | rfl | (simp only [List.length_drop, List.length_take]; rfl)) ?_
            with_reducible refine (bivouacref14_clamp.calls (wrap64 (a0_0 + t208)) a1_2 t209 _ A57.out).mono ?_
            rintro e w77 ⟨rfl, hb⟩
            refine ⟨_, rfl, ?_⟩
            have n0_ := Aside0.mk (blk_below (g := gb200) (o := .cells #[.int .i64 a0_0, .int .i64 a0_1, .int .i64 t204] 26 (0, 0)) (by (with_reducible repeat (first | refine blk_drewN ?_ _ | refine blk_drew ?_ | refine blk_alloc ?_ _)); exact BK200.out) hb)
            have n1_ := Aside0.mk (blk_below (g := gb201) (o := .cells #[.int .i64 a1_0, .int .i64 a1_1, .int .i64 a1_2, .int .i64 a1_3] 28 (0, 0)) (by (with_reducible repeat (first | refine blk_drewN ?_ _ | refine blk_drew ?_ | refine blk_alloc ?_ _)); exact BK201.out) hb)
            have n2_ := Aside0.mk (blk_below (g := gb202) (o := .cells #[.int .i64 0, .int .i64 0, .int .i64 0] 26 (0, 0)) (by (with_reducible repeat (first | refine blk_drewN ?_ _ | refine blk_drew ?_ | refine blk_alloc ?_ _)); exact BK202.out) hb)
            have n3_ := Aside0.mk (below_step (by repeat (first | (with_reducible first | exact HB.out | apply below_alloc | apply pw_below_drewN | apply below_drew1 | refine below_set ?_ GE200.out | refine below_set ?_ GE201.out | refine below_set ?_ GE202.out) | exact HB.out)) hb)
            clear BK200
            clear BK201
            clear BK202
            clear HB
            have BK200 := n0_
            have BK201 := n1_
            have BK202 := n2_
            have HB := n3_
            clear n0_ n1_ n2_ n3_
            (try clear hb)
            (try clear hb2)
            (try clear hk)
            (try clear hi)
            refine hK.out _ _ ⟨(blk_cell BK200.out 0).trans rfl, (blk_cell BK200.out 1).trans rfl, (blk_cell BK200.out 2).trans rfl, (blk_cell BK201.out 0).trans rfl, (blk_cell BK201.out 1).trans rfl, (blk_cell BK201.out 2).trans rfl, (blk_cell BK201.out 3).trans rfl⟩ (fun hHeld => ?_)
            clear hK K
            refine norm_ (a' := ?_) ?_ ?_
            rotate_left
            · show Act.put _ (some 84) _ = _
              simp only [Act.put, List.setIfInBounds_toArray, List.set_cons_zero, List.set_cons_succ, i64_w, i32_w]
              rfl
            refine pure_ (i := 12) (N := some 85) (v := ?_) (a' := ?_) #[true, true, true, true, true, true, true, true, true, true, true, true, true, false] rfl rfl (any_of HT_.out (by kernel_rfl)) (fun _ _ _ h => h) (Or.inl ⟨by rfl, ?_⟩) ?_ ?_
            rotate_left
            · intro w'
              go_simp
              with_reducible rfl
            rotate_left
            · simp only [Act.put, List.setIfInBounds_toArray, List.set_cons_zero, List.set_cons_succ, i64_w, i32_w]
              rfl
            refine last_ (i := 13) (N := none) #[true, true, true, true, true, true, true, true, true, true, true, true, true, true] rfl rfl (one_of HT_.out (by kernel_rfl)) (by decide) (fun K hK => ?_)
            have hs78 : w77.cell? ⟨gb200, 0, none⟩ = some (.int .i64 a0_0) := (blk_cell BK200.out 0).trans rfl
            have hfs78 := blk_frozen BK200.out 0
            have hns78_1 := NB201_200.out
            have hns78_2 := NB202_200.out
            have hms78_1 := NB200_201.out
            have hms78_2 := NB200_202.out
            refine skip_ (w1 := ?_) (by rfl) rfl ?_ ?_
            rotate_left
            · go_simp
              rfl
            refine hK.out _ _ ?_
            clear hK K
            refine done_ (done_of HT_.out (by kernel_rfl)) ?_
            try go_wp2
            have n0_ : Aside0 ((w77.setCell ⟨gb200, 0, none⟩ (.int .i64 t209)).heap[gb200]? = some (.cells #[.int .i64 t209, .int .i64 a0_1, .int .i64 t204] 26 (0, 0))) := ⟨by (with_reducible repeat (first | refine blk_drewN ?_ _ | refine blk_drew ?_ | refine blk_alloc ?_ _)); refine blk_put (cs := #[.int .i64 a0_0, .int .i64 a0_1, .int .i64 t204]) ?_ 0 _ rfl; (with_reducible repeat (first | refine blk_drewN ?_ _ | refine blk_drew ?_ | refine blk_alloc ?_ _)); exact BK200.out⟩
            have n1_ : Aside0 ((w77.setCell ⟨gb200, 0, none⟩ (.int .i64 t209)).heap[gb201]? = some (.cells #[.int .i64 a1_0, .int .i64 a1_1, .int .i64 a1_2, .int .i64 a1_3] 28 (0, 0))) := ⟨by (with_reducible repeat (first | refine blk_drewN ?_ _ | refine blk_drew ?_ | refine blk_alloc ?_ _)); refine blk_far ?_ NB201_200.out _; (with_reducible repeat (first | refine blk_drewN ?_ _ | refine blk_drew ?_ | refine blk_alloc ?_ _)); exact BK201.out⟩
            have n2_ : Aside0 ((w77.setCell ⟨gb200, 0, none⟩ (.int .i64 t209)).heap[gb202]? = some (.cells #[.int .i64 0, .int .i64 0, .int .i64 0] 26 (0, 0))) := ⟨by (with_reducible repeat (first | refine blk_drewN ?_ _ | refine blk_drew ?_ | refine blk_alloc ?_ _)); refine blk_far ?_ NB202_200.out _; (with_reducible repeat (first | refine blk_drewN ?_ _ | refine blk_drew ?_ | refine blk_alloc ?_ _)); exact BK202.out⟩
            have n3_ : Aside0 (Below w.heap.size w (w77.setCell ⟨gb200, 0, none⟩ (.int .i64 t209))) := ⟨by repeat (first | (with_reducible first | exact HB.out | apply below_alloc | apply pw_below_drewN | apply below_drew1 | refine below_set ?_ GE200.out | refine below_set ?_ GE201.out | refine below_set ?_ GE202.out) | exact HB.out)⟩
            (try clear BK200)
            (try clear BK201)
            (try clear BK202)
            (try clear HB)
            generalize (w77.setCell ⟨gb200, 0, none⟩ (.int .i64 t209)) = w79 at n0_ n1_ n2_ n3_ ⊢
            have BK200 := n0_
            have BK201 := n1_
            have BK202 := n2_
            have HB := n3_
            clear n0_ n1_ n2_ n3_
            have n0_ := Aside0.mk (blk_drew BK200.out)
            have n1_ := Aside0.mk (blk_drew BK201.out)
            have n2_ := Aside0.mk (blk_drew BK202.out)
            have n3_ := Aside0.mk (below_drew1 HB.out)
            clear BK200
            clear BK201
            clear BK202
            clear HB
            have BK200 := n0_
            have BK201 := n1_
            have BK202 := n2_
            have HB := n3_
            clear n0_ n1_ n2_ n3_
            refine start_ (n := 14) (S := fun w' => w'.cell? ⟨gb200, 0, none⟩ = some (.int .i64 t209) ∧ w'.cell? ⟨gb200, 1, none⟩ = some (.int .i64 a0_1) ∧ w'.cell? ⟨gb200, 2, none⟩ = some (.int .i64 t204) ∧ w'.cell? ⟨gb201, 0, none⟩ = some (.int .i64 a1_0) ∧ w'.cell? ⟨gb201, 1, none⟩ = some (.int .i64 a1_1) ∧ w'.cell? ⟨gb201, 2, none⟩ = some (.int .i64 a1_2) ∧ w'.cell? ⟨gb201, 3, none⟩ = some (.int .i64 a1_3)) (ds := [13]) #[false, false, false, false, false, false, false, false, false, false, false, false, false, false] (by kernel_rfl) rfl rfl ⟨(blk_cell BK200.out 0).trans rfl, (blk_cell BK200.out 1).trans rfl, (blk_cell BK200.out 2).trans rfl, (blk_cell BK201.out 0).trans rfl, (blk_cell BK201.out 1).trans rfl, (blk_cell BK201.out 2).trans rfl, (blk_cell BK201.out 3).trans rfl⟩ (fun hHeld => ?_); refine with_tabW bivouacref14_Step.tab11 bivouacref14_Step.bits11 (fun HT_ HW_ => ?_)
            generalize w79.drew = w80 at BK200 BK201 BK202 HB hHeld ⊢
            refine pure_ (i := 0) (N := some 86) (v := ?_) (a' := ?_) #[true, false, false, false, false, false, false, false, false, false, false, false, false, false] rfl rfl (any_of HT_.out (by kernel_rfl)) (fun _ _ _ h => h) (Or.inl ⟨by rfl, ?_⟩) ?_ ?_
            rotate_left
            · intro w'
              go_simp
              with_reducible rfl
            rotate_left
            · simp only [Act.put, List.setIfInBounds_toArray, List.set_cons_zero, List.set_cons_succ, i64_w, i32_w]
              rfl
            refine pure_ (i := 2) (N := some 88) (v := ?_) (a' := ?_) #[true, false, true, false, false, false, false, false, false, false, false, false, false, false] rfl rfl (any_of HT_.out (by kernel_rfl)) (fun _ _ _ h => h) (Or.inl ⟨by rfl, ?_⟩) ?_ ?_
            rotate_left
            · intro w'
              go_simp
              with_reducible rfl
            rotate_left
            · simp only [Act.put, List.setIfInBounds_toArray, List.set_cons_zero, List.set_cons_succ, i64_w, i32_w]
              rfl
            refine pure_ (i := 4) (N := some 90) (v := ?_) (a' := ?_) #[true, false, true, false, true, false, false, false, false, false, false, false, false, false] rfl rfl (any_of HT_.out (by kernel_rfl)) (fun _ _ _ h => h) (Or.inl ⟨by rfl, ?_⟩) ?_ ?_
            rotate_left
            · intro w'
              go_simp
              with_reducible rfl
            rotate_left
            · simp only [Act.put, List.setIfInBounds_toArray, List.set_cons_zero, List.set_cons_succ, i64_w, i32_w]
              rfl
            refine pure_ (i := 9) (N := some 95) (v := ?_) (a' := ?_) #[true, false, true, false, true, false, false, false, false, true, false, false, false, false] rfl rfl (any_of HT_.out (by kernel_rfl)) (fun _ _ _ h => h) (Or.inl ⟨by rfl, ?_⟩) ?_ ?_
            rotate_left
            · intro w'
              go_simp
              with_reducible rfl
            rotate_left
            · simp only [Act.put, List.setIfInBounds_toArray, List.set_cons_zero, List.set_cons_succ, i64_w, i32_w]
              rfl
            refine take_ (i := 1) (N := some 87) (v := ?_) (a' := ?_) #[true, true, true, false, true, false, false, false, false, true, false, false, false, false] rfl rfl (take_ofW HT_.out HW_.out (by kernel_rfl)) (fun _ _ _ h => h) (Or.inl ⟨by rfl, ?_⟩) hHeld ?_ ?_
            rotate_left
            · rintro w' ⟨s0, s1, s2, s3, s4, s5, s6⟩
              go_simp
              with_reducible rfl
            rotate_left
            · simp only [Act.put, List.setIfInBounds_toArray, List.set_cons_zero, List.set_cons_succ, i64_w, i32_w]
              rfl
            refine take_ (i := 3) (N := some 89) (v := ?_) (a' := ?_) #[true, true, true, true, true, false, false, false, false, true, false, false, false, false] rfl rfl (take_ofW HT_.out HW_.out (by kernel_rfl)) (fun _ _ _ h => h) (Or.inl ⟨by rfl, ?_⟩) hHeld ?_ ?_
            rotate_left
            · rintro w' ⟨s0, s1, s2, s3, s4, s5, s6⟩
              go_simp
              with_reducible rfl
            rotate_left
            · simp only [Act.put, List.setIfInBounds_toArray, List.set_cons_zero, List.set_cons_succ, i64_w, i32_w]
              rfl
            refine take_ (i := 5) (N := some 91) (v := ?_) (a' := ?_) #[true, true, true, true, true, true, false, false, false, true, false, false, false, false] rfl rfl (take_ofW HT_.out HW_.out (by kernel_rfl)) (fun _ _ _ h => h) (Or.inl ⟨by rfl, ?_⟩) hHeld ?_ ?_
            rotate_left
            · rintro w' ⟨s0, s1, s2, s3, s4, s5, s6⟩
              go_simp
              with_reducible rfl
            rotate_left
            · simp only [Act.put, List.setIfInBounds_toArray, List.set_cons_zero, List.set_cons_succ, i64_w, i32_w]
              rfl
            refine take_ (i := 10) (N := some 96) (v := ?_) (a' := ?_) #[true, true, true, true, true, true, false, false, false, true, true, false, false, false] rfl rfl (take_ofW HT_.out HW_.out (by kernel_rfl)) (fun _ _ _ h => h) (Or.inl ⟨by rfl, ?_⟩) hHeld ?_ ?_
            rotate_left
            · rintro w' ⟨s0, s1, s2, s3, s4, s5, s6⟩
              go_simp
              with_reducible rfl
            rotate_left
            · simp only [Act.put, List.setIfInBounds_toArray, List.set_cons_zero, List.set_cons_succ, i64_w, i32_w]
              rfl
            refine one_ (i := 6) (N := some 92) #[true, true, true, true, true, true, true, false, false, true, true, false, false, false] rfl rfl (one_of HT_.out (by kernel_rfl)) (by decide) (fun K hK => ?_)
            refine goes_ Tryd.func49 (by kernel_rfl) rfl #[.int .i64 t204] (by rfl) rfl rfl (by (try simp only [List.map_toArray, List.map_cons, List.map_nil]); first | done | rfl | (simp only [List.length_drop, List.length_take]; rfl)) ?_
            with_reducible refine (bivouacref03_Sin.calls t204 t210 _ ?side1 A58.out).mono ?_
            (case side1 => exact Tg.TabR.below HTAB.out (by repeat (first | (with_reducible first | exact HB.out | apply below_alloc | apply pw_below_drewN | apply below_drew1 | refine below_set ?_ GE200.out | refine below_set ?_ GE201.out | refine below_set ?_ GE202.out) | exact HB.out)))
            rintro e w81 ⟨rfl, hb⟩
            refine ⟨_, rfl, ?_⟩
            have n0_ := Aside0.mk (blk_below (g := gb200) (o := .cells #[.int .i64 t209, .int .i64 a0_1, .int .i64 t204] 26 (0, 0)) (by (with_reducible repeat (first | refine blk_drewN ?_ _ | refine blk_drew ?_ | refine blk_alloc ?_ _)); exact BK200.out) hb)
            have n1_ := Aside0.mk (blk_below (g := gb201) (o := .cells #[.int .i64 a1_0, .int .i64 a1_1, .int .i64 a1_2, .int .i64 a1_3] 28 (0, 0)) (by (with_reducible repeat (first | refine blk_drewN ?_ _ | refine blk_drew ?_ | refine blk_alloc ?_ _)); exact BK201.out) hb)
            have n2_ := Aside0.mk (blk_below (g := gb202) (o := .cells #[.int .i64 0, .int .i64 0, .int .i64 0] 26 (0, 0)) (by (with_reducible repeat (first | refine blk_drewN ?_ _ | refine blk_drew ?_ | refine blk_alloc ?_ _)); exact BK202.out) hb)
            have n3_ := Aside0.mk (below_step (by repeat (first | (with_reducible first | exact HB.out | apply below_alloc | apply pw_below_drewN | apply below_drew1 | refine below_set ?_ GE200.out | refine below_set ?_ GE201.out | refine below_set ?_ GE202.out) | exact HB.out)) hb)
            clear BK200
            clear BK201
            clear BK202
            clear HB
            have BK200 := n0_
            have BK201 := n1_
            have BK202 := n2_
            have HB := n3_
            clear n0_ n1_ n2_ n3_
            (try clear hb)
            (try clear hb2)
            (try clear hk)
            (try clear hi)
            refine hK.out _ _ ⟨(blk_cell BK200.out 0).trans rfl, (blk_cell BK200.out 1).trans rfl, (blk_cell BK200.out 2).trans rfl, (blk_cell BK201.out 0).trans rfl, (blk_cell BK201.out 1).trans rfl, (blk_cell BK201.out 2).trans rfl, (blk_cell BK201.out 3).trans rfl⟩ (fun hHeld => ?_)
            clear hK K
            refine norm_ (a' := ?_) ?_ ?_
            rotate_left
            · show Act.put _ (some 92) _ = _
              simp only [Act.put, List.setIfInBounds_toArray, List.set_cons_zero, List.set_cons_succ, i64_w, i32_w]
              rfl
            refine one_ (i := 7) (N := some 93) #[true, true, true, true, true, true, true, true, false, true, true, false, false, false] rfl rfl (one_of HT_.out (by kernel_rfl)) (by decide) (fun K hK => ?_)
            refine goes_ Tryd.func47 (by kernel_rfl) rfl #[.int .i64 a1_0, .int .i64 t210] (by rfl) rfl rfl (by (try simp only [List.map_toArray, List.map_cons, List.map_nil]); first | done | rfl | (simp only [List.length_drop, List.length_take]; rfl)) ?_
            with_reducible refine (bivouacref14_times.calls a1_0 t210 t211 _ A59.out).mono ?_
            rintro e w82 ⟨rfl, hb⟩
            refine ⟨_, rfl, ?_⟩
            have n0_ := Aside0.mk (blk_below (g := gb200) (o := .cells #[.int .i64 t209, .int .i64 a0_1, .int .i64 t204] 26 (0, 0)) (by (with_reducible repeat (first | refine blk_drewN ?_ _ | refine blk_drew ?_ | refine blk_alloc ?_ _)); exact BK200.out) hb)
            have n1_ := Aside0.mk (blk_below (g := gb201) (o := .cells #[.int .i64 a1_0, .int .i64 a1_1, .int .i64 a1_2, .int .i64 a1_3] 28 (0, 0)) (by (with_reducible repeat (first | refine blk_drewN ?_ _ | refine blk_drew ?_ | refine blk_alloc ?_ _)); exact BK201.out) hb)
            have n2_ := Aside0.mk (blk_below (g := gb202) (o := .cells #[.int .i64 0, .int .i64 0, .int .i64 0] 26 (0, 0)) (by (with_reducible repeat (first | refine blk_drewN ?_ _ | refine blk_drew ?_ | refine blk_alloc ?_ _)); exact BK202.out) hb)
            have n3_ := Aside0.mk (below_step (by repeat (first | (with_reducible first | exact HB.out | apply below_alloc | apply pw_below_drewN | apply below_drew1 | refine below_set ?_ GE200.out | refine below_set ?_ GE201.out | refine below_set ?_ GE202.out) | exact HB.out)) hb)
            clear BK200
            clear BK201
            clear BK202
            clear HB
            have BK200 := n0_
            have BK201 := n1_
            have BK202 := n2_
            have HB := n3_
            clear n0_ n1_ n2_ n3_
            (try clear hb)
            (try clear hb2)
            (try clear hk)
            (try clear hi)
            refine hK.out _ _ ⟨(blk_cell BK200.out 0).trans rfl, (blk_cell BK200.out 1).trans rfl, (blk_cell BK200.out 2).trans rfl, (blk_cell BK201.out 0).trans rfl, (blk_cell BK201.out 1).trans rfl, (blk_cell BK201.out 2).trans rfl, (blk_cell BK201.out 3).trans rfl⟩ (fun hHeld => ?_)
            clear hK K
            refine norm_ (a' := ?_) ?_ ?_
            rotate_left
            · show Act.put _ (some 93) _ = _
              simp only [Act.put, List.setIfInBounds_toArray, List.set_cons_zero, List.set_cons_succ, i64_w, i32_w]
              rfl
            refine pure_ (i := 8) (N := some 94) (v := ?_) (a' := ?_) #[true, true, true, true, true, true, true, true, true, true, true, false, false, false] rfl rfl (any_of HT_.out (by kernel_rfl)) (fun _ _ _ h => h) (Or.inl ⟨by rfl, ?_⟩) ?_ ?_
            rotate_left
            · intro w'
              go_simp
              with_reducible rfl
            rotate_left
            · simp only [Act.put, List.setIfInBounds_toArray, List.set_cons_zero, List.set_cons_succ, i64_w, i32_w]
              rfl
            refine one_ (i := 11) (N := some 97) #[true, true, true, true, true, true, true, true, true, true, true, true, false, false] rfl rfl (one_of HT_.out (by kernel_rfl)) (by decide) (fun K hK => ?_)
            refine goes_ Tryd.func46 (by kernel_rfl) rfl #[.int .i64 (wrap64 (a0_1 + t211)), .int .i64 a1_3] (by rfl) rfl rfl (by (try simp only [List.map_toArray, List.map_cons, List.map_nil]); first | done | rfl | (simp only [List.length_drop, List.length_take]; rfl)) ?_
            with_reducible refine (bivouacref14_clamp.calls (wrap64 (a0_1 + t211)) a1_3 t212 _ A60.out).mono ?_
            rintro e w83 ⟨rfl, hb⟩
            refine ⟨_, rfl, ?_⟩
            have n0_ := Aside0.mk (blk_below (g := gb200) (o := .cells #[.int .i64 t209, .int .i64 a0_1, .int .i64 t204] 26 (0, 0)) (by (with_reducible repeat (first | refine blk_drewN ?_ _ | refine blk_drew ?_ | refine blk_alloc ?_ _)); exact BK200.out) hb)
            have n1_ := Aside0.mk (blk_below (g := gb201) (o := .cells #[.int .i64 a1_0, .int .i64 a1_1, .int .i64 a1_2, .int .i64 a1_3] 28 (0, 0)) (by (with_reducible repeat (first | refine blk_drewN ?_ _ | refine blk_drew ?_ | refine blk_alloc ?_ _)); exact BK201.out) hb)
            have n2_ := Aside0.mk (blk_below (g := gb202) (o := .cells #[.int .i64 0, .int .i64 0, .int .i64 0] 26 (0, 0)) (by (with_reducible repeat (first | refine blk_drewN ?_ _ | refine blk_drew ?_ | refine blk_alloc ?_ _)); exact BK202.out) hb)
            have n3_ := Aside0.mk (below_step (by repeat (first | (with_reducible first | exact HB.out | apply below_alloc | apply pw_below_drewN | apply below_drew1 | refine below_set ?_ GE200.out | refine below_set ?_ GE201.out | refine below_set ?_ GE202.out) | exact HB.out)) hb)
            clear BK200
            clear BK201
            clear BK202
            clear HB
            have BK200 := n0_
            have BK201 := n1_
            have BK202 := n2_
            have HB := n3_
            clear n0_ n1_ n2_ n3_
            (try clear hb)
            (try clear hb2)
            (try clear hk)
            (try clear hi)
            refine hK.out _ _ ⟨(blk_cell BK200.out 0).trans rfl, (blk_cell BK200.out 1).trans rfl, (blk_cell BK200.out 2).trans rfl, (blk_cell BK201.out 0).trans rfl, (blk_cell BK201.out 1).trans rfl, (blk_cell BK201.out 2).trans rfl, (blk_cell BK201.out 3).trans rfl⟩ (fun hHeld => ?_)
            clear hK K
            refine norm_ (a' := ?_) ?_ ?_
            rotate_left
            · show Act.put _ (some 97) _ = _
              simp only [Act.put, List.setIfInBounds_toArray, List.set_cons_zero, List.set_cons_succ, i64_w, i32_w]
              rfl
            refine pure_ (i := 12) (N := some 98) (v := ?_) (a' := ?_) #[true, true, true, true, true, true, true, true, true, true, true, true, true, false] rfl rfl (any_of HT_.out (by kernel_rfl)) (fun _ _ _ h => h) (Or.inl ⟨by rfl, ?_⟩) ?_ ?_
            rotate_left
            · intro w'
              go_simp
              with_reducible rfl
            rotate_left
            · simp only [Act.put, List.setIfInBounds_toArray, List.set_cons_zero, List.set_cons_succ, i64_w, i32_w]
              rfl
            refine last_ (i := 13) (N := none) #[true, true, true, true, true, true, true, true, true, true, true, true, true, true] rfl rfl (one_of HT_.out (by kernel_rfl)) (by decide) (fun K hK => ?_)
            have hs84 : w83.cell? ⟨gb200, 1, none⟩ = some (.int .i64 a0_1) := (blk_cell BK200.out 1).trans rfl
            have hfs84 := blk_frozen BK200.out 1
            have hns84_1 := NB201_200.out
            have hns84_2 := NB202_200.out
            have hms84_1 := NB200_201.out
            have hms84_2 := NB200_202.out
            refine skip_ (w1 := ?_) (by rfl) rfl ?_ ?_
            rotate_left
            · go_simp
              rfl
            refine hK.out _ _ ?_
            clear hK K
            refine done_ (done_of HT_.out (by kernel_rfl)) ?_
            have hcz85_0 : w83.cell? ⟨gb200, 0, none⟩ = some (.int .i64 t209) := (blk_cell BK200.out 0).trans rfl
            have hcz85_1 : w83.cell? ⟨gb200, 1, none⟩ = some (.int .i64 a0_1) := (blk_cell BK200.out 1).trans rfl
            have hcz85_2 : w83.cell? ⟨gb200, 2, none⟩ = some (.int .i64 t204) := (blk_cell BK200.out 2).trans rfl
            have hfz85_0 := blk_frozen BK200.out 0
            have hfz85_1 := blk_frozen BK200.out 1
            have hfz85_2 := blk_frozen BK200.out 2
            have hcz86_0 : w83.cell? ⟨gb202, 0, none⟩ = some (.int .i64 0) := (blk_cell BK202.out 0).trans rfl
            have hcz86_1 : w83.cell? ⟨gb202, 1, none⟩ = some (.int .i64 0) := (blk_cell BK202.out 1).trans rfl
            have hcz86_2 : w83.cell? ⟨gb202, 2, none⟩ = some (.int .i64 0) := (blk_cell BK202.out 2).trans rfl
            have hfz86_0 := blk_frozen BK202.out 0
            have hfz86_1 := blk_frozen BK202.out 1
            have hfz86_2 := blk_frozen BK202.out 2
            try go_wp2
            refine bodyPost_ret (results_ct rfl _ _ gb202 26 #[.int .i64 t209, .int .i64 t212, .int .i64 t204] (0, 0) _ rfl (by (with_reducible repeat (first | refine blk_drewN ?_ _ | refine blk_drew ?_ | refine blk_alloc ?_ _)); refine blk_put (cs := #[.int .i64 t209, .int .i64 t212, .int .i64 0]) ?_ 2 _ rfl; (with_reducible repeat (first | refine blk_drewN ?_ _ | refine blk_drew ?_ | refine blk_alloc ?_ _)); refine blk_put (cs := #[.int .i64 t209, .int .i64 0, .int .i64 0]) ?_ 1 _ rfl; (with_reducible repeat (first | refine blk_drewN ?_ _ | refine blk_drew ?_ | refine blk_alloc ?_ _)); refine blk_put (cs := #[.int .i64 0, .int .i64 0, .int .i64 0]) ?_ 0 _ rfl; (with_reducible repeat (first | refine blk_drewN ?_ _ | refine blk_drew ?_ | refine blk_alloc ?_ _)); refine blk_far ?_ NB202_200.out _; (with_reducible repeat (first | refine blk_drewN ?_ _ | refine blk_drew ?_ | refine blk_alloc ?_ _)); exact BK202.out) Tryd.underlying26 rfl (by kernel_rfl)) rfl ?_
            exact ⟨by first | rfl | (simp [errW_none, errW_some] <;> rfl) | (simp [*, errW_none, errW_some] <;> rfl), by repeat (first | (with_reducible first | exact HB.out | apply below_alloc | apply pw_below_drewN | apply below_drew1 | refine below_set ?_ GE200.out | refine below_set ?_ GE201.out | refine below_set ?_ GE202.out) | exact HB.out)⟩
end Go.Proofs.YtbcddiaplpbhjaaDoor.MDr
namespace Go.Proofs.YtbcddiaplpbhjaaDoor.MDr
open Go.RowKit Go.Proofs.YtbcddiaplpbhjaaDoorW.PrintWords Go.Proofs.YtbcddiaplpbhjaaDoorW.PrintLast Go.Proofs.YtbcddiaplpbhjaaDoorW.PrintMore
attribute [local go_sem] max2_int min2_int max_two min_two max_three min_three max_four min_four
set_option linter.unusedVariables false
set_option linter.unusedSimpArgs false
attribute [local go_sem high] eqA26
noncomputable def bivouacref14_Steps.l0 : Nat → Int → Int → Int → Int → Int → Int → Int → Int → Int → Int → Int → Option (Int × Int × Int × Int)
  | 0, _, _, _, _, _, _, _, _, _, _, _ => none
  | k + 1, x2, x3, x4, x12, x229000, x229001, x229002, x230000, x230001, x230002, x230003 => if x12 < x4 then ((bivouacref14_Step.f k x229000 x229001 x229002 x230000 x230001 x230002 x230003 x2 x3).bind fun bt231 => (if bt231.2.2.2 = true then (some (bt231.1, bt231.2.1, bt231.2.2.1, wrap64 (x12 + 1))) else (bivouacref14_Steps.l0 k x2 x3 x4 (wrap64 (x12 + 1)) bt231.1 bt231.2.1 bt231.2.2.1 x230000 x230001 x230002 x230003))) else (some (x229000, x229001, x229002, x12))
noncomputable def bivouacref14_Steps.f (k : Nat) (a0_0 : Int) (a0_1 : Int) (a0_2 : Int) (a1_0 : Int) (a1_1 : Int) (a1_2 : Int) (a1_3 : Int) (a2 : Int) (a3 : Int) (a4 : Int) : Option (Int × Int × Int × Int) := bivouacref14_Steps.l0 k a2 a3 a4 0 a0_0 a0_1 a0_2 a1_0 a1_1 a1_2 a1_3
theorem bivouacref14_Steps.mono_l : ∀ k, (∀ y0 y1 y2 y3 y4 y5 y6 y7 y8 y9 y10, LeO (bivouacref14_Steps.l0 k y0 y1 y2 y3 y4 y5 y6 y7 y8 y9 y10) (bivouacref14_Steps.l0 (k + 1) y0 y1 y2 y3 y4 y5 y6 y7 y8 y9 y10))
  | 0 => fun _ _ _ _ _ _ _ _ _ _ _ r h => by simp [bivouacref14_Steps.l0] at h
  | k + 1 => by
    have ih0 := bivouacref14_Steps.mono_l k
    · intro y0 y1 y2 y3 y4 y5 y6 y7 y8 y9 y10
      unfold bivouacref14_Steps.l0
      repeat' first
      | (with_reducible exact ih0 _ _ _ _ _ _ _ _ _ _ _)
      | (with_reducible exact bivouacref14_Step.mono _ _ _ _ _ _ _ _ _ _)
      | (with_reducible exact LeO.refl _)
      | (with_reducible exact LeO.none _)
      | (with_reducible refine LeO.ite ?_ ?_)
      | (with_reducible refine LeO.bind ?_ (fun _ => ?_))
      | exact ih0 _ _ _ _ _ _ _ _ _ _ _
      | exact bivouacref14_Step.mono _ _ _ _ _ _ _ _ _ _
      | exact LeO.none _
      | refine LeO.ite ?_ ?_
      | refine LeO.bind ?_ (fun _ => ?_)
theorem bivouacref14_Steps.mono : ∀ a0 a1 a2 a3 a4 a5 a6 a7 a8 a9 k, LeO (bivouacref14_Steps.f k a0 a1 a2 a3 a4 a5 a6 a7 a8 a9) (bivouacref14_Steps.f (k + 1) a0 a1 a2 a3 a4 a5 a6 a7 a8 a9) := by
  intro a0 a1 a2 a3 a4 a5 a6 a7 a8 a9 k
  have ih0 := bivouacref14_Steps.mono_l k
  unfold bivouacref14_Steps.f
  repeat' first
      | (with_reducible exact ih0 _ _ _ _ _ _ _ _ _ _ _)
      | (with_reducible exact bivouacref14_Step.mono _ _ _ _ _ _ _ _ _ _)
      | (with_reducible exact LeO.refl _)
      | (with_reducible exact LeO.none _)
      | (with_reducible refine LeO.ite ?_ ?_)
      | (with_reducible refine LeO.bind ?_ (fun _ => ?_))
      | exact ih0 _ _ _ _ _ _ _ _ _ _ _
      | exact bivouacref14_Step.mono _ _ _ _ _ _ _ _ _ _
      | exact LeO.none _
      | refine LeO.ite ?_ ?_
      | refine LeO.bind ?_ (fun _ => ?_)
set_option maxHeartbeats 8000000 in
set_option maxRecDepth 100000 in
theorem bivouacref14_Steps.calls (k : Nat) (a0_0 : Int) (a0_1 : Int) (a0_2 : Int) (a1_0 : Int) (a1_1 : Int) (a1_2 : Int) (a1_3 : Int) (a2 : Int) (a3 : Int) (a4 : Int) (r1 : Int) (r2 : Int) (r3 : Int) (r4 : Int) (w : World) (hT_ : Tg.TabR w) (h : bivouacref14_Steps.f k a0_0 a0_1 a0_2 a1_0 a1_1 a1_2 a1_3 a2 a3 a4 = some (r1, r2, r3, r4)) :
    Calls Tryd.prog 19 #[.agg #[.int .i64 a0_0, .int .i64 a0_1, .int .i64 a0_2], .agg #[.int .i64 a1_0, .int .i64 a1_1, .int .i64 a1_2, .int .i64 a1_3], .int .i64 a2, .int .i64 a3, .int .i64 a4] w fun e w' => e = .returned (.tuple #[.agg #[.int .i64 r1, .int .i64 r2, .int .i64 r3], .int .i64 r4]) ∧ Below w.heap.size w w' := by
  have hu26 := Tryd.underlying26
  have hu28 := Tryd.underlying28
  have HB := Aside0.mk (Below.refl w.heap.size w)
  have HTAB := Aside0.mk hT_
  clear hT_
  have H : (bivouacref14_Steps.l0 k a2 a3 a4 0 a0_0 a0_1 a0_2 a1_0 a1_1 a1_2 a1_3) = some (r1, r2, r3, r4) := h
  clear h
  have H' := Aside0.mk H
  clear H
  go_enter Tryd.func19, Tryd.ntmps19
  go_wp2_with (first | ((with_reducible refine gate_dst (N := 5) rfl ?_); refine box_event ?hg (N := 5) ?hd (cs := #[.int .i64 a0_0, .int .i64 a0_1, .int .i64 a0_2]) (t := 26) ?hr ?_; (case hd => rfl); (case hg => rfl); (case hr => first | (go_simp; done) | (go_simp; rfl)); intro gb228 hg w6 hbox hb; have n0_ := Aside0.mk (below_step (by repeat (first | (with_reducible first | exact HB.out | apply below_alloc | apply pw_below_drewN | apply below_drew1) | exact HB.out)) hb); have n1_ := Aside0.mk (hbox); have n2_ := Aside0.mk ((by rw [hg]; exact (below_size (by repeat (first | (with_reducible first | exact HB.out | apply below_alloc | apply pw_below_drewN | apply below_drew1) | exact HB.out))) : w.heap.size ≤ gb228)); have n3_ := Aside0.mk ((by rw [hg]; exact (below_size (by repeat (first | (with_reducible first | exact HB.out | apply below_alloc | apply pw_below_drewN | apply below_drew1) | exact HB.out))) : w.heap.size ≤ gb228)); clear HB; have HB := n0_; have BK228 := n1_; have GW228 := n2_; have GE228 := n3_; clear n0_ n1_ n2_ n3_; clear hb hbox hg) | ((with_reducible refine gate_dst (N := 6) rfl ?_); refine box_event ?hg (N := 6) ?hd (cs := #[.int .i64 a1_0, .int .i64 a1_1, .int .i64 a1_2, .int .i64 a1_3]) (t := 28) ?hr ?_; (case hd => rfl); (case hg => rfl); (case hr => first | (go_simp; done) | (go_simp; rfl)); intro gb229 hg w7 hbox hb; have n0_ := Aside0.mk (blk_below (g := gb228) (o := .cells #[.int .i64 a0_0, .int .i64 a0_1, .int .i64 a0_2] 26 (0, 0)) (by (with_reducible repeat (first | refine blk_drewN ?_ _ | refine blk_drew ?_ | refine blk_alloc ?_ _)); exact BK228.out) hb); have n1_ := Aside0.mk (below_step (by repeat (first | (with_reducible first | exact HB.out | apply below_alloc | apply pw_below_drewN | apply below_drew1 | refine below_set ?_ GE228.out) | exact HB.out)) hb); have n2_ := Aside0.mk (hbox); have n3_ := Aside0.mk ((by rw [hg]; exact (below_size (by repeat (first | (with_reducible first | exact HB.out | apply below_alloc | apply pw_below_drewN | apply below_drew1 | refine below_set ?_ GE228.out) | exact HB.out))) : w.heap.size ≤ gb229)); have n4_ := Aside0.mk ((by rw [hg]; exact (below_size (by repeat (first | (with_reducible first | exact HB.out | apply below_alloc | apply pw_below_drewN | apply below_drew1 | refine below_set ?_ GE228.out) | exact HB.out))) : w.heap.size ≤ gb229)); have n5_ := Aside0.mk ((by rw [hg]; exact Nat.ne_of_lt (blk_lt (g := gb228) (o := .cells #[.int .i64 a0_0, .int .i64 a0_1, .int .i64 a0_2] 26 (0, 0)) (by (with_reducible repeat (first | refine blk_drewN ?_ _ | refine blk_drew ?_ | refine blk_alloc ?_ _)); exact BK228.out)) : gb228 ≠ gb229)); have n6_ := Aside0.mk ((by rw [hg]; exact Nat.ne_of_gt (blk_lt (g := gb228) (o := .cells #[.int .i64 a0_0, .int .i64 a0_1, .int .i64 a0_2] 26 (0, 0)) (by (with_reducible repeat (first | refine blk_drewN ?_ _ | refine blk_drew ?_ | refine blk_alloc ?_ _)); exact BK228.out)) : gb229 ≠ gb228)); clear BK228; clear HB; have BK228 := n0_; have HB := n1_; have BK229 := n2_; have GW229 := n3_; have GE229 := n4_; have NB228_229 := n5_; have NB229_228 := n6_; clear n0_ n1_ n2_ n3_ n4_ n5_ n6_; clear hb hbox hg) | ((with_reducible refine gate_dst (N := 10) rfl ?_); refine box_event ?hg (N := 10) ?hd (cs := #[.int .i64 0, .int .i64 0, .int .i64 0]) (t := 26) ?hr ?_; (case hd => rfl); (case hg => rfl); (case hr => first | (go_simp; done) | (go_simp; rfl)); intro gb230 hg w8 hbox hb; have n0_ := Aside0.mk (blk_below (g := gb228) (o := .cells #[.int .i64 a0_0, .int .i64 a0_1, .int .i64 a0_2] 26 (0, 0)) (by (with_reducible repeat (first | refine blk_drewN ?_ _ | refine blk_drew ?_ | refine blk_alloc ?_ _)); exact BK228.out) hb); have n1_ := Aside0.mk (blk_below (g := gb229) (o := .cells #[.int .i64 a1_0, .int .i64 a1_1, .int .i64 a1_2, .int .i64 a1_3] 28 (0, 0)) (by (with_reducible repeat (first | refine blk_drewN ?_ _ | refine blk_drew ?_ | refine blk_alloc ?_ _)); exact BK229.out) hb); have n2_ := Aside0.mk (below_step (by repeat (first | (with_reducible first | exact HB.out | apply below_alloc | apply pw_below_drewN | apply below_drew1 | refine below_set ?_ GE228.out | refine below_set ?_ GE229.out) | exact HB.out)) hb); have n3_ := Aside0.mk (hbox); have n4_ := Aside0.mk ((by rw [hg]; exact (below_size (by repeat (first | (with_reducible first | exact HB.out | apply below_alloc | apply pw_below_drewN | apply below_drew1 | refine below_set ?_ GE228.out | refine below_set ?_ GE229.out) | exact HB.out))) : w.heap.size ≤ gb230)); have n5_ := Aside0.mk ((by rw [hg]; exact (below_size (by repeat (first | (with_reducible first | exact HB.out | apply below_alloc | apply pw_below_drewN | apply below_drew1 | refine below_set ?_ GE228.out | refine below_set ?_ GE229.out) | exact HB.out))) : w.heap.size ≤ gb230)); have n6_ := Aside0.mk ((by rw [hg]; exact Nat.ne_of_lt (blk_lt (g := gb228) (o := .cells #[.int .i64 a0_0, .int .i64 a0_1, .int .i64 a0_2] 26 (0, 0)) (by (with_reducible repeat (first | refine blk_drewN ?_ _ | refine blk_drew ?_ | refine blk_alloc ?_ _)); exact BK228.out)) : gb228 ≠ gb230)); have n7_ := Aside0.mk ((by rw [hg]; exact Nat.ne_of_gt (blk_lt (g := gb228) (o := .cells #[.int .i64 a0_0, .int .i64 a0_1, .int .i64 a0_2] 26 (0, 0)) (by (with_reducible repeat (first | refine blk_drewN ?_ _ | refine blk_drew ?_ | refine blk_alloc ?_ _)); exact BK228.out)) : gb230 ≠ gb228)); have n8_ := Aside0.mk ((by rw [hg]; exact Nat.ne_of_lt (blk_lt (g := gb229) (o := .cells #[.int .i64 a1_0, .int .i64 a1_1, .int .i64 a1_2, .int .i64 a1_3] 28 (0, 0)) (by (with_reducible repeat (first | refine blk_drewN ?_ _ | refine blk_drew ?_ | refine blk_alloc ?_ _)); exact BK229.out)) : gb229 ≠ gb230)); have n9_ := Aside0.mk ((by rw [hg]; exact Nat.ne_of_gt (blk_lt (g := gb229) (o := .cells #[.int .i64 a1_0, .int .i64 a1_1, .int .i64 a1_2, .int .i64 a1_3] 28 (0, 0)) (by (with_reducible repeat (first | refine blk_drewN ?_ _ | refine blk_drew ?_ | refine blk_alloc ?_ _)); exact BK229.out)) : gb230 ≠ gb229)); clear BK228; clear BK229; clear HB; have BK228 := n0_; have BK229 := n1_; have HB := n2_; have BK230 := n3_; have GW230 := n4_; have GE230 := n5_; have NB228_230 := n6_; have NB230_228 := n7_; have NB229_230 := n8_; have NB230_229 := n9_; clear n0_ n1_ n2_ n3_ n4_ n5_ n6_ n7_ n8_ n9_; clear hb hbox hg))
  go_loopg [12] k (fun kq v12 w' => ∃ (x12_1 : Int) (x229000_1 : Int) (x229001_1 : Int) (x229002_1 : Int) (x231000_1 : Int) (x231001_1 : Int) (x231002_1 : Int), v12 = .int .i64 x12_1 ∧ Aside0 (bivouacref14_Steps.l0 kq a2 a3 a4 x12_1 x229000_1 x229001_1 x229002_1 a1_0 a1_1 a1_2 a1_3 = some (r1, r2, r3, r4)) ∧ Aside0 (kq ≤ k) ∧ Aside0 (w'.heap[gb228]? = some (.cells #[.int .i64 x229000_1, .int .i64 x229001_1, .int .i64 x229002_1] 26 (0, 0))) ∧ Aside0 (w'.heap[gb229]? = some (.cells #[.int .i64 a1_0, .int .i64 a1_1, .int .i64 a1_2, .int .i64 a1_3] 28 (0, 0))) ∧ Aside0 (w'.heap[gb230]? = some (.cells #[.int .i64 x231000_1, .int .i64 x231001_1, .int .i64 x231002_1] 26 (0, 0))) ∧ Aside0 (Below w.heap.size w w'))
  case atStart => exact ⟨(0), (a0_0), (a0_1), (a0_2), (0), (0), (0), (by first | rfl | (simp; done) | (simp [*]; done)), H', ⟨Nat.le_refl _⟩, ⟨by (with_reducible repeat (first | refine blk_drewN ?_ _ | refine blk_drew ?_ | refine blk_alloc ?_ _)); exact BK228.out⟩, ⟨by (with_reducible repeat (first | refine blk_drewN ?_ _ | refine blk_drew ?_ | refine blk_alloc ?_ _)); exact BK229.out⟩, ⟨by (with_reducible repeat (first | refine blk_drewN ?_ _ | refine blk_drew ?_ | refine blk_alloc ?_ _)); exact BK230.out⟩, ⟨by repeat (first | (with_reducible first | exact HB.out | apply below_alloc | apply pw_below_drewN | apply below_drew1 | refine below_set ?_ GE228.out | refine below_set ?_ GE229.out | refine below_set ?_ GE230.out) | exact HB.out)⟩⟩
  case round =>
    clear H'
    try clear c1
    try clear p2
    obtain ⟨x12_1, x229000_1, x229001_1, x229002_1, x231000_1, x231001_1, x231002_1, rfl, HA, HK1, BK228, BK229, BK230, HB⟩ := hrel
    cases gk with
    | zero => exact absurd HA.out (by simp [bivouacref14_Steps.l0])
    | succ k1 =>
      have H := HA.out
      clear HA
      simp only [bivouacref14_Steps.l0] at H
      by_cases c9 : x12_1 < a4
      · rw [if_pos c9] at H
        have c9b0 : decide (x12_1 < a4) = true := decide_eq_true c9
        clear c9
        replace H := Option.bind_eq_some_iff.mp H
        obtain ⟨⟨t231, t232, t233, t234⟩, A100, H⟩ := H
        replace H : (if t234 = true then (some (t231, t232, t233, wrap64 (x12_1 + 1))) else (bivouacref14_Steps.l0 k1 a2 a3 a4 (wrap64 (x12_1 + 1)) t231 t232 t233 a1_0 a1_1 a1_2 a1_3)) = some (r1, r2, r3, r4) := H
        have A10 := Aside0.mk A100
        clear A100
        by_cases c11 : t234 = true
        · subst c11
          have H1 : (some (t231, t232, t233, wrap64 (x12_1 + 1))) = some (r1, r2, r3, r4) := by rw [if_pos rfl] at H; exact H
          clear H
          have H := H1
          clear H1
          simp only [Option.some.injEq, Prod.mk.injEq] at H
          obtain ⟨rfl, rfl, rfl, rfl⟩ := H
          have hnb12 := NB228_229.out
          have hnc12 := NB229_228.out
          have hnb13 := NB228_230.out
          have hnc13 := NB230_228.out
          have hcz14_0 : wr.cell? ⟨gb228, 0, none⟩ = some (.int .i64 x229000_1) := (blk_cell BK228.out 0).trans rfl
          have hcz14_1 : wr.cell? ⟨gb228, 1, none⟩ = some (.int .i64 x229001_1) := (blk_cell BK228.out 1).trans rfl
          have hcz14_2 : wr.cell? ⟨gb228, 2, none⟩ = some (.int .i64 x229002_1) := (blk_cell BK228.out 2).trans rfl
          have hfz14_0 := blk_frozen BK228.out 0
          have hfz14_1 := blk_frozen BK228.out 1
          have hfz14_2 := blk_frozen BK228.out 2
          have hnb15 := NB229_230.out
          have hnc15 := NB230_229.out
          have hcz16_0 : wr.cell? ⟨gb229, 0, none⟩ = some (.int .i64 a1_0) := (blk_cell BK229.out 0).trans rfl
          have hcz16_1 : wr.cell? ⟨gb229, 1, none⟩ = some (.int .i64 a1_1) := (blk_cell BK229.out 1).trans rfl
          have hcz16_2 : wr.cell? ⟨gb229, 2, none⟩ = some (.int .i64 a1_2) := (blk_cell BK229.out 2).trans rfl
          have hcz16_3 : wr.cell? ⟨gb229, 3, none⟩ = some (.int .i64 a1_3) := (blk_cell BK229.out 3).trans rfl
          have hfz16_0 := blk_frozen BK229.out 0
          have hfz16_1 := blk_frozen BK229.out 1
          have hfz16_2 := blk_frozen BK229.out 2
          have hfz16_3 := blk_frozen BK229.out 3
          go_wp2_with (first | ((with_reducible refine gate_callee (f := 17) rfl ?_); refine goesL_ (some 23) rfl rfl Tryd.func17 (by kernel_rfl) rfl #[.agg #[.int .i64 x229000_1, .int .i64 x229001_1, .int .i64 x229002_1], .agg #[.int .i64 a1_0, .int .i64 a1_1, .int .i64 a1_2, .int .i64 a1_3], .int .i64 a2, .int .i64 a3] rfl (by (try simp only [List.map_toArray, List.map_cons, List.map_nil]); first | done | rfl | (simp only [List.length_drop, List.length_take]; rfl)) ?_; (with_reducible refine (bivouacref14_Step.calls k1 x229000_1 x229001_1 x229002_1 a1_0 a1_1 a1_2 a1_3 a2 a3 t231 t232 t233 true _ ?side1 A10.out).mono ?_); (case side1 => exact Tg.TabR.below HTAB.out (by repeat (first | (with_reducible first | exact HB.out | apply below_alloc | apply pw_below_drewN | apply below_drew1 | refine below_set ?_ GE228.out | refine below_set ?_ GE229.out | refine below_set ?_ GE230.out) | exact HB.out))); rintro e w17 ⟨rfl, hb⟩; refine ⟨_, rfl, ?_⟩; have n0_ := Aside0.mk (blk_below (g := gb228) (o := .cells #[.int .i64 x229000_1, .int .i64 x229001_1, .int .i64 x229002_1] 26 (0, 0)) (by (with_reducible repeat (first | refine blk_drewN ?_ _ | refine blk_drew ?_ | refine blk_alloc ?_ _)); exact BK228.out) hb); have n1_ := Aside0.mk (blk_below (g := gb229) (o := .cells #[.int .i64 a1_0, .int .i64 a1_1, .int .i64 a1_2, .int .i64 a1_3] 28 (0, 0)) (by (with_reducible repeat (first | refine blk_drewN ?_ _ | refine blk_drew ?_ | refine blk_alloc ?_ _)); exact BK229.out) hb); have n2_ := Aside0.mk (blk_below (g := gb230) (o := .cells #[.int .i64 x231000_1, .int .i64 x231001_1, .int .i64 x231002_1] 26 (0, 0)) (by (with_reducible repeat (first | refine blk_drewN ?_ _ | refine blk_drew ?_ | refine blk_alloc ?_ _)); exact BK230.out) hb); have n3_ := Aside0.mk (below_step (by repeat (first | (with_reducible first | exact HB.out | apply below_alloc | apply pw_below_drewN | apply below_drew1 | refine below_set ?_ GE228.out | refine below_set ?_ GE229.out | refine below_set ?_ GE230.out) | exact HB.out)) hb); clear BK228; clear BK229; clear BK230; clear HB; have BK228 := n0_; have BK229 := n1_; have BK230 := n2_; have HB := n3_; clear n0_ n1_ n2_ n3_; (try clear hb); (try clear hb2); (try clear hk); (try clear hi)) | ((with_reducible refine gate_dst (N := 13) rfl ?_); refine box_event ?hg (N := 13) ?hd (cs := #[.int .i64 0, .int .i64 0, .int .i64 0]) (t := 26) ?hr ?_; (case hd => rfl); (case hg => rfl); (case hr => first | (go_simp; done) | (go_simp; rfl)); intro gb235 hg w18 hbox hb; have n0_ := Aside0.mk (blk_below (g := gb228) (o := .cells #[.int .i64 x229000_1, .int .i64 x229001_1, .int .i64 x229002_1] 26 (0, 0)) (by (with_reducible repeat (first | refine blk_drewN ?_ _ | refine blk_drew ?_ | refine blk_alloc ?_ _)); exact BK228.out) hb); have n1_ := Aside0.mk (blk_below (g := gb229) (o := .cells #[.int .i64 a1_0, .int .i64 a1_1, .int .i64 a1_2, .int .i64 a1_3] 28 (0, 0)) (by (with_reducible repeat (first | refine blk_drewN ?_ _ | refine blk_drew ?_ | refine blk_alloc ?_ _)); exact BK229.out) hb); have n2_ := Aside0.mk (blk_below (g := gb230) (o := .cells #[.int .i64 x231000_1, .int .i64 x231001_1, .int .i64 x231002_1] 26 (0, 0)) (by (with_reducible repeat (first | refine blk_drewN ?_ _ | refine blk_drew ?_ | refine blk_alloc ?_ _)); exact BK230.out) hb); have n3_ := Aside0.mk (below_step (by repeat (first | (with_reducible first | exact HB.out | apply below_alloc | apply pw_below_drewN | apply below_drew1 | refine below_set ?_ GE228.out | refine below_set ?_ GE229.out | refine below_set ?_ GE230.out) | exact HB.out)) hb); have n4_ := Aside0.mk (hbox); have n5_ := Aside0.mk ((by rw [hg]; exact (below_size (by repeat (first | (with_reducible first | exact HB.out | apply below_alloc | apply pw_below_drewN | apply below_drew1 | refine below_set ?_ GE228.out | refine below_set ?_ GE229.out | refine below_set ?_ GE230.out) | exact HB.out))) : w.heap.size ≤ gb235)); have n6_ := Aside0.mk ((by rw [hg]; exact (below_size (by repeat (first | (with_reducible first | exact HB.out | apply below_alloc | apply pw_below_drewN | apply below_drew1 | refine below_set ?_ GE228.out | refine below_set ?_ GE229.out | refine below_set ?_ GE230.out) | exact HB.out))) : w.heap.size ≤ gb235)); have n7_ := Aside0.mk ((by rw [hg]; exact Nat.ne_of_lt (blk_lt (g := gb228) (o := .cells #[.int .i64 x229000_1, .int .i64 x229001_1, .int .i64 x229002_1] 26 (0, 0)) (by (with_reducible repeat (first | refine blk_drewN ?_ _ | refine blk_drew ?_ | refine blk_alloc ?_ _)); exact BK228.out)) : gb228 ≠ gb235)); have n8_ := Aside0.mk ((by rw [hg]; exact Nat.ne_of_gt (blk_lt (g := gb228) (o := .cells #[.int .i64 x229000_1, .int .i64 x229001_1, .int .i64 x229002_1] 26 (0, 0)) (by (with_reducible repeat (first | refine blk_drewN ?_ _ | refine blk_drew ?_ | refine blk_alloc ?_ _)); exact BK228.out)) : gb235 ≠ gb228)); have n9_ := Aside0.mk ((by rw [hg]; exact Nat.ne_of_lt (blk_lt (g := gb229) (o := .cells #[.int .i64 a1_0, .int .i64 a1_1, .int .i64 a1_2, .int .i64 a1_3] 28 (0, 0)) (by (with_reducible repeat (first | refine blk_drewN ?_ _ | refine blk_drew ?_ | refine blk_alloc ?_ _)); exact BK229.out)) : gb229 ≠ gb235)); have n10_ := Aside0.mk ((by rw [hg]; exact Nat.ne_of_gt (blk_lt (g := gb229) (o := .cells #[.int .i64 a1_0, .int .i64 a1_1, .int .i64 a1_2, .int .i64 a1_3] 28 (0, 0)) (by (with_reducible repeat (first | refine blk_drewN ?_ _ | refine blk_drew ?_ | refine blk_alloc ?_ _)); exact BK229.out)) : gb235 ≠ gb229)); have n11_ := Aside0.mk ((by rw [hg]; exact Nat.ne_of_lt (blk_lt (g := gb230) (o := .cells #[.int .i64 x231000_1, .int .i64 x231001_1, .int .i64 x231002_1] 26 (0, 0)) (by (with_reducible repeat (first | refine blk_drewN ?_ _ | refine blk_drew ?_ | refine blk_alloc ?_ _)); exact BK230.out)) : gb230 ≠ gb235)); have n12_ := Aside0.mk ((by rw [hg]; exact Nat.ne_of_gt (blk_lt (g := gb230) (o := .cells #[.int .i64 x231000_1, .int .i64 x231001_1, .int .i64 x231002_1] 26 (0, 0)) (by (with_reducible repeat (first | refine blk_drewN ?_ _ | refine blk_drew ?_ | refine blk_alloc ?_ _)); exact BK230.out)) : gb235 ≠ gb230)); clear BK228; clear BK229; clear BK230; clear HB; have BK228 := n0_; have BK229 := n1_; have BK230 := n2_; have HB := n3_; have BK235 := n4_; have GW235 := n5_; have GE235 := n6_; have NB228_235 := n7_; have NB235_228 := n8_; have NB229_235 := n9_; have NB235_229 := n10_; have NB230_235 := n11_; have NB235_230 := n12_; clear n0_ n1_ n2_ n3_ n4_ n5_ n6_ n7_ n8_ n9_ n10_ n11_ n12_; clear hb hbox hg; have hnb19 := NB235_228.out; have hnc19 := NB228_235.out; have hnb20 := NB235_229.out; have hnc20 := NB229_235.out; have hnb21 := NB235_230.out; have hnc21 := NB230_235.out; have hcz22_0 : w18.cell? ⟨gb235, 0, none⟩ = some (.int .i64 0) := (blk_cell BK235.out 0).trans rfl; have hcz22_1 : w18.cell? ⟨gb235, 1, none⟩ = some (.int .i64 0) := (blk_cell BK235.out 1).trans rfl; have hcz22_2 : w18.cell? ⟨gb235, 2, none⟩ = some (.int .i64 0) := (blk_cell BK235.out 2).trans rfl; have hfz22_0 := blk_frozen BK235.out 0; have hfz22_1 := blk_frozen BK235.out 1; have hfz22_2 := blk_frozen BK235.out 2; have hcz23_0 : w18.cell? ⟨gb228, 0, none⟩ = some (.int .i64 x229000_1) := (blk_cell BK228.out 0).trans rfl; have hcz23_1 : w18.cell? ⟨gb228, 1, none⟩ = some (.int .i64 x229001_1) := (blk_cell BK228.out 1).trans rfl; have hcz23_2 : w18.cell? ⟨gb228, 2, none⟩ = some (.int .i64 x229002_1) := (blk_cell BK228.out 2).trans rfl; have hfz23_0 := blk_frozen BK228.out 0; have hfz23_1 := blk_frozen BK228.out 1; have hfz23_2 := blk_frozen BK228.out 2; have hcz24_0 : w18.cell? ⟨gb230, 0, none⟩ = some (.int .i64 x231000_1) := (blk_cell BK230.out 0).trans rfl; have hcz24_1 : w18.cell? ⟨gb230, 1, none⟩ = some (.int .i64 x231001_1) := (blk_cell BK230.out 1).trans rfl; have hcz24_2 : w18.cell? ⟨gb230, 2, none⟩ = some (.int .i64 x231002_1) := (blk_cell BK230.out 2).trans rfl; have hfz24_0 := blk_frozen BK230.out 0; have hfz24_1 := blk_frozen BK230.out 1; have hfz24_2 := blk_frozen BK230.out 2))
          refine bodyPost_ret (results_ct rfl _ _ gb230 26 #[.int .i64 t231, .int .i64 t232, .int .i64 t233] (0, 0) _ rfl (by (with_reducible repeat (first | refine blk_drewN ?_ _ | refine blk_drew ?_ | refine blk_alloc ?_ _)); refine blk_put (cs := #[.int .i64 t231, .int .i64 t232, .int .i64 x231002_1]) ?_ 2 _ rfl; (with_reducible repeat (first | refine blk_drewN ?_ _ | refine blk_drew ?_ | refine blk_alloc ?_ _)); refine blk_put (cs := #[.int .i64 t231, .int .i64 x231001_1, .int .i64 x231002_1]) ?_ 1 _ rfl; (with_reducible repeat (first | refine blk_drewN ?_ _ | refine blk_drew ?_ | refine blk_alloc ?_ _)); refine blk_put (cs := #[.int .i64 x231000_1, .int .i64 x231001_1, .int .i64 x231002_1]) ?_ 0 _ rfl; (with_reducible repeat (first | refine blk_drewN ?_ _ | refine blk_drew ?_ | refine blk_alloc ?_ _)); refine blk_far ?_ NB230_228.out _; (with_reducible repeat (first | refine blk_drewN ?_ _ | refine blk_drew ?_ | refine blk_alloc ?_ _)); refine blk_far ?_ NB230_228.out _; (with_reducible repeat (first | refine blk_drewN ?_ _ | refine blk_drew ?_ | refine blk_alloc ?_ _)); refine blk_far ?_ NB230_228.out _; (with_reducible repeat (first | refine blk_drewN ?_ _ | refine blk_drew ?_ | refine blk_alloc ?_ _)); refine blk_far ?_ NB230_235.out _; (with_reducible repeat (first | refine blk_drewN ?_ _ | refine blk_drew ?_ | refine blk_alloc ?_ _)); refine blk_far ?_ NB230_235.out _; (with_reducible repeat (first | refine blk_drewN ?_ _ | refine blk_drew ?_ | refine blk_alloc ?_ _)); refine blk_far ?_ NB230_235.out _; (with_reducible repeat (first | refine blk_drewN ?_ _ | refine blk_drew ?_ | refine blk_alloc ?_ _)); exact BK230.out) Tryd.underlying26 rfl (by kernel_rfl)) rfl ?_
          exact ⟨by first | rfl | (simp [errW_none, errW_some] <;> rfl) | (simp [*, errW_none, errW_some] <;> rfl), by repeat (first | (with_reducible first | exact HB.out | apply below_alloc | apply pw_below_drewN | apply below_drew1 | refine below_set ?_ GE228.out | refine below_set ?_ GE229.out | refine below_set ?_ GE230.out | refine below_set ?_ GE235.out) | exact HB.out)⟩
        · replace c11 := Bool.eq_false_iff.mpr c11
          subst c11
          have H1 : (bivouacref14_Steps.l0 k1 a2 a3 a4 (wrap64 (x12_1 + 1)) t231 t232 t233 a1_0 a1_1 a1_2 a1_3) = some (r1, r2, r3, r4) := by rw [if_neg (show ¬ (false = true) by decide)] at H; exact H
          clear H
          have H := H1
          clear H1
          have H' := Aside0.mk H
          clear H
          have hnb25 := NB228_229.out
          have hnc25 := NB229_228.out
          have hnb26 := NB228_230.out
          have hnc26 := NB230_228.out
          have hcz27_0 : wr.cell? ⟨gb228, 0, none⟩ = some (.int .i64 x229000_1) := (blk_cell BK228.out 0).trans rfl
          have hcz27_1 : wr.cell? ⟨gb228, 1, none⟩ = some (.int .i64 x229001_1) := (blk_cell BK228.out 1).trans rfl
          have hcz27_2 : wr.cell? ⟨gb228, 2, none⟩ = some (.int .i64 x229002_1) := (blk_cell BK228.out 2).trans rfl
          have hfz27_0 := blk_frozen BK228.out 0
          have hfz27_1 := blk_frozen BK228.out 1
          have hfz27_2 := blk_frozen BK228.out 2
          have hnb28 := NB229_230.out
          have hnc28 := NB230_229.out
          have hcz29_0 : wr.cell? ⟨gb229, 0, none⟩ = some (.int .i64 a1_0) := (blk_cell BK229.out 0).trans rfl
          have hcz29_1 : wr.cell? ⟨gb229, 1, none⟩ = some (.int .i64 a1_1) := (blk_cell BK229.out 1).trans rfl
          have hcz29_2 : wr.cell? ⟨gb229, 2, none⟩ = some (.int .i64 a1_2) := (blk_cell BK229.out 2).trans rfl
          have hcz29_3 : wr.cell? ⟨gb229, 3, none⟩ = some (.int .i64 a1_3) := (blk_cell BK229.out 3).trans rfl
          have hfz29_0 := blk_frozen BK229.out 0
          have hfz29_1 := blk_frozen BK229.out 1
          have hfz29_2 := blk_frozen BK229.out 2
          have hfz29_3 := blk_frozen BK229.out 3
          go_wp2_with (first | ((with_reducible refine gate_callee (f := 17) rfl ?_); refine goesL_ (some 23) rfl rfl Tryd.func17 (by kernel_rfl) rfl #[.agg #[.int .i64 x229000_1, .int .i64 x229001_1, .int .i64 x229002_1], .agg #[.int .i64 a1_0, .int .i64 a1_1, .int .i64 a1_2, .int .i64 a1_3], .int .i64 a2, .int .i64 a3] rfl (by (try simp only [List.map_toArray, List.map_cons, List.map_nil]); first | done | rfl | (simp only [List.length_drop, List.length_take]; rfl)) ?_; (with_reducible refine (bivouacref14_Step.calls k1 x229000_1 x229001_1 x229002_1 a1_0 a1_1 a1_2 a1_3 a2 a3 t231 t232 t233 false _ ?side1 A10.out).mono ?_); (case side1 => exact Tg.TabR.below HTAB.out (by repeat (first | (with_reducible first | exact HB.out | apply below_alloc | apply pw_below_drewN | apply below_drew1 | refine below_set ?_ GE228.out | refine below_set ?_ GE229.out | refine below_set ?_ GE230.out) | exact HB.out))); rintro e w30 ⟨rfl, hb⟩; refine ⟨_, rfl, ?_⟩; have n0_ := Aside0.mk (blk_below (g := gb228) (o := .cells #[.int .i64 x229000_1, .int .i64 x229001_1, .int .i64 x229002_1] 26 (0, 0)) (by (with_reducible repeat (first | refine blk_drewN ?_ _ | refine blk_drew ?_ | refine blk_alloc ?_ _)); exact BK228.out) hb); have n1_ := Aside0.mk (blk_below (g := gb229) (o := .cells #[.int .i64 a1_0, .int .i64 a1_1, .int .i64 a1_2, .int .i64 a1_3] 28 (0, 0)) (by (with_reducible repeat (first | refine blk_drewN ?_ _ | refine blk_drew ?_ | refine blk_alloc ?_ _)); exact BK229.out) hb); have n2_ := Aside0.mk (blk_below (g := gb230) (o := .cells #[.int .i64 x231000_1, .int .i64 x231001_1, .int .i64 x231002_1] 26 (0, 0)) (by (with_reducible repeat (first | refine blk_drewN ?_ _ | refine blk_drew ?_ | refine blk_alloc ?_ _)); exact BK230.out) hb); have n3_ := Aside0.mk (below_step (by repeat (first | (with_reducible first | exact HB.out | apply below_alloc | apply pw_below_drewN | apply below_drew1 | refine below_set ?_ GE228.out | refine below_set ?_ GE229.out | refine below_set ?_ GE230.out) | exact HB.out)) hb); clear BK228; clear BK229; clear BK230; clear HB; have BK228 := n0_; have BK229 := n1_; have BK230 := n2_; have HB := n3_; clear n0_ n1_ n2_ n3_; (try clear hb); (try clear hb2); (try clear hk); (try clear hi)) | ((with_reducible refine gate_dst (N := 13) rfl ?_); refine box_event ?hg (N := 13) ?hd (cs := #[.int .i64 0, .int .i64 0, .int .i64 0]) (t := 26) ?hr ?_; (case hd => rfl); (case hg => rfl); (case hr => first | (go_simp; done) | (go_simp; rfl)); intro gb235 hg w31 hbox hb; have n0_ := Aside0.mk (blk_below (g := gb228) (o := .cells #[.int .i64 x229000_1, .int .i64 x229001_1, .int .i64 x229002_1] 26 (0, 0)) (by (with_reducible repeat (first | refine blk_drewN ?_ _ | refine blk_drew ?_ | refine blk_alloc ?_ _)); exact BK228.out) hb); have n1_ := Aside0.mk (blk_below (g := gb229) (o := .cells #[.int .i64 a1_0, .int .i64 a1_1, .int .i64 a1_2, .int .i64 a1_3] 28 (0, 0)) (by (with_reducible repeat (first | refine blk_drewN ?_ _ | refine blk_drew ?_ | refine blk_alloc ?_ _)); exact BK229.out) hb); have n2_ := Aside0.mk (blk_below (g := gb230) (o := .cells #[.int .i64 x231000_1, .int .i64 x231001_1, .int .i64 x231002_1] 26 (0, 0)) (by (with_reducible repeat (first | refine blk_drewN ?_ _ | refine blk_drew ?_ | refine blk_alloc ?_ _)); exact BK230.out) hb); have n3_ := Aside0.mk (below_step (by repeat (first | (with_reducible first | exact HB.out | apply below_alloc | apply pw_below_drewN | apply below_drew1 | refine below_set ?_ GE228.out | refine below_set ?_ GE229.out | refine below_set ?_ GE230.out) | exact HB.out)) hb); have n4_ := Aside0.mk (hbox); have n5_ := Aside0.mk ((by rw [hg]; exact (below_size (by repeat (first | (with_reducible first | exact HB.out | apply below_alloc | apply pw_below_drewN | apply below_drew1 | refine below_set ?_ GE228.out | refine below_set ?_ GE229.out | refine below_set ?_ GE230.out) | exact HB.out))) : w.heap.size ≤ gb235)); have n6_ := Aside0.mk ((by rw [hg]; exact (below_size (by repeat (first | (with_reducible first | exact HB.out | apply below_alloc | apply pw_below_drewN | apply below_drew1 | refine below_set ?_ GE228.out | refine below_set ?_ GE229.out | refine below_set ?_ GE230.out) | exact HB.out))) : w.heap.size ≤ gb235)); have n7_ := Aside0.mk ((by rw [hg]; exact Nat.ne_of_lt (blk_lt (g := gb228) (o := .cells #[.int .i64 x229000_1, .int .i64 x229001_1, .int .i64 x229002_1] 26 (0, 0)) (by (with_reducible repeat (first | refine blk_drewN ?_ _ | refine blk_drew ?_ | refine blk_alloc ?_ _)); exact BK228.out)) : gb228 ≠ gb235)); have n8_ := Aside0.mk ((by rw [hg]; exact Nat.ne_of_gt (blk_lt (g := gb228) (o := .cells #[.int .i64 x229000_1, .int .i64 x229001_1, .int .i64 x229002_1] 26 (0, 0)) (by (with_reducible repeat (first | refine blk_drewN ?_ _ | refine blk_drew ?_ | refine blk_alloc ?_ _)); exact BK228.out)) : gb235 ≠ gb228)); have n9_ := Aside0.mk ((by rw [hg]; exact Nat.ne_of_lt (blk_lt (g := gb229) (o := .cells #[.int .i64 a1_0, .int .i64 a1_1, .int .i64 a1_2, .int .i64 a1_3] 28 (0, 0)) (by (with_reducible repeat (first | refine blk_drewN ?_ _ | refine blk_drew ?_ | refine blk_alloc ?_ _)); exact BK229.out)) : gb229 ≠ gb235)); have n10_ := Aside0.mk ((by rw [hg]; exact Nat.ne_of_gt (blk_lt (g := gb229) (o := .cells #[.int .i64 a1_0, .int .i64 a1_1, .int .i64 a1_2, .int .i64 a1_3] 28 (0, 0)) (by (with_reducible repeat (first | refine blk_drewN ?_ _ | refine blk_drew ?_ | refine blk_alloc ?_ _)); exact BK229.out)) : gb235 ≠ gb229)); have n11_ := Aside0.mk ((by rw [hg]; exact Nat.ne_of_lt (blk_lt (g := gb230) (o := .cells #[.int .i64 x231000_1, .int .i64 x231001_1, .int .i64 x231002_1] 26 (0, 0)) (by (with_reducible repeat (first | refine blk_drewN ?_ _ | refine blk_drew ?_ | refine blk_alloc ?_ _)); exact BK230.out)) : gb230 ≠ gb235)); have n12_ := Aside0.mk ((by rw [hg]; exact Nat.ne_of_gt (blk_lt (g := gb230) (o := .cells #[.int .i64 x231000_1, .int .i64 x231001_1, .int .i64 x231002_1] 26 (0, 0)) (by (with_reducible repeat (first | refine blk_drewN ?_ _ | refine blk_drew ?_ | refine blk_alloc ?_ _)); exact BK230.out)) : gb235 ≠ gb230)); clear BK228; clear BK229; clear BK230; clear HB; have BK228 := n0_; have BK229 := n1_; have BK230 := n2_; have HB := n3_; have BK235 := n4_; have GW235 := n5_; have GE235 := n6_; have NB228_235 := n7_; have NB235_228 := n8_; have NB229_235 := n9_; have NB235_229 := n10_; have NB230_235 := n11_; have NB235_230 := n12_; clear n0_ n1_ n2_ n3_ n4_ n5_ n6_ n7_ n8_ n9_ n10_ n11_ n12_; clear hb hbox hg; have hnb32 := NB235_228.out; have hnc32 := NB228_235.out; have hnb33 := NB235_229.out; have hnc33 := NB229_235.out; have hnb34 := NB235_230.out; have hnc34 := NB230_235.out; have hcz35_0 : w31.cell? ⟨gb235, 0, none⟩ = some (.int .i64 0) := (blk_cell BK235.out 0).trans rfl; have hcz35_1 : w31.cell? ⟨gb235, 1, none⟩ = some (.int .i64 0) := (blk_cell BK235.out 1).trans rfl; have hcz35_2 : w31.cell? ⟨gb235, 2, none⟩ = some (.int .i64 0) := (blk_cell BK235.out 2).trans rfl; have hfz35_0 := blk_frozen BK235.out 0; have hfz35_1 := blk_frozen BK235.out 1; have hfz35_2 := blk_frozen BK235.out 2; have hcz36_0 : w31.cell? ⟨gb228, 0, none⟩ = some (.int .i64 x229000_1) := (blk_cell BK228.out 0).trans rfl; have hcz36_1 : w31.cell? ⟨gb228, 1, none⟩ = some (.int .i64 x229001_1) := (blk_cell BK228.out 1).trans rfl; have hcz36_2 : w31.cell? ⟨gb228, 2, none⟩ = some (.int .i64 x229002_1) := (blk_cell BK228.out 2).trans rfl; have hfz36_0 := blk_frozen BK228.out 0; have hfz36_1 := blk_frozen BK228.out 1; have hfz36_2 := blk_frozen BK228.out 2))
          go_roundg k1
          case measure => have := HK1.out; omega
          case rel => exact ⟨(wrap64 (x12_1 + 1)), (t231), (t232), (t233), (x231000_1), (x231001_1), (x231002_1), (by first | rfl | (simp; done) | (simp [*]; done)), H', ⟨by have := HK1.out; omega⟩, ⟨by (with_reducible repeat (first | refine blk_drewN ?_ _ | refine blk_drew ?_ | refine blk_alloc ?_ _)); refine blk_put (cs := #[.int .i64 t231, .int .i64 t232, .int .i64 x229002_1]) ?_ 2 _ rfl; (with_reducible repeat (first | refine blk_drewN ?_ _ | refine blk_drew ?_ | refine blk_alloc ?_ _)); refine blk_put (cs := #[.int .i64 t231, .int .i64 x229001_1, .int .i64 x229002_1]) ?_ 1 _ rfl; (with_reducible repeat (first | refine blk_drewN ?_ _ | refine blk_drew ?_ | refine blk_alloc ?_ _)); refine blk_put (cs := #[.int .i64 x229000_1, .int .i64 x229001_1, .int .i64 x229002_1]) ?_ 0 _ rfl; (with_reducible repeat (first | refine blk_drewN ?_ _ | refine blk_drew ?_ | refine blk_alloc ?_ _)); refine blk_far ?_ NB228_235.out _; (with_reducible repeat (first | refine blk_drewN ?_ _ | refine blk_drew ?_ | refine blk_alloc ?_ _)); refine blk_far ?_ NB228_235.out _; (with_reducible repeat (first | refine blk_drewN ?_ _ | refine blk_drew ?_ | refine blk_alloc ?_ _)); refine blk_far ?_ NB228_235.out _; (with_reducible repeat (first | refine blk_drewN ?_ _ | refine blk_drew ?_ | refine blk_alloc ?_ _)); exact BK228.out⟩, ⟨by (with_reducible repeat (first | refine blk_drewN ?_ _ | refine blk_drew ?_ | refine blk_alloc ?_ _)); refine blk_far ?_ NB229_228.out _; (with_reducible repeat (first | refine blk_drewN ?_ _ | refine blk_drew ?_ | refine blk_alloc ?_ _)); refine blk_far ?_ NB229_228.out _; (with_reducible repeat (first | refine blk_drewN ?_ _ | refine blk_drew ?_ | refine blk_alloc ?_ _)); refine blk_far ?_ NB229_228.out _; (with_reducible repeat (first | refine blk_drewN ?_ _ | refine blk_drew ?_ | refine blk_alloc ?_ _)); refine blk_far ?_ NB229_235.out _; (with_reducible repeat (first | refine blk_drewN ?_ _ | refine blk_drew ?_ | refine blk_alloc ?_ _)); refine blk_far ?_ NB229_235.out _; (with_reducible repeat (first | refine blk_drewN ?_ _ | refine blk_drew ?_ | refine blk_alloc ?_ _)); refine blk_far ?_ NB229_235.out _; (with_reducible repeat (first | refine blk_drewN ?_ _ | refine blk_drew ?_ | refine blk_alloc ?_ _)); exact BK229.out⟩, ⟨by (with_reducible repeat (first | refine blk_drewN ?_ _ | refine blk_drew ?_ | refine blk_alloc ?_ _)); refine blk_far ?_ NB230_228.out _; (with_reducible repeat (first | refine blk_drewN ?_ _ | refine blk_drew ?_ | refine blk_alloc ?_ _)); refine blk_far ?_ NB230_228.out _; (with_reducible repeat (first | refine blk_drewN ?_ _ | refine blk_drew ?_ | refine blk_alloc ?_ _)); refine blk_far ?_ NB230_228.out _; (with_reducible repeat (first | refine blk_drewN ?_ _ | refine blk_drew ?_ | refine blk_alloc ?_ _)); refine blk_far ?_ NB230_235.out _; (with_reducible repeat (first | refine blk_drewN ?_ _ | refine blk_drew ?_ | refine blk_alloc ?_ _)); refine blk_far ?_ NB230_235.out _; (with_reducible repeat (first | refine blk_drewN ?_ _ | refine blk_drew ?_ | refine blk_alloc ?_ _)); refine blk_far ?_ NB230_235.out _; (with_reducible repeat (first | refine blk_drewN ?_ _ | refine blk_drew ?_ | refine blk_alloc ?_ _)); exact BK230.out⟩, ⟨by repeat (first | (with_reducible first | exact HB.out | apply below_alloc | apply pw_below_drewN | apply below_drew1 | refine below_set ?_ GE228.out | refine below_set ?_ GE229.out | refine below_set ?_ GE230.out | refine below_set ?_ GE235.out) | exact HB.out)⟩⟩
      · rw [if_neg c9] at H
        have c9b0 : decide (x12_1 < a4) = false := decide_eq_false c9
        clear c9
        simp only [Option.some.injEq, Prod.mk.injEq] at H
        obtain ⟨rfl, rfl, rfl, rfl⟩ := H
        have hnb37 := NB228_229.out
        have hnc37 := NB229_228.out
        have hnb38 := NB228_230.out
        have hnc38 := NB230_228.out
        have hcz39_0 : wr.cell? ⟨gb228, 0, none⟩ = some (.int .i64 x229000_1) := (blk_cell BK228.out 0).trans rfl
        have hcz39_1 : wr.cell? ⟨gb228, 1, none⟩ = some (.int .i64 x229001_1) := (blk_cell BK228.out 1).trans rfl
        have hcz39_2 : wr.cell? ⟨gb228, 2, none⟩ = some (.int .i64 x229002_1) := (blk_cell BK228.out 2).trans rfl
        have hfz39_0 := blk_frozen BK228.out 0
        have hfz39_1 := blk_frozen BK228.out 1
        have hfz39_2 := blk_frozen BK228.out 2
        have hnb40 := NB230_229.out
        have hnc40 := NB229_230.out
        have hcz41_0 : wr.cell? ⟨gb230, 0, none⟩ = some (.int .i64 x231000_1) := (blk_cell BK230.out 0).trans rfl
        have hcz41_1 : wr.cell? ⟨gb230, 1, none⟩ = some (.int .i64 x231001_1) := (blk_cell BK230.out 1).trans rfl
        have hcz41_2 : wr.cell? ⟨gb230, 2, none⟩ = some (.int .i64 x231002_1) := (blk_cell BK230.out 2).trans rfl
        have hfz41_0 := blk_frozen BK230.out 0
        have hfz41_1 := blk_frozen BK230.out 1
        have hfz41_2 := blk_frozen BK230.out 2
        go_wp2
        refine bodyPost_ret (results_ct rfl _ _ gb230 26 #[.int .i64 x229000_1, .int .i64 x229001_1, .int .i64 x229002_1] (0, 0) _ rfl (by (with_reducible repeat (first | refine blk_drewN ?_ _ | refine blk_drew ?_ | refine blk_alloc ?_ _)); refine blk_put (cs := #[.int .i64 x229000_1, .int .i64 x229001_1, .int .i64 x231002_1]) ?_ 2 _ rfl; (with_reducible repeat (first | refine blk_drewN ?_ _ | refine blk_drew ?_ | refine blk_alloc ?_ _)); refine blk_put (cs := #[.int .i64 x229000_1, .int .i64 x231001_1, .int .i64 x231002_1]) ?_ 1 _ rfl; (with_reducible repeat (first | refine blk_drewN ?_ _ | refine blk_drew ?_ | refine blk_alloc ?_ _)); refine blk_put (cs := #[.int .i64 x231000_1, .int .i64 x231001_1, .int .i64 x231002_1]) ?_ 0 _ rfl; (with_reducible repeat (first | refine blk_drewN ?_ _ | refine blk_drew ?_ | refine blk_alloc ?_ _)); exact BK230.out) Tryd.underlying26 rfl (by kernel_rfl)) rfl ?_
        exact ⟨by first | rfl | (simp [errW_none, errW_some] <;> rfl) | (simp [*, errW_none, errW_some] <;> rfl), by repeat (first | (with_reducible first | exact HB.out | apply below_alloc | apply pw_below_drewN | apply below_drew1 | refine below_set ?_ GE228.out | refine below_set ?_ GE229.out | refine below_set ?_ GE230.out) | exact HB.out)⟩
end Go.Proofs.YtbcddiaplpbhjaaDoor.MDr
namespace Go.Proofs.YtbcddiaplpbhjaaDoor.Tr
open Go Go.RowKit
set_option linter.unusedVariables false
theorem toward_range (f t m : Int) : 0 ≤ toward f t m ∧ toward f t m < 65536 := part_range' _ _ _
end Go.Proofs.YtbcddiaplpbhjaaDoor.Tr
namespace Go.Proofs.YtbcddiaplpbhjaaDoor.Dr
open Go Go.RowKit Go.Proofs.YtbcddiaplpbhjaaDoorW.PrintMore Go.Proofs.YtbcddiaplpbhjaaDoorW.PrintWords Go.Proofs.YtbcddiaplpbhjaaDoor.MDr
set_option linter.unusedVariables false
set_option linter.unusedSimpArgs false
theorem w_in {x : Int} (h0 : -9223372036854775808 ≤ x) (h1 : x ≤ 9223372036854775807) : wrap64 x = x := by unfold wrap64; omega
theorem u_in {x : Int} (h0 : 0 ≤ x) (h1 : x ≤ 9223372036854775807) : IntKind.u64.wrap x = x := by rw [wrap_u64]; omega
def offD (a b : Int) : Int := if Tr.nrm (b - a) < Tr.nrm (a - b) then Tr.nrm (b - a) else Tr.nrm (a - b)
theorem off_f (a b : Int) : drive_Off.f a b = some (offD a b) := by
  have h := Tr.nrm_range a
  have h' := Tr.nrm_range b
  unfold drive_Off.f trig_Norm.f
  simp only [Option.bind_some]
  rw [w_in (by omega) (by omega)]
  have h2 := Tr.nrm_range (Tr.nrm a - Tr.nrm b)
  rw [w_in (by omega) (by omega)]
  congr 1
  unfold mn offD Tr.nrm
  split <;> split <;> omega
theorem roff_f (a b : Int) : bivouacref14_Off.f a b = some (offD a b) := by
  have h := Tr.nrm_range a
  have h' := Tr.nrm_range b
  unfold bivouacref14_Off.f bivouacref03_Norm.f
  simp only [Option.bind_some]
  rw [w_in (by omega) (by omega), w_in (by omega) (by omega)]
  have e1 : Tr.nrm (Tr.nrm b - Tr.nrm a) = Tr.nrm (b - a) := by unfold Tr.nrm; omega
  have e2 : Tr.nrm (Tr.nrm a - Tr.nrm b) = Tr.nrm (a - b) := by unfold Tr.nrm; omega
  rw [e1, e2]
  unfold offD
  split <;> rfl
theorem offD_comm (a b : Int) : offD a b = offD b a := by
  unfold offD Tr.nrm
  split <;> split <;> omega
theorem offD_range (a b : Int) : 0 ≤ offD a b ∧ offD a b ≤ 32768 := by
  unfold offD Tr.nrm
  split <;> omega
def Eng (sp tn W H : Int) : Prop := 0 ≤ sp ∧ sp ≤ 65536 ∧ 0 ≤ tn ∧ tn ≤ 32768 ∧ 1 ≤ W ∧ W ≤ 64 ∧ 1 ≤ H ∧ H ≤ 64
def On (W H x y : Int) : Prop := 0 ≤ x ∧ x < W * 65536 ∧ 0 ≤ y ∧ y < H * 65536
instance (sp tn W H : Int) : Decidable (Eng sp tn W H) := by unfold Eng; infer_instance
instance (W H x y : Int) : Decidable (On W H x y) := by unfold On; infer_instance
def May (mx my ma sp tn W H x y : Int) : Prop := Eng sp tn W H ∧ On W H mx my ∧ On W H x y ∧ 0 ≤ ma ∧ ma < 65536
instance (mx my ma sp tn W H x y : Int) : Decidable (May mx my ma sp tn W H x y) := by unfold May; infer_instance
theorem may_f (sp tn W H : Int) : drive_may.f sp tn W H = some (decide (Eng sp tn W H)) := by
  unfold drive_may.f
  by_cases h : Eng sp tn W H
  · rw [decide_eq_true h]
    unfold Eng at h
    rw [if_pos (by omega), if_pos (by omega), if_pos (by omega), if_pos (by omega), if_pos (by omega), if_pos (by omega), if_pos (by omega), decide_eq_true (by omega)]
  · rw [decide_eq_false h]
    unfold Eng at h
    repeat' split
    all_goals first
      | rfl
      | (congr 1; exact decide_eq_false (by omega))
theorem on_f {sp tn W H : Int} (hE : Eng sp tn W H) (x y : Int) : drive_on.f sp tn W H x y = some (decide (On W H x y)) := by
  unfold Eng at hE
  unfold drive_on.f drive_end.f
  simp only [Option.bind_some]
  rw [w_in (x := W * 65536) (by omega) (by omega), w_in (x := H * 65536) (by omega) (by omega), w_in (by omega) (by omega), w_in (by omega) (by omega)]
  by_cases h : On W H x y
  · rw [decide_eq_true h]
    unfold On at h
    rw [if_pos (by omega), if_pos (by omega), if_pos (by omega), decide_eq_true (by omega)]
  · rw [decide_eq_false h]
    unfold On at h
    repeat' split
    all_goals first
      | rfl
      | (congr 1; exact decide_eq_false (by omega))
theorem ron_f {sp tn W H : Int} (hE : Eng sp tn W H) (x y : Int) : bivouacref14_On.f sp tn W H x y = some (decide (On W H x y)) := by
  unfold Eng at hE
  unfold bivouacref14_On.f
  rw [w_in (x := W * 65536) (by omega) (by omega), w_in (x := H * 65536) (by omega) (by omega)]
  by_cases h : On W H x y
  · rw [decide_eq_true h]
    unfold On at h
    rw [if_pos (by omega), if_pos (by omega), if_pos (by omega), decide_eq_true (by omega)]
  · rw [decide_eq_false h]
    unfold On at h
    repeat' split
    all_goals first
      | rfl
      | (congr 1; exact decide_eq_false (by omega))
theorem rmay_f (mx my ma sp tn W H x y : Int) : bivouacref14_May.f mx my ma sp tn W H x y = some (decide (May mx my ma sp tn W H x y)) := by
  unfold bivouacref14_May.f
  by_cases hE : Eng sp tn W H
  · simp only [ron_f hE, Option.bind_some]
    have hE' := hE
    unfold Eng at hE
    rw [if_pos (by omega), if_pos (by omega), if_pos (by omega), if_pos (by omega), if_pos (by omega), if_pos (by omega), if_pos (by omega), if_pos (by omega)]
    by_cases h1 : On W H mx my
    · rw [if_pos (decide_eq_true h1)]
      by_cases h2 : On W H x y
      · rw [if_pos (decide_eq_true h2)]
        by_cases h3 : 0 ≤ ma
        · rw [if_pos h3]
          exact congrArg some (decide_eq_decide.2 ⟨fun h => ⟨hE', h1, h2, h3, h⟩, fun h => h.2.2.2.2⟩)
        · rw [if_neg h3, decide_eq_false (show ¬ May mx my ma sp tn W H x y from fun h => h3 h.2.2.2.1)]
      · rw [if_neg (by simpa using h2), decide_eq_false (show ¬ May mx my ma sp tn W H x y from fun h => h2 h.2.2.1)]
    · rw [if_neg (by simpa using h1), decide_eq_false (show ¬ May mx my ma sp tn W H x y from fun h => h1 h.2.1)]
  · rw [decide_eq_false (show ¬ May mx my ma sp tn W H x y from fun h => hE h.1)]
    unfold Eng at hE
    repeat' split
    all_goals first
      | rfl
      | (exfalso; omega)
def clampS (v n : Int) : Int := if v < 0 then 0 else if v ≥ n * 65536 then n * 65536 - 1 else v
def turnS (mx my ma tn x y : Int) : Int := Tr.toward ma (256 * Tr.headR (x - mx) (y - my)) tn
noncomputable def stepS (mx my ma sp tn W H x y : Int) : Int × Int × Int × Bool :=
  if mx = x ∧ my = y then (mx, my, ma, true) else
  if offD (turnS mx my ma tn x y) (256 * Tr.headR (x - mx) (y - my)) > 8192 then (mx, my, turnS mx my ma tn x y, false) else
  if Rt.rt ((x - mx) * (x - mx) + (y - my) * (y - my)) ≤ sp then (x, y, turnS mx my ma tn x y, true) else
  (clampS (mx + sp * Tr.cosA (turnS mx my ma tn x y) / 65536) W, clampS (my + sp * Tr.sinA (turnS mx my ma tn x y) / 65536) H, turnS mx my ma tn x y, false)
theorem mul_in {a b : Int} {A B : Nat} (ha : -(A : Int) ≤ a ∧ a ≤ A) (hb : -(B : Int) ≤ b ∧ b ≤ B) : -((A * B : Nat) : Int) ≤ a * b ∧ a * b ≤ (A * B : Nat) := by
  have h : (a * b).natAbs ≤ A * B := by rw [Int.natAbs_mul]; exact Nat.mul_le_mul (by omega) (by omega)
  omega
theorem sq_nonneg' (x : Int) : 0 ≤ x * x := by
  rcases Int.le_total 0 x with h | h
  · exact Int.mul_nonneg h h
  · exact Int.mul_nonneg_of_nonpos_of_nonpos h h
theorem far_no {v : Int} (h0 : -1073741824 ≤ v) (h1 : v ≤ 1073741824) : Tg.farB v = false := by
  unfold Tg.farB; simp; omega
theorem headR_range (x y : Int) : 0 ≤ Tr.headR x y ∧ Tr.headR x y < 256 := (Tr.headR_best x y).1
theorem vel (sp c : Int) (h0 : 0 ≤ sp) (h1 : sp ≤ 65536) (hc : -65536 ≤ c ∧ c ≤ 65536) : -65536 ≤ sp * c / 65536 ∧ sp * c / 65536 ≤ 65536 ∧ fix_Mul.f sp c = some (sp * c / 65536, 0) ∧ bivouacref14_times.f sp c = some (sp * c / 65536) := by
  have hm := mul_in (a := sp) (b := c) (A := 65536) (B := 65536) (by omega) (by omega)
  have e1 : mulDiv sp c 65536 = (sp * c / 65536, 0) := by
    unfold mulDiv
    rw [if_neg (by decide)]
    unfold flr
    rw [if_pos (by decide)]
    exact fitted_in (by unfold fits; omega)
  have e2 : timesS sp c = sp * c / 65536 := by
    unfold timesS Bg.floorS
    rw [if_pos (by unfold Bg.I64; omega)]
  refine ⟨by omega, by omega, ?_, ?_⟩
  · unfold fix_Mul.f num_MulDiv.f
    rw [if_pos (by unfold fits; omega), if_pos (by unfold fits; omega), if_pos (by unfold fits; omega), e1]
    rfl
  · unfold bivouacref14_times.f
    rw [if_pos (by unfold fits; omega), if_pos (by unfold fits; omega), e2]
theorem clampS_f {W : Int} (v : Int) (hW : 1 ≤ W ∧ W ≤ 64) : num_Clamp.f v 0 (W * 65536 - 1) = some (clampS v W) ∧ bivouacref14_clamp.f v W = some (clampS v W) := by
  unfold num_Clamp.f bivouacref14_clamp.f clampS mn
  rw [w_in (x := W * 65536) (by omega) (by omega), w_in (x := W * 65536 - 1) (by omega) (by omega)]
  constructor
  · repeat' split
    all_goals first | rfl | (congr 1; omega) | omega
  · repeat' split
    all_goals first | rfl | (congr 1; omega) | omega
theorem clampS_range {W : Int} (v : Int) (hW : 1 ≤ W ∧ W ≤ 64) : 0 ≤ clampS v W ∧ clampS v W < W * 65536 := by
  unfold clampS
  repeat' split
  all_goals omega
section
variable {mx my ma sp tn W H x y : Int}
theorem step_not (h : ¬ May mx my ma sp tn W H x y) (k : Nat) : drive_Step.f (k + 1) mx my ma sp tn W H x y = some (0, 0, 0, false, 1) := by
  unfold drive_Step.f
  rw [may_f, Option.bind_some]
  have hj : drive_Step.j0 (k + 1) x y true mx my ma sp tn W H = some (0, 0, 0, false, 1) := by rw [drive_Step.j0, if_pos rfl]
  by_cases hE : Eng sp tn W H
  · rw [if_pos (decide_eq_true hE), on_f hE, Option.bind_some]
    by_cases h1 : On W H mx my
    · rw [if_pos (decide_eq_true h1), on_f hE, Option.bind_some]
      by_cases h2 : On W H x y
      · rw [if_pos (decide_eq_true h2)]
        by_cases h3 : ma < 0
        · rw [if_pos h3, hj]
        · rw [if_neg h3, decide_eq_true (show ma ≥ 65536 by unfold May at h; simp only [hE, h1, h2, true_and] at h; omega), hj]
      · rw [if_neg (by simpa using h2), hj]
    · rw [if_neg (by simpa using h1), hj]
  · rw [if_neg (by simpa using hE), hj]
theorem dist_in (h : May mx my ma sp tn W H x y) : -4194304 ≤ x - mx ∧ x - mx ≤ 4194304 ∧ -4194304 ≤ y - my ∧ y - my ≤ 4194304 := by
  unfold May Eng On at h; omega
theorem sq_in (h : May mx my ma sp tn W H x y) : 0 ≤ (x - mx) * (x - mx) ∧ (x - mx) * (x - mx) ≤ 17592186044416 ∧ 0 ≤ (y - my) * (y - my) ∧ (y - my) * (y - my) ≤ 17592186044416 := by
  have hd := dist_in h
  have h1 := mul_in (a := x - mx) (b := x - mx) (A := 4194304) (B := 4194304) (by omega) (by omega)
  have h2 := mul_in (a := y - my) (b := y - my) (A := 4194304) (B := 4194304) (by omega) (by omega)
  have h3 := sq_nonneg' (x - mx)
  have h4 := sq_nonneg' (y - my)
  omega
set_option maxHeartbeats 2000000 in
theorem step_f (h : May mx my ma sp tn W H x y) (k : Nat) :
    drive_Step.f (k + 2) mx my ma sp tn W H x y = some ((stepS mx my ma sp tn W H x y).1, (stepS mx my ma sp tn W H x y).2.1, (stepS mx my ma sp tn W H x y).2.2.1, (stepS mx my ma sp tn W H x y).2.2.2, 0) := by
  have hd := dist_in h
  have hq := sq_in h
  obtain ⟨hE, h1, h2, h3, h4⟩ := h
  have hr := headR_range (x - mx) (y - my)
  have hhead : trig_Heading.f (x - mx) (y - my) = some (Tr.headR (x - mx) (y - my), 0) := by
    unfold trig_Heading.f
    rw [if_neg (by rw [far_no (by omega) (by omega)]; decide), if_neg (by rw [far_no (by omega) (by omega)]; decide), Tr.head_eq _ _ (by omega) (by omega)]
  have hlen : fix_Length.f (x - mx) (y - my) = some (Rt.rt ((x - mx) * (x - mx) + (y - my) * (y - my)), 0) := by
    unfold fix_Length.f fix_Root.f
    have hb := rt_bound (n := (x - mx) * (x - mx) + (y - my) * (y - my)) (m := 8388608) (by omega) (by decide) (by omega)
    rw [if_neg (by omega), if_neg (by omega), if_neg (by omega), if_neg (by omega), w_in (x := (x - mx) * (x - mx)) (by omega) (by omega), w_in (x := (y - my) * (y - my)) (by omega) (by omega), w_in (x := _ + _) (by omega) (by omega), u_in (by omega) (by omega), if_pos (by omega), if_pos (by omega), Option.bind_some, w_in (by omega) (by omega)]
  unfold drive_Step.f
  rw [may_f, Option.bind_some, if_pos (decide_eq_true hE), on_f hE, Option.bind_some, if_pos (decide_eq_true h1), on_f hE, Option.bind_some, if_pos (decide_eq_true h2), if_neg (by omega), decide_eq_false (by omega)]
  rw [drive_Step.j0, if_neg (by decide)]
  have hE' := hE
  unfold Eng at hE'
  unfold On at h1 h2
  rw [w_in (x := x - mx) (by omega) (by omega), w_in (x := y - my) (by omega) (by omega)]
  by_cases hz : mx = x ∧ my = y
  · rw [if_pos (by omega), drive_Step.j1, if_pos (by simp; omega)]
    unfold stepS
    rw [if_pos hz]
  · have hj : drive_Step.j1 (k + 1) x y (x - mx) (y - my) false mx my ma sp tn W H = some ((stepS mx my ma sp tn W H x y).1, (stepS mx my ma sp tn W H x y).2.1, (stepS mx my ma sp tn W H x y).2.2.1, (stepS mx my ma sp tn W H x y).2.2.2, 0) := by
      rw [drive_Step.j1, if_neg (by decide), hhead, Option.bind_some]
      unfold trig_Toward.f
      simp only [Option.bind_some]
      rw [w_in (x := Tr.headR (x - mx) (y - my) * 256) (by omega) (by omega), Int.mul_comm (Tr.headR (x - mx) (y - my)) 256, off_f, Option.bind_some]
      unfold stepS
      rw [if_neg hz]
      show (if offD (turnS mx my ma tn x y) (256 * Tr.headR (x - mx) (y - my)) > 8192 then some (mx, my, turnS mx my ma tn x y, false, 0) else _) = _
      by_cases ho : offD (turnS mx my ma tn x y) (256 * Tr.headR (x - mx) (y - my)) > 8192
      · rw [if_pos ho, if_pos ho]
      · rw [if_neg ho, if_neg ho, hlen, Option.bind_some]
        by_cases hl : Rt.rt ((x - mx) * (x - mx) + (y - my) * (y - my)) ≤ sp
        · rw [if_pos hl, if_pos hl]; rfl
        · rw [if_neg hl, if_neg hl]
          show ((trig_Vec.f (turnS mx my ma tn x y) sp).bind _) = _
          have hc := Tr.cosA_bound (turnS mx my ma tn x y)
          have hs := Tr.sinA_bound (turnS mx my ma tn x y)
          obtain ⟨c1, c2, c3, _⟩ := vel sp _ (by omega) (by omega) hc
          obtain ⟨s1, s2, s3, _⟩ := vel sp _ (by omega) (by omega) hs
          have hv : trig_Vec.f (turnS mx my ma tn x y) sp = some (sp * Tr.cosA (turnS mx my ma tn x y) / 65536, sp * Tr.sinA (turnS mx my ma tn x y) / 65536, 0) := by
            unfold trig_Vec.f trig_far.f trig_Cos.f trig_Sin.f
            rw [if_neg (by omega), Option.bind_some, if_neg (by simp; omega), Option.bind_some, c3, Option.bind_some, Option.bind_some, s3, Option.bind_some]
          rw [hv, Option.bind_some]
          unfold drive_end.f
          simp only [Option.bind_some]
          rw [w_in (x := W * 65536) (by omega) (by omega), w_in (x := H * 65536) (by omega) (by omega), w_in (x := W * 65536 - 1) (by omega) (by omega), w_in (x := H * 65536 - 1) (by omega) (by omega),
            w_in (x := mx + _) (by omega) (by omega), w_in (x := my + _) (by omega) (by omega), (clampS_f _ (by omega)).1, Option.bind_some, (clampS_f _ (by omega)).1, Option.bind_some]
          rfl
    by_cases hx : x - mx = 0
    · rw [if_pos hx, show ((y - my) == 0) = false from by simp; omega, hj]
    · rw [if_neg hx, hj]
set_option maxHeartbeats 2000000 in
theorem rstep_f (h : May mx my ma sp tn W H x y) (k : Nat) : bivouacref14_Step.f (k + 1) mx my ma sp tn W H x y = some (stepS mx my ma sp tn W H x y) := by
  have hd := dist_in h
  have hq := sq_in h
  obtain ⟨hE, h1, h2, h3, h4⟩ := h
  have hr := headR_range (x - mx) (y - my)
  have hhead : bivouacref03_Heading.f (x - mx) (y - my) = some (Tr.headR (x - mx) (y - my)) := by
    unfold bivouacref03_Heading.f
    rw [if_neg (by rw [far_no (by omega) (by omega)]; decide), if_neg (by rw [far_no (by omega) (by omega)]; decide)]
  have hE' := hE
  unfold Eng at hE'
  unfold On at h1 h2
  unfold bivouacref14_Step.f
  by_cases hz : mx = x ∧ my = y
  · rw [if_pos hz.1, bivouacref14_Step.j0, if_pos (by simpa using hz.2)]
    unfold stepS
    rw [if_pos hz]
  · have hj : bivouacref14_Step.j0 (k + 1) x y false mx my ma sp tn W H = some (stepS mx my ma sp tn W H x y) := by
      rw [bivouacref14_Step.j0, if_neg (by decide), w_in (x := x - mx) (by omega) (by omega), w_in (x := y - my) (by omega) (by omega), hhead, Option.bind_some]
      unfold bivouacref03_Toward.f
      simp only [Option.bind_some]
      rw [w_in (x := 256 * _) (by omega) (by omega), roff_f, Option.bind_some]
      unfold stepS
      rw [if_neg hz]
      show (if offD (turnS mx my ma tn x y) (256 * Tr.headR (x - mx) (y - my)) > 8192 then some (mx, my, turnS mx my ma tn x y, false) else _) = _
      by_cases ho : offD (turnS mx my ma tn x y) (256 * Tr.headR (x - mx) (y - my)) > 8192
      · rw [if_pos ho, if_pos ho]
      · rw [if_neg ho, if_neg ho]
        have hb := rt_bound (n := (x - mx) * (x - mx) + (y - my) * (y - my)) (m := 8388608) (by omega) (by decide) (by omega)
        unfold bivouacref02_Root.f
        rw [w_in (x := (x - mx) * (x - mx)) (by omega) (by omega), w_in (x := (y - my) * (y - my)) (by omega) (by omega), w_in (x := _ + _) (by omega) (by omega), u_in (by omega) (by omega), if_pos (by omega), if_pos (by omega), Option.bind_some, w_in (x := Rt.rt _) (by omega) (by omega)]
        by_cases hl : Rt.rt ((x - mx) * (x - mx) + (y - my) * (y - my)) ≤ sp
        · rw [if_pos hl, if_pos hl]; rfl
        · rw [if_neg hl, if_neg hl]
          unfold bivouacref03_Cos.f bivouacref03_Sin.f
          simp only [Option.bind_some]
          have hc := Tr.cosA_bound (turnS mx my ma tn x y)
          have hs := Tr.sinA_bound (turnS mx my ma tn x y)
          obtain ⟨c1, c2, _, c3⟩ := vel sp _ (by omega) (by omega) hc
          obtain ⟨s1, s2, _, s3⟩ := vel sp _ (by omega) (by omega) hs
          show ((bivouacref14_times.f sp (Tr.cosA (turnS mx my ma tn x y))).bind _) = _
          rw [c3, Option.bind_some, w_in (x := mx + _) (by omega) (by omega), (clampS_f _ (by omega)).2, Option.bind_some]
          show ((bivouacref14_times.f sp (Tr.sinA (turnS mx my ma tn x y))).bind _) = _
          rw [s3, Option.bind_some, w_in (x := my + _) (by omega) (by omega), (clampS_f _ (by omega)).2, Option.bind_some]
          rfl
    by_cases hx : mx = x
    · rw [if_pos hx, show (my == y) = false from by simp; omega, hj]
    · rw [if_neg hx, hj]
theorem stepS_may (h : May mx my ma sp tn W H x y) : May (stepS mx my ma sp tn W H x y).1 (stepS mx my ma sp tn W H x y).2.1 (stepS mx my ma sp tn W H x y).2.2.1 sp tn W H x y := by
  obtain ⟨hE, h1, h2, h3, h4⟩ := h
  have ht := Tr.toward_range ma (256 * Tr.headR (x - mx) (y - my)) tn
  have hE' := hE
  unfold Eng at hE'
  unfold stepS
  split
  · exact ⟨hE, h1, h2, h3, h4⟩
  · split
    · exact ⟨hE, h1, h2, ht⟩
    · split
      · exact ⟨hE, h2, h2, ht⟩
      · have hc := clampS_range (mx + sp * Tr.cosA (turnS mx my ma tn x y) / 65536) (W := W) (by omega)
        have hs := clampS_range (my + sp * Tr.sinA (turnS mx my ma tn x y) / 65536) (W := H) (by omega)
        exact ⟨hE, ⟨hc.1, hc.2, hs.1, hs.2⟩, h2, ht⟩
end
end Go.Proofs.YtbcddiaplpbhjaaDoor.Dr
namespace Go.Proofs.YtbcddiaplpbhjaaDoor.Dr
open Go Go.RowKit Go.Proofs.YtbcddiaplpbhjaaDoorW.PrintMore Go.Proofs.YtbcddiaplpbhjaaDoorW.PrintWords Go.Proofs.YtbcddiaplpbhjaaDoor.MDr
set_option linter.unusedVariables false
set_option linter.unusedSimpArgs false
noncomputable def goS (sp tn W H x y : Int) : Nat → Int → Int → Int → Int × Int × Int × Int × Bool
  | 0, a, b, c => (a, b, c, 0, false)
  | n + 1, a, b, c =>
    if (stepS a b c sp tn W H x y).2.2.2 = true then ((stepS a b c sp tn W H x y).1, (stepS a b c sp tn W H x y).2.1, (stepS a b c sp tn W H x y).2.2.1, 1, true) else
    ((goS sp tn W H x y n (stepS a b c sp tn W H x y).1 (stepS a b c sp tn W H x y).2.1 (stepS a b c sp tn W H x y).2.2.1).1,
      (goS sp tn W H x y n (stepS a b c sp tn W H x y).1 (stepS a b c sp tn W H x y).2.1 (stepS a b c sp tn W H x y).2.2.1).2.1,
      (goS sp tn W H x y n (stepS a b c sp tn W H x y).1 (stepS a b c sp tn W H x y).2.1 (stepS a b c sp tn W H x y).2.2.1).2.2.1,
      (goS sp tn W H x y n (stepS a b c sp tn W H x y).1 (stepS a b c sp tn W H x y).2.1 (stepS a b c sp tn W H x y).2.2.1).2.2.2.1 + 1,
      (goS sp tn W H x y n (stepS a b c sp tn W H x y).1 (stepS a b c sp tn W H x y).2.1 (stepS a b c sp tn W H x y).2.2.1).2.2.2.2)
section
variable {sp tn W H x y : Int}
theorem l0_f (N4 N : Int) (hN : N ≤ 9223372036854775807) (hm : mx 0 N4 = N) : ∀ (n : Nat) (i mx my ma : Int) (k : Nat), 0 ≤ i → i + n = N → May mx my ma sp tn W H x y →
    drive_Steps.l0 (k + n + 3) x y N4 N i mx my ma sp tn W H = some ((goS sp tn W H x y n mx my ma).1, (goS sp tn W H x y n mx my ma).2.1, (goS sp tn W H x y n mx my ma).2.2.1, i + (goS sp tn W H x y n mx my ma).2.2.2.1, 0)
  | 0, i, mx, my, ma, k, h0, hi, hM => by
    rw [drive_Steps.l0, if_neg (by omega), hm]
    unfold goS
    simp only [Int.add_zero]
    rw [show N = i by omega]
  | n + 1, i, mx, my, ma, k, h0, hi, hM => by
    rw [show k + (n + 1) + 3 = (k + n + 3) + 1 by omega, drive_Steps.l0, if_pos (by omega), show k + n + 3 = (k + n + 1) + 2 by omega, step_f hM, Option.bind_some]
    by_cases ht : (stepS mx my ma sp tn W H x y).2.2.2 = true
    · rw [if_pos ht]
      unfold goS
      rw [if_pos ht, w_in (by omega) (by omega)]
    · rw [if_neg ht, w_in (by omega) (by omega), show k + n + 1 + 2 = k + n + 3 by omega]
      have := l0_f N4 N hN hm n (i + 1) _ _ _ k (by omega) (by omega) (stepS_may hM)
      rw [this]
      conv => rhs; unfold goS
      rw [if_neg ht]
      simp only []
      rw [show i + 1 + (goS sp tn W H x y n (stepS mx my ma sp tn W H x y).1 (stepS mx my ma sp tn W H x y).2.1 (stepS mx my ma sp tn W H x y).2.2.1).2.2.2.1 = i + ((goS sp tn W H x y n (stepS mx my ma sp tn W H x y).1 (stepS mx my ma sp tn W H x y).2.1 (stepS mx my ma sp tn W H x y).2.2.1).2.2.2.1 + 1) by omega]
theorem steps_f {mx my ma : Int} (hM : May mx my ma sp tn W H x y) (z : Int) (n : Nat) (hz : (if 0 < z then z else 0) = n) (hn : n ≤ 9223372036854775807) (k : Nat) :
    drive_Steps.f (k + n + 3) mx my ma sp tn W H x y z = some ((goS sp tn W H x y n mx my ma).1, (goS sp tn W H x y n mx my ma).2.1, (goS sp tn W H x y n mx my ma).2.2.1, (goS sp tn W H x y n mx my ma).2.2.2.1, 0) := by
  unfold drive_Steps.f
  rw [show k + n + 3 = (k + n + 1) + 2 by omega, step_f hM, Option.bind_some, if_pos rfl, show k + n + 1 + 2 = k + n + 3 by omega]
  rw [l0_f z _ (by unfold Go.Proofs.YtbcddiaplpbhjaaDoorW.PrintWords.mx; omega) rfl n 0 mx my ma k (by omega) (by unfold Go.Proofs.YtbcddiaplpbhjaaDoorW.PrintWords.mx; omega) hM, Int.zero_add]
theorem steps_not {mx my ma : Int} (hM : ¬ May mx my ma sp tn W H x y) (z : Int) (k : Nat) : drive_Steps.f (k + 1) mx my ma sp tn W H x y z = some (0, 0, 0, 0, 1) := by
  unfold drive_Steps.f
  rw [step_not hM, Option.bind_some, if_neg (by decide)]
theorem rl0_f (N : Int) (hN : N ≤ 9223372036854775807) : ∀ (n : Nat) (i mx my ma : Int) (k : Nat), 0 ≤ i → (if i < N then N - i else 0) = n → May mx my ma sp tn W H x y →
    bivouacref14_Steps.l0 (k + n + 3) x y N i mx my ma sp tn W H = some ((goS sp tn W H x y n mx my ma).1, (goS sp tn W H x y n mx my ma).2.1, (goS sp tn W H x y n mx my ma).2.2.1, i + (goS sp tn W H x y n mx my ma).2.2.2.1)
  | 0, i, mx, my, ma, k, h0, hi, hM => by
    rw [bivouacref14_Steps.l0, if_neg (by omega)]
    unfold goS
    simp only [Int.add_zero]
  | n + 1, i, mx, my, ma, k, h0, hi, hM => by
    have hlt : i < N := by omega
    rw [if_pos hlt] at hi
    rw [show k + (n + 1) + 3 = (k + n + 3) + 1 by omega, bivouacref14_Steps.l0, if_pos hlt, show k + n + 3 = (k + n + 2) + 1 by omega, rstep_f hM, Option.bind_some]
    by_cases ht : (stepS mx my ma sp tn W H x y).2.2.2 = true
    · rw [if_pos ht]
      unfold goS
      rw [if_pos ht, w_in (by omega) (by omega)]
    · rw [if_neg ht, w_in (by omega) (by omega), show k + n + 2 + 1 = k + n + 3 by omega]
      have := rl0_f N hN n (i + 1) _ _ _ k (by omega) (by omega) (stepS_may hM)
      rw [this]
      conv => rhs; unfold goS
      rw [if_neg ht]
      simp only []
      rw [show i + 1 + (goS sp tn W H x y n (stepS mx my ma sp tn W H x y).1 (stepS mx my ma sp tn W H x y).2.1 (stepS mx my ma sp tn W H x y).2.2.1).2.2.2.1 = i + ((goS sp tn W H x y n (stepS mx my ma sp tn W H x y).1 (stepS mx my ma sp tn W H x y).2.1 (stepS mx my ma sp tn W H x y).2.2.1).2.2.2.1 + 1) by omega]
theorem rsteps_f {mx my ma : Int} (hM : May mx my ma sp tn W H x y) (z : Int) (n : Nat) (hz : (if 0 < z then z else 0) = n) (hn : n ≤ 9223372036854775807) (k : Nat) :
    bivouacref14_Steps.f (k + n + 3) mx my ma sp tn W H x y z = some ((goS sp tn W H x y n mx my ma).1, (goS sp tn W H x y n mx my ma).2.1, (goS sp tn W H x y n mx my ma).2.2.1, (goS sp tn W H x y n mx my ma).2.2.2.1) := by
  unfold bivouacref14_Steps.f
  rw [rl0_f z (by omega) n 0 mx my ma k (by omega) (by omega) hM, Int.zero_add]
end
theorem e1 : stepS 0 0 0 65536 32768 4 4 196608 0 = (65536, 0, 0, false) := by
  have h : turnS 0 0 0 32768 196608 0 = 0 := by unfold turnS; rw [← Tr.head_eq _ _ (by omega) (by omega)]; decide +kernel
  unfold stepS
  rw [if_neg (by decide), h, if_neg (by rw [← Tr.head_eq _ _ (by omega) (by omega)]; decide +kernel), Rt.rt_eq (r := 196608) (by decide) (by unfold Rt.isRoot; decide), if_neg (by decide), show Tr.cosA 0 = 65536 by decide +kernel, show Tr.sinA 0 = 0 by decide +kernel]
  rfl
theorem e2 : stepS 65536 0 0 65536 32768 4 4 196608 0 = (131072, 0, 0, false) := by
  have h : turnS 65536 0 0 32768 196608 0 = 0 := by unfold turnS; rw [← Tr.head_eq _ _ (by omega) (by omega)]; decide +kernel
  unfold stepS
  rw [if_neg (by decide), h, if_neg (by rw [← Tr.head_eq _ _ (by omega) (by omega)]; decide +kernel), Rt.rt_eq (r := 131072) (by decide) (by unfold Rt.isRoot; decide), if_neg (by decide), show Tr.cosA 0 = 65536 by decide +kernel, show Tr.sinA 0 = 0 by decide +kernel]
  rfl
theorem e3 : stepS 131072 0 0 65536 32768 4 4 196608 0 = (196608, 0, 0, true) := by
  have h : turnS 131072 0 0 32768 196608 0 = 0 := by unfold turnS; rw [← Tr.head_eq _ _ (by omega) (by omega)]; decide +kernel
  unfold stepS
  rw [if_neg (by decide), h, if_neg (by rw [← Tr.head_eq _ _ (by omega) (by omega)]; decide +kernel), Rt.rt_eq (r := 65536) (by decide) (by unfold Rt.isRoot; decide), if_pos (by decide)]
theorem e4 : stepS 0 0 0 65536 4096 4 4 0 196608 = (0, 0, 4096, false) := by
  have h : turnS 0 0 0 4096 0 196608 = 4096 := by unfold turnS; rw [← Tr.head_eq _ _ (by omega) (by omega)]; decide +kernel
  unfold stepS
  rw [if_neg (by decide), h, if_pos (by rw [← Tr.head_eq _ _ (by omega) (by omega)]; decide +kernel)]
theorem e5 : goS 65536 32768 4 4 196608 0 9 0 0 0 = (196608, 0, 0, 3, true) := by
  unfold goS
  simp only [e1]
  unfold goS
  simp only [e2]
  unfold goS
  simp only [e3]
  rfl
theorem awake_f : bivouaclaw14_awake.f 12 = some true := by
  unfold bivouaclaw14_awake.f bivouaclaw14_engine.f
  simp only [Option.bind_some]
  rw [step_f (k := 10) (show May 0 0 0 65536 32768 4 4 196608 0 by decide), Option.bind_some, steps_f (k := 0) (show May 0 0 0 65536 32768 4 4 196608 0 by decide) 9 9 (by decide) (by decide), Option.bind_some,
    step_f (k := 10) (show May 0 0 0 65536 4096 4 4 0 196608 by decide), Option.bind_some, e1, e4, e5]
  rfl
theorem awake_k (k : Nat) : bivouaclaw14_awake.f (k + 12) = some true := by
  induction k with
  | zero => exact awake_f
  | succ k ih => rw [show k + 1 + 12 = (k + 12) + 1 by omega]; exact bivouaclaw14_awake.mono _ _ ih
end Go.Proofs.YtbcddiaplpbhjaaDoor.Dr
namespace Go.Proofs.YtbcddiaplpbhjaaDoor.MDr
open Go.RowKit Go.Proofs.YtbcddiaplpbhjaaDoorW.PrintWords Go.Proofs.YtbcddiaplpbhjaaDoorW.PrintLast Go.Proofs.YtbcddiaplpbhjaaDoorW.PrintMore
attribute [local go_sem] max2_int min2_int max_two min_two max_three min_three max_four min_four
set_option linter.unusedVariables false
set_option linter.unusedSimpArgs false
attribute [local go_sem high] eqA26
end Go.Proofs.YtbcddiaplpbhjaaDoor.MDr
namespace Go.Proofs.YtbcddiaplpbhjaaDoor.MDr
open Go.RowKit Go.Proofs.YtbcddiaplpbhjaaDoorW.PrintWords Go.Proofs.YtbcddiaplpbhjaaDoorW.PrintLast Go.Proofs.YtbcddiaplpbhjaaDoorW.PrintMore
attribute [local go_sem] max2_int min2_int max_two min_two max_three min_three max_four min_four
set_option linter.unusedVariables false
set_option linter.unusedSimpArgs false
attribute [local go_sem high] eqA26
end Go.Proofs.YtbcddiaplpbhjaaDoor.MDr
