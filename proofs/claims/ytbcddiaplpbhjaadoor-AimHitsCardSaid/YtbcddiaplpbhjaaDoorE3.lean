/- What the claim's proof leans on: texts of this claim, laid together. -/
import Derived.Test.YtbcddiaplpbhjaaDoorE2
namespace Go.Proofs.YtbcddiaplpbhjaaDoor.MAi
open Go.RowKit Go.Proofs.YtbcddiaplpbhjaaDoorW.PrintWords Go.Proofs.YtbcddiaplpbhjaaDoorW.PrintLast Go.Proofs.YtbcddiaplpbhjaaDoorW.PrintMore
attribute [local go_sem] max2_int min2_int max_two min_two max_three min_three max_four min_four
set_option linter.unusedVariables false
set_option linter.unusedSimpArgs false
noncomputable def bivouaclaw17_few.f (a0_0 : Int) (a0_1 : Int) (a0_2 : Int) (l0_3 : List Int) : Option (Int × Int × Int × List Int) := if (l0_3.length : Int) > 4300 then (if 4300 ≤ (l0_3.length : Int) then (some (a0_0, a0_1, a0_2, (l0_3.take 4300))) else (none)) else (some (a0_0, a0_1, a0_2, l0_3))
set_option maxHeartbeats 8000000 in
set_option maxRecDepth 100000 in
theorem bivouaclaw17_few.calls (a0_0 : Int) (a0_1 : Int) (a0_2 : Int) (P0_3_ : Nat → Prop) (A0_3 : Option Addr) (c0_3 : Nat) (l0_3 : List Int) (r1 : Int) (r2 : Int) (r3 : Int) (r4 : List Int) (w : World) (hs0_3 : Kd.V (Kd.int .u8) 5 w w.heap.size (fun k_ => P0_3_ k_) (.slice A0_3 l0_3.length c0_3) l0_3) (h : bivouaclaw17_few.f a0_0 a0_1 a0_2 l0_3 = some (r1, r2, r3, r4)) :
    Calls Tryd.prog 24 #[.agg #[.int .i64 a0_0, .int .i64 a0_1, .int .i64 a0_2, .slice A0_3 l0_3.length c0_3]] w fun e w' => ∃ v3_ : Value, e = .returned (.agg #[.int .i64 r1, .int .i64 r2, .int .i64 r3, v3_]) ∧ Kd.V (Kd.int .u8) 5 w' w.heap.size (fun k_ => (P0_3_ k_ ∨ w.heap.size ≤ k_)) v3_ r4 ∧ Below w.heap.size w w' := by
  have hu45 := Tryd.underlying45
  have HO0_3 := Aside0.mk (show Kd.V (Kd.int .u8) 5 w w.heap.size (fun k_ => (P0_3_ k_ ∨ w.heap.size ≤ k_)) (.slice A0_3 l0_3.length c0_3) l0_3 from Kd.V_mono hs0_3 (fun k_ hk => .inl hk))
  have HB := Aside0.mk (Below.refl w.heap.size w)
  have H : (if (l0_3.length : Int) > 4300 then (if 4300 ≤ (l0_3.length : Int) then (some (a0_0, a0_1, a0_2, (l0_3.take 4300))) else (none)) else (some (a0_0, a0_1, a0_2, l0_3))) = some (r1, r2, r3, r4) := h
  clear h
  by_cases c2 : (l0_3.length : Int) > 4300
  · rw [if_pos c2] at H
    have c2b0 : decide (4300 < (l0_3.length : Int)) = true := decide_eq_true c2
    have c2b1 : decide (4300 < l0_3.length) = true := decide_eq_true (by omega)
    clear c2
    by_cases c3 : 4300 ≤ (l0_3.length : Int)
    · rw [if_pos c3] at H
      have c3b0 := eq_true c3
      have c3b1 : decide (4300 ≤ (l0_3.length : Int)) = true := decide_eq_true c3
      clear c3
      obtain ⟨y183, hy183⟩ : ∃ y_ : List Int, y_ = (l0_3.take 4300) := ⟨_, rfl⟩
      replace H : (some (a0_0, a0_1, a0_2, y183)) = some (r1, r2, r3, r4) := by first | (rw [hy183]; with_reducible exact H) | (have H2_ := (Option.bind_some _ _).symm.trans H; rw [hy183]; with_reducible exact H2_) | (have H2_ := (Option.bind_some _ _).symm.trans H; with_reducible exact H2_) | with_reducible exact H | (rw [hy183]; exact H) | exact H
      have Ny183 := Aside0.mk hy183
      clear hy183
      simp only [Option.some.injEq, Prod.mk.injEq] at H
      obtain ⟨rfl, rfl, rfl, rfl⟩ := H
      go_enter Tryd.func24, Tryd.ntmps24
      go_wp2_with (first | ((with_reducible refine gate_dst (N := 1) rfl ?_); refine box_event ?hg (N := 1) ?hd (cs := #[.int .i64 a0_0, .int .i64 a0_1, .int .i64 a0_2, .slice A0_3 l0_3.length c0_3]) (t := 45) ?hr ?_; (case hd => rfl); (case hg => rfl); (case hr => first | (go_simp; done) | (go_simp; rfl)); intro gb181 hg w4 hbox hb; have n0_ := Aside0.mk (Kd.V_below (Kd.V_elderB (by (with_reducible repeat (first | apply Kd.V_alloc | apply Kd.V_drewN | apply Kd.V_drew)); exact HO0_3.out) gb181 (Nat.le_of_eq hg.symm)) hb); have n1_ := Aside0.mk (below_step (by repeat (first | (with_reducible first | exact HB.out | apply below_alloc | apply pw_below_drewN | apply below_drew1) | exact HB.out)) hb); have n2_ := Aside0.mk (hbox); have n3_ := Aside0.mk ((by rw [hg]; exact (below_size (by repeat (first | (with_reducible first | exact HB.out | apply below_alloc | apply pw_below_drewN | apply below_drew1) | exact HB.out))) : w.heap.size ≤ gb181)); have n4_ := Aside0.mk ((by rw [hg]; exact (below_size (by repeat (first | (with_reducible first | exact HB.out | apply below_alloc | apply pw_below_drewN | apply below_drew1) | exact HB.out))) : w.heap.size ≤ gb181)); clear HO0_3; clear HB; have HO0_3 := n0_; have HB := n1_; have BK181 := n2_; have GW181 := n3_; have GE181 := n4_; clear n0_ n1_ n2_ n3_ n4_; clear hb hbox hg) | ((with_reducible refine gate_dst (N := 2) rfl ?_); refine box_event ?hg (N := 2) ?hd (cs := #[.int .i64 0, .int .i64 0, .int .i64 0, .slice none 0 0]) (t := 45) ?hr ?_; (case hd => rfl); (case hg => rfl); (case hr => first | (go_simp; done) | (go_simp; rfl)); intro gb182 hg w5 hbox hb; have n0_ := Aside0.mk (Kd.V_below (Kd.V_elderB (by (with_reducible repeat (first | apply Kd.V_alloc | apply Kd.V_drewN | apply Kd.V_drew)); exact HO0_3.out) gb182 (Nat.le_of_eq hg.symm)) hb); have n1_ := Aside0.mk (blk_below (g := gb181) (o := .cells #[.int .i64 a0_0, .int .i64 a0_1, .int .i64 a0_2, .slice A0_3 l0_3.length c0_3] 45 (0, 0)) (by (with_reducible repeat (first | refine blk_drewN ?_ _ | refine blk_drew ?_ | refine blk_alloc ?_ _)); exact BK181.out) hb); have n2_ := Aside0.mk (below_step (by repeat (first | (with_reducible first | exact HB.out | apply below_alloc | apply pw_below_drewN | apply below_drew1 | refine below_set ?_ GE181.out) | exact HB.out)) hb); have n3_ := Aside0.mk (hbox); have n4_ := Aside0.mk ((by rw [hg]; exact (below_size (by repeat (first | (with_reducible first | exact HB.out | apply below_alloc | apply pw_below_drewN | apply below_drew1 | refine below_set ?_ GE181.out) | exact HB.out))) : w.heap.size ≤ gb182)); have n5_ := Aside0.mk ((by rw [hg]; exact (below_size (by repeat (first | (with_reducible first | exact HB.out | apply below_alloc | apply pw_below_drewN | apply below_drew1 | refine below_set ?_ GE181.out) | exact HB.out))) : w.heap.size ≤ gb182)); have n6_ := Aside0.mk ((by rw [hg]; exact Nat.ne_of_lt (blk_lt (g := gb181) (o := .cells #[.int .i64 a0_0, .int .i64 a0_1, .int .i64 a0_2, .slice A0_3 l0_3.length c0_3] 45 (0, 0)) (by (with_reducible repeat (first | refine blk_drewN ?_ _ | refine blk_drew ?_ | refine blk_alloc ?_ _)); exact BK181.out)) : gb181 ≠ gb182)); have n7_ := Aside0.mk ((by rw [hg]; exact Nat.ne_of_gt (blk_lt (g := gb181) (o := .cells #[.int .i64 a0_0, .int .i64 a0_1, .int .i64 a0_2, .slice A0_3 l0_3.length c0_3] 45 (0, 0)) (by (with_reducible repeat (first | refine blk_drewN ?_ _ | refine blk_drew ?_ | refine blk_alloc ?_ _)); exact BK181.out)) : gb182 ≠ gb181)); clear HO0_3; clear BK181; clear HB; have HO0_3 := n0_; have BK181 := n1_; have HB := n2_; have BK182 := n3_; have GW182 := n4_; have GE182 := n5_; have NB181_182 := n6_; have NB182_181 := n7_; clear n0_ n1_ n2_ n3_ n4_ n5_ n6_ n7_; clear hb hbox hg; have hnb6 := NB181_182.out; have hnc6 := NB182_181.out; have hcz7_0 : w5.cell? ⟨gb181, 0, none⟩ = some (.int .i64 a0_0) := (blk_cell BK181.out 0).trans rfl; have hcz7_1 : w5.cell? ⟨gb181, 1, none⟩ = some (.int .i64 a0_1) := (blk_cell BK181.out 1).trans rfl; have hcz7_2 : w5.cell? ⟨gb181, 2, none⟩ = some (.int .i64 a0_2) := (blk_cell BK181.out 2).trans rfl; have hcz7_3 : w5.cell? ⟨gb181, 3, none⟩ = some (.slice A0_3 l0_3.length c0_3) := (blk_cell BK181.out 3).trans rfl; have hfz7_0 := blk_frozen BK181.out 0; have hfz7_1 := blk_frozen BK181.out 1; have hfz7_2 := blk_frozen BK181.out 2; have hfz7_3 := blk_frozen BK181.out 3; have q8 : (4300 : Int) ≤ ((l0_3.length : Int) : Int) := of_decide_eq_true (by first | (with_reducible assumption) | assumption); obtain ⟨i08, hi08, _, hsz8, _⟩ := info_parts info5; have hroom8 : l0_3.length ≤ c0_3 := (Kd.V_reads' HO0_3.out).2.1; have hC8 : Kd.F (Kd.int .u8) _ _ A0_3 l0_3.length l0_3 := (Kd.V_at (base := w.heap.size) HO0_3.out).2.2; have hcut8 := cut_to (P := Tryd.prog) 43 5 .i64 Tryd.underlying43 hi08 A0_3 l0_3.length c0_3 4300 (by omega) q8 hroom8; have hr8 := Kd.F_take (m := 4300) hC8 (by omega); have hy8 : y183.length = (4300 : Int).toNat := (by rw [Ny183.out, List.length_take]; omega); rw [← Ny183.out] at hr8; rw [← hy8] at hcut8; have HO187 := Aside0.mk (show Kd.V (Kd.int .u8) 5 _ w.heap.size _ (.slice A0_3 y183.length c0_3) y183 from Kd.V_mk (by omega) hr8); have HC187 := Aside0.mk (show y183.length ≤ c0_3 from by omega); clear hr8 hC8 hroom8 hi08 hsz8; have KY8 := Aside0.mk hy8; clear hy8; replace q8 := eq_true q8; have hcz9_0 : w5.cell? ⟨gb182, 0, none⟩ = some (.int .i64 0) := (blk_cell BK182.out 0).trans rfl; have hcz9_1 : w5.cell? ⟨gb182, 1, none⟩ = some (.int .i64 0) := (blk_cell BK182.out 1).trans rfl; have hcz9_2 : w5.cell? ⟨gb182, 2, none⟩ = some (.int .i64 0) := (blk_cell BK182.out 2).trans rfl; have hcz9_3 : w5.cell? ⟨gb182, 3, none⟩ = some (.slice none 0 0) := (blk_cell BK182.out 3).trans rfl; have hfz9_0 := blk_frozen BK182.out 0; have hfz9_1 := blk_frozen BK182.out 1; have hfz9_2 := blk_frozen BK182.out 2; have hfz9_3 := blk_frozen BK182.out 3))
      refine bodyPost_ret (results_cell_row rfl _ _ gb182 45 #[.int .i64 a0_0, .int .i64 a0_1, .int .i64 a0_2, .slice A0_3 y183.length c0_3] (0, 0) _ rfl (by (with_reducible repeat (first | refine blk_drewN ?_ _ | refine blk_drew ?_ | refine blk_alloc ?_ _)); refine blk_put (cs := #[.int .i64 a0_0, .int .i64 a0_1, .int .i64 a0_2, .slice none 0 0]) ?_ 3 _ rfl; (with_reducible repeat (first | refine blk_drewN ?_ _ | refine blk_drew ?_ | refine blk_alloc ?_ _)); refine blk_put (cs := #[.int .i64 a0_0, .int .i64 a0_1, .int .i64 0, .slice none 0 0]) ?_ 2 _ rfl; (with_reducible repeat (first | refine blk_drewN ?_ _ | refine blk_drew ?_ | refine blk_alloc ?_ _)); refine blk_put (cs := #[.int .i64 a0_0, .int .i64 0, .int .i64 0, .slice none 0 0]) ?_ 1 _ rfl; (with_reducible repeat (first | refine blk_drewN ?_ _ | refine blk_drew ?_ | refine blk_alloc ?_ _)); refine blk_put (cs := #[.int .i64 0, .int .i64 0, .int .i64 0, .slice none 0 0]) ?_ 0 _ rfl; (with_reducible repeat (first | refine blk_drewN ?_ _ | refine blk_drew ?_ | refine blk_alloc ?_ _)); refine blk_far ?_ NB182_181.out _; (with_reducible repeat (first | refine blk_drewN ?_ _ | refine blk_drew ?_ | refine blk_alloc ?_ _)); exact BK182.out) Tryd.underlying45 rfl (by kernel_rfl)) rfl ?_
      exact ⟨_, by first | rfl | (simp [errW_none, errW_some] <;> rfl) | (simp [*, errW_none, errW_some] <;> rfl), by (with_reducible repeat (first | apply Kd.V_alloc | apply Kd.V_drewN | apply Kd.V_drew)); exact Kd.V_mono (Kd.V_far (p := ⟨gb182, 3, none⟩) (Kd.V_far (p := ⟨gb182, 2, none⟩) (Kd.V_far (p := ⟨gb182, 1, none⟩) (Kd.V_far (p := ⟨gb182, 0, none⟩) (Kd.V_far (p := ⟨gb181, 3, none⟩) (Kd.V_mono (Kd.V_mono HO187.out (fun k_ hk => (⟨hk, hk.1.2⟩ : _ ∧ k_ ≠ gb181))) (fun k_ hk => (⟨hk, hk.1.2⟩ : _ ∧ k_ ≠ gb182))) (fun _ hk => hk.1.2) (.slice A0_3 y183.length c0_3)) (fun _ hk => hk.2) (.int .i64 a0_0)) (fun _ hk => hk.2) (.int .i64 a0_1)) (fun _ hk => hk.2) (.int .i64 a0_2)) (fun _ hk => hk.2) (.slice A0_3 y183.length c0_3)) (fun _ hk => hk.1.1.1.1), by repeat (first | (with_reducible first | exact HB.out | apply below_alloc | apply pw_below_drewN | apply below_drew1 | refine below_set ?_ GE181.out | refine below_set ?_ GE182.out) | exact HB.out)⟩
    · rw [if_neg c3] at H
      exact absurd H (by simp)
  · rw [if_neg c2] at H
    have c2b0 : decide (4300 < (l0_3.length : Int)) = false := decide_eq_false c2
    have c2b1 : decide (4300 < l0_3.length) = false := decide_eq_false (by omega)
    clear c2
    simp only [Option.some.injEq, Prod.mk.injEq] at H
    obtain ⟨rfl, rfl, rfl, rfl⟩ := H
    go_enter Tryd.func24, Tryd.ntmps24
    go_wp2_with (first | ((with_reducible refine gate_dst (N := 1) rfl ?_); refine box_event ?hg (N := 1) ?hd (cs := #[.int .i64 a0_0, .int .i64 a0_1, .int .i64 a0_2, .slice A0_3 l0_3.length c0_3]) (t := 45) ?hr ?_; (case hd => rfl); (case hg => rfl); (case hr => first | (go_simp; done) | (go_simp; rfl)); intro gb181 hg w10 hbox hb; have n0_ := Aside0.mk (Kd.V_below (Kd.V_elderB (by (with_reducible repeat (first | apply Kd.V_alloc | apply Kd.V_drewN | apply Kd.V_drew)); exact HO0_3.out) gb181 (Nat.le_of_eq hg.symm)) hb); have n1_ := Aside0.mk (below_step (by repeat (first | (with_reducible first | exact HB.out | apply below_alloc | apply pw_below_drewN | apply below_drew1) | exact HB.out)) hb); have n2_ := Aside0.mk (hbox); have n3_ := Aside0.mk ((by rw [hg]; exact (below_size (by repeat (first | (with_reducible first | exact HB.out | apply below_alloc | apply pw_below_drewN | apply below_drew1) | exact HB.out))) : w.heap.size ≤ gb181)); have n4_ := Aside0.mk ((by rw [hg]; exact (below_size (by repeat (first | (with_reducible first | exact HB.out | apply below_alloc | apply pw_below_drewN | apply below_drew1) | exact HB.out))) : w.heap.size ≤ gb181)); clear HO0_3; clear HB; have HO0_3 := n0_; have HB := n1_; have BK181 := n2_; have GW181 := n3_; have GE181 := n4_; clear n0_ n1_ n2_ n3_ n4_; clear hb hbox hg) | ((with_reducible refine gate_dst (N := 2) rfl ?_); refine box_event ?hg (N := 2) ?hd (cs := #[.int .i64 0, .int .i64 0, .int .i64 0, .slice none 0 0]) (t := 45) ?hr ?_; (case hd => rfl); (case hg => rfl); (case hr => first | (go_simp; done) | (go_simp; rfl)); intro gb182 hg w11 hbox hb; have n0_ := Aside0.mk (Kd.V_below (Kd.V_elderB (by (with_reducible repeat (first | apply Kd.V_alloc | apply Kd.V_drewN | apply Kd.V_drew)); exact HO0_3.out) gb182 (Nat.le_of_eq hg.symm)) hb); have n1_ := Aside0.mk (blk_below (g := gb181) (o := .cells #[.int .i64 a0_0, .int .i64 a0_1, .int .i64 a0_2, .slice A0_3 l0_3.length c0_3] 45 (0, 0)) (by (with_reducible repeat (first | refine blk_drewN ?_ _ | refine blk_drew ?_ | refine blk_alloc ?_ _)); exact BK181.out) hb); have n2_ := Aside0.mk (below_step (by repeat (first | (with_reducible first | exact HB.out | apply below_alloc | apply pw_below_drewN | apply below_drew1 | refine below_set ?_ GE181.out) | exact HB.out)) hb); have n3_ := Aside0.mk (hbox); have n4_ := Aside0.mk ((by rw [hg]; exact (below_size (by repeat (first | (with_reducible first | exact HB.out | apply below_alloc | apply pw_below_drewN | apply below_drew1 | refine below_set ?_ GE181.out) | exact HB.out))) : w.heap.size ≤ gb182)); have n5_ := Aside0.mk ((by rw [hg]; exact (below_size (by repeat (first | (with_reducible first | exact HB.out | apply below_alloc | apply pw_below_drewN | apply below_drew1 | refine below_set ?_ GE181.out) | exact HB.out))) : w.heap.size ≤ gb182)); have n6_ := Aside0.mk ((by rw [hg]; exact Nat.ne_of_lt (blk_lt (g := gb181) (o := .cells #[.int .i64 a0_0, .int .i64 a0_1, .int .i64 a0_2, .slice A0_3 l0_3.length c0_3] 45 (0, 0)) (by (with_reducible repeat (first | refine blk_drewN ?_ _ | refine blk_drew ?_ | refine blk_alloc ?_ _)); exact BK181.out)) : gb181 ≠ gb182)); have n7_ := Aside0.mk ((by rw [hg]; exact Nat.ne_of_gt (blk_lt (g := gb181) (o := .cells #[.int .i64 a0_0, .int .i64 a0_1, .int .i64 a0_2, .slice A0_3 l0_3.length c0_3] 45 (0, 0)) (by (with_reducible repeat (first | refine blk_drewN ?_ _ | refine blk_drew ?_ | refine blk_alloc ?_ _)); exact BK181.out)) : gb182 ≠ gb181)); clear HO0_3; clear BK181; clear HB; have HO0_3 := n0_; have BK181 := n1_; have HB := n2_; have BK182 := n3_; have GW182 := n4_; have GE182 := n5_; have NB181_182 := n6_; have NB182_181 := n7_; clear n0_ n1_ n2_ n3_ n4_ n5_ n6_ n7_; clear hb hbox hg; have hnb12 := NB181_182.out; have hnc12 := NB182_181.out; have hcz13_0 : w11.cell? ⟨gb181, 0, none⟩ = some (.int .i64 a0_0) := (blk_cell BK181.out 0).trans rfl; have hcz13_1 : w11.cell? ⟨gb181, 1, none⟩ = some (.int .i64 a0_1) := (blk_cell BK181.out 1).trans rfl; have hcz13_2 : w11.cell? ⟨gb181, 2, none⟩ = some (.int .i64 a0_2) := (blk_cell BK181.out 2).trans rfl; have hcz13_3 : w11.cell? ⟨gb181, 3, none⟩ = some (.slice A0_3 l0_3.length c0_3) := (blk_cell BK181.out 3).trans rfl; have hfz13_0 := blk_frozen BK181.out 0; have hfz13_1 := blk_frozen BK181.out 1; have hfz13_2 := blk_frozen BK181.out 2; have hfz13_3 := blk_frozen BK181.out 3; have hcz14_0 : w11.cell? ⟨gb182, 0, none⟩ = some (.int .i64 0) := (blk_cell BK182.out 0).trans rfl; have hcz14_1 : w11.cell? ⟨gb182, 1, none⟩ = some (.int .i64 0) := (blk_cell BK182.out 1).trans rfl; have hcz14_2 : w11.cell? ⟨gb182, 2, none⟩ = some (.int .i64 0) := (blk_cell BK182.out 2).trans rfl; have hcz14_3 : w11.cell? ⟨gb182, 3, none⟩ = some (.slice none 0 0) := (blk_cell BK182.out 3).trans rfl; have hfz14_0 := blk_frozen BK182.out 0; have hfz14_1 := blk_frozen BK182.out 1; have hfz14_2 := blk_frozen BK182.out 2; have hfz14_3 := blk_frozen BK182.out 3))
    refine bodyPost_ret (results_cell_row rfl _ _ gb182 45 #[.int .i64 a0_0, .int .i64 a0_1, .int .i64 a0_2, .slice A0_3 l0_3.length c0_3] (0, 0) _ rfl (by (with_reducible repeat (first | refine blk_drewN ?_ _ | refine blk_drew ?_ | refine blk_alloc ?_ _)); refine blk_put (cs := #[.int .i64 a0_0, .int .i64 a0_1, .int .i64 a0_2, .slice none 0 0]) ?_ 3 _ rfl; (with_reducible repeat (first | refine blk_drewN ?_ _ | refine blk_drew ?_ | refine blk_alloc ?_ _)); refine blk_put (cs := #[.int .i64 a0_0, .int .i64 a0_1, .int .i64 0, .slice none 0 0]) ?_ 2 _ rfl; (with_reducible repeat (first | refine blk_drewN ?_ _ | refine blk_drew ?_ | refine blk_alloc ?_ _)); refine blk_put (cs := #[.int .i64 a0_0, .int .i64 0, .int .i64 0, .slice none 0 0]) ?_ 1 _ rfl; (with_reducible repeat (first | refine blk_drewN ?_ _ | refine blk_drew ?_ | refine blk_alloc ?_ _)); refine blk_put (cs := #[.int .i64 0, .int .i64 0, .int .i64 0, .slice none 0 0]) ?_ 0 _ rfl; (with_reducible repeat (first | refine blk_drewN ?_ _ | refine blk_drew ?_ | refine blk_alloc ?_ _)); exact BK182.out) Tryd.underlying45 rfl (by kernel_rfl)) rfl ?_
    exact ⟨_, by first | rfl | (simp [errW_none, errW_some] <;> rfl) | (simp [*, errW_none, errW_some] <;> rfl), by (with_reducible repeat (first | apply Kd.V_alloc | apply Kd.V_drewN | apply Kd.V_drew)); exact Kd.V_mono (Kd.V_far (p := ⟨gb182, 3, none⟩) (Kd.V_far (p := ⟨gb182, 2, none⟩) (Kd.V_far (p := ⟨gb182, 1, none⟩) (Kd.V_far (p := ⟨gb182, 0, none⟩) (Kd.V_mono HO0_3.out (fun k_ hk => (⟨hk, hk.2⟩ : _ ∧ k_ ≠ gb182))) (fun _ hk => hk.2) (.int .i64 a0_0)) (fun _ hk => hk.2) (.int .i64 a0_1)) (fun _ hk => hk.2) (.int .i64 a0_2)) (fun _ hk => hk.2) (.slice A0_3 l0_3.length c0_3)) (fun _ hk => hk.1.1.1), by repeat (first | (with_reducible first | exact HB.out | apply below_alloc | apply pw_below_drewN | apply below_drew1 | refine below_set ?_ GE181.out | refine below_set ?_ GE182.out) | exact HB.out)⟩
end Go.Proofs.YtbcddiaplpbhjaaDoor.MAi
namespace Go.Proofs.YtbcddiaplpbhjaaDoor.MAi
open Go.RowKit Go.Proofs.YtbcddiaplpbhjaaDoorW.PrintWords Go.Proofs.YtbcddiaplpbhjaaDoorW.PrintLast Go.Proofs.YtbcddiaplpbhjaaDoorW.PrintMore
attribute [local go_sem] max2_int min2_int max_two min_two max_three min_three max_four min_four
set_option linter.unusedVariables false
set_option linter.unusedSimpArgs false
end Go.Proofs.YtbcddiaplpbhjaaDoor.MAi
namespace Go.Proofs.YtbcddiaplpbhjaaDoor.MAi
open Go.RowKit Go.Proofs.YtbcddiaplpbhjaaDoorW.PrintWords Go.Proofs.YtbcddiaplpbhjaaDoorW.PrintLast Go.Proofs.YtbcddiaplpbhjaaDoorW.PrintMore
attribute [local go_sem] max2_int min2_int max_two min_two max_three min_three max_four min_four
set_option linter.unusedVariables false
set_option linter.unusedSimpArgs false
noncomputable def shot_within.l0 : Nat → Int → Int → List Int → Int → Int → Option (Bool)
  | 0, _, _, _, _, _ => none
  | k + 1, x0, x1, x9, x10, x11 => if x11 < x10 then (if 0 ≤ x11 then (if x11 < (x9.length : Int) then (if (rd x9 x11) < x0 then (some false) else (if (rd x9 x11) > x1 then (some false) else (shot_within.l0 k x0 x1 x9 x10 (wrap64 (x11 + 1))))) else (none)) else (none)) else (some true)
noncomputable def shot_within.f (k : Nat) (a0 : Int) (a1 : Int) (l2 : List Int) : Option (Bool) := shot_within.l0 k a0 a1 l2 (l2.length : Int) 0
theorem shot_within.mono_l : ∀ k, (∀ y0 y1 y2 y3 y4, LeO (shot_within.l0 k y0 y1 y2 y3 y4) (shot_within.l0 (k + 1) y0 y1 y2 y3 y4))
  | 0 => fun _ _ _ _ _ r h => by simp [shot_within.l0] at h
  | k + 1 => by
    have ih0 := shot_within.mono_l k
    · intro y0 y1 y2 y3 y4
      unfold shot_within.l0
      repeat' first
      | (with_reducible exact ih0 _ _ _ _ _)
      | (with_reducible exact LeO.refl _)
      | (with_reducible exact LeO.none _)
      | (with_reducible refine LeO.ite ?_ ?_)
      | (with_reducible refine LeO.bind ?_ (fun _ => ?_))
      | exact ih0 _ _ _ _ _
      | exact LeO.none _
      | refine LeO.ite ?_ ?_
      | refine LeO.bind ?_ (fun _ => ?_)
theorem shot_within.mono : ∀ a0 a1 a2 k, LeO (shot_within.f k a0 a1 a2) (shot_within.f (k + 1) a0 a1 a2) := by
  intro a0 a1 a2 k
  have ih0 := shot_within.mono_l k
  unfold shot_within.f
  repeat' first
      | (with_reducible exact ih0 _ _ _ _ _)
      | (with_reducible exact LeO.refl _)
      | (with_reducible exact LeO.none _)
      | (with_reducible refine LeO.ite ?_ ?_)
      | (with_reducible refine LeO.bind ?_ (fun _ => ?_))
      | exact ih0 _ _ _ _ _
      | exact LeO.none _
      | refine LeO.ite ?_ ?_
      | refine LeO.bind ?_ (fun _ => ?_)
set_option maxHeartbeats 8000000 in
set_option maxRecDepth 100000 in
theorem shot_within.calls (k : Nat) (a0 : Int) (a1 : Int) (A2 : Option Addr) (c2 : Nat) (l2 : List Int) (r : Bool) (w : World) (hr2 : Kd.C (Kd.int .i64) w A2 l2.length l2) (hc2 : l2.length ≤ c2) (h : shot_within.f k a0 a1 l2 = some r) :
    Calls Tryd.prog 78 #[.int .i64 a0, .int .i64 a1, .slice A2 l2.length c2] w fun e w' => e = .returned (.bool r) ∧ Drawn0 w w' := by
  have HR2 := Aside0.mk hr2
  have HC2 := Aside0.mk hc2
  clear hr2 hc2
  have H : (shot_within.l0 k a0 a1 l2 (l2.length : Int) 0) = some r := h
  clear h
  have H' := Aside0.mk H
  clear H
  go_enter Tryd.func78, Tryd.ntmps78
  go_wp2
  go_loopg [11] k (fun kq v11 w' => ∃ (x11_1 : Int), v11 = .int .i64 x11_1 ∧ Aside0 (shot_within.l0 kq a0 a1 l2 (l2.length : Int) x11_1 = some r) ∧ Aside0 (kq ≤ k) ∧ Drawn0 w w')
  case atStart => exact ⟨(0), (by first | rfl | (simp; done) | (simp [*]; done)), H', ⟨Nat.le_refl _⟩, by repeat (first | exact Drawn0.refl _ | apply Drawn0.step)⟩
  case round =>
    clear H'
    try clear c2
    try clear p2
    obtain ⟨x11_1, rfl, HA, HK1, ⟨m1, rfl⟩⟩ := hrel
    cases gk with
    | zero => exact absurd HA.out (by simp [shot_within.l0])
    | succ k1 =>
      have H := HA.out
      clear HA
      simp only [shot_within.l0] at H
      by_cases c4 : x11_1 < (l2.length : Int)
      · rw [if_pos c4] at H
        have c4b0 : decide (x11_1 < (l2.length : Int)) = true := decide_eq_true c4
        clear c4
        by_cases c5 : 0 ≤ x11_1
        · rw [if_pos c5] at H
          have c5b0 : decide (0 ≤ x11_1) = true := decide_eq_true c5
          clear c5
          by_cases c6 : x11_1 < (l2.length : Int)
          · rw [if_pos c6] at H
            have c6b0 : decide (x11_1 < (l2.length : Int)) = true := decide_eq_true c6
            clear c6
            by_cases c7 : (rd l2 x11_1) < a0
            · rw [if_pos c7] at H
              have c7b0 : decide ((rd l2 x11_1) < a0) = true := decide_eq_true c7
              clear c7
              obtain rfl := Option.some.inj H
              have p257 : 0 ≤ (x11_1 : Int) := of_decide_eq_true (by first | (with_reducible assumption) | assumption)
              have q257 : x11_1 < (l2.length : Int) := of_decide_eq_true (by first | (with_reducible assumption) | assumption)
              obtain ⟨ad257, e257, hx257_0⟩ := Kd.at_int HR2.out x11_1 p257 q257
              cases e257
              replace p257 := eq_true p257
              replace q257 := eq_true q257
              go_wp2
              go_ret
              exact ⟨by first | rfl | (simp; done) | (simp [*]; done), by repeat (first | exact Drawn0.refl _ | apply Drawn0.step)⟩
            · rw [if_neg c7] at H
              have c7b0 : decide ((rd l2 x11_1) < a0) = false := decide_eq_false c7
              clear c7
              by_cases c8 : (rd l2 x11_1) > a1
              · rw [if_pos c8] at H
                have c8b0 : decide (a1 < (rd l2 x11_1)) = true := decide_eq_true c8
                clear c8
                obtain rfl := Option.some.inj H
                have p257 : 0 ≤ (x11_1 : Int) := of_decide_eq_true (by first | (with_reducible assumption) | assumption)
                have q257 : x11_1 < (l2.length : Int) := of_decide_eq_true (by first | (with_reducible assumption) | assumption)
                obtain ⟨ad257, e257, hx257_0⟩ := Kd.at_int HR2.out x11_1 p257 q257
                cases e257
                replace p257 := eq_true p257
                replace q257 := eq_true q257
                go_wp2
                go_ret
                exact ⟨by first | rfl | (simp; done) | (simp [*]; done), by repeat (first | exact Drawn0.refl _ | apply Drawn0.step)⟩
              · rw [if_neg c8] at H
                have c8b0 : decide (a1 < (rd l2 x11_1)) = false := decide_eq_false c8
                clear c8
                have H' := Aside0.mk H
                clear H
                have p257 : 0 ≤ (x11_1 : Int) := of_decide_eq_true (by first | (with_reducible assumption) | assumption)
                have q257 : x11_1 < (l2.length : Int) := of_decide_eq_true (by first | (with_reducible assumption) | assumption)
                obtain ⟨ad257, e257, hx257_0⟩ := Kd.at_int HR2.out x11_1 p257 q257
                cases e257
                replace p257 := eq_true p257
                replace q257 := eq_true q257
                go_wp2
                go_roundg k1
                case measure => have := HK1.out; omega
                case rel => exact ⟨(wrap64 (x11_1 + 1)), (by first | rfl | (simp; done) | (simp [*]; done)), H', ⟨by have := HK1.out; omega⟩, by repeat (first | exact Drawn0.refl _ | apply Drawn0.step)⟩
          · rw [if_neg c6] at H
            exact absurd H (by simp)
        · rw [if_neg c5] at H
          exact absurd H (by simp)
      · rw [if_neg c4] at H
        have c4b0 : decide (x11_1 < (l2.length : Int)) = false := decide_eq_false c4
        clear c4
        obtain rfl := Option.some.inj H
        go_wp2
        go_ret
        exact ⟨by first | rfl | (simp; done) | (simp [*]; done), by repeat (first | exact Drawn0.refl _ | apply Drawn0.step)⟩
noncomputable def shot_May.f (k : Nat) (a0_0 : Int) (a0_1 : Int) (a0_2 : Int) (l0_3 : List Int) (a1_0 : Int) (a1_1 : Int) (a1_2 : Int) (a1_3 : Int) (a1_4 : Int) (a1_5 : Int) : Option (Bool) := (relief_On.f k a0_0 a0_1 a0_2 l0_3 a1_0 a1_1).bind fun t260 => (if t260 = true then ((shot_within.f k 0 1073741824 (([a1_2] : List Int))).bind fun t264 => (if t264 = true then ((shot_within.f k (-262144) 262144 (([a1_3, a1_4, a1_5] : List Int))).bind fun t268 => (some t268)) else (some false))) else (some false))
theorem shot_May.mono : ∀ a0 a1 a2 a3 a4 a5 a6 a7 a8 a9 k, LeO (shot_May.f k a0 a1 a2 a3 a4 a5 a6 a7 a8 a9) (shot_May.f (k + 1) a0 a1 a2 a3 a4 a5 a6 a7 a8 a9) := by
  intro a0 a1 a2 a3 a4 a5 a6 a7 a8 a9 k
  unfold shot_May.f
  repeat' first
      | (with_reducible exact relief_On.mono _ _ _ _ _ _ _)
      | (with_reducible exact shot_within.mono _ _ _ _)
      | (with_reducible exact LeO.refl _)
      | (with_reducible exact LeO.none _)
      | (with_reducible refine LeO.ite ?_ ?_)
      | (with_reducible refine LeO.bind ?_ (fun _ => ?_))
      | exact relief_On.mono _ _ _ _ _ _ _
      | exact shot_within.mono _ _ _ _
      | exact LeO.none _
      | refine LeO.ite ?_ ?_
      | refine LeO.bind ?_ (fun _ => ?_)
set_option maxHeartbeats 8000000 in
set_option maxRecDepth 100000 in
theorem shot_May.calls (k : Nat) (a0_0 : Int) (a0_1 : Int) (a0_2 : Int) (A0_3 : Option Addr) (c0_3 : Nat) (l0_3 : List Int) (a1_0 : Int) (a1_1 : Int) (a1_2 : Int) (a1_3 : Int) (a1_4 : Int) (a1_5 : Int) (r : Bool) (w : World) (hr0_3 : Kd.C (Kd.int .u8) w A0_3 l0_3.length l0_3) (hc0_3 : l0_3.length ≤ c0_3) (h : shot_May.f k a0_0 a0_1 a0_2 l0_3 a1_0 a1_1 a1_2 a1_3 a1_4 a1_5 = some r) :
    Calls Tryd.prog 62 #[.agg #[.int .i64 a0_0, .int .i64 a0_1, .int .i64 a0_2, .slice A0_3 l0_3.length c0_3], .agg #[.int .i64 a1_0, .int .i64 a1_1, .int .i64 a1_2, .int .i64 a1_3, .int .i64 a1_4, .int .i64 a1_5]] w fun e w' => e = .returned (.bool r) ∧ Below w.heap.size w w' := by
  have hu45 := Tryd.underlying45
  have hu47 := Tryd.underlying47
  have HR0_3 := Aside0.mk hr0_3
  have HC0_3 := Aside0.mk hc0_3
  clear hr0_3 hc0_3
  have HB := Aside0.mk (Below.refl w.heap.size w)
  have H : ((relief_On.f k a0_0 a0_1 a0_2 l0_3 a1_0 a1_1).bind fun t260 => (if t260 = true then ((shot_within.f k 0 1073741824 (([a1_2] : List Int))).bind fun t264 => (if t264 = true then ((shot_within.f k (-262144) 262144 (([a1_3, a1_4, a1_5] : List Int))).bind fun t268 => (some t268)) else (some false))) else (some false))) = some r := h
  clear h
  replace H := Option.bind_eq_some_iff.mp H
  obtain ⟨t260, A30, H⟩ := H
  replace H : (if t260 = true then ((shot_within.f k 0 1073741824 (([a1_2] : List Int))).bind fun t264 => (if t264 = true then ((shot_within.f k (-262144) 262144 (([a1_3, a1_4, a1_5] : List Int))).bind fun t268 => (some t268)) else (some false))) else (some false)) = some r := H
  have A3 := Aside0.mk A30
  clear A30
  by_cases c4 : t260 = true
  · subst c4
    have H1 : ((shot_within.f k 0 1073741824 (([a1_2] : List Int))).bind fun t264 => (if t264 = true then ((shot_within.f k (-262144) 262144 (([a1_3, a1_4, a1_5] : List Int))).bind fun t268 => (some t268)) else (some false))) = some r := by rw [if_pos rfl] at H; exact H
    clear H
    have H := H1
    clear H1
    obtain ⟨y261, hy261⟩ : ∃ y_ : List Int, y_ = (([a1_2] : List Int)) := ⟨_, rfl⟩
    replace H : ((shot_within.f k 0 1073741824 y261).bind fun t264 => (if t264 = true then ((shot_within.f k (-262144) 262144 (([a1_3, a1_4, a1_5] : List Int))).bind fun t268 => (some t268)) else (some false))) = some r := by first | (rw [hy261]; with_reducible exact H) | (have H2_ := (Option.bind_some _ _).symm.trans H; rw [hy261]; with_reducible exact H2_) | (have H2_ := (Option.bind_some _ _).symm.trans H; with_reducible exact H2_) | with_reducible exact H | (rw [hy261]; exact H) | exact H
    have Ny261 := Aside0.mk hy261
    clear hy261
    replace H := Option.bind_eq_some_iff.mp H
    obtain ⟨t264, A50, H⟩ := H
    replace H : (if t264 = true then ((shot_within.f k (-262144) 262144 (([a1_3, a1_4, a1_5] : List Int))).bind fun t268 => (some t268)) else (some false)) = some r := H
    have A5 := Aside0.mk A50
    clear A50
    by_cases c6 : t264 = true
    · subst c6
      have H1 : ((shot_within.f k (-262144) 262144 (([a1_3, a1_4, a1_5] : List Int))).bind fun t268 => (some t268)) = some r := by rw [if_pos rfl] at H; exact H
      clear H
      have H := H1
      clear H1
      obtain ⟨y265, hy265⟩ : ∃ y_ : List Int, y_ = (([a1_3, a1_4, a1_5] : List Int)) := ⟨_, rfl⟩
      replace H : ((shot_within.f k (-262144) 262144 y265).bind fun t268 => (some t268)) = some r := by first | (rw [hy265]; with_reducible exact H) | (have H2_ := (Option.bind_some _ _).symm.trans H; rw [hy265]; with_reducible exact H2_) | (have H2_ := (Option.bind_some _ _).symm.trans H; with_reducible exact H2_) | with_reducible exact H | (rw [hy265]; exact H) | exact H
      have Ny265 := Aside0.mk hy265
      clear hy265
      replace H := Option.bind_eq_some_iff.mp H
      obtain ⟨t268, A70, H⟩ := H
      replace H : (some t268) = some r := H
      have A7 := Aside0.mk A70
      clear A70
      obtain rfl := Option.some.inj H
      go_enter Tryd.func62, Tryd.ntmps62
      go_wp2_with (first | ((with_reducible refine gate_dst (N := 2) rfl ?_); (try (refine gate_guard (by rfl) ?_; dsimp only)); refine box_event ?hg (N := 2) ?hd (cs := #[.int .i64 a0_0, .int .i64 a0_1, .int .i64 a0_2, .slice A0_3 l0_3.length c0_3]) (t := 45) ?hr ?_; (case hd => rfl); (case hg => rfl); (case hr => first | (go_simp; done) | (go_simp; rfl)); intro gb258 hg w8 hbox hb; have n0_ := Aside0.mk (below_step (by repeat (first | (with_reducible first | exact HB.out | apply below_alloc | apply pw_below_drewN | apply below_drew1) | exact HB.out)) hb); have n1_ := Aside0.mk (hbox); have n2_ := Aside0.mk ((by rw [hg]; exact (below_size (by repeat (first | (with_reducible first | exact HB.out | apply below_alloc | apply pw_below_drewN | apply below_drew1) | exact HB.out))) : w.heap.size ≤ gb258)); have n3_ := Aside0.mk ((by rw [hg]; exact (below_size (by repeat (first | (with_reducible first | exact HB.out | apply below_alloc | apply pw_below_drewN | apply below_drew1) | exact HB.out))) : w.heap.size ≤ gb258)); clear HB; have HB := n0_; have BK258 := n1_; have GW258 := n2_; have GE258 := n3_; clear n0_ n1_ n2_ n3_; clear hb hbox hg) | ((with_reducible refine gate_dst (N := 3) rfl ?_); (try (refine gate_guard (by rfl) ?_; dsimp only)); refine box_event ?hg (N := 3) ?hd (cs := #[.int .i64 a1_0, .int .i64 a1_1, .int .i64 a1_2, .int .i64 a1_3, .int .i64 a1_4, .int .i64 a1_5]) (t := 47) ?hr ?_; (case hd => rfl); (case hg => rfl); (case hr => first | (go_simp; done) | (go_simp; rfl)); intro gb259 hg w9 hbox hb; have n0_ := Aside0.mk (blk_below (g := gb258) (o := .cells #[.int .i64 a0_0, .int .i64 a0_1, .int .i64 a0_2, .slice A0_3 l0_3.length c0_3] 45 (0, 0)) (by (with_reducible repeat (first | refine blk_drewN ?_ _ | refine blk_drew ?_ | refine blk_alloc ?_ _)); exact BK258.out) hb); have n1_ := Aside0.mk (below_step (by repeat (first | (with_reducible first | exact HB.out | apply below_alloc | apply pw_below_drewN | apply below_drew1 | refine below_set ?_ GE258.out) | exact HB.out)) hb); have n2_ := Aside0.mk (hbox); have n3_ := Aside0.mk ((by rw [hg]; exact (below_size (by repeat (first | (with_reducible first | exact HB.out | apply below_alloc | apply pw_below_drewN | apply below_drew1 | refine below_set ?_ GE258.out) | exact HB.out))) : w.heap.size ≤ gb259)); have n4_ := Aside0.mk ((by rw [hg]; exact (below_size (by repeat (first | (with_reducible first | exact HB.out | apply below_alloc | apply pw_below_drewN | apply below_drew1 | refine below_set ?_ GE258.out) | exact HB.out))) : w.heap.size ≤ gb259)); have n5_ := Aside0.mk ((by rw [hg]; exact Nat.ne_of_lt (blk_lt (g := gb258) (o := .cells #[.int .i64 a0_0, .int .i64 a0_1, .int .i64 a0_2, .slice A0_3 l0_3.length c0_3] 45 (0, 0)) (by (with_reducible repeat (first | refine blk_drewN ?_ _ | refine blk_drew ?_ | refine blk_alloc ?_ _)); exact BK258.out)) : gb258 ≠ gb259)); have n6_ := Aside0.mk ((by rw [hg]; exact Nat.ne_of_gt (blk_lt (g := gb258) (o := .cells #[.int .i64 a0_0, .int .i64 a0_1, .int .i64 a0_2, .slice A0_3 l0_3.length c0_3] 45 (0, 0)) (by (with_reducible repeat (first | refine blk_drewN ?_ _ | refine blk_drew ?_ | refine blk_alloc ?_ _)); exact BK258.out)) : gb259 ≠ gb258)); clear BK258; clear HB; have BK258 := n0_; have HB := n1_; have BK259 := n2_; have GW259 := n3_; have GE259 := n4_; have NB258_259 := n5_; have NB259_258 := n6_; clear n0_ n1_ n2_ n3_ n4_ n5_ n6_; clear hb hbox hg; have hnb10 := NB258_259.out; have hnc10 := NB259_258.out; have hcz11_0 : w9.cell? ⟨gb258, 0, none⟩ = some (.int .i64 a0_0) := (blk_cell BK258.out 0).trans rfl; have hcz11_1 : w9.cell? ⟨gb258, 1, none⟩ = some (.int .i64 a0_1) := (blk_cell BK258.out 1).trans rfl; have hcz11_2 : w9.cell? ⟨gb258, 2, none⟩ = some (.int .i64 a0_2) := (blk_cell BK258.out 2).trans rfl; have hcz11_3 : w9.cell? ⟨gb258, 3, none⟩ = some (.slice A0_3 l0_3.length c0_3) := (blk_cell BK258.out 3).trans rfl; have hfz11_0 := blk_frozen BK258.out 0; have hfz11_1 := blk_frozen BK258.out 1; have hfz11_2 := blk_frozen BK258.out 2; have hfz11_3 := blk_frozen BK258.out 3; have hcz12_0 : w9.cell? ⟨gb259, 0, none⟩ = some (.int .i64 a1_0) := (blk_cell BK259.out 0).trans rfl; have hcz12_1 : w9.cell? ⟨gb259, 1, none⟩ = some (.int .i64 a1_1) := (blk_cell BK259.out 1).trans rfl; have hcz12_2 : w9.cell? ⟨gb259, 2, none⟩ = some (.int .i64 a1_2) := (blk_cell BK259.out 2).trans rfl; have hcz12_3 : w9.cell? ⟨gb259, 3, none⟩ = some (.int .i64 a1_3) := (blk_cell BK259.out 3).trans rfl; have hcz12_4 : w9.cell? ⟨gb259, 4, none⟩ = some (.int .i64 a1_4) := (blk_cell BK259.out 4).trans rfl; have hcz12_5 : w9.cell? ⟨gb259, 5, none⟩ = some (.int .i64 a1_5) := (blk_cell BK259.out 5).trans rfl; have hfz12_0 := blk_frozen BK259.out 0; have hfz12_1 := blk_frozen BK259.out 1; have hfz12_2 := blk_frozen BK259.out 2; have hfz12_3 := blk_frozen BK259.out 3; have hfz12_4 := blk_frozen BK259.out 4; have hfz12_5 := blk_frozen BK259.out 5) | ((with_reducible refine gate_callee (f := 55) rfl ?_); refine goesL_ (some 10) rfl rfl Tryd.func55 (by kernel_rfl) rfl #[.agg #[.int .i64 a0_0, .int .i64 a0_1, .int .i64 a0_2, .slice A0_3 l0_3.length c0_3], .int .i64 a1_0, .int .i64 a1_1] rfl (by (try simp only [List.map_toArray, List.map_cons, List.map_nil]); first | done | rfl | (simp only [List.length_drop, List.length_take]; rfl)) ?_; (with_reducible refine (relief_On.calls k a0_0 a0_1 a0_2 _ _ l0_3 a1_0 a1_1 true _ ?side1 ?side2 A3.out).mono ?_); (case side1 => repeat (first | exact (Kd.C_below HR0_3.out HB.out) | (with_reducible refine Kd.C_alloc ?_ _) | (with_reducible refine Kd.C_drewN ?_ _) | (with_reducible refine Kd.C_drew ?_))); (case side2 => exact HC0_3.out); rintro e w13 ⟨rfl, hb⟩; refine ⟨_, rfl, ?_⟩; have n0_ := Aside0.mk (blk_below (g := gb258) (o := .cells #[.int .i64 a0_0, .int .i64 a0_1, .int .i64 a0_2, .slice A0_3 l0_3.length c0_3] 45 (0, 0)) (by (with_reducible repeat (first | refine blk_drewN ?_ _ | refine blk_drew ?_ | refine blk_alloc ?_ _)); exact BK258.out) hb); have n1_ := Aside0.mk (blk_below (g := gb259) (o := .cells #[.int .i64 a1_0, .int .i64 a1_1, .int .i64 a1_2, .int .i64 a1_3, .int .i64 a1_4, .int .i64 a1_5] 47 (0, 0)) (by (with_reducible repeat (first | refine blk_drewN ?_ _ | refine blk_drew ?_ | refine blk_alloc ?_ _)); exact BK259.out) hb); have n2_ := Aside0.mk (below_step (by repeat (first | (with_reducible first | exact HB.out | apply below_alloc | apply pw_below_drewN | apply below_drew1 | refine below_set ?_ GE258.out | refine below_set ?_ GE259.out) | exact HB.out)) hb); clear BK258; clear BK259; clear HB; have BK258 := n0_; have BK259 := n1_; have HB := n2_; clear n0_ n1_ n2_; (try clear hb); (try clear hb2); (try clear hk); (try clear hi); have hcz14_0 : w13.cell? ⟨gb259, 0, none⟩ = some (.int .i64 a1_0) := (blk_cell BK259.out 0).trans rfl; have hcz14_1 : w13.cell? ⟨gb259, 1, none⟩ = some (.int .i64 a1_1) := (blk_cell BK259.out 1).trans rfl; have hcz14_2 : w13.cell? ⟨gb259, 2, none⟩ = some (.int .i64 a1_2) := (blk_cell BK259.out 2).trans rfl; have hcz14_3 : w13.cell? ⟨gb259, 3, none⟩ = some (.int .i64 a1_3) := (blk_cell BK259.out 3).trans rfl; have hcz14_4 : w13.cell? ⟨gb259, 4, none⟩ = some (.int .i64 a1_4) := (blk_cell BK259.out 4).trans rfl; have hcz14_5 : w13.cell? ⟨gb259, 5, none⟩ = some (.int .i64 a1_5) := (blk_cell BK259.out 5).trans rfl; have hfz14_0 := blk_frozen BK259.out 0; have hfz14_1 := blk_frozen BK259.out 1; have hfz14_2 := blk_frozen BK259.out 2; have hfz14_3 := blk_frozen BK259.out 3; have hfz14_4 := blk_frozen BK259.out 4; have hfz14_5 := blk_frozen BK259.out 5) | ((with_reducible refine gate_dst (N := 14) rfl ?_); (try (refine gate_guard (by rfl) ?_; dsimp only)); refine Kd.R_lit (Kd.int .i64) _ 2 ?hg (N := 14) ?hd (xs := ([a1_2] : List Int)) (inner := [.int .i64 a1_2]) (ok := fun _ => True) (okp := fun _ => True) ?hr ?hp (fun _ hk => hk) trivial (Below.refl _ _) (Nat.le_refl _) (by simp) ?_; (case hd => rfl); (case hg => rfl); (case hr => first | (go_simp; done) | (go_simp; rfl)); (case hp => exact (Reps.one (show Kd.M (Kd.int .i64) _ _ _ a1_2 [.int .i64 a1_2] from rfl) (Reps.none _ _))); intro v262 w15 ho16 hb hg_ hnew_; clear hg_ hnew_; (first | rw [← Ny261.out] at ho16 | (simp only [Int.reduceToNat] at ho16; rw [← Ny261.out] at ho16)); have n0_ := Aside0.mk (Kd.R_lower ho16 (below_size (by repeat (first | (with_reducible first | exact HB.out | apply below_alloc | apply pw_below_drewN | apply below_drew1 | refine below_set ?_ GE258.out | refine below_set ?_ GE259.out) | exact HB.out)))); have n1_ := Aside0.mk (blk_below (g := gb258) (o := .cells #[.int .i64 a0_0, .int .i64 a0_1, .int .i64 a0_2, .slice A0_3 l0_3.length c0_3] 45 (0, 0)) (by (with_reducible repeat (first | refine blk_drewN ?_ _ | refine blk_drew ?_ | refine blk_alloc ?_ _)); exact BK258.out) hb); have n2_ := Aside0.mk (blk_below (g := gb259) (o := .cells #[.int .i64 a1_0, .int .i64 a1_1, .int .i64 a1_2, .int .i64 a1_3, .int .i64 a1_4, .int .i64 a1_5] 47 (0, 0)) (by (with_reducible repeat (first | refine blk_drewN ?_ _ | refine blk_drew ?_ | refine blk_alloc ?_ _)); exact BK259.out) hb); have n3_ := Aside0.mk (below_step (by repeat (first | (with_reducible first | exact HB.out | apply below_alloc | apply pw_below_drewN | apply below_drew1 | refine below_set ?_ GE258.out | refine below_set ?_ GE259.out) | exact HB.out)) hb); clear BK258; clear BK259; clear HB; have HO263 := n0_; have BK258 := n1_; have BK259 := n2_; have HB := n3_; clear n0_ n1_ n2_ n3_; clear hb ho16; obtain ⟨Ao17, co17, eo17⟩ := Kd.R_slice HO263.out; subst eo17) | (go_at_call 78; (with_reducible refine (shot_within.calls k 0 1073741824 _ _ y261 true _ ?side1 ?side2 A5.out).mono ?_); (case side1 => repeat (first | exact (Kd.R_reads' HO263.out).2.2 | (with_reducible refine Kd.C_alloc ?_ _) | (with_reducible refine Kd.C_drewN ?_ _) | (with_reducible refine Kd.C_drew ?_))); (case side2 => exact (Kd.R_reads' HO263.out).2.1); rintro e w' ⟨rfl, ⟨nd, rfl⟩⟩; have hcz18_0 : w15.cell? ⟨gb259, 0, none⟩ = some (.int .i64 a1_0) := (blk_cell BK259.out 0).trans rfl; have hcz18_1 : w15.cell? ⟨gb259, 1, none⟩ = some (.int .i64 a1_1) := (blk_cell BK259.out 1).trans rfl; have hcz18_2 : w15.cell? ⟨gb259, 2, none⟩ = some (.int .i64 a1_2) := (blk_cell BK259.out 2).trans rfl; have hcz18_3 : w15.cell? ⟨gb259, 3, none⟩ = some (.int .i64 a1_3) := (blk_cell BK259.out 3).trans rfl; have hcz18_4 : w15.cell? ⟨gb259, 4, none⟩ = some (.int .i64 a1_4) := (blk_cell BK259.out 4).trans rfl; have hcz18_5 : w15.cell? ⟨gb259, 5, none⟩ = some (.int .i64 a1_5) := (blk_cell BK259.out 5).trans rfl; have hfz18_0 := blk_frozen BK259.out 0; have hfz18_1 := blk_frozen BK259.out 1; have hfz18_2 := blk_frozen BK259.out 2; have hfz18_3 := blk_frozen BK259.out 3; have hfz18_4 := blk_frozen BK259.out 4; have hfz18_5 := blk_frozen BK259.out 5) | ((with_reducible refine gate_dst (N := 24) rfl ?_); (try (refine gate_guard (by rfl) ?_; dsimp only)); refine Kd.R_lit (Kd.int .i64) _ 2 ?hg (N := 24) ?hd (xs := ([a1_3, a1_4, a1_5] : List Int)) (inner := [.int .i64 a1_3, .int .i64 a1_4, .int .i64 a1_5]) (ok := fun _ => True) (okp := fun _ => True) ?hr ?hp (fun _ hk => hk) trivial (Below.refl _ _) (Nat.le_refl _) (by simp) ?_; (case hd => rfl); (case hg => rfl); (case hr => first | (go_simp; done) | (go_simp; rfl)); (case hp => exact (Reps.one (show Kd.M (Kd.int .i64) _ _ _ a1_3 [.int .i64 a1_3] from rfl) (Reps.one (show Kd.M (Kd.int .i64) _ _ _ a1_4 [.int .i64 a1_4] from rfl) (Reps.one (show Kd.M (Kd.int .i64) _ _ _ a1_5 [.int .i64 a1_5] from rfl) (Reps.none _ _))))); intro v266 w19 ho20 hb hg_ hnew_; clear hg_ hnew_; (first | rw [← Ny265.out] at ho20 | (simp only [Int.reduceToNat] at ho20; rw [← Ny265.out] at ho20)); have n0_ := Aside0.mk (Kd.R_elder' (by (with_reducible repeat (first | apply Kd.R_alloc | apply Kd.R_drewN | apply Kd.R_drew)); exact HO263.out) (Kd.R_base ho20) hb); have n1_ := Aside0.mk (Kd.R_lower (Kd.R_new' ho20 (Kd.R_lt (by (with_reducible repeat (first | apply Kd.R_alloc | apply Kd.R_drewN | apply Kd.R_drew)); exact HO263.out))) (below_size (by repeat (first | (with_reducible first | exact HB.out | apply below_alloc | apply pw_below_drewN | apply below_drew1 | refine below_set ?_ GE258.out | refine below_set ?_ GE259.out) | exact HB.out)))); have n2_ := Aside0.mk (blk_below (g := gb258) (o := .cells #[.int .i64 a0_0, .int .i64 a0_1, .int .i64 a0_2, .slice A0_3 l0_3.length c0_3] 45 (0, 0)) (by (with_reducible repeat (first | refine blk_drewN ?_ _ | refine blk_drew ?_ | refine blk_alloc ?_ _)); exact BK258.out) hb); have n3_ := Aside0.mk (blk_below (g := gb259) (o := .cells #[.int .i64 a1_0, .int .i64 a1_1, .int .i64 a1_2, .int .i64 a1_3, .int .i64 a1_4, .int .i64 a1_5] 47 (0, 0)) (by (with_reducible repeat (first | refine blk_drewN ?_ _ | refine blk_drew ?_ | refine blk_alloc ?_ _)); exact BK259.out) hb); have n4_ := Aside0.mk (below_step (by repeat (first | (with_reducible first | exact HB.out | apply below_alloc | apply pw_below_drewN | apply below_drew1 | refine below_set ?_ GE258.out | refine below_set ?_ GE259.out) | exact HB.out)) hb); clear HO263; clear BK258; clear BK259; clear HB; have HO263 := n0_; have HO267 := n1_; have BK258 := n2_; have BK259 := n3_; have HB := n4_; clear n0_ n1_ n2_ n3_ n4_; clear hb ho20; obtain ⟨Ao21, co21, eo21⟩ := Kd.R_slice HO267.out; subst eo21) | (go_at_call 78; (with_reducible refine (shot_within.calls k (-262144) 262144 _ _ y265 t268 _ ?side1 ?side2 A7.out).mono ?_); (case side1 => repeat (first | exact (Kd.R_reads' HO267.out).2.2 | (with_reducible refine Kd.C_alloc ?_ _) | (with_reducible refine Kd.C_drewN ?_ _) | (with_reducible refine Kd.C_drew ?_))); (case side2 => exact (Kd.R_reads' HO267.out).2.1); rintro e w' ⟨rfl, ⟨nd, rfl⟩⟩))
      go_ret
      exact ⟨by first | rfl | (simp [errW_none, errW_some] <;> rfl) | (simp [*, errW_none, errW_some] <;> rfl), by repeat (first | (with_reducible first | exact HB.out | apply below_alloc | apply pw_below_drewN | apply below_drew1 | refine below_set ?_ GE258.out | refine below_set ?_ GE259.out) | exact HB.out)⟩
    · replace c6 := Bool.eq_false_iff.mpr c6
      subst c6
      have H1 : (some false) = some r := by rw [if_neg (show ¬ (false = true) by decide)] at H; exact H
      clear H
      have H := H1
      clear H1
      obtain rfl := Option.some.inj H
      go_enter Tryd.func62, Tryd.ntmps62
      go_wp2_with (first | ((with_reducible refine gate_dst (N := 2) rfl ?_); (try (refine gate_guard (by rfl) ?_; dsimp only)); refine box_event ?hg (N := 2) ?hd (cs := #[.int .i64 a0_0, .int .i64 a0_1, .int .i64 a0_2, .slice A0_3 l0_3.length c0_3]) (t := 45) ?hr ?_; (case hd => rfl); (case hg => rfl); (case hr => first | (go_simp; done) | (go_simp; rfl)); intro gb258 hg w22 hbox hb; have n0_ := Aside0.mk (below_step (by repeat (first | (with_reducible first | exact HB.out | apply below_alloc | apply pw_below_drewN | apply below_drew1) | exact HB.out)) hb); have n1_ := Aside0.mk (hbox); have n2_ := Aside0.mk ((by rw [hg]; exact (below_size (by repeat (first | (with_reducible first | exact HB.out | apply below_alloc | apply pw_below_drewN | apply below_drew1) | exact HB.out))) : w.heap.size ≤ gb258)); have n3_ := Aside0.mk ((by rw [hg]; exact (below_size (by repeat (first | (with_reducible first | exact HB.out | apply below_alloc | apply pw_below_drewN | apply below_drew1) | exact HB.out))) : w.heap.size ≤ gb258)); clear HB; have HB := n0_; have BK258 := n1_; have GW258 := n2_; have GE258 := n3_; clear n0_ n1_ n2_ n3_; clear hb hbox hg) | ((with_reducible refine gate_dst (N := 3) rfl ?_); (try (refine gate_guard (by rfl) ?_; dsimp only)); refine box_event ?hg (N := 3) ?hd (cs := #[.int .i64 a1_0, .int .i64 a1_1, .int .i64 a1_2, .int .i64 a1_3, .int .i64 a1_4, .int .i64 a1_5]) (t := 47) ?hr ?_; (case hd => rfl); (case hg => rfl); (case hr => first | (go_simp; done) | (go_simp; rfl)); intro gb259 hg w23 hbox hb; have n0_ := Aside0.mk (blk_below (g := gb258) (o := .cells #[.int .i64 a0_0, .int .i64 a0_1, .int .i64 a0_2, .slice A0_3 l0_3.length c0_3] 45 (0, 0)) (by (with_reducible repeat (first | refine blk_drewN ?_ _ | refine blk_drew ?_ | refine blk_alloc ?_ _)); exact BK258.out) hb); have n1_ := Aside0.mk (below_step (by repeat (first | (with_reducible first | exact HB.out | apply below_alloc | apply pw_below_drewN | apply below_drew1 | refine below_set ?_ GE258.out) | exact HB.out)) hb); have n2_ := Aside0.mk (hbox); have n3_ := Aside0.mk ((by rw [hg]; exact (below_size (by repeat (first | (with_reducible first | exact HB.out | apply below_alloc | apply pw_below_drewN | apply below_drew1 | refine below_set ?_ GE258.out) | exact HB.out))) : w.heap.size ≤ gb259)); have n4_ := Aside0.mk ((by rw [hg]; exact (below_size (by repeat (first | (with_reducible first | exact HB.out | apply below_alloc | apply pw_below_drewN | apply below_drew1 | refine below_set ?_ GE258.out) | exact HB.out))) : w.heap.size ≤ gb259)); have n5_ := Aside0.mk ((by rw [hg]; exact Nat.ne_of_lt (blk_lt (g := gb258) (o := .cells #[.int .i64 a0_0, .int .i64 a0_1, .int .i64 a0_2, .slice A0_3 l0_3.length c0_3] 45 (0, 0)) (by (with_reducible repeat (first | refine blk_drewN ?_ _ | refine blk_drew ?_ | refine blk_alloc ?_ _)); exact BK258.out)) : gb258 ≠ gb259)); have n6_ := Aside0.mk ((by rw [hg]; exact Nat.ne_of_gt (blk_lt (g := gb258) (o := .cells #[.int .i64 a0_0, .int .i64 a0_1, .int .i64 a0_2, .slice A0_3 l0_3.length c0_3] 45 (0, 0)) (by (with_reducible repeat (first | refine blk_drewN ?_ _ | refine blk_drew ?_ | refine blk_alloc ?_ _)); exact BK258.out)) : gb259 ≠ gb258)); clear BK258; clear HB; have BK258 := n0_; have HB := n1_; have BK259 := n2_; have GW259 := n3_; have GE259 := n4_; have NB258_259 := n5_; have NB259_258 := n6_; clear n0_ n1_ n2_ n3_ n4_ n5_ n6_; clear hb hbox hg; have hnb24 := NB258_259.out; have hnc24 := NB259_258.out; have hcz25_0 : w23.cell? ⟨gb258, 0, none⟩ = some (.int .i64 a0_0) := (blk_cell BK258.out 0).trans rfl; have hcz25_1 : w23.cell? ⟨gb258, 1, none⟩ = some (.int .i64 a0_1) := (blk_cell BK258.out 1).trans rfl; have hcz25_2 : w23.cell? ⟨gb258, 2, none⟩ = some (.int .i64 a0_2) := (blk_cell BK258.out 2).trans rfl; have hcz25_3 : w23.cell? ⟨gb258, 3, none⟩ = some (.slice A0_3 l0_3.length c0_3) := (blk_cell BK258.out 3).trans rfl; have hfz25_0 := blk_frozen BK258.out 0; have hfz25_1 := blk_frozen BK258.out 1; have hfz25_2 := blk_frozen BK258.out 2; have hfz25_3 := blk_frozen BK258.out 3; have hcz26_0 : w23.cell? ⟨gb259, 0, none⟩ = some (.int .i64 a1_0) := (blk_cell BK259.out 0).trans rfl; have hcz26_1 : w23.cell? ⟨gb259, 1, none⟩ = some (.int .i64 a1_1) := (blk_cell BK259.out 1).trans rfl; have hcz26_2 : w23.cell? ⟨gb259, 2, none⟩ = some (.int .i64 a1_2) := (blk_cell BK259.out 2).trans rfl; have hcz26_3 : w23.cell? ⟨gb259, 3, none⟩ = some (.int .i64 a1_3) := (blk_cell BK259.out 3).trans rfl; have hcz26_4 : w23.cell? ⟨gb259, 4, none⟩ = some (.int .i64 a1_4) := (blk_cell BK259.out 4).trans rfl; have hcz26_5 : w23.cell? ⟨gb259, 5, none⟩ = some (.int .i64 a1_5) := (blk_cell BK259.out 5).trans rfl; have hfz26_0 := blk_frozen BK259.out 0; have hfz26_1 := blk_frozen BK259.out 1; have hfz26_2 := blk_frozen BK259.out 2; have hfz26_3 := blk_frozen BK259.out 3; have hfz26_4 := blk_frozen BK259.out 4; have hfz26_5 := blk_frozen BK259.out 5) | ((with_reducible refine gate_callee (f := 55) rfl ?_); refine goesL_ (some 10) rfl rfl Tryd.func55 (by kernel_rfl) rfl #[.agg #[.int .i64 a0_0, .int .i64 a0_1, .int .i64 a0_2, .slice A0_3 l0_3.length c0_3], .int .i64 a1_0, .int .i64 a1_1] rfl (by (try simp only [List.map_toArray, List.map_cons, List.map_nil]); first | done | rfl | (simp only [List.length_drop, List.length_take]; rfl)) ?_; (with_reducible refine (relief_On.calls k a0_0 a0_1 a0_2 _ _ l0_3 a1_0 a1_1 true _ ?side1 ?side2 A3.out).mono ?_); (case side1 => repeat (first | exact (Kd.C_below HR0_3.out HB.out) | (with_reducible refine Kd.C_alloc ?_ _) | (with_reducible refine Kd.C_drewN ?_ _) | (with_reducible refine Kd.C_drew ?_))); (case side2 => exact HC0_3.out); rintro e w27 ⟨rfl, hb⟩; refine ⟨_, rfl, ?_⟩; have n0_ := Aside0.mk (blk_below (g := gb258) (o := .cells #[.int .i64 a0_0, .int .i64 a0_1, .int .i64 a0_2, .slice A0_3 l0_3.length c0_3] 45 (0, 0)) (by (with_reducible repeat (first | refine blk_drewN ?_ _ | refine blk_drew ?_ | refine blk_alloc ?_ _)); exact BK258.out) hb); have n1_ := Aside0.mk (blk_below (g := gb259) (o := .cells #[.int .i64 a1_0, .int .i64 a1_1, .int .i64 a1_2, .int .i64 a1_3, .int .i64 a1_4, .int .i64 a1_5] 47 (0, 0)) (by (with_reducible repeat (first | refine blk_drewN ?_ _ | refine blk_drew ?_ | refine blk_alloc ?_ _)); exact BK259.out) hb); have n2_ := Aside0.mk (below_step (by repeat (first | (with_reducible first | exact HB.out | apply below_alloc | apply pw_below_drewN | apply below_drew1 | refine below_set ?_ GE258.out | refine below_set ?_ GE259.out) | exact HB.out)) hb); clear BK258; clear BK259; clear HB; have BK258 := n0_; have BK259 := n1_; have HB := n2_; clear n0_ n1_ n2_; (try clear hb); (try clear hb2); (try clear hk); (try clear hi); have hcz28_0 : w27.cell? ⟨gb259, 0, none⟩ = some (.int .i64 a1_0) := (blk_cell BK259.out 0).trans rfl; have hcz28_1 : w27.cell? ⟨gb259, 1, none⟩ = some (.int .i64 a1_1) := (blk_cell BK259.out 1).trans rfl; have hcz28_2 : w27.cell? ⟨gb259, 2, none⟩ = some (.int .i64 a1_2) := (blk_cell BK259.out 2).trans rfl; have hcz28_3 : w27.cell? ⟨gb259, 3, none⟩ = some (.int .i64 a1_3) := (blk_cell BK259.out 3).trans rfl; have hcz28_4 : w27.cell? ⟨gb259, 4, none⟩ = some (.int .i64 a1_4) := (blk_cell BK259.out 4).trans rfl; have hcz28_5 : w27.cell? ⟨gb259, 5, none⟩ = some (.int .i64 a1_5) := (blk_cell BK259.out 5).trans rfl; have hfz28_0 := blk_frozen BK259.out 0; have hfz28_1 := blk_frozen BK259.out 1; have hfz28_2 := blk_frozen BK259.out 2; have hfz28_3 := blk_frozen BK259.out 3; have hfz28_4 := blk_frozen BK259.out 4; have hfz28_5 := blk_frozen BK259.out 5) | ((with_reducible refine gate_dst (N := 14) rfl ?_); (try (refine gate_guard (by rfl) ?_; dsimp only)); refine Kd.R_lit (Kd.int .i64) _ 2 ?hg (N := 14) ?hd (xs := ([a1_2] : List Int)) (inner := [.int .i64 a1_2]) (ok := fun _ => True) (okp := fun _ => True) ?hr ?hp (fun _ hk => hk) trivial (Below.refl _ _) (Nat.le_refl _) (by simp) ?_; (case hd => rfl); (case hg => rfl); (case hr => first | (go_simp; done) | (go_simp; rfl)); (case hp => exact (Reps.one (show Kd.M (Kd.int .i64) _ _ _ a1_2 [.int .i64 a1_2] from rfl) (Reps.none _ _))); intro v262 w29 ho30 hb hg_ hnew_; clear hg_ hnew_; (first | rw [← Ny261.out] at ho30 | (simp only [Int.reduceToNat] at ho30; rw [← Ny261.out] at ho30)); have n0_ := Aside0.mk (Kd.R_lower ho30 (below_size (by repeat (first | (with_reducible first | exact HB.out | apply below_alloc | apply pw_below_drewN | apply below_drew1 | refine below_set ?_ GE258.out | refine below_set ?_ GE259.out) | exact HB.out)))); have n1_ := Aside0.mk (blk_below (g := gb258) (o := .cells #[.int .i64 a0_0, .int .i64 a0_1, .int .i64 a0_2, .slice A0_3 l0_3.length c0_3] 45 (0, 0)) (by (with_reducible repeat (first | refine blk_drewN ?_ _ | refine blk_drew ?_ | refine blk_alloc ?_ _)); exact BK258.out) hb); have n2_ := Aside0.mk (blk_below (g := gb259) (o := .cells #[.int .i64 a1_0, .int .i64 a1_1, .int .i64 a1_2, .int .i64 a1_3, .int .i64 a1_4, .int .i64 a1_5] 47 (0, 0)) (by (with_reducible repeat (first | refine blk_drewN ?_ _ | refine blk_drew ?_ | refine blk_alloc ?_ _)); exact BK259.out) hb); have n3_ := Aside0.mk (below_step (by repeat (first | (with_reducible first | exact HB.out | apply below_alloc | apply pw_below_drewN | apply below_drew1 | refine below_set ?_ GE258.out | refine below_set ?_ GE259.out) | exact HB.out)) hb); clear BK258; clear BK259; clear HB; have HO263 := n0_; have BK258 := n1_; have BK259 := n2_; have HB := n3_; clear n0_ n1_ n2_ n3_; clear hb ho30; obtain ⟨Ao31, co31, eo31⟩ := Kd.R_slice HO263.out; subst eo31) | (go_at_call 78; (with_reducible refine (shot_within.calls k 0 1073741824 _ _ y261 false _ ?side1 ?side2 A5.out).mono ?_); (case side1 => repeat (first | exact (Kd.R_reads' HO263.out).2.2 | (with_reducible refine Kd.C_alloc ?_ _) | (with_reducible refine Kd.C_drewN ?_ _) | (with_reducible refine Kd.C_drew ?_))); (case side2 => exact (Kd.R_reads' HO263.out).2.1); rintro e w' ⟨rfl, ⟨nd, rfl⟩⟩))
      go_ret
      exact ⟨by first | rfl | (simp [errW_none, errW_some] <;> rfl) | (simp [*, errW_none, errW_some] <;> rfl), by repeat (first | (with_reducible first | exact HB.out | apply below_alloc | apply pw_below_drewN | apply below_drew1 | refine below_set ?_ GE258.out | refine below_set ?_ GE259.out) | exact HB.out)⟩
  · replace c4 := Bool.eq_false_iff.mpr c4
    subst c4
    have H1 : (some false) = some r := by rw [if_neg (show ¬ (false = true) by decide)] at H; exact H
    clear H
    have H := H1
    clear H1
    obtain rfl := Option.some.inj H
    go_enter Tryd.func62, Tryd.ntmps62
    go_wp2_with (first | ((with_reducible refine gate_dst (N := 2) rfl ?_); (try (refine gate_guard (by rfl) ?_; dsimp only)); refine box_event ?hg (N := 2) ?hd (cs := #[.int .i64 a0_0, .int .i64 a0_1, .int .i64 a0_2, .slice A0_3 l0_3.length c0_3]) (t := 45) ?hr ?_; (case hd => rfl); (case hg => rfl); (case hr => first | (go_simp; done) | (go_simp; rfl)); intro gb258 hg w32 hbox hb; have n0_ := Aside0.mk (below_step (by repeat (first | (with_reducible first | exact HB.out | apply below_alloc | apply pw_below_drewN | apply below_drew1) | exact HB.out)) hb); have n1_ := Aside0.mk (hbox); have n2_ := Aside0.mk ((by rw [hg]; exact (below_size (by repeat (first | (with_reducible first | exact HB.out | apply below_alloc | apply pw_below_drewN | apply below_drew1) | exact HB.out))) : w.heap.size ≤ gb258)); have n3_ := Aside0.mk ((by rw [hg]; exact (below_size (by repeat (first | (with_reducible first | exact HB.out | apply below_alloc | apply pw_below_drewN | apply below_drew1) | exact HB.out))) : w.heap.size ≤ gb258)); clear HB; have HB := n0_; have BK258 := n1_; have GW258 := n2_; have GE258 := n3_; clear n0_ n1_ n2_ n3_; clear hb hbox hg) | ((with_reducible refine gate_dst (N := 3) rfl ?_); (try (refine gate_guard (by rfl) ?_; dsimp only)); refine box_event ?hg (N := 3) ?hd (cs := #[.int .i64 a1_0, .int .i64 a1_1, .int .i64 a1_2, .int .i64 a1_3, .int .i64 a1_4, .int .i64 a1_5]) (t := 47) ?hr ?_; (case hd => rfl); (case hg => rfl); (case hr => first | (go_simp; done) | (go_simp; rfl)); intro gb259 hg w33 hbox hb; have n0_ := Aside0.mk (blk_below (g := gb258) (o := .cells #[.int .i64 a0_0, .int .i64 a0_1, .int .i64 a0_2, .slice A0_3 l0_3.length c0_3] 45 (0, 0)) (by (with_reducible repeat (first | refine blk_drewN ?_ _ | refine blk_drew ?_ | refine blk_alloc ?_ _)); exact BK258.out) hb); have n1_ := Aside0.mk (below_step (by repeat (first | (with_reducible first | exact HB.out | apply below_alloc | apply pw_below_drewN | apply below_drew1 | refine below_set ?_ GE258.out) | exact HB.out)) hb); have n2_ := Aside0.mk (hbox); have n3_ := Aside0.mk ((by rw [hg]; exact (below_size (by repeat (first | (with_reducible first | exact HB.out | apply below_alloc | apply pw_below_drewN | apply below_drew1 | refine below_set ?_ GE258.out) | exact HB.out))) : w.heap.size ≤ gb259)); have n4_ := Aside0.mk ((by rw [hg]; exact (below_size (by repeat (first | (with_reducible first | exact HB.out | apply below_alloc | apply pw_below_drewN | apply below_drew1 | refine below_set ?_ GE258.out) | exact HB.out))) : w.heap.size ≤ gb259)); have n5_ := Aside0.mk ((by rw [hg]; exact Nat.ne_of_lt (blk_lt (g := gb258) (o := .cells #[.int .i64 a0_0, .int .i64 a0_1, .int .i64 a0_2, .slice A0_3 l0_3.length c0_3] 45 (0, 0)) (by (with_reducible repeat (first | refine blk_drewN ?_ _ | refine blk_drew ?_ | refine blk_alloc ?_ _)); exact BK258.out)) : gb258 ≠ gb259)); have n6_ := Aside0.mk ((by rw [hg]; exact Nat.ne_of_gt (blk_lt (g := gb258) (o := .cells #[.int .i64 a0_0, .int .i64 a0_1, .int .i64 a0_2, .slice A0_3 l0_3.length c0_3] 45 (0, 0)) (by (with_reducible repeat (first | refine blk_drewN ?_ _ | refine blk_drew ?_ | refine blk_alloc ?_ _)); exact BK258.out)) : gb259 ≠ gb258)); clear BK258; clear HB; have BK258 := n0_; have HB := n1_; have BK259 := n2_; have GW259 := n3_; have GE259 := n4_; have NB258_259 := n5_; have NB259_258 := n6_; clear n0_ n1_ n2_ n3_ n4_ n5_ n6_; clear hb hbox hg; have hnb34 := NB258_259.out; have hnc34 := NB259_258.out; have hcz35_0 : w33.cell? ⟨gb258, 0, none⟩ = some (.int .i64 a0_0) := (blk_cell BK258.out 0).trans rfl; have hcz35_1 : w33.cell? ⟨gb258, 1, none⟩ = some (.int .i64 a0_1) := (blk_cell BK258.out 1).trans rfl; have hcz35_2 : w33.cell? ⟨gb258, 2, none⟩ = some (.int .i64 a0_2) := (blk_cell BK258.out 2).trans rfl; have hcz35_3 : w33.cell? ⟨gb258, 3, none⟩ = some (.slice A0_3 l0_3.length c0_3) := (blk_cell BK258.out 3).trans rfl; have hfz35_0 := blk_frozen BK258.out 0; have hfz35_1 := blk_frozen BK258.out 1; have hfz35_2 := blk_frozen BK258.out 2; have hfz35_3 := blk_frozen BK258.out 3; have hcz36_0 : w33.cell? ⟨gb259, 0, none⟩ = some (.int .i64 a1_0) := (blk_cell BK259.out 0).trans rfl; have hcz36_1 : w33.cell? ⟨gb259, 1, none⟩ = some (.int .i64 a1_1) := (blk_cell BK259.out 1).trans rfl; have hcz36_2 : w33.cell? ⟨gb259, 2, none⟩ = some (.int .i64 a1_2) := (blk_cell BK259.out 2).trans rfl; have hcz36_3 : w33.cell? ⟨gb259, 3, none⟩ = some (.int .i64 a1_3) := (blk_cell BK259.out 3).trans rfl; have hcz36_4 : w33.cell? ⟨gb259, 4, none⟩ = some (.int .i64 a1_4) := (blk_cell BK259.out 4).trans rfl; have hcz36_5 : w33.cell? ⟨gb259, 5, none⟩ = some (.int .i64 a1_5) := (blk_cell BK259.out 5).trans rfl; have hfz36_0 := blk_frozen BK259.out 0; have hfz36_1 := blk_frozen BK259.out 1; have hfz36_2 := blk_frozen BK259.out 2; have hfz36_3 := blk_frozen BK259.out 3; have hfz36_4 := blk_frozen BK259.out 4; have hfz36_5 := blk_frozen BK259.out 5) | ((with_reducible refine gate_callee (f := 55) rfl ?_); refine goesL_ (some 10) rfl rfl Tryd.func55 (by kernel_rfl) rfl #[.agg #[.int .i64 a0_0, .int .i64 a0_1, .int .i64 a0_2, .slice A0_3 l0_3.length c0_3], .int .i64 a1_0, .int .i64 a1_1] rfl (by (try simp only [List.map_toArray, List.map_cons, List.map_nil]); first | done | rfl | (simp only [List.length_drop, List.length_take]; rfl)) ?_; (with_reducible refine (relief_On.calls k a0_0 a0_1 a0_2 _ _ l0_3 a1_0 a1_1 false _ ?side1 ?side2 A3.out).mono ?_); (case side1 => repeat (first | exact (Kd.C_below HR0_3.out HB.out) | (with_reducible refine Kd.C_alloc ?_ _) | (with_reducible refine Kd.C_drewN ?_ _) | (with_reducible refine Kd.C_drew ?_))); (case side2 => exact HC0_3.out); rintro e w37 ⟨rfl, hb⟩; refine ⟨_, rfl, ?_⟩; have n0_ := Aside0.mk (blk_below (g := gb258) (o := .cells #[.int .i64 a0_0, .int .i64 a0_1, .int .i64 a0_2, .slice A0_3 l0_3.length c0_3] 45 (0, 0)) (by (with_reducible repeat (first | refine blk_drewN ?_ _ | refine blk_drew ?_ | refine blk_alloc ?_ _)); exact BK258.out) hb); have n1_ := Aside0.mk (blk_below (g := gb259) (o := .cells #[.int .i64 a1_0, .int .i64 a1_1, .int .i64 a1_2, .int .i64 a1_3, .int .i64 a1_4, .int .i64 a1_5] 47 (0, 0)) (by (with_reducible repeat (first | refine blk_drewN ?_ _ | refine blk_drew ?_ | refine blk_alloc ?_ _)); exact BK259.out) hb); have n2_ := Aside0.mk (below_step (by repeat (first | (with_reducible first | exact HB.out | apply below_alloc | apply pw_below_drewN | apply below_drew1 | refine below_set ?_ GE258.out | refine below_set ?_ GE259.out) | exact HB.out)) hb); clear BK258; clear BK259; clear HB; have BK258 := n0_; have BK259 := n1_; have HB := n2_; clear n0_ n1_ n2_; (try clear hb); (try clear hb2); (try clear hk); (try clear hi)))
    go_ret
    exact ⟨by first | rfl | (simp [errW_none, errW_some] <;> rfl) | (simp [*, errW_none, errW_some] <;> rfl), by repeat (first | (with_reducible first | exact HB.out | apply below_alloc | apply pw_below_drewN | apply below_drew1 | refine below_set ?_ GE258.out | refine below_set ?_ GE259.out) | exact HB.out)⟩
noncomputable def shot_tick.f (a0_0 : Int) (a0_1 : Int) (a0_2 : Int) (a0_3 : Int) (a0_4 : Int) (a0_5 : Int) : Option (Int × Int × Int × Int × Int × Int) := some (wrap64 (a0_0 + a0_3), wrap64 (a0_1 + a0_4), wrap64 (a0_2 + a0_5), a0_3, a0_4, wrap64 (a0_5 - 1024))
set_option maxHeartbeats 8000000 in
set_option maxRecDepth 100000 in
theorem shot_tick.calls (a0_0 : Int) (a0_1 : Int) (a0_2 : Int) (a0_3 : Int) (a0_4 : Int) (a0_5 : Int) (r1 : Int) (r2 : Int) (r3 : Int) (r4 : Int) (r5 : Int) (r6 : Int) (w : World) (h : shot_tick.f a0_0 a0_1 a0_2 a0_3 a0_4 a0_5 = some (r1, r2, r3, r4, r5, r6)) :
    Calls Tryd.prog 63 #[.agg #[.int .i64 a0_0, .int .i64 a0_1, .int .i64 a0_2, .int .i64 a0_3, .int .i64 a0_4, .int .i64 a0_5]] w fun e w' => e = .returned (.agg #[.int .i64 r1, .int .i64 r2, .int .i64 r3, .int .i64 r4, .int .i64 r5, .int .i64 r6]) ∧ Below w.heap.size w w' := by
  have hu47 := Tryd.underlying47
  have HB := Aside0.mk (Below.refl w.heap.size w)
  have H : (some (wrap64 (a0_0 + a0_3), wrap64 (a0_1 + a0_4), wrap64 (a0_2 + a0_5), a0_3, a0_4, wrap64 (a0_5 - 1024))) = some (r1, r2, r3, r4, r5, r6) := h
  clear h
  simp only [Option.some.injEq, Prod.mk.injEq] at H
  obtain ⟨rfl, rfl, rfl, rfl, rfl, rfl⟩ := H
  go_enter Tryd.func63, Tryd.ntmps63
  go_wp2_with (first | ((with_reducible refine gate_dst (N := 1) rfl ?_); refine box_event ?hg (N := 1) ?hd (cs := #[.int .i64 a0_0, .int .i64 a0_1, .int .i64 a0_2, .int .i64 a0_3, .int .i64 a0_4, .int .i64 a0_5]) (t := 47) ?hr ?_; (case hd => rfl); (case hg => rfl); (case hr => first | (go_simp; done) | (go_simp; rfl)); intro gb269 hg w2 hbox hb; have n0_ := Aside0.mk (below_step (by repeat (first | (with_reducible first | exact HB.out | apply below_alloc | apply pw_below_drewN | apply below_drew1) | exact HB.out)) hb); have n1_ := Aside0.mk (hbox); have n2_ := Aside0.mk ((by rw [hg]; exact (below_size (by repeat (first | (with_reducible first | exact HB.out | apply below_alloc | apply pw_below_drewN | apply below_drew1) | exact HB.out))) : w.heap.size ≤ gb269)); have n3_ := Aside0.mk ((by rw [hg]; exact (below_size (by repeat (first | (with_reducible first | exact HB.out | apply below_alloc | apply pw_below_drewN | apply below_drew1) | exact HB.out))) : w.heap.size ≤ gb269)); clear HB; have HB := n0_; have BK269 := n1_; have GW269 := n2_; have GE269 := n3_; clear n0_ n1_ n2_ n3_; clear hb hbox hg) | ((with_reducible refine gate_dst (N := 2) rfl ?_); refine box_event ?hg (N := 2) ?hd (cs := #[.int .i64 0, .int .i64 0, .int .i64 0, .int .i64 0, .int .i64 0, .int .i64 0]) (t := 47) ?hr ?_; (case hd => rfl); (case hg => rfl); (case hr => first | (go_simp; done) | (go_simp; rfl)); intro gb270 hg w3 hbox hb; have n0_ := Aside0.mk (blk_below (g := gb269) (o := .cells #[.int .i64 a0_0, .int .i64 a0_1, .int .i64 a0_2, .int .i64 a0_3, .int .i64 a0_4, .int .i64 a0_5] 47 (0, 0)) (by (with_reducible repeat (first | refine blk_drewN ?_ _ | refine blk_drew ?_ | refine blk_alloc ?_ _)); exact BK269.out) hb); have n1_ := Aside0.mk (below_step (by repeat (first | (with_reducible first | exact HB.out | apply below_alloc | apply pw_below_drewN | apply below_drew1 | refine below_set ?_ GE269.out) | exact HB.out)) hb); have n2_ := Aside0.mk (hbox); have n3_ := Aside0.mk ((by rw [hg]; exact (below_size (by repeat (first | (with_reducible first | exact HB.out | apply below_alloc | apply pw_below_drewN | apply below_drew1 | refine below_set ?_ GE269.out) | exact HB.out))) : w.heap.size ≤ gb270)); have n4_ := Aside0.mk ((by rw [hg]; exact (below_size (by repeat (first | (with_reducible first | exact HB.out | apply below_alloc | apply pw_below_drewN | apply below_drew1 | refine below_set ?_ GE269.out) | exact HB.out))) : w.heap.size ≤ gb270)); have n5_ := Aside0.mk ((by rw [hg]; exact Nat.ne_of_lt (blk_lt (g := gb269) (o := .cells #[.int .i64 a0_0, .int .i64 a0_1, .int .i64 a0_2, .int .i64 a0_3, .int .i64 a0_4, .int .i64 a0_5] 47 (0, 0)) (by (with_reducible repeat (first | refine blk_drewN ?_ _ | refine blk_drew ?_ | refine blk_alloc ?_ _)); exact BK269.out)) : gb269 ≠ gb270)); have n6_ := Aside0.mk ((by rw [hg]; exact Nat.ne_of_gt (blk_lt (g := gb269) (o := .cells #[.int .i64 a0_0, .int .i64 a0_1, .int .i64 a0_2, .int .i64 a0_3, .int .i64 a0_4, .int .i64 a0_5] 47 (0, 0)) (by (with_reducible repeat (first | refine blk_drewN ?_ _ | refine blk_drew ?_ | refine blk_alloc ?_ _)); exact BK269.out)) : gb270 ≠ gb269)); clear BK269; clear HB; have BK269 := n0_; have HB := n1_; have BK270 := n2_; have GW270 := n3_; have GE270 := n4_; have NB269_270 := n5_; have NB270_269 := n6_; clear n0_ n1_ n2_ n3_ n4_ n5_ n6_; clear hb hbox hg; have hnb4 := NB269_270.out; have hnc4 := NB270_269.out; have hcz5_0 : w3.cell? ⟨gb269, 0, none⟩ = some (.int .i64 a0_0) := (blk_cell BK269.out 0).trans rfl; have hcz5_1 : w3.cell? ⟨gb269, 1, none⟩ = some (.int .i64 a0_1) := (blk_cell BK269.out 1).trans rfl; have hcz5_2 : w3.cell? ⟨gb269, 2, none⟩ = some (.int .i64 a0_2) := (blk_cell BK269.out 2).trans rfl; have hcz5_3 : w3.cell? ⟨gb269, 3, none⟩ = some (.int .i64 a0_3) := (blk_cell BK269.out 3).trans rfl; have hcz5_4 : w3.cell? ⟨gb269, 4, none⟩ = some (.int .i64 a0_4) := (blk_cell BK269.out 4).trans rfl; have hcz5_5 : w3.cell? ⟨gb269, 5, none⟩ = some (.int .i64 a0_5) := (blk_cell BK269.out 5).trans rfl; have hfz5_0 := blk_frozen BK269.out 0; have hfz5_1 := blk_frozen BK269.out 1; have hfz5_2 := blk_frozen BK269.out 2; have hfz5_3 := blk_frozen BK269.out 3; have hfz5_4 := blk_frozen BK269.out 4; have hfz5_5 := blk_frozen BK269.out 5; have hcz6_0 : w3.cell? ⟨gb270, 0, none⟩ = some (.int .i64 0) := (blk_cell BK270.out 0).trans rfl; have hcz6_1 : w3.cell? ⟨gb270, 1, none⟩ = some (.int .i64 0) := (blk_cell BK270.out 1).trans rfl; have hcz6_2 : w3.cell? ⟨gb270, 2, none⟩ = some (.int .i64 0) := (blk_cell BK270.out 2).trans rfl; have hcz6_3 : w3.cell? ⟨gb270, 3, none⟩ = some (.int .i64 0) := (blk_cell BK270.out 3).trans rfl; have hcz6_4 : w3.cell? ⟨gb270, 4, none⟩ = some (.int .i64 0) := (blk_cell BK270.out 4).trans rfl; have hcz6_5 : w3.cell? ⟨gb270, 5, none⟩ = some (.int .i64 0) := (blk_cell BK270.out 5).trans rfl; have hfz6_0 := blk_frozen BK270.out 0; have hfz6_1 := blk_frozen BK270.out 1; have hfz6_2 := blk_frozen BK270.out 2; have hfz6_3 := blk_frozen BK270.out 3; have hfz6_4 := blk_frozen BK270.out 4; have hfz6_5 := blk_frozen BK270.out 5))
  refine bodyPost_ret (results_cell_row rfl _ _ gb270 47 #[.int .i64 (wrap64 (a0_0 + a0_3)), .int .i64 (wrap64 (a0_1 + a0_4)), .int .i64 (wrap64 (a0_2 + a0_5)), .int .i64 a0_3, .int .i64 a0_4, .int .i64 (wrap64 (a0_5 - 1024))] (0, 0) _ rfl (by (with_reducible repeat (first | refine blk_drewN ?_ _ | refine blk_drew ?_ | refine blk_alloc ?_ _)); refine blk_put (cs := #[.int .i64 (wrap64 (a0_0 + a0_3)), .int .i64 (wrap64 (a0_1 + a0_4)), .int .i64 (wrap64 (a0_2 + a0_5)), .int .i64 a0_3, .int .i64 a0_4, .int .i64 0]) ?_ 5 _ rfl; (with_reducible repeat (first | refine blk_drewN ?_ _ | refine blk_drew ?_ | refine blk_alloc ?_ _)); refine blk_put (cs := #[.int .i64 (wrap64 (a0_0 + a0_3)), .int .i64 (wrap64 (a0_1 + a0_4)), .int .i64 (wrap64 (a0_2 + a0_5)), .int .i64 a0_3, .int .i64 0, .int .i64 0]) ?_ 4 _ rfl; (with_reducible repeat (first | refine blk_drewN ?_ _ | refine blk_drew ?_ | refine blk_alloc ?_ _)); refine blk_put (cs := #[.int .i64 (wrap64 (a0_0 + a0_3)), .int .i64 (wrap64 (a0_1 + a0_4)), .int .i64 (wrap64 (a0_2 + a0_5)), .int .i64 0, .int .i64 0, .int .i64 0]) ?_ 3 _ rfl; (with_reducible repeat (first | refine blk_drewN ?_ _ | refine blk_drew ?_ | refine blk_alloc ?_ _)); refine blk_put (cs := #[.int .i64 (wrap64 (a0_0 + a0_3)), .int .i64 (wrap64 (a0_1 + a0_4)), .int .i64 0, .int .i64 0, .int .i64 0, .int .i64 0]) ?_ 2 _ rfl; (with_reducible repeat (first | refine blk_drewN ?_ _ | refine blk_drew ?_ | refine blk_alloc ?_ _)); refine blk_put (cs := #[.int .i64 (wrap64 (a0_0 + a0_3)), .int .i64 0, .int .i64 0, .int .i64 0, .int .i64 0, .int .i64 0]) ?_ 1 _ rfl; (with_reducible repeat (first | refine blk_drewN ?_ _ | refine blk_drew ?_ | refine blk_alloc ?_ _)); refine blk_put (cs := #[.int .i64 0, .int .i64 0, .int .i64 0, .int .i64 0, .int .i64 0, .int .i64 0]) ?_ 0 _ rfl; (with_reducible repeat (first | refine blk_drewN ?_ _ | refine blk_drew ?_ | refine blk_alloc ?_ _)); refine blk_far ?_ NB270_269.out _; (with_reducible repeat (first | refine blk_drewN ?_ _ | refine blk_drew ?_ | refine blk_alloc ?_ _)); refine blk_far ?_ NB270_269.out _; (with_reducible repeat (first | refine blk_drewN ?_ _ | refine blk_drew ?_ | refine blk_alloc ?_ _)); refine blk_far ?_ NB270_269.out _; (with_reducible repeat (first | refine blk_drewN ?_ _ | refine blk_drew ?_ | refine blk_alloc ?_ _)); refine blk_far ?_ NB270_269.out _; (with_reducible repeat (first | refine blk_drewN ?_ _ | refine blk_drew ?_ | refine blk_alloc ?_ _)); exact BK270.out) Tryd.underlying47 rfl (by kernel_rfl)) rfl ?_
  exact ⟨by first | rfl | (simp [errW_none, errW_some] <;> rfl) | (simp [*, errW_none, errW_some] <;> rfl), by repeat (first | (with_reducible first | exact HB.out | apply below_alloc | apply pw_below_drewN | apply below_drew1 | refine below_set ?_ GE269.out | refine below_set ?_ GE270.out) | exact HB.out)⟩
noncomputable def fix_Whole.f (a0 : Int) : Option (Int) := some (a0 / 65536)
set_option maxHeartbeats 8000000 in
set_option maxRecDepth 100000 in
theorem fix_Whole.calls (a0 : Int) (r : Int) (w : World) (h : fix_Whole.f a0 = some r) :
    Calls Tryd.prog 58 #[.int .i64 a0] w fun e w' => e = .returned (.int .i64 r) ∧ Drawn0 w w' := by
  have H : (some (a0 / 65536)) = some r := h
  clear h
  obtain rfl := Option.some.inj H
  go_enter Tryd.func58, Tryd.ntmps58
  go_wp2
  go_ret
  exact ⟨by first | rfl | (simp; done) | (simp [*]; done), by repeat (first | exact Drawn0.refl _ | apply Drawn0.step)⟩
noncomputable def relief_corners.f (a0_0 a0_1 a0_2 : Int) (l0_3 : List Int) (a1 a2 : Int) : Option (Int × Int × Int × Int) :=
  if 0 ≤ wrap64 (wrap64 (wrap64 (a0_0 + 1) * a2) + a1) then (if wrap64 (wrap64 (wrap64 (a0_0 + 1) * a2) + a1) + 1 < (l0_3.length : Int) then (if 0 ≤ wrap64 (wrap64 (wrap64 (wrap64 (wrap64 (a0_0 + 1) * a2) + a1) + a0_0) + 1) then (if wrap64 (wrap64 (wrap64 (wrap64 (wrap64 (a0_0 + 1) * a2) + a1) + a0_0) + 1) + 1 < (l0_3.length : Int) then (if (l0_3.length : Int) < 9223372036854775807 then
    some (wrap64 (rd l0_3 (wrap64 (wrap64 (wrap64 (a0_0 + 1) * a2) + a1))), wrap64 (rd l0_3 (wrap64 (wrap64 (wrap64 (a0_0 + 1) * a2) + a1) + 1)), wrap64 (rd l0_3 (wrap64 (wrap64 (wrap64 (wrap64 (wrap64 (a0_0 + 1) * a2) + a1) + a0_0) + 1))), wrap64 (rd l0_3 (wrap64 (wrap64 (wrap64 (wrap64 (wrap64 (a0_0 + 1) * a2) + a1) + a0_0) + 1) + 1)))
  else none) else none) else none) else none) else none
theorem relief_corners.calls (a0_0 a0_1 a0_2 : Int) (A0_3 : Option Addr) (c0_3 : Nat) (l0_3 : List Int) (a1 a2 r1 r2 r3 r4 : Int) (w : World) (hr0_3 : Kd.C (Kd.int .u8) w A0_3 l0_3.length l0_3) (hc0_3 : l0_3.length ≤ c0_3) (h : relief_corners.f a0_0 a0_1 a0_2 l0_3 a1 a2 = some (r1, r2, r3, r4)) :
    Calls Tryd.prog 89 #[.agg #[.int .i64 a0_0, .int .i64 a0_1, .int .i64 a0_2, .slice A0_3 l0_3.length c0_3], .int .i64 a1, .int .i64 a2] w fun e w' => e = .returned (.agg #[.int .i64 r1, .int .i64 r2, .int .i64 r3, .int .i64 r4]) ∧ Below w.heap.size w w' := by
  unfold relief_corners.f at h
  split at h
  · split at h
    · split at h
      · split at h
        · split at h
          · rename_i h0 h1 h2 h3 h4
            obtain ⟨rfl, rfl, rfl, rfl⟩ : _ ∧ _ ∧ _ ∧ _ := by simpa only [Option.some.injEq, Prod.mk.injEq] using h
            exact Am.corners_any a0_0 a0_1 a0_2 A0_3 c0_3 l0_3 a1 a2 _ _ w hr0_3 hc0_3 rfl rfl h0 h1 h2 h3 h4
          · cases h
        · cases h
      · cases h
    · cases h
  · cases h
noncomputable def fix_Part.f (a0 : Int) : Option (Int) := some (Go.bits .and .i64 a0 65535)
set_option maxHeartbeats 8000000 in
set_option maxRecDepth 100000 in
theorem fix_Part.calls (a0 : Int) (r : Int) (w : World) (h : fix_Part.f a0 = some r) :
    Calls Tryd.prog 90 #[.int .i64 a0] w fun e w' => e = .returned (.int .i64 r) ∧ Drawn0 w w' := by
  have H : (some (Go.bits .and .i64 a0 65535)) = some r := h
  clear h
  obtain rfl := Option.some.inj H
  go_enter Tryd.func90, Tryd.ntmps90
  go_wp2
  go_ret
  exact ⟨by first | rfl | (simp; done) | (simp [*]; done), by repeat (first | exact Drawn0.refl _ | apply Drawn0.step)⟩
end Go.Proofs.YtbcddiaplpbhjaaDoor.MAi
namespace Go.Proofs.YtbcddiaplpbhjaaDoor.MAi
open Go.RowKit Go.Proofs.YtbcddiaplpbhjaaDoorW.PrintWords Go.Proofs.YtbcddiaplpbhjaaDoorW.PrintLast Go.Proofs.YtbcddiaplpbhjaaDoorW.PrintMore
attribute [local go_sem] max2_int min2_int max_two min_two max_three min_three max_four min_four
set_option linter.unusedVariables false
set_option linter.unusedSimpArgs false
noncomputable def relief_Height.f (k : Nat) (a0_0 : Int) (a0_1 : Int) (a0_2 : Int) (l0_3 : List Int) (a1 : Int) (a2 : Int) : Option (Int × Int) := (relief_Check.f k a0_0 a0_1 a0_2 l0_3).bind fun t272 => (if t272 = 0 then ((relief_On.f k a0_0 a0_1 a0_2 l0_3 a1 a2).bind fun t273 => (if t273 = true then ((fix_Whole.f a1).bind fun t274 => ((fix_Whole.f a2).bind fun t275 => ((relief_corners.f a0_0 a0_1 a0_2 l0_3 t274 t275).bind fun bt276 => ((fix_Part.f a1).bind fun t281 => ((fix_Part.f a2).bind fun t282 => (some ((wrap64 ((wrap64 ((wrap64 ((wrap64 (bt276.1 * (wrap64 (65536 - t281)))) + (wrap64 (bt276.2.1 * t281)))) * (wrap64 (65536 - t282)))) + (wrap64 ((wrap64 ((wrap64 (bt276.2.2.1 * (wrap64 (65536 - t281)))) + (wrap64 (bt276.2.2.2 * t281)))) * t282)))) / 65536, 0))))))) else (some (0, 4)))) else (some (0, 1)))
theorem relief_Height.mono : ∀ a0 a1 a2 a3 a4 a5 k, LeO (relief_Height.f k a0 a1 a2 a3 a4 a5) (relief_Height.f (k + 1) a0 a1 a2 a3 a4 a5) := by
  intro a0 a1 a2 a3 a4 a5 k
  unfold relief_Height.f
  repeat' first
      | (with_reducible exact relief_Check.mono _ _ _ _ _)
      | (with_reducible exact relief_On.mono _ _ _ _ _ _ _)
      | (with_reducible exact LeO.refl _)
      | (with_reducible exact LeO.none _)
      | (with_reducible refine LeO.ite ?_ ?_)
      | (with_reducible refine LeO.bind ?_ (fun _ => ?_))
      | exact relief_Check.mono _ _ _ _ _
      | exact relief_On.mono _ _ _ _ _ _ _
      | exact LeO.none _
      | refine LeO.ite ?_ ?_
      | refine LeO.bind ?_ (fun _ => ?_)
def relief_Height.T5 : Bool × List (List Nat × List Nat) := (true, [([], []), ([], []), ([1], [1]), ([], []), ([3, 2], [3]), ([0, 2, 4, 4], [0, 2, 4]), ([], []), ([6, 5, 5, 0, 1, 2, 3, 4, 5, 6], [5, 6])])
def relief_Height.B5 : List Nat := [0, 0, 2, 0, 14, 31, 0, 127]
theorem relief_Height.tab5 : rtab .any (opsOf Tryd.f79 5) = relief_Height.T5 := by kernel_rfl
theorem relief_Height.bits5 : waitsOk relief_Height.T5.2 relief_Height.B5 = true := by kernel_rfl
set_option maxHeartbeats 8000000 in
set_option maxRecDepth 100000 in
theorem relief_Height.calls (k : Nat) (a0_0 : Int) (a0_1 : Int) (a0_2 : Int) (A0_3 : Option Addr) (c0_3 : Nat) (l0_3 : List Int) (a1 : Int) (a2 : Int) (r1 : Int) (r2 : Int) (w : World) (hr0_3 : Kd.C (Kd.int .u8) w A0_3 l0_3.length l0_3) (hc0_3 : l0_3.length ≤ c0_3) (h : relief_Height.f k a0_0 a0_1 a0_2 l0_3 a1 a2 = some (r1, r2)) :
    Calls Tryd.prog 79 #[.agg #[.int .i64 a0_0, .int .i64 a0_1, .int .i64 a0_2, .slice A0_3 l0_3.length c0_3], .int .i64 a1, .int .i64 a2] w fun e w' => e = .returned (.tuple #[.int .i64 r1, .int .i64 r2]) ∧ Below w.heap.size w w' := by
  have hu45 := Tryd.underlying45
  have hu114 := Tryd.underlying114
  have HR0_3 := Aside0.mk hr0_3
  have HC0_3 := Aside0.mk hc0_3
  clear hr0_3 hc0_3
  have HB := Aside0.mk (Below.refl w.heap.size w)
  have H : ((relief_Check.f k a0_0 a0_1 a0_2 l0_3).bind fun t272 => (if t272 = 0 then ((relief_On.f k a0_0 a0_1 a0_2 l0_3 a1 a2).bind fun t273 => (if t273 = true then ((fix_Whole.f a1).bind fun t274 => ((fix_Whole.f a2).bind fun t275 => ((relief_corners.f a0_0 a0_1 a0_2 l0_3 t274 t275).bind fun bt276 => ((fix_Part.f a1).bind fun t281 => ((fix_Part.f a2).bind fun t282 => (some ((wrap64 ((wrap64 ((wrap64 ((wrap64 (bt276.1 * (wrap64 (65536 - t281)))) + (wrap64 (bt276.2.1 * t281)))) * (wrap64 (65536 - t282)))) + (wrap64 ((wrap64 ((wrap64 (bt276.2.2.1 * (wrap64 (65536 - t281)))) + (wrap64 (bt276.2.2.2 * t281)))) * t282)))) / 65536, 0))))))) else (some (0, 4)))) else (some (0, 1)))) = some (r1, r2) := h
  clear h
  replace H := Option.bind_eq_some_iff.mp H
  obtain ⟨t272, A40, H⟩ := H
  replace H : (if t272 = 0 then ((relief_On.f k a0_0 a0_1 a0_2 l0_3 a1 a2).bind fun t273 => (if t273 = true then ((fix_Whole.f a1).bind fun t274 => ((fix_Whole.f a2).bind fun t275 => ((relief_corners.f a0_0 a0_1 a0_2 l0_3 t274 t275).bind fun bt276 => ((fix_Part.f a1).bind fun t281 => ((fix_Part.f a2).bind fun t282 => (some ((wrap64 ((wrap64 ((wrap64 ((wrap64 (bt276.1 * (wrap64 (65536 - t281)))) + (wrap64 (bt276.2.1 * t281)))) * (wrap64 (65536 - t282)))) + (wrap64 ((wrap64 ((wrap64 (bt276.2.2.1 * (wrap64 (65536 - t281)))) + (wrap64 (bt276.2.2.2 * t281)))) * t282)))) / 65536, 0))))))) else (some (0, 4)))) else (some (0, 1))) = some (r1, r2) := H
  have A4 := Aside0.mk A40
  clear A40
  by_cases c5 : t272 = 0
  · rw [if_pos c5] at H
    have c5b0 : (t272 == 0) = true := beq_iff_eq.mpr c5
    have c5b1 : (t272 != 0) = false := bne_eq_false_iff_eq.mpr c5
    clear c5
    replace H := Option.bind_eq_some_iff.mp H
    obtain ⟨t273, A60, H⟩ := H
    replace H : (if t273 = true then ((fix_Whole.f a1).bind fun t274 => ((fix_Whole.f a2).bind fun t275 => ((relief_corners.f a0_0 a0_1 a0_2 l0_3 t274 t275).bind fun bt276 => ((fix_Part.f a1).bind fun t281 => ((fix_Part.f a2).bind fun t282 => (some ((wrap64 ((wrap64 ((wrap64 ((wrap64 (bt276.1 * (wrap64 (65536 - t281)))) + (wrap64 (bt276.2.1 * t281)))) * (wrap64 (65536 - t282)))) + (wrap64 ((wrap64 ((wrap64 (bt276.2.2.1 * (wrap64 (65536 - t281)))) + (wrap64 (bt276.2.2.2 * t281)))) * t282)))) / 65536, 0))))))) else (some (0, 4))) = some (r1, r2) := H
    have A6 := Aside0.mk A60
    clear A60
    by_cases c7 : t273 = true
    · subst c7
      have H1 : ((fix_Whole.f a1).bind fun t274 => ((fix_Whole.f a2).bind fun t275 => ((relief_corners.f a0_0 a0_1 a0_2 l0_3 t274 t275).bind fun bt276 => ((fix_Part.f a1).bind fun t281 => ((fix_Part.f a2).bind fun t282 => (some ((wrap64 ((wrap64 ((wrap64 ((wrap64 (bt276.1 * (wrap64 (65536 - t281)))) + (wrap64 (bt276.2.1 * t281)))) * (wrap64 (65536 - t282)))) + (wrap64 ((wrap64 ((wrap64 (bt276.2.2.1 * (wrap64 (65536 - t281)))) + (wrap64 (bt276.2.2.2 * t281)))) * t282)))) / 65536, 0))))))) = some (r1, r2) := by rw [if_pos rfl] at H; exact H
      clear H
      have H := H1
      clear H1
      replace H := Option.bind_eq_some_iff.mp H
      obtain ⟨t274, A80, H⟩ := H
      replace H : ((fix_Whole.f a2).bind fun t275 => ((relief_corners.f a0_0 a0_1 a0_2 l0_3 t274 t275).bind fun bt276 => ((fix_Part.f a1).bind fun t281 => ((fix_Part.f a2).bind fun t282 => (some ((wrap64 ((wrap64 ((wrap64 ((wrap64 (bt276.1 * (wrap64 (65536 - t281)))) + (wrap64 (bt276.2.1 * t281)))) * (wrap64 (65536 - t282)))) + (wrap64 ((wrap64 ((wrap64 (bt276.2.2.1 * (wrap64 (65536 - t281)))) + (wrap64 (bt276.2.2.2 * t281)))) * t282)))) / 65536, 0)))))) = some (r1, r2) := H
      have A8 := Aside0.mk A80
      clear A80
      replace H := Option.bind_eq_some_iff.mp H
      obtain ⟨t275, A90, H⟩ := H
      replace H : ((relief_corners.f a0_0 a0_1 a0_2 l0_3 t274 t275).bind fun bt276 => ((fix_Part.f a1).bind fun t281 => ((fix_Part.f a2).bind fun t282 => (some ((wrap64 ((wrap64 ((wrap64 ((wrap64 (bt276.1 * (wrap64 (65536 - t281)))) + (wrap64 (bt276.2.1 * t281)))) * (wrap64 (65536 - t282)))) + (wrap64 ((wrap64 ((wrap64 (bt276.2.2.1 * (wrap64 (65536 - t281)))) + (wrap64 (bt276.2.2.2 * t281)))) * t282)))) / 65536, 0))))) = some (r1, r2) := H
      have A9 := Aside0.mk A90
      clear A90
      replace H := Option.bind_eq_some_iff.mp H
      obtain ⟨⟨t276, t277, t278, t279⟩, A100, H⟩ := H
      replace H : ((fix_Part.f a1).bind fun t281 => ((fix_Part.f a2).bind fun t282 => (some ((wrap64 ((wrap64 ((wrap64 ((wrap64 (t276 * (wrap64 (65536 - t281)))) + (wrap64 (t277 * t281)))) * (wrap64 (65536 - t282)))) + (wrap64 ((wrap64 ((wrap64 (t278 * (wrap64 (65536 - t281)))) + (wrap64 (t279 * t281)))) * t282)))) / 65536, 0)))) = some (r1, r2) := H
      have A10 := Aside0.mk A100
      clear A100
      replace H := Option.bind_eq_some_iff.mp H
      obtain ⟨t281, A110, H⟩ := H
      replace H : ((fix_Part.f a2).bind fun t282 => (some ((wrap64 ((wrap64 ((wrap64 ((wrap64 (t276 * (wrap64 (65536 - t281)))) + (wrap64 (t277 * t281)))) * (wrap64 (65536 - t282)))) + (wrap64 ((wrap64 ((wrap64 (t278 * (wrap64 (65536 - t281)))) + (wrap64 (t279 * t281)))) * t282)))) / 65536, 0))) = some (r1, r2) := H
      have A11 := Aside0.mk A110
      clear A110
      replace H := Option.bind_eq_some_iff.mp H
      obtain ⟨t282, A120, H⟩ := H
      replace H : (some ((wrap64 ((wrap64 ((wrap64 ((wrap64 (t276 * (wrap64 (65536 - t281)))) + (wrap64 (t277 * t281)))) * (wrap64 (65536 - t282)))) + (wrap64 ((wrap64 ((wrap64 (t278 * (wrap64 (65536 - t281)))) + (wrap64 (t279 * t281)))) * t282)))) / 65536, 0)) = some (r1, r2) := H
      have A12 := Aside0.mk A120
      clear A120
      simp only [Option.some.injEq, Prod.mk.injEq] at H
      obtain ⟨rfl, rfl⟩ := H
      go_enter Tryd.func79, Tryd.ntmps79
      try go_wp2_with (first | ((with_reducible refine gate_dst (N := 3) rfl ?_); refine box_event ?hg (N := 3) ?hd (cs := #[.int .i64 a0_0, .int .i64 a0_1, .int .i64 a0_2, .slice A0_3 l0_3.length c0_3]) (t := 45) ?hr ?_; (case hd => rfl); (case hg => rfl); (case hr => first | (go_simp; done) | (go_simp; rfl)); intro gb271 hg w13 hbox hb; have n0_ := Aside0.mk (below_step (by repeat (first | (with_reducible first | exact HB.out | apply below_alloc | apply pw_below_drewN | apply below_drew1) | exact HB.out)) hb); have n1_ := Aside0.mk (hbox); have n2_ := Aside0.mk ((by rw [hg]; exact (below_size (by repeat (first | (with_reducible first | exact HB.out | apply below_alloc | apply pw_below_drewN | apply below_drew1) | exact HB.out))) : w.heap.size ≤ gb271)); have n3_ := Aside0.mk ((by rw [hg]; exact (below_size (by repeat (first | (with_reducible first | exact HB.out | apply below_alloc | apply pw_below_drewN | apply below_drew1) | exact HB.out))) : w.heap.size ≤ gb271)); clear HB; have HB := n0_; have BK271 := n1_; have GW271 := n2_; have GE271 := n3_; clear n0_ n1_ n2_ n3_; clear hb hbox hg; have hcz14_0 : w13.cell? ⟨gb271, 0, none⟩ = some (.int .i64 a0_0) := (blk_cell BK271.out 0).trans rfl; have hcz14_1 : w13.cell? ⟨gb271, 1, none⟩ = some (.int .i64 a0_1) := (blk_cell BK271.out 1).trans rfl; have hcz14_2 : w13.cell? ⟨gb271, 2, none⟩ = some (.int .i64 a0_2) := (blk_cell BK271.out 2).trans rfl; have hcz14_3 : w13.cell? ⟨gb271, 3, none⟩ = some (.slice A0_3 l0_3.length c0_3) := (blk_cell BK271.out 3).trans rfl; have hfz14_0 := blk_frozen BK271.out 0; have hfz14_1 := blk_frozen BK271.out 1; have hfz14_2 := blk_frozen BK271.out 2; have hfz14_3 := blk_frozen BK271.out 3) | ((with_reducible refine gate_callee (f := 75) rfl ?_); refine goesL_ (some 14) rfl rfl Tryd.func75 (by kernel_rfl) rfl #[.agg #[.int .i64 a0_0, .int .i64 a0_1, .int .i64 a0_2, .slice A0_3 l0_3.length c0_3]] rfl (by (try simp only [List.map_toArray, List.map_cons, List.map_nil]); first | done | rfl | (simp only [List.length_drop, List.length_take]; rfl)) ?_; (with_reducible refine (relief_Check.calls k a0_0 a0_1 a0_2 _ _ l0_3 t272 _ ?side1 ?side2 A4.out).mono ?_); (case side1 => repeat (first | exact (Kd.C_below HR0_3.out HB.out) | (with_reducible refine Kd.C_alloc ?_ _) | (with_reducible refine Kd.C_drewN ?_ _) | (with_reducible refine Kd.C_drew ?_))); (case side2 => exact HC0_3.out); rintro e w15 ⟨rfl, hb⟩; refine ⟨_, rfl, ?_⟩; have n0_ := Aside0.mk (blk_below (g := gb271) (o := .cells #[.int .i64 a0_0, .int .i64 a0_1, .int .i64 a0_2, .slice A0_3 l0_3.length c0_3] 45 (0, 0)) (by (with_reducible repeat (first | refine blk_drewN ?_ _ | refine blk_drew ?_ | refine blk_alloc ?_ _)); exact BK271.out) hb); have n1_ := Aside0.mk (below_step (by repeat (first | (with_reducible first | exact HB.out | apply below_alloc | apply pw_below_drewN | apply below_drew1 | refine below_set ?_ GE271.out) | exact HB.out)) hb); clear BK271; clear HB; have BK271 := n0_; have HB := n1_; clear n0_ n1_; (try clear hb); (try clear hb2); (try clear hk); (try clear hi); have hcz16_0 : w15.cell? ⟨gb271, 0, none⟩ = some (.int .i64 a0_0) := (blk_cell BK271.out 0).trans rfl; have hcz16_1 : w15.cell? ⟨gb271, 1, none⟩ = some (.int .i64 a0_1) := (blk_cell BK271.out 1).trans rfl; have hcz16_2 : w15.cell? ⟨gb271, 2, none⟩ = some (.int .i64 a0_2) := (blk_cell BK271.out 2).trans rfl; have hcz16_3 : w15.cell? ⟨gb271, 3, none⟩ = some (.slice A0_3 l0_3.length c0_3) := (blk_cell BK271.out 3).trans rfl; have hfz16_0 := blk_frozen BK271.out 0; have hfz16_1 := blk_frozen BK271.out 1; have hfz16_2 := blk_frozen BK271.out 2; have hfz16_3 := blk_frozen BK271.out 3) | ((with_reducible refine gate_callee (f := 55) rfl ?_); refine goesL_ (some 19) rfl rfl Tryd.func55 (by kernel_rfl) rfl #[.agg #[.int .i64 a0_0, .int .i64 a0_1, .int .i64 a0_2, .slice A0_3 l0_3.length c0_3], .int .i64 a1, .int .i64 a2] rfl (by (try simp only [List.map_toArray, List.map_cons, List.map_nil]); first | done | rfl | (simp only [List.length_drop, List.length_take]; rfl)) ?_; (with_reducible refine (relief_On.calls k a0_0 a0_1 a0_2 _ _ l0_3 a1 a2 true _ ?side1 ?side2 A6.out).mono ?_); (case side1 => repeat (first | exact (Kd.C_below HR0_3.out HB.out) | (with_reducible refine Kd.C_alloc ?_ _) | (with_reducible refine Kd.C_drewN ?_ _) | (with_reducible refine Kd.C_drew ?_))); (case side2 => exact HC0_3.out); rintro e w17 ⟨rfl, hb⟩; refine ⟨_, rfl, ?_⟩; have n0_ := Aside0.mk (blk_below (g := gb271) (o := .cells #[.int .i64 a0_0, .int .i64 a0_1, .int .i64 a0_2, .slice A0_3 l0_3.length c0_3] 45 (0, 0)) (by (with_reducible repeat (first | refine blk_drewN ?_ _ | refine blk_drew ?_ | refine blk_alloc ?_ _)); exact BK271.out) hb); have n1_ := Aside0.mk (below_step (by repeat (first | (with_reducible first | exact HB.out | apply below_alloc | apply pw_below_drewN | apply below_drew1 | refine below_set ?_ GE271.out) | exact HB.out)) hb); clear BK271; clear HB; have BK271 := n0_; have HB := n1_; clear n0_ n1_; (try clear hb); (try clear hb2); (try clear hk); (try clear hi)))
      have n0_ := Aside0.mk (blk_drew BK271.out)
      have n1_ := Aside0.mk (below_drew1 HB.out)
      clear BK271
      clear HB
      have BK271 := n0_
      have HB := n1_
      clear n0_ n1_
      refine start_ (n := 8) (S := fun w' => w'.cell? ⟨gb271, 0, none⟩ = some (.int .i64 a0_0) ∧ w'.cell? ⟨gb271, 1, none⟩ = some (.int .i64 a0_1) ∧ w'.cell? ⟨gb271, 2, none⟩ = some (.int .i64 a0_2) ∧ w'.cell? ⟨gb271, 3, none⟩ = some (.slice A0_3 l0_3.length c0_3)) (ds := []) #[false, false, false, false, false, false, false, false] (by kernel_rfl) rfl rfl ⟨(blk_cell BK271.out 0).trans rfl, (blk_cell BK271.out 1).trans rfl, (blk_cell BK271.out 2).trans rfl, (blk_cell BK271.out 3).trans rfl⟩ (fun hHeld => ?_); refine with_tabW relief_Height.tab5 relief_Height.bits5 (fun HT_ HW_ => ?_)
      generalize w17.drew = w18 at BK271 HB hHeld ⊢
      refine pure_ (i := 1) (N := some 22) (v := ?_) (a' := ?_) #[false, true, false, false, false, false, false, false] rfl rfl (any_of HT_.out (by kernel_rfl)) (fun _ _ _ h => h) (Or.inl ⟨by rfl, ?_⟩) ?_ ?_
      rotate_left
      · intro w'
        go_simp
        with_reducible rfl
      rotate_left
      · simp only [Act.put, List.setIfInBounds_toArray, List.set_cons_zero, List.set_cons_succ, i64_w, i32_w]
        rfl
      refine pure_ (i := 3) (N := some 24) (v := ?_) (a' := ?_) #[false, true, false, true, false, false, false, false] rfl rfl (any_of HT_.out (by kernel_rfl)) (fun _ _ _ h => h) (Or.inl ⟨by rfl, ?_⟩) ?_ ?_
      rotate_left
      · intro w'
        go_simp
        with_reducible rfl
      rotate_left
      · simp only [Act.put, List.setIfInBounds_toArray, List.set_cons_zero, List.set_cons_succ, i64_w, i32_w]
        rfl
      refine take_ (i := 0) (N := some 21) (v := ?_) (a' := ?_) #[true, true, false, true, false, false, false, false] rfl rfl (take_ofW HT_.out HW_.out (by kernel_rfl)) (fun _ _ _ h => h) (Or.inl ⟨by rfl, ?_⟩) hHeld ?_ ?_
      rotate_left
      · rintro w' ⟨s0, s1, s2, s3⟩
        go_simp
        with_reducible rfl
      rotate_left
      · simp only [Act.put, List.setIfInBounds_toArray, List.set_cons_zero, List.set_cons_succ, i64_w, i32_w]
        rfl
      refine join_ (σ := Nat) 1 #[true, true, true, true, true, true, true, false] (fun s_ => [(23, .int .i64 t274), (25, .int .i64 t275), (26, .agg #[.int .i64 t276, .int .i64 t277, .int .i64 t278, .int .i64 t279]), (8, .pointer (some ⟨s_, 0, none⟩))]) (fun s_ w' => (w'.cell? ⟨gb271, 0, none⟩ = some (.int .i64 a0_0) ∧ w'.cell? ⟨gb271, 1, none⟩ = some (.int .i64 a0_1) ∧ w'.cell? ⟨gb271, 2, none⟩ = some (.int .i64 a0_2) ∧ w'.cell? ⟨gb271, 3, none⟩ = some (.slice A0_3 l0_3.length c0_3)) ∧ (w'.heap[gb271]? = some (.cells #[.int .i64 a0_0, .int .i64 a0_1, .int .i64 a0_2, .slice A0_3 l0_3.length c0_3] 45 (0, 0))) ∧ (w'.heap[s_]? = some (.cells #[.int .i64 0, .int .i64 0, .int .i64 0, .int .i64 0] 114 (0, 0))) ∧ (w.heap.size ≤ s_) ∧ (w.heap.size ≤ s_) ∧ (gb271 ≠ s_) ∧ (s_ ≠ gb271) ∧ (Below w.heap.size w w')) ?_ ?_
      rotate_left
      · intro hCont
        refine two_ (i := 2) (j := 6) (Ni := some 23) (Nj := some 8) #[true, true, true, true, false, false, false, false] #[true, true, false, true, false, false, true, false] rfl rfl rfl rfl (two_of HT_.out (by kernel_rfl)) (by decide) (by decide) (fun K hK => ?_) (fun K hK => ?_)
        · skip
          refine goes_ Tryd.func58 (by kernel_rfl) rfl #[.int .i64 a1] (by rfl) rfl rfl (by (try simp only [List.map_toArray, List.map_cons, List.map_nil]); first | done | rfl | (simp only [List.length_drop, List.length_take]; rfl)) ?_
          with_reducible refine (fix_Whole.calls a1 t274 _ A8.out).mono ?_
          rintro e w' ⟨rfl, ⟨nd, rfl⟩⟩
          refine ⟨_, rfl, ?_⟩
          refine hK.out _ _ ⟨(blk_cell BK271.out 0).trans rfl, (blk_cell BK271.out 1).trans rfl, (blk_cell BK271.out 2).trans rfl, (blk_cell BK271.out 3).trans rfl⟩ (fun hHeld => ?_)
          clear hK K
          refine norm_ (a' := ?_) ?_ ?_
          rotate_left
          · show Act.put _ (some 23) _ = _
            simp only [Act.put, List.setIfInBounds_toArray, List.set_cons_zero, List.set_cons_succ, i64_w, i32_w]
            rfl
          refine two_ (i := 4) (j := 6) (Ni := some 25) (Nj := some 8) #[true, true, true, true, true, false, false, false] #[true, true, true, true, false, false, true, false] rfl rfl rfl rfl (two_of HT_.out (by kernel_rfl)) (by decide) (by decide) (fun K hK => ?_) (fun K hK => ?_)
          · skip
            refine goes_ Tryd.func58 (by kernel_rfl) rfl #[.int .i64 a2] (by rfl) rfl rfl (by (try simp only [List.map_toArray, List.map_cons, List.map_nil]); first | done | rfl | (simp only [List.length_drop, List.length_take]; rfl)) ?_
            with_reducible refine (fix_Whole.calls a2 t275 _ A9.out).mono ?_
            rintro e w' ⟨rfl, ⟨nd, rfl⟩⟩
            refine ⟨_, rfl, ?_⟩
            refine hK.out _ _ ⟨(blk_cell BK271.out 0).trans rfl, (blk_cell BK271.out 1).trans rfl, (blk_cell BK271.out 2).trans rfl, (blk_cell BK271.out 3).trans rfl⟩ (fun hHeld => ?_)
            clear hK K
            refine norm_ (a' := ?_) ?_ ?_
            rotate_left
            · show Act.put _ (some 25) _ = _
              simp only [Act.put, List.setIfInBounds_toArray, List.set_cons_zero, List.set_cons_succ, i64_w, i32_w]
              rfl
            refine two_ (i := 5) (j := 6) (Ni := some 26) (Nj := some 8) #[true, true, true, true, true, true, false, false] #[true, true, true, true, true, false, true, false] rfl rfl rfl rfl (two_of HT_.out (by kernel_rfl)) (by decide) (by decide) (fun K hK => ?_) (fun K hK => ?_)
            · skip
              refine goes_ Tryd.func89 (by kernel_rfl) rfl #[.agg #[.int .i64 a0_0, .int .i64 a0_1, .int .i64 a0_2, .slice A0_3 l0_3.length c0_3], .int .i64 t274, .int .i64 t275] (by rfl) rfl rfl (by (try simp only [List.map_toArray, List.map_cons, List.map_nil]); first | done | rfl | (simp only [List.length_drop, List.length_take]; rfl)) ?_
              with_reducible refine (relief_corners.calls a0_0 a0_1 a0_2 _ _ l0_3 t274 t275 t276 t277 t278 t279 _ ?side1 ?side2 A10.out).mono ?_
              (case side1 => repeat (first | exact (Kd.C_below HR0_3.out (by repeat (first | (with_reducible first | exact HB.out | apply below_alloc | apply pw_below_drewN | apply below_drew1 | refine below_set ?_ GE271.out) | exact HB.out))) | (with_reducible refine Kd.C_alloc ?_ _) | (with_reducible refine Kd.C_drewN ?_ _) | (with_reducible refine Kd.C_drew ?_)))
              (case side2 => exact HC0_3.out)
              rintro e w19 ⟨rfl, hb⟩
              refine ⟨_, rfl, ?_⟩
              have n0_ := Aside0.mk (blk_below (g := gb271) (o := .cells #[.int .i64 a0_0, .int .i64 a0_1, .int .i64 a0_2, .slice A0_3 l0_3.length c0_3] 45 (0, 0)) (by (with_reducible repeat (first | refine blk_drewN ?_ _ | refine blk_drew ?_ | refine blk_alloc ?_ _)); exact BK271.out) hb)
              have n1_ := Aside0.mk (below_step (by repeat (first | (with_reducible first | exact HB.out | apply below_alloc | apply pw_below_drewN | apply below_drew1 | refine below_set ?_ GE271.out) | exact HB.out)) hb)
              clear BK271
              clear HB
              have BK271 := n0_
              have HB := n1_
              clear n0_ n1_
              (try clear hb)
              (try clear hb2)
              (try clear hk)
              (try clear hi)
              refine hK.out _ _ ⟨(blk_cell BK271.out 0).trans rfl, (blk_cell BK271.out 1).trans rfl, (blk_cell BK271.out 2).trans rfl, (blk_cell BK271.out 3).trans rfl⟩ (fun hHeld => ?_)
              clear hK K
              refine norm_ (a' := ?_) ?_ ?_
              rotate_left
              · show Act.put _ (some 26) _ = _
                simp only [Act.put, List.setIfInBounds_toArray, List.set_cons_zero, List.set_cons_succ, i64_w, i32_w]
                rfl
              refine one_ (i := 6) (N := some 8) #[true, true, true, true, true, true, true, false] rfl rfl (one_of HT_.out (by kernel_rfl)) (by decide) (fun K hK => ?_)
              refine box_step ?hg (N := 8) ?hd (cs := #[.int .i64 0, .int .i64 0, .int .i64 0, .int .i64 0]) (t := 114) ?hr ?_; (case hd => rfl); (case hg => rfl); (case hr => first | (go_simp; done) | (go_simp; rfl))
              intro gb280 hg w20 hbox hb
              have n0_ := Aside0.mk (blk_below (g := gb271) (o := .cells #[.int .i64 a0_0, .int .i64 a0_1, .int .i64 a0_2, .slice A0_3 l0_3.length c0_3] 45 (0, 0)) (by (with_reducible repeat (first | refine blk_drewN ?_ _ | refine blk_drew ?_ | refine blk_alloc ?_ _)); exact BK271.out) hb)
              have n1_ := Aside0.mk (below_step (by repeat (first | (with_reducible first | exact HB.out | apply below_alloc | apply pw_below_drewN | apply below_drew1 | refine below_set ?_ GE271.out) | exact HB.out)) hb)
              have n2_ := Aside0.mk (hbox)
              have n3_ := Aside0.mk ((by rw [hg]; exact (below_size (by repeat (first | (with_reducible first | exact HB.out | apply below_alloc | apply pw_below_drewN | apply below_drew1 | refine below_set ?_ GE271.out) | exact HB.out))) : w.heap.size ≤ gb280))
              have n4_ := Aside0.mk ((by rw [hg]; exact (below_size (by repeat (first | (with_reducible first | exact HB.out | apply below_alloc | apply pw_below_drewN | apply below_drew1 | refine below_set ?_ GE271.out) | exact HB.out))) : w.heap.size ≤ gb280))
              have n5_ := Aside0.mk ((by rw [hg]; exact Nat.ne_of_lt (blk_lt (g := gb271) (o := .cells #[.int .i64 a0_0, .int .i64 a0_1, .int .i64 a0_2, .slice A0_3 l0_3.length c0_3] 45 (0, 0)) (by (with_reducible repeat (first | refine blk_drewN ?_ _ | refine blk_drew ?_ | refine blk_alloc ?_ _)); exact BK271.out)) : gb271 ≠ gb280))
              have n6_ := Aside0.mk ((by rw [hg]; exact Nat.ne_of_gt (blk_lt (g := gb271) (o := .cells #[.int .i64 a0_0, .int .i64 a0_1, .int .i64 a0_2, .slice A0_3 l0_3.length c0_3] 45 (0, 0)) (by (with_reducible repeat (first | refine blk_drewN ?_ _ | refine blk_drew ?_ | refine blk_alloc ?_ _)); exact BK271.out)) : gb280 ≠ gb271))
              clear BK271
              clear HB
              have BK271 := n0_
              have HB := n1_
              have BK280 := n2_
              have GW280 := n3_
              have GE280 := n4_
              have NB271_280 := n5_
              have NB280_271 := n6_
              clear n0_ n1_ n2_ n3_ n4_ n5_ n6_
              clear hb hbox hg
              refine hK.out _ _ ⟨(blk_cell BK271.out 0).trans rfl, (blk_cell BK271.out 1).trans rfl, (blk_cell BK271.out 2).trans rfl, (blk_cell BK271.out 3).trans rfl⟩ (fun hHeld => ?_)
              clear hK K
              refine norm_ (a' := ?_) ?_ ?_
              rotate_left
              · show Act.put _ (some 8) _ = _
                simp only [Act.put, List.setIfInBounds_toArray, List.set_cons_zero, List.set_cons_succ, i64_w, i32_w]
                rfl
              exact norm_ (by simp only [putAll, Act.put, List.setIfInBounds_toArray, List.set_cons_zero, List.set_cons_succ]) (hCont (gb280) _ ⟨hHeld, (by (with_reducible repeat (first | refine blk_drewN ?_ _ | refine blk_drew ?_ | refine blk_alloc ?_ _)); exact BK271.out), (by (with_reducible repeat (first | refine blk_drewN ?_ _ | refine blk_drew ?_ | refine blk_alloc ?_ _)); exact BK280.out), GW280.out, GE280.out, NB271_280.out, NB280_271.out, (by repeat (first | (with_reducible first | exact HB.out | apply below_alloc | apply pw_below_drewN | apply below_drew1 | refine below_set ?_ GE271.out | refine below_set ?_ GE280.out) | exact HB.out))⟩)
            · skip
              refine box_step ?hg (N := 8) ?hd (cs := #[.int .i64 0, .int .i64 0, .int .i64 0, .int .i64 0]) (t := 114) ?hr ?_; (case hd => rfl); (case hg => rfl); (case hr => first | (go_simp; done) | (go_simp; rfl))
              intro gb280 hg w19 hbox hb
              have n0_ := Aside0.mk (blk_below (g := gb271) (o := .cells #[.int .i64 a0_0, .int .i64 a0_1, .int .i64 a0_2, .slice A0_3 l0_3.length c0_3] 45 (0, 0)) (by (with_reducible repeat (first | refine blk_drewN ?_ _ | refine blk_drew ?_ | refine blk_alloc ?_ _)); exact BK271.out) hb)
              have n1_ := Aside0.mk (below_step (by repeat (first | (with_reducible first | exact HB.out | apply below_alloc | apply pw_below_drewN | apply below_drew1 | refine below_set ?_ GE271.out) | exact HB.out)) hb)
              have n2_ := Aside0.mk (hbox)
              have n3_ := Aside0.mk ((by rw [hg]; exact (below_size (by repeat (first | (with_reducible first | exact HB.out | apply below_alloc | apply pw_below_drewN | apply below_drew1 | refine below_set ?_ GE271.out) | exact HB.out))) : w.heap.size ≤ gb280))
              have n4_ := Aside0.mk ((by rw [hg]; exact (below_size (by repeat (first | (with_reducible first | exact HB.out | apply below_alloc | apply pw_below_drewN | apply below_drew1 | refine below_set ?_ GE271.out) | exact HB.out))) : w.heap.size ≤ gb280))
              have n5_ := Aside0.mk ((by rw [hg]; exact Nat.ne_of_lt (blk_lt (g := gb271) (o := .cells #[.int .i64 a0_0, .int .i64 a0_1, .int .i64 a0_2, .slice A0_3 l0_3.length c0_3] 45 (0, 0)) (by (with_reducible repeat (first | refine blk_drewN ?_ _ | refine blk_drew ?_ | refine blk_alloc ?_ _)); exact BK271.out)) : gb271 ≠ gb280))
              have n6_ := Aside0.mk ((by rw [hg]; exact Nat.ne_of_gt (blk_lt (g := gb271) (o := .cells #[.int .i64 a0_0, .int .i64 a0_1, .int .i64 a0_2, .slice A0_3 l0_3.length c0_3] 45 (0, 0)) (by (with_reducible repeat (first | refine blk_drewN ?_ _ | refine blk_drew ?_ | refine blk_alloc ?_ _)); exact BK271.out)) : gb280 ≠ gb271))
              clear BK271
              clear HB
              have BK271 := n0_
              have HB := n1_
              have BK280 := n2_
              have GW280 := n3_
              have GE280 := n4_
              have NB271_280 := n5_
              have NB280_271 := n6_
              clear n0_ n1_ n2_ n3_ n4_ n5_ n6_
              clear hb hbox hg
              refine hK.out _ _ ⟨(blk_cell BK271.out 0).trans rfl, (blk_cell BK271.out 1).trans rfl, (blk_cell BK271.out 2).trans rfl, (blk_cell BK271.out 3).trans rfl⟩ (fun hHeld => ?_)
              clear hK K
              refine norm_ (a' := ?_) ?_ ?_
              rotate_left
              · show Act.put _ (some 8) _ = _
                simp only [Act.put, List.setIfInBounds_toArray, List.set_cons_zero, List.set_cons_succ, i64_w, i32_w]
                rfl
              refine one_ (i := 5) (N := some 26) #[true, true, true, true, true, true, true, false] rfl rfl (one_of HT_.out (by kernel_rfl)) (by decide) (fun K hK => ?_)
              refine goes_ Tryd.func89 (by kernel_rfl) rfl #[.agg #[.int .i64 a0_0, .int .i64 a0_1, .int .i64 a0_2, .slice A0_3 l0_3.length c0_3], .int .i64 t274, .int .i64 t275] (by rfl) rfl rfl (by (try simp only [List.map_toArray, List.map_cons, List.map_nil]); first | done | rfl | (simp only [List.length_drop, List.length_take]; rfl)) ?_
              with_reducible refine (relief_corners.calls a0_0 a0_1 a0_2 _ _ l0_3 t274 t275 t276 t277 t278 t279 _ ?side1 ?side2 A10.out).mono ?_
              (case side1 => repeat (first | exact (Kd.C_below HR0_3.out HB.out) | (with_reducible refine Kd.C_alloc ?_ _) | (with_reducible refine Kd.C_drewN ?_ _) | (with_reducible refine Kd.C_drew ?_)))
              (case side2 => exact HC0_3.out)
              rintro e w20 ⟨rfl, hb⟩
              refine ⟨_, rfl, ?_⟩
              have n0_ := Aside0.mk (blk_below (g := gb271) (o := .cells #[.int .i64 a0_0, .int .i64 a0_1, .int .i64 a0_2, .slice A0_3 l0_3.length c0_3] 45 (0, 0)) (by (with_reducible repeat (first | refine blk_drewN ?_ _ | refine blk_drew ?_ | refine blk_alloc ?_ _)); exact BK271.out) hb)
              have n1_ := Aside0.mk (blk_below (g := gb280) (o := .cells #[.int .i64 0, .int .i64 0, .int .i64 0, .int .i64 0] 114 (0, 0)) (by (with_reducible repeat (first | refine blk_drewN ?_ _ | refine blk_drew ?_ | refine blk_alloc ?_ _)); exact BK280.out) hb)
              have n2_ := Aside0.mk (below_step (by repeat (first | (with_reducible first | exact HB.out | apply below_alloc | apply pw_below_drewN | apply below_drew1 | refine below_set ?_ GE271.out | refine below_set ?_ GE280.out) | exact HB.out)) hb)
              clear BK271
              clear BK280
              clear HB
              have BK271 := n0_
              have BK280 := n1_
              have HB := n2_
              clear n0_ n1_ n2_
              (try clear hb)
              (try clear hb2)
              (try clear hk)
              (try clear hi)
              refine hK.out _ _ ⟨(blk_cell BK271.out 0).trans rfl, (blk_cell BK271.out 1).trans rfl, (blk_cell BK271.out 2).trans rfl, (blk_cell BK271.out 3).trans rfl⟩ (fun hHeld => ?_)
              clear hK K
              refine norm_ (a' := ?_) ?_ ?_
              rotate_left
              · show Act.put _ (some 26) _ = _
                simp only [Act.put, List.setIfInBounds_toArray, List.set_cons_zero, List.set_cons_succ, i64_w, i32_w]
                rfl
              exact norm_ (by simp only [putAll, Act.put, List.setIfInBounds_toArray, List.set_cons_zero, List.set_cons_succ]) (hCont (gb280) _ ⟨hHeld, (by (with_reducible repeat (first | refine blk_drewN ?_ _ | refine blk_drew ?_ | refine blk_alloc ?_ _)); exact BK271.out), (by (with_reducible repeat (first | refine blk_drewN ?_ _ | refine blk_drew ?_ | refine blk_alloc ?_ _)); exact BK280.out), GW280.out, GE280.out, NB271_280.out, NB280_271.out, (by repeat (first | (with_reducible first | exact HB.out | apply below_alloc | apply pw_below_drewN | apply below_drew1 | refine below_set ?_ GE271.out | refine below_set ?_ GE280.out) | exact HB.out))⟩)
          · skip
            refine box_step ?hg (N := 8) ?hd (cs := #[.int .i64 0, .int .i64 0, .int .i64 0, .int .i64 0]) (t := 114) ?hr ?_; (case hd => rfl); (case hg => rfl); (case hr => first | (go_simp; done) | (go_simp; rfl))
            intro gb280 hg w19 hbox hb
            have n0_ := Aside0.mk (blk_below (g := gb271) (o := .cells #[.int .i64 a0_0, .int .i64 a0_1, .int .i64 a0_2, .slice A0_3 l0_3.length c0_3] 45 (0, 0)) (by (with_reducible repeat (first | refine blk_drewN ?_ _ | refine blk_drew ?_ | refine blk_alloc ?_ _)); exact BK271.out) hb)
            have n1_ := Aside0.mk (below_step (by repeat (first | (with_reducible first | exact HB.out | apply below_alloc | apply pw_below_drewN | apply below_drew1 | refine below_set ?_ GE271.out) | exact HB.out)) hb)
            have n2_ := Aside0.mk (hbox)
            have n3_ := Aside0.mk ((by rw [hg]; exact (below_size (by repeat (first | (with_reducible first | exact HB.out | apply below_alloc | apply pw_below_drewN | apply below_drew1 | refine below_set ?_ GE271.out) | exact HB.out))) : w.heap.size ≤ gb280))
            have n4_ := Aside0.mk ((by rw [hg]; exact (below_size (by repeat (first | (with_reducible first | exact HB.out | apply below_alloc | apply pw_below_drewN | apply below_drew1 | refine below_set ?_ GE271.out) | exact HB.out))) : w.heap.size ≤ gb280))
            have n5_ := Aside0.mk ((by rw [hg]; exact Nat.ne_of_lt (blk_lt (g := gb271) (o := .cells #[.int .i64 a0_0, .int .i64 a0_1, .int .i64 a0_2, .slice A0_3 l0_3.length c0_3] 45 (0, 0)) (by (with_reducible repeat (first | refine blk_drewN ?_ _ | refine blk_drew ?_ | refine blk_alloc ?_ _)); exact BK271.out)) : gb271 ≠ gb280))
            have n6_ := Aside0.mk ((by rw [hg]; exact Nat.ne_of_gt (blk_lt (g := gb271) (o := .cells #[.int .i64 a0_0, .int .i64 a0_1, .int .i64 a0_2, .slice A0_3 l0_3.length c0_3] 45 (0, 0)) (by (with_reducible repeat (first | refine blk_drewN ?_ _ | refine blk_drew ?_ | refine blk_alloc ?_ _)); exact BK271.out)) : gb280 ≠ gb271))
            clear BK271
            clear HB
            have BK271 := n0_
            have HB := n1_
            have BK280 := n2_
            have GW280 := n3_
            have GE280 := n4_
            have NB271_280 := n5_
            have NB280_271 := n6_
            clear n0_ n1_ n2_ n3_ n4_ n5_ n6_
            clear hb hbox hg
            refine hK.out _ _ ⟨(blk_cell BK271.out 0).trans rfl, (blk_cell BK271.out 1).trans rfl, (blk_cell BK271.out 2).trans rfl, (blk_cell BK271.out 3).trans rfl⟩ (fun hHeld => ?_)
            clear hK K
            refine norm_ (a' := ?_) ?_ ?_
            rotate_left
            · show Act.put _ (some 8) _ = _
              simp only [Act.put, List.setIfInBounds_toArray, List.set_cons_zero, List.set_cons_succ, i64_w, i32_w]
              rfl
            refine one_ (i := 4) (N := some 25) #[true, true, true, true, true, false, true, false] rfl rfl (one_of HT_.out (by kernel_rfl)) (by decide) (fun K hK => ?_)
            refine goes_ Tryd.func58 (by kernel_rfl) rfl #[.int .i64 a2] (by rfl) rfl rfl (by (try simp only [List.map_toArray, List.map_cons, List.map_nil]); first | done | rfl | (simp only [List.length_drop, List.length_take]; rfl)) ?_
            with_reducible refine (fix_Whole.calls a2 t275 _ A9.out).mono ?_
            rintro e w' ⟨rfl, ⟨nd, rfl⟩⟩
            refine ⟨_, rfl, ?_⟩
            refine hK.out _ _ ⟨(blk_cell BK271.out 0).trans rfl, (blk_cell BK271.out 1).trans rfl, (blk_cell BK271.out 2).trans rfl, (blk_cell BK271.out 3).trans rfl⟩ (fun hHeld => ?_)
            clear hK K
            refine norm_ (a' := ?_) ?_ ?_
            rotate_left
            · show Act.put _ (some 25) _ = _
              simp only [Act.put, List.setIfInBounds_toArray, List.set_cons_zero, List.set_cons_succ, i64_w, i32_w]
              rfl
            refine one_ (i := 5) (N := some 26) #[true, true, true, true, true, true, true, false] rfl rfl (one_of HT_.out (by kernel_rfl)) (by decide) (fun K hK => ?_)
            refine goes_ Tryd.func89 (by kernel_rfl) rfl #[.agg #[.int .i64 a0_0, .int .i64 a0_1, .int .i64 a0_2, .slice A0_3 l0_3.length c0_3], .int .i64 t274, .int .i64 t275] (by rfl) rfl rfl (by (try simp only [List.map_toArray, List.map_cons, List.map_nil]); first | done | rfl | (simp only [List.length_drop, List.length_take]; rfl)) ?_
            with_reducible refine (relief_corners.calls a0_0 a0_1 a0_2 _ _ l0_3 t274 t275 t276 t277 t278 t279 _ ?side1 ?side2 A10.out).mono ?_
            (case side1 => repeat (first | exact (Kd.C_below HR0_3.out (by repeat (first | (with_reducible first | exact HB.out | apply below_alloc | apply pw_below_drewN | apply below_drew1 | refine below_set ?_ GE271.out | refine below_set ?_ GE280.out) | exact HB.out))) | (with_reducible refine Kd.C_alloc ?_ _) | (with_reducible refine Kd.C_drewN ?_ _) | (with_reducible refine Kd.C_drew ?_)))
            (case side2 => exact HC0_3.out)
            rintro e w20 ⟨rfl, hb⟩
            refine ⟨_, rfl, ?_⟩
            have n0_ := Aside0.mk (blk_below (g := gb271) (o := .cells #[.int .i64 a0_0, .int .i64 a0_1, .int .i64 a0_2, .slice A0_3 l0_3.length c0_3] 45 (0, 0)) (by (with_reducible repeat (first | refine blk_drewN ?_ _ | refine blk_drew ?_ | refine blk_alloc ?_ _)); exact BK271.out) hb)
            have n1_ := Aside0.mk (blk_below (g := gb280) (o := .cells #[.int .i64 0, .int .i64 0, .int .i64 0, .int .i64 0] 114 (0, 0)) (by (with_reducible repeat (first | refine blk_drewN ?_ _ | refine blk_drew ?_ | refine blk_alloc ?_ _)); exact BK280.out) hb)
            have n2_ := Aside0.mk (below_step (by repeat (first | (with_reducible first | exact HB.out | apply below_alloc | apply pw_below_drewN | apply below_drew1 | refine below_set ?_ GE271.out | refine below_set ?_ GE280.out) | exact HB.out)) hb)
            clear BK271
            clear BK280
            clear HB
            have BK271 := n0_
            have BK280 := n1_
            have HB := n2_
            clear n0_ n1_ n2_
            (try clear hb)
            (try clear hb2)
            (try clear hk)
            (try clear hi)
            refine hK.out _ _ ⟨(blk_cell BK271.out 0).trans rfl, (blk_cell BK271.out 1).trans rfl, (blk_cell BK271.out 2).trans rfl, (blk_cell BK271.out 3).trans rfl⟩ (fun hHeld => ?_)
            clear hK K
            refine norm_ (a' := ?_) ?_ ?_
            rotate_left
            · show Act.put _ (some 26) _ = _
              simp only [Act.put, List.setIfInBounds_toArray, List.set_cons_zero, List.set_cons_succ, i64_w, i32_w]
              rfl
            exact norm_ (by simp only [putAll, Act.put, List.setIfInBounds_toArray, List.set_cons_zero, List.set_cons_succ]) (hCont (gb280) _ ⟨hHeld, (by (with_reducible repeat (first | refine blk_drewN ?_ _ | refine blk_drew ?_ | refine blk_alloc ?_ _)); exact BK271.out), (by (with_reducible repeat (first | refine blk_drewN ?_ _ | refine blk_drew ?_ | refine blk_alloc ?_ _)); exact BK280.out), GW280.out, GE280.out, NB271_280.out, NB280_271.out, (by repeat (first | (with_reducible first | exact HB.out | apply below_alloc | apply pw_below_drewN | apply below_drew1 | refine below_set ?_ GE271.out | refine below_set ?_ GE280.out) | exact HB.out))⟩)
        · skip
          refine box_step ?hg (N := 8) ?hd (cs := #[.int .i64 0, .int .i64 0, .int .i64 0, .int .i64 0]) (t := 114) ?hr ?_; (case hd => rfl); (case hg => rfl); (case hr => first | (go_simp; done) | (go_simp; rfl))
          intro gb280 hg w19 hbox hb
          have n0_ := Aside0.mk (blk_below (g := gb271) (o := .cells #[.int .i64 a0_0, .int .i64 a0_1, .int .i64 a0_2, .slice A0_3 l0_3.length c0_3] 45 (0, 0)) (by (with_reducible repeat (first | refine blk_drewN ?_ _ | refine blk_drew ?_ | refine blk_alloc ?_ _)); exact BK271.out) hb)
          have n1_ := Aside0.mk (below_step (by repeat (first | (with_reducible first | exact HB.out | apply below_alloc | apply pw_below_drewN | apply below_drew1 | refine below_set ?_ GE271.out) | exact HB.out)) hb)
          have n2_ := Aside0.mk (hbox)
          have n3_ := Aside0.mk ((by rw [hg]; exact (below_size (by repeat (first | (with_reducible first | exact HB.out | apply below_alloc | apply pw_below_drewN | apply below_drew1 | refine below_set ?_ GE271.out) | exact HB.out))) : w.heap.size ≤ gb280))
          have n4_ := Aside0.mk ((by rw [hg]; exact (below_size (by repeat (first | (with_reducible first | exact HB.out | apply below_alloc | apply pw_below_drewN | apply below_drew1 | refine below_set ?_ GE271.out) | exact HB.out))) : w.heap.size ≤ gb280))
          have n5_ := Aside0.mk ((by rw [hg]; exact Nat.ne_of_lt (blk_lt (g := gb271) (o := .cells #[.int .i64 a0_0, .int .i64 a0_1, .int .i64 a0_2, .slice A0_3 l0_3.length c0_3] 45 (0, 0)) (by (with_reducible repeat (first | refine blk_drewN ?_ _ | refine blk_drew ?_ | refine blk_alloc ?_ _)); exact BK271.out)) : gb271 ≠ gb280))
          have n6_ := Aside0.mk ((by rw [hg]; exact Nat.ne_of_gt (blk_lt (g := gb271) (o := .cells #[.int .i64 a0_0, .int .i64 a0_1, .int .i64 a0_2, .slice A0_3 l0_3.length c0_3] 45 (0, 0)) (by (with_reducible repeat (first | refine blk_drewN ?_ _ | refine blk_drew ?_ | refine blk_alloc ?_ _)); exact BK271.out)) : gb280 ≠ gb271))
          clear BK271
          clear HB
          have BK271 := n0_
          have HB := n1_
          have BK280 := n2_
          have GW280 := n3_
          have GE280 := n4_
          have NB271_280 := n5_
          have NB280_271 := n6_
          clear n0_ n1_ n2_ n3_ n4_ n5_ n6_
          clear hb hbox hg
          refine hK.out _ _ ⟨(blk_cell BK271.out 0).trans rfl, (blk_cell BK271.out 1).trans rfl, (blk_cell BK271.out 2).trans rfl, (blk_cell BK271.out 3).trans rfl⟩ (fun hHeld => ?_)
          clear hK K
          refine norm_ (a' := ?_) ?_ ?_
          rotate_left
          · show Act.put _ (some 8) _ = _
            simp only [Act.put, List.setIfInBounds_toArray, List.set_cons_zero, List.set_cons_succ, i64_w, i32_w]
            rfl
          refine one_ (i := 2) (N := some 23) #[true, true, true, true, false, false, true, false] rfl rfl (one_of HT_.out (by kernel_rfl)) (by decide) (fun K hK => ?_)
          refine goes_ Tryd.func58 (by kernel_rfl) rfl #[.int .i64 a1] (by rfl) rfl rfl (by (try simp only [List.map_toArray, List.map_cons, List.map_nil]); first | done | rfl | (simp only [List.length_drop, List.length_take]; rfl)) ?_
          with_reducible refine (fix_Whole.calls a1 t274 _ A8.out).mono ?_
          rintro e w' ⟨rfl, ⟨nd, rfl⟩⟩
          refine ⟨_, rfl, ?_⟩
          refine hK.out _ _ ⟨(blk_cell BK271.out 0).trans rfl, (blk_cell BK271.out 1).trans rfl, (blk_cell BK271.out 2).trans rfl, (blk_cell BK271.out 3).trans rfl⟩ (fun hHeld => ?_)
          clear hK K
          refine norm_ (a' := ?_) ?_ ?_
          rotate_left
          · show Act.put _ (some 23) _ = _
            simp only [Act.put, List.setIfInBounds_toArray, List.set_cons_zero, List.set_cons_succ, i64_w, i32_w]
            rfl
          refine one_ (i := 4) (N := some 25) #[true, true, true, true, true, false, true, false] rfl rfl (one_of HT_.out (by kernel_rfl)) (by decide) (fun K hK => ?_)
          refine goes_ Tryd.func58 (by kernel_rfl) rfl #[.int .i64 a2] (by rfl) rfl rfl (by (try simp only [List.map_toArray, List.map_cons, List.map_nil]); first | done | rfl | (simp only [List.length_drop, List.length_take]; rfl)) ?_
          with_reducible refine (fix_Whole.calls a2 t275 _ A9.out).mono ?_
          rintro e w' ⟨rfl, ⟨nd, rfl⟩⟩
          refine ⟨_, rfl, ?_⟩
          refine hK.out _ _ ⟨(blk_cell BK271.out 0).trans rfl, (blk_cell BK271.out 1).trans rfl, (blk_cell BK271.out 2).trans rfl, (blk_cell BK271.out 3).trans rfl⟩ (fun hHeld => ?_)
          clear hK K
          refine norm_ (a' := ?_) ?_ ?_
          rotate_left
          · show Act.put _ (some 25) _ = _
            simp only [Act.put, List.setIfInBounds_toArray, List.set_cons_zero, List.set_cons_succ, i64_w, i32_w]
            rfl
          refine one_ (i := 5) (N := some 26) #[true, true, true, true, true, true, true, false] rfl rfl (one_of HT_.out (by kernel_rfl)) (by decide) (fun K hK => ?_)
          refine goes_ Tryd.func89 (by kernel_rfl) rfl #[.agg #[.int .i64 a0_0, .int .i64 a0_1, .int .i64 a0_2, .slice A0_3 l0_3.length c0_3], .int .i64 t274, .int .i64 t275] (by rfl) rfl rfl (by (try simp only [List.map_toArray, List.map_cons, List.map_nil]); first | done | rfl | (simp only [List.length_drop, List.length_take]; rfl)) ?_
          with_reducible refine (relief_corners.calls a0_0 a0_1 a0_2 _ _ l0_3 t274 t275 t276 t277 t278 t279 _ ?side1 ?side2 A10.out).mono ?_
          (case side1 => repeat (first | exact (Kd.C_below HR0_3.out (by repeat (first | (with_reducible first | exact HB.out | apply below_alloc | apply pw_below_drewN | apply below_drew1 | refine below_set ?_ GE271.out | refine below_set ?_ GE280.out) | exact HB.out))) | (with_reducible refine Kd.C_alloc ?_ _) | (with_reducible refine Kd.C_drewN ?_ _) | (with_reducible refine Kd.C_drew ?_)))
          (case side2 => exact HC0_3.out)
          rintro e w20 ⟨rfl, hb⟩
          refine ⟨_, rfl, ?_⟩
          have n0_ := Aside0.mk (blk_below (g := gb271) (o := .cells #[.int .i64 a0_0, .int .i64 a0_1, .int .i64 a0_2, .slice A0_3 l0_3.length c0_3] 45 (0, 0)) (by (with_reducible repeat (first | refine blk_drewN ?_ _ | refine blk_drew ?_ | refine blk_alloc ?_ _)); exact BK271.out) hb)
          have n1_ := Aside0.mk (blk_below (g := gb280) (o := .cells #[.int .i64 0, .int .i64 0, .int .i64 0, .int .i64 0] 114 (0, 0)) (by (with_reducible repeat (first | refine blk_drewN ?_ _ | refine blk_drew ?_ | refine blk_alloc ?_ _)); exact BK280.out) hb)
          have n2_ := Aside0.mk (below_step (by repeat (first | (with_reducible first | exact HB.out | apply below_alloc | apply pw_below_drewN | apply below_drew1 | refine below_set ?_ GE271.out | refine below_set ?_ GE280.out) | exact HB.out)) hb)
          clear BK271
          clear BK280
          clear HB
          have BK271 := n0_
          have BK280 := n1_
          have HB := n2_
          clear n0_ n1_ n2_
          (try clear hb)
          (try clear hb2)
          (try clear hk)
          (try clear hi)
          refine hK.out _ _ ⟨(blk_cell BK271.out 0).trans rfl, (blk_cell BK271.out 1).trans rfl, (blk_cell BK271.out 2).trans rfl, (blk_cell BK271.out 3).trans rfl⟩ (fun hHeld => ?_)
          clear hK K
          refine norm_ (a' := ?_) ?_ ?_
          rotate_left
          · show Act.put _ (some 26) _ = _
            simp only [Act.put, List.setIfInBounds_toArray, List.set_cons_zero, List.set_cons_succ, i64_w, i32_w]
            rfl
          exact norm_ (by simp only [putAll, Act.put, List.setIfInBounds_toArray, List.set_cons_zero, List.set_cons_succ]) (hCont (gb280) _ ⟨hHeld, (by (with_reducible repeat (first | refine blk_drewN ?_ _ | refine blk_drew ?_ | refine blk_alloc ?_ _)); exact BK271.out), (by (with_reducible repeat (first | refine blk_drewN ?_ _ | refine blk_drew ?_ | refine blk_alloc ?_ _)); exact BK280.out), GW280.out, GE280.out, NB271_280.out, NB280_271.out, (by repeat (first | (with_reducible first | exact HB.out | apply below_alloc | apply pw_below_drewN | apply below_drew1 | refine below_set ?_ GE271.out | refine below_set ?_ GE280.out) | exact HB.out))⟩)
      rintro gb280 w21 ⟨hS_, h0_, h1_, h2_, h3_, h4_, h5_, h6_⟩
      have n0_ : Aside0 (w21.heap[gb271]? = some (.cells #[.int .i64 a0_0, .int .i64 a0_1, .int .i64 a0_2, .slice A0_3 l0_3.length c0_3] 45 (0, 0))) := ⟨h0_⟩
      have n1_ : Aside0 (w21.heap[gb280]? = some (.cells #[.int .i64 0, .int .i64 0, .int .i64 0, .int .i64 0] 114 (0, 0))) := ⟨h1_⟩
      have n2_ : Aside0 (w.heap.size ≤ gb280) := ⟨h2_⟩
      have n3_ : Aside0 (w.heap.size ≤ gb280) := ⟨h3_⟩
      have n4_ : Aside0 (gb271 ≠ gb280) := ⟨h4_⟩
      have n5_ : Aside0 (gb280 ≠ gb271) := ⟨h5_⟩
      have n6_ : Aside0 (Below w.heap.size w w21) := ⟨h6_⟩
      clear BK271
      clear HB
      clear h0_ h1_ h2_ h3_ h4_ h5_ h6_
      have BK271 := n0_
      have BK280 := n1_
      have GW280 := n2_
      have GE280 := n3_
      have NB271_280 := n4_
      have NB280_271 := n5_
      have HB := n6_
      clear n0_ n1_ n2_ n3_ n4_ n5_ n6_
      have hHeld : w21.cell? ⟨gb271, 0, none⟩ = some (.int .i64 a0_0) ∧ w21.cell? ⟨gb271, 1, none⟩ = some (.int .i64 a0_1) ∧ w21.cell? ⟨gb271, 2, none⟩ = some (.int .i64 a0_2) ∧ w21.cell? ⟨gb271, 3, none⟩ = some (.slice A0_3 l0_3.length c0_3) := hS_
      refine norm_ (a' := ?_) ?_ ?_
      rotate_left
      · simp only [putAll, Act.put, List.setIfInBounds_toArray, List.set_cons_zero, List.set_cons_succ]
        rfl
      refine one_ (i := 7) (N := none) #[true, true, true, true, true, true, true, true] rfl rfl (one_of HT_.out (by kernel_rfl)) (by decide) (fun K hK => ?_)
      have hs22 : w21.cell? ⟨gb280, 0, none⟩ = some (.int .i64 0) := (blk_cell BK280.out 0).trans rfl
      have hfs22 := blk_frozen BK280.out 0
      have hns22_0 := NB271_280.out
      have hms22_0 := NB280_271.out
      have hs23 : w21.cell? ⟨gb280, 1, none⟩ = some (.int .i64 0) := (blk_cell BK280.out 1).trans rfl
      have hfs23 := blk_frozen BK280.out 1
      have hns23_0 := NB271_280.out
      have hms23_0 := NB280_271.out
      have hs24 : w21.cell? ⟨gb280, 2, none⟩ = some (.int .i64 0) := (blk_cell BK280.out 2).trans rfl
      have hfs24 := blk_frozen BK280.out 2
      have hns24_0 := NB271_280.out
      have hms24_0 := NB280_271.out
      have hs25 : w21.cell? ⟨gb280, 3, none⟩ = some (.int .i64 0) := (blk_cell BK280.out 3).trans rfl
      have hfs25 := blk_frozen BK280.out 3
      have hns25_0 := NB271_280.out
      have hms25_0 := NB280_271.out
      refine skip_ (w1 := ?_) (by rfl) rfl ?_ ?_
      rotate_left
      · go_simp
        rfl
      refine hK.out _ _ ⟨((cell_far (p := ⟨gb280, _, none⟩) NB271_280.out _).trans (((cell_far (p := ⟨gb280, _, none⟩) NB271_280.out _).trans (((cell_far (p := ⟨gb280, _, none⟩) NB271_280.out _).trans (((cell_far (p := ⟨gb280, _, none⟩) NB271_280.out _).trans (hHeld.1)))))))), ((cell_far (p := ⟨gb280, _, none⟩) NB271_280.out _).trans (((cell_far (p := ⟨gb280, _, none⟩) NB271_280.out _).trans (((cell_far (p := ⟨gb280, _, none⟩) NB271_280.out _).trans (((cell_far (p := ⟨gb280, _, none⟩) NB271_280.out _).trans (hHeld.2.1)))))))), ((cell_far (p := ⟨gb280, _, none⟩) NB271_280.out _).trans (((cell_far (p := ⟨gb280, _, none⟩) NB271_280.out _).trans (((cell_far (p := ⟨gb280, _, none⟩) NB271_280.out _).trans (((cell_far (p := ⟨gb280, _, none⟩) NB271_280.out _).trans (hHeld.2.2.1)))))))), ((cell_far (p := ⟨gb280, _, none⟩) NB271_280.out _).trans (((cell_far (p := ⟨gb280, _, none⟩) NB271_280.out _).trans (((cell_far (p := ⟨gb280, _, none⟩) NB271_280.out _).trans (((cell_far (p := ⟨gb280, _, none⟩) NB271_280.out _).trans (hHeld.2.2.2))))))))⟩ (fun hHeld => ?_)
      clear hK K
      refine done_ (done_of HT_.out (by kernel_rfl)) ?_
      try go_wp2_with (first | ((with_reducible refine gate_callee (f := 90) rfl ?_); refine goesL_ (some 28) rfl rfl Tryd.func90 (by kernel_rfl) rfl #[.int .i64 a1] rfl (by (try simp only [List.map_toArray, List.map_cons, List.map_nil]); first | done | rfl | (simp only [List.length_drop, List.length_take]; rfl)) ?_; (with_reducible refine (fix_Part.calls a1 t281 _ A11.out).mono ?_); rintro e w' ⟨rfl, ⟨nd, rfl⟩⟩; refine ⟨_, rfl, ?_⟩) | ((with_reducible refine gate_callee (f := 90) rfl ?_); refine goesL_ (some 30) rfl rfl Tryd.func90 (by kernel_rfl) rfl #[.int .i64 a2] rfl (by (try simp only [List.map_toArray, List.map_cons, List.map_nil]); first | done | rfl | (simp only [List.length_drop, List.length_take]; rfl)) ?_; (with_reducible refine (fix_Part.calls a2 t282 _ A12.out).mono ?_); rintro e w' ⟨rfl, ⟨nd, rfl⟩⟩; refine ⟨_, rfl, ?_⟩; have hnb26 := NB280_271.out; have hnc26 := NB271_280.out; have hcz27_0 : w21.cell? ⟨gb280, 0, none⟩ = some (.int .i64 0) := (blk_cell BK280.out 0).trans rfl; have hcz27_1 : w21.cell? ⟨gb280, 1, none⟩ = some (.int .i64 0) := (blk_cell BK280.out 1).trans rfl; have hcz27_2 : w21.cell? ⟨gb280, 2, none⟩ = some (.int .i64 0) := (blk_cell BK280.out 2).trans rfl; have hcz27_3 : w21.cell? ⟨gb280, 3, none⟩ = some (.int .i64 0) := (blk_cell BK280.out 3).trans rfl; have hfz27_0 := blk_frozen BK280.out 0; have hfz27_1 := blk_frozen BK280.out 1; have hfz27_2 := blk_frozen BK280.out 2; have hfz27_3 := blk_frozen BK280.out 3))
      go_ret2
      exact ⟨by first | rfl | (simp [errW_none, errW_some] <;> rfl) | (simp [*, errW_none, errW_some] <;> rfl), by repeat (first | (with_reducible first | exact HB.out | apply below_alloc | apply pw_below_drewN | apply below_drew1 | refine below_set ?_ GE271.out | refine below_set ?_ GE280.out) | exact HB.out)⟩
    · replace c7 := Bool.eq_false_iff.mpr c7
      subst c7
      have H1 : (some (0, 4)) = some (r1, r2) := by rw [if_neg (show ¬ (false = true) by decide)] at H; exact H
      clear H
      have H := H1
      clear H1
      simp only [Option.some.injEq, Prod.mk.injEq] at H
      obtain ⟨rfl, rfl⟩ := H
      go_enter Tryd.func79, Tryd.ntmps79
      go_wp2_with (first | ((with_reducible refine gate_dst (N := 3) rfl ?_); refine box_event ?hg (N := 3) ?hd (cs := #[.int .i64 a0_0, .int .i64 a0_1, .int .i64 a0_2, .slice A0_3 l0_3.length c0_3]) (t := 45) ?hr ?_; (case hd => rfl); (case hg => rfl); (case hr => first | (go_simp; done) | (go_simp; rfl)); intro gb271 hg w28 hbox hb; have n0_ := Aside0.mk (below_step (by repeat (first | (with_reducible first | exact HB.out | apply below_alloc | apply pw_below_drewN | apply below_drew1) | exact HB.out)) hb); have n1_ := Aside0.mk (hbox); have n2_ := Aside0.mk ((by rw [hg]; exact (below_size (by repeat (first | (with_reducible first | exact HB.out | apply below_alloc | apply pw_below_drewN | apply below_drew1) | exact HB.out))) : w.heap.size ≤ gb271)); have n3_ := Aside0.mk ((by rw [hg]; exact (below_size (by repeat (first | (with_reducible first | exact HB.out | apply below_alloc | apply pw_below_drewN | apply below_drew1) | exact HB.out))) : w.heap.size ≤ gb271)); clear HB; have HB := n0_; have BK271 := n1_; have GW271 := n2_; have GE271 := n3_; clear n0_ n1_ n2_ n3_; clear hb hbox hg; have hcz29_0 : w28.cell? ⟨gb271, 0, none⟩ = some (.int .i64 a0_0) := (blk_cell BK271.out 0).trans rfl; have hcz29_1 : w28.cell? ⟨gb271, 1, none⟩ = some (.int .i64 a0_1) := (blk_cell BK271.out 1).trans rfl; have hcz29_2 : w28.cell? ⟨gb271, 2, none⟩ = some (.int .i64 a0_2) := (blk_cell BK271.out 2).trans rfl; have hcz29_3 : w28.cell? ⟨gb271, 3, none⟩ = some (.slice A0_3 l0_3.length c0_3) := (blk_cell BK271.out 3).trans rfl; have hfz29_0 := blk_frozen BK271.out 0; have hfz29_1 := blk_frozen BK271.out 1; have hfz29_2 := blk_frozen BK271.out 2; have hfz29_3 := blk_frozen BK271.out 3) | ((with_reducible refine gate_callee (f := 75) rfl ?_); refine goesL_ (some 14) rfl rfl Tryd.func75 (by kernel_rfl) rfl #[.agg #[.int .i64 a0_0, .int .i64 a0_1, .int .i64 a0_2, .slice A0_3 l0_3.length c0_3]] rfl (by (try simp only [List.map_toArray, List.map_cons, List.map_nil]); first | done | rfl | (simp only [List.length_drop, List.length_take]; rfl)) ?_; (with_reducible refine (relief_Check.calls k a0_0 a0_1 a0_2 _ _ l0_3 t272 _ ?side1 ?side2 A4.out).mono ?_); (case side1 => repeat (first | exact (Kd.C_below HR0_3.out HB.out) | (with_reducible refine Kd.C_alloc ?_ _) | (with_reducible refine Kd.C_drewN ?_ _) | (with_reducible refine Kd.C_drew ?_))); (case side2 => exact HC0_3.out); rintro e w30 ⟨rfl, hb⟩; refine ⟨_, rfl, ?_⟩; have n0_ := Aside0.mk (blk_below (g := gb271) (o := .cells #[.int .i64 a0_0, .int .i64 a0_1, .int .i64 a0_2, .slice A0_3 l0_3.length c0_3] 45 (0, 0)) (by (with_reducible repeat (first | refine blk_drewN ?_ _ | refine blk_drew ?_ | refine blk_alloc ?_ _)); exact BK271.out) hb); have n1_ := Aside0.mk (below_step (by repeat (first | (with_reducible first | exact HB.out | apply below_alloc | apply pw_below_drewN | apply below_drew1 | refine below_set ?_ GE271.out) | exact HB.out)) hb); clear BK271; clear HB; have BK271 := n0_; have HB := n1_; clear n0_ n1_; (try clear hb); (try clear hb2); (try clear hk); (try clear hi); have hcz31_0 : w30.cell? ⟨gb271, 0, none⟩ = some (.int .i64 a0_0) := (blk_cell BK271.out 0).trans rfl; have hcz31_1 : w30.cell? ⟨gb271, 1, none⟩ = some (.int .i64 a0_1) := (blk_cell BK271.out 1).trans rfl; have hcz31_2 : w30.cell? ⟨gb271, 2, none⟩ = some (.int .i64 a0_2) := (blk_cell BK271.out 2).trans rfl; have hcz31_3 : w30.cell? ⟨gb271, 3, none⟩ = some (.slice A0_3 l0_3.length c0_3) := (blk_cell BK271.out 3).trans rfl; have hfz31_0 := blk_frozen BK271.out 0; have hfz31_1 := blk_frozen BK271.out 1; have hfz31_2 := blk_frozen BK271.out 2; have hfz31_3 := blk_frozen BK271.out 3) | ((with_reducible refine gate_callee (f := 55) rfl ?_); refine goesL_ (some 19) rfl rfl Tryd.func55 (by kernel_rfl) rfl #[.agg #[.int .i64 a0_0, .int .i64 a0_1, .int .i64 a0_2, .slice A0_3 l0_3.length c0_3], .int .i64 a1, .int .i64 a2] rfl (by (try simp only [List.map_toArray, List.map_cons, List.map_nil]); first | done | rfl | (simp only [List.length_drop, List.length_take]; rfl)) ?_; (with_reducible refine (relief_On.calls k a0_0 a0_1 a0_2 _ _ l0_3 a1 a2 false _ ?side1 ?side2 A6.out).mono ?_); (case side1 => repeat (first | exact (Kd.C_below HR0_3.out HB.out) | (with_reducible refine Kd.C_alloc ?_ _) | (with_reducible refine Kd.C_drewN ?_ _) | (with_reducible refine Kd.C_drew ?_))); (case side2 => exact HC0_3.out); rintro e w32 ⟨rfl, hb⟩; refine ⟨_, rfl, ?_⟩; have n0_ := Aside0.mk (blk_below (g := gb271) (o := .cells #[.int .i64 a0_0, .int .i64 a0_1, .int .i64 a0_2, .slice A0_3 l0_3.length c0_3] 45 (0, 0)) (by (with_reducible repeat (first | refine blk_drewN ?_ _ | refine blk_drew ?_ | refine blk_alloc ?_ _)); exact BK271.out) hb); have n1_ := Aside0.mk (below_step (by repeat (first | (with_reducible first | exact HB.out | apply below_alloc | apply pw_below_drewN | apply below_drew1 | refine below_set ?_ GE271.out) | exact HB.out)) hb); clear BK271; clear HB; have BK271 := n0_; have HB := n1_; clear n0_ n1_; (try clear hb); (try clear hb2); (try clear hk); (try clear hi)))
      go_ret2
      exact ⟨by first | rfl | (simp [errW_none, errW_some] <;> rfl) | (simp [*, errW_none, errW_some] <;> rfl), by repeat (first | (with_reducible first | exact HB.out | apply below_alloc | apply pw_below_drewN | apply below_drew1 | refine below_set ?_ GE271.out) | exact HB.out)⟩
  · rw [if_neg c5] at H
    have c5b0 : (t272 == 0) = false := beq_eq_false_iff_ne.mpr c5
    have c5b1 : (t272 != 0) = true := bne_iff_ne.mpr c5
    simp only [Option.some.injEq, Prod.mk.injEq] at H
    obtain ⟨rfl, rfl⟩ := H
    go_enter Tryd.func79, Tryd.ntmps79
    go_wp2_with (first | ((with_reducible refine gate_dst (N := 3) rfl ?_); refine box_event ?hg (N := 3) ?hd (cs := #[.int .i64 a0_0, .int .i64 a0_1, .int .i64 a0_2, .slice A0_3 l0_3.length c0_3]) (t := 45) ?hr ?_; (case hd => rfl); (case hg => rfl); (case hr => first | (go_simp; done) | (go_simp; rfl)); intro gb271 hg w33 hbox hb; have n0_ := Aside0.mk (below_step (by repeat (first | (with_reducible first | exact HB.out | apply below_alloc | apply pw_below_drewN | apply below_drew1) | exact HB.out)) hb); have n1_ := Aside0.mk (hbox); have n2_ := Aside0.mk ((by rw [hg]; exact (below_size (by repeat (first | (with_reducible first | exact HB.out | apply below_alloc | apply pw_below_drewN | apply below_drew1) | exact HB.out))) : w.heap.size ≤ gb271)); have n3_ := Aside0.mk ((by rw [hg]; exact (below_size (by repeat (first | (with_reducible first | exact HB.out | apply below_alloc | apply pw_below_drewN | apply below_drew1) | exact HB.out))) : w.heap.size ≤ gb271)); clear HB; have HB := n0_; have BK271 := n1_; have GW271 := n2_; have GE271 := n3_; clear n0_ n1_ n2_ n3_; clear hb hbox hg; have hcz34_0 : w33.cell? ⟨gb271, 0, none⟩ = some (.int .i64 a0_0) := (blk_cell BK271.out 0).trans rfl; have hcz34_1 : w33.cell? ⟨gb271, 1, none⟩ = some (.int .i64 a0_1) := (blk_cell BK271.out 1).trans rfl; have hcz34_2 : w33.cell? ⟨gb271, 2, none⟩ = some (.int .i64 a0_2) := (blk_cell BK271.out 2).trans rfl; have hcz34_3 : w33.cell? ⟨gb271, 3, none⟩ = some (.slice A0_3 l0_3.length c0_3) := (blk_cell BK271.out 3).trans rfl; have hfz34_0 := blk_frozen BK271.out 0; have hfz34_1 := blk_frozen BK271.out 1; have hfz34_2 := blk_frozen BK271.out 2; have hfz34_3 := blk_frozen BK271.out 3) | ((with_reducible refine gate_callee (f := 75) rfl ?_); refine goesL_ (some 14) rfl rfl Tryd.func75 (by kernel_rfl) rfl #[.agg #[.int .i64 a0_0, .int .i64 a0_1, .int .i64 a0_2, .slice A0_3 l0_3.length c0_3]] rfl (by (try simp only [List.map_toArray, List.map_cons, List.map_nil]); first | done | rfl | (simp only [List.length_drop, List.length_take]; rfl)) ?_; (with_reducible refine (relief_Check.calls k a0_0 a0_1 a0_2 _ _ l0_3 t272 _ ?side1 ?side2 A4.out).mono ?_); (case side1 => repeat (first | exact (Kd.C_below HR0_3.out HB.out) | (with_reducible refine Kd.C_alloc ?_ _) | (with_reducible refine Kd.C_drewN ?_ _) | (with_reducible refine Kd.C_drew ?_))); (case side2 => exact HC0_3.out); rintro e w35 ⟨rfl, hb⟩; refine ⟨_, rfl, ?_⟩; have n0_ := Aside0.mk (blk_below (g := gb271) (o := .cells #[.int .i64 a0_0, .int .i64 a0_1, .int .i64 a0_2, .slice A0_3 l0_3.length c0_3] 45 (0, 0)) (by (with_reducible repeat (first | refine blk_drewN ?_ _ | refine blk_drew ?_ | refine blk_alloc ?_ _)); exact BK271.out) hb); have n1_ := Aside0.mk (below_step (by repeat (first | (with_reducible first | exact HB.out | apply below_alloc | apply pw_below_drewN | apply below_drew1 | refine below_set ?_ GE271.out) | exact HB.out)) hb); clear BK271; clear HB; have BK271 := n0_; have HB := n1_; clear n0_ n1_; (try clear hb); (try clear hb2); (try clear hk); (try clear hi)))
    go_ret2
    exact ⟨by first | rfl | (simp [errW_none, errW_some] <;> rfl) | (simp [*, errW_none, errW_some] <;> rfl), by repeat (first | (with_reducible first | exact HB.out | apply below_alloc | apply pw_below_drewN | apply below_drew1 | refine below_set ?_ GE271.out) | exact HB.out)⟩
noncomputable def shot_How.f (k : Nat) (a0_0 : Int) (a0_1 : Int) (a0_2 : Int) (l0_3 : List Int) (a1_0 : Int) (a1_1 : Int) (a1_2 : Int) (a1_3 : Int) (a1_4 : Int) (a1_5 : Int) : Option (Int × Int) := (relief_Height.f k a0_0 a0_1 a0_2 l0_3 a1_0 a1_1).bind fun bt285 => (if bt285.2 = 1 then (some (0, bt285.2)) else (if bt285.2 = 4 then (some (3, 0)) else (if a1_2 > (mx bt285.1 (wrap64 (a0_2 * 65536))) then (some (0, 0)) else (if bt285.1 ≥ (wrap64 (a0_2 * 65536)) then (some (1, 0)) else (some (2, 0))))))
theorem shot_How.mono : ∀ a0 a1 a2 a3 a4 a5 a6 a7 a8 a9 k, LeO (shot_How.f k a0 a1 a2 a3 a4 a5 a6 a7 a8 a9) (shot_How.f (k + 1) a0 a1 a2 a3 a4 a5 a6 a7 a8 a9) := by
  intro a0 a1 a2 a3 a4 a5 a6 a7 a8 a9 k
  unfold shot_How.f
  repeat' first
      | (with_reducible exact relief_Height.mono _ _ _ _ _ _ _)
      | (with_reducible exact LeO.refl _)
      | (with_reducible exact LeO.none _)
      | (with_reducible refine LeO.ite ?_ ?_)
      | (with_reducible refine LeO.bind ?_ (fun _ => ?_))
      | exact relief_Height.mono _ _ _ _ _ _ _
      | exact LeO.none _
      | refine LeO.ite ?_ ?_
      | refine LeO.bind ?_ (fun _ => ?_)
set_option maxHeartbeats 8000000 in
set_option maxRecDepth 100000 in
theorem shot_How.calls (k : Nat) (a0_0 : Int) (a0_1 : Int) (a0_2 : Int) (A0_3 : Option Addr) (c0_3 : Nat) (l0_3 : List Int) (a1_0 : Int) (a1_1 : Int) (a1_2 : Int) (a1_3 : Int) (a1_4 : Int) (a1_5 : Int) (r1 : Int) (r2 : Int) (w : World) (hr0_3 : Kd.C (Kd.int .u8) w A0_3 l0_3.length l0_3) (hc0_3 : l0_3.length ≤ c0_3) (h : shot_How.f k a0_0 a0_1 a0_2 l0_3 a1_0 a1_1 a1_2 a1_3 a1_4 a1_5 = some (r1, r2)) :
    Calls Tryd.prog 64 #[.agg #[.int .i64 a0_0, .int .i64 a0_1, .int .i64 a0_2, .slice A0_3 l0_3.length c0_3], .agg #[.int .i64 a1_0, .int .i64 a1_1, .int .i64 a1_2, .int .i64 a1_3, .int .i64 a1_4, .int .i64 a1_5]] w fun e w' => e = .returned (.tuple #[.int .i64 r1, .int .i64 r2]) ∧ Below w.heap.size w w' := by
  have hu45 := Tryd.underlying45
  have hu47 := Tryd.underlying47
  have HR0_3 := Aside0.mk hr0_3
  have HC0_3 := Aside0.mk hc0_3
  clear hr0_3 hc0_3
  have HB := Aside0.mk (Below.refl w.heap.size w)
  have H : ((relief_Height.f k a0_0 a0_1 a0_2 l0_3 a1_0 a1_1).bind fun bt285 => (if bt285.2 = 1 then (some (0, bt285.2)) else (if bt285.2 = 4 then (some (3, 0)) else (if a1_2 > (mx bt285.1 (wrap64 (a0_2 * 65536))) then (some (0, 0)) else (if bt285.1 ≥ (wrap64 (a0_2 * 65536)) then (some (1, 0)) else (some (2, 0))))))) = some (r1, r2) := h
  clear h
  replace H := Option.bind_eq_some_iff.mp H
  obtain ⟨⟨t285, t286⟩, A30, H⟩ := H
  replace H : (if t286 = 1 then (some (0, t286)) else (if t286 = 4 then (some (3, 0)) else (if a1_2 > (mx t285 (wrap64 (a0_2 * 65536))) then (some (0, 0)) else (if t285 ≥ (wrap64 (a0_2 * 65536)) then (some (1, 0)) else (some (2, 0)))))) = some (r1, r2) := H
  have A3 := Aside0.mk A30
  clear A30
  by_cases c4 : t286 = 1
  · rw [if_pos c4] at H
    have c4b0 : (t286 == 1) = true := beq_iff_eq.mpr c4
    have c4b1 : (t286 != 1) = false := bne_eq_false_iff_eq.mpr c4
    clear c4
    simp only [Option.some.injEq, Prod.mk.injEq] at H
    obtain ⟨rfl, rfl⟩ := H
    go_enter Tryd.func64, Tryd.ntmps64
    go_wp2_with (first | ((with_reducible refine gate_dst (N := 2) rfl ?_); refine box_event ?hg (N := 2) ?hd (cs := #[.int .i64 a0_0, .int .i64 a0_1, .int .i64 a0_2, .slice A0_3 l0_3.length c0_3]) (t := 45) ?hr ?_; (case hd => rfl); (case hg => rfl); (case hr => first | (go_simp; done) | (go_simp; rfl)); intro gb283 hg w5 hbox hb; have n0_ := Aside0.mk (below_step (by repeat (first | (with_reducible first | exact HB.out | apply below_alloc | apply pw_below_drewN | apply below_drew1) | exact HB.out)) hb); have n1_ := Aside0.mk (hbox); have n2_ := Aside0.mk ((by rw [hg]; exact (below_size (by repeat (first | (with_reducible first | exact HB.out | apply below_alloc | apply pw_below_drewN | apply below_drew1) | exact HB.out))) : w.heap.size ≤ gb283)); have n3_ := Aside0.mk ((by rw [hg]; exact (below_size (by repeat (first | (with_reducible first | exact HB.out | apply below_alloc | apply pw_below_drewN | apply below_drew1) | exact HB.out))) : w.heap.size ≤ gb283)); clear HB; have HB := n0_; have BK283 := n1_; have GW283 := n2_; have GE283 := n3_; clear n0_ n1_ n2_ n3_; clear hb hbox hg) | ((with_reducible refine gate_dst (N := 3) rfl ?_); refine box_event ?hg (N := 3) ?hd (cs := #[.int .i64 a1_0, .int .i64 a1_1, .int .i64 a1_2, .int .i64 a1_3, .int .i64 a1_4, .int .i64 a1_5]) (t := 47) ?hr ?_; (case hd => rfl); (case hg => rfl); (case hr => first | (go_simp; done) | (go_simp; rfl)); intro gb284 hg w6 hbox hb; have n0_ := Aside0.mk (blk_below (g := gb283) (o := .cells #[.int .i64 a0_0, .int .i64 a0_1, .int .i64 a0_2, .slice A0_3 l0_3.length c0_3] 45 (0, 0)) (by (with_reducible repeat (first | refine blk_drewN ?_ _ | refine blk_drew ?_ | refine blk_alloc ?_ _)); exact BK283.out) hb); have n1_ := Aside0.mk (below_step (by repeat (first | (with_reducible first | exact HB.out | apply below_alloc | apply pw_below_drewN | apply below_drew1 | refine below_set ?_ GE283.out) | exact HB.out)) hb); have n2_ := Aside0.mk (hbox); have n3_ := Aside0.mk ((by rw [hg]; exact (below_size (by repeat (first | (with_reducible first | exact HB.out | apply below_alloc | apply pw_below_drewN | apply below_drew1 | refine below_set ?_ GE283.out) | exact HB.out))) : w.heap.size ≤ gb284)); have n4_ := Aside0.mk ((by rw [hg]; exact (below_size (by repeat (first | (with_reducible first | exact HB.out | apply below_alloc | apply pw_below_drewN | apply below_drew1 | refine below_set ?_ GE283.out) | exact HB.out))) : w.heap.size ≤ gb284)); have n5_ := Aside0.mk ((by rw [hg]; exact Nat.ne_of_lt (blk_lt (g := gb283) (o := .cells #[.int .i64 a0_0, .int .i64 a0_1, .int .i64 a0_2, .slice A0_3 l0_3.length c0_3] 45 (0, 0)) (by (with_reducible repeat (first | refine blk_drewN ?_ _ | refine blk_drew ?_ | refine blk_alloc ?_ _)); exact BK283.out)) : gb283 ≠ gb284)); have n6_ := Aside0.mk ((by rw [hg]; exact Nat.ne_of_gt (blk_lt (g := gb283) (o := .cells #[.int .i64 a0_0, .int .i64 a0_1, .int .i64 a0_2, .slice A0_3 l0_3.length c0_3] 45 (0, 0)) (by (with_reducible repeat (first | refine blk_drewN ?_ _ | refine blk_drew ?_ | refine blk_alloc ?_ _)); exact BK283.out)) : gb284 ≠ gb283)); clear BK283; clear HB; have BK283 := n0_; have HB := n1_; have BK284 := n2_; have GW284 := n3_; have GE284 := n4_; have NB283_284 := n5_; have NB284_283 := n6_; clear n0_ n1_ n2_ n3_ n4_ n5_ n6_; clear hb hbox hg; have hnb7 := NB283_284.out; have hnc7 := NB284_283.out; have hcz8_0 : w6.cell? ⟨gb283, 0, none⟩ = some (.int .i64 a0_0) := (blk_cell BK283.out 0).trans rfl; have hcz8_1 : w6.cell? ⟨gb283, 1, none⟩ = some (.int .i64 a0_1) := (blk_cell BK283.out 1).trans rfl; have hcz8_2 : w6.cell? ⟨gb283, 2, none⟩ = some (.int .i64 a0_2) := (blk_cell BK283.out 2).trans rfl; have hcz8_3 : w6.cell? ⟨gb283, 3, none⟩ = some (.slice A0_3 l0_3.length c0_3) := (blk_cell BK283.out 3).trans rfl; have hfz8_0 := blk_frozen BK283.out 0; have hfz8_1 := blk_frozen BK283.out 1; have hfz8_2 := blk_frozen BK283.out 2; have hfz8_3 := blk_frozen BK283.out 3; have hcz9_0 : w6.cell? ⟨gb284, 0, none⟩ = some (.int .i64 a1_0) := (blk_cell BK284.out 0).trans rfl; have hcz9_1 : w6.cell? ⟨gb284, 1, none⟩ = some (.int .i64 a1_1) := (blk_cell BK284.out 1).trans rfl; have hcz9_2 : w6.cell? ⟨gb284, 2, none⟩ = some (.int .i64 a1_2) := (blk_cell BK284.out 2).trans rfl; have hcz9_3 : w6.cell? ⟨gb284, 3, none⟩ = some (.int .i64 a1_3) := (blk_cell BK284.out 3).trans rfl; have hcz9_4 : w6.cell? ⟨gb284, 4, none⟩ = some (.int .i64 a1_4) := (blk_cell BK284.out 4).trans rfl; have hcz9_5 : w6.cell? ⟨gb284, 5, none⟩ = some (.int .i64 a1_5) := (blk_cell BK284.out 5).trans rfl; have hfz9_0 := blk_frozen BK284.out 0; have hfz9_1 := blk_frozen BK284.out 1; have hfz9_2 := blk_frozen BK284.out 2; have hfz9_3 := blk_frozen BK284.out 3; have hfz9_4 := blk_frozen BK284.out 4; have hfz9_5 := blk_frozen BK284.out 5) | ((with_reducible refine gate_callee (f := 79) rfl ?_); refine goesL_ (some 15) rfl rfl Tryd.func79 (by kernel_rfl) rfl #[.agg #[.int .i64 a0_0, .int .i64 a0_1, .int .i64 a0_2, .slice A0_3 l0_3.length c0_3], .int .i64 a1_0, .int .i64 a1_1] rfl (by (try simp only [List.map_toArray, List.map_cons, List.map_nil]); first | done | rfl | (simp only [List.length_drop, List.length_take]; rfl)) ?_; (with_reducible refine (relief_Height.calls k a0_0 a0_1 a0_2 _ _ l0_3 a1_0 a1_1 t285 t286 _ ?side1 ?side2 A3.out).mono ?_); (case side1 => repeat (first | exact (Kd.C_below HR0_3.out HB.out) | (with_reducible refine Kd.C_alloc ?_ _) | (with_reducible refine Kd.C_drewN ?_ _) | (with_reducible refine Kd.C_drew ?_))); (case side2 => exact HC0_3.out); rintro e w10 ⟨rfl, hb⟩; refine ⟨_, rfl, ?_⟩; have n0_ := Aside0.mk (blk_below (g := gb283) (o := .cells #[.int .i64 a0_0, .int .i64 a0_1, .int .i64 a0_2, .slice A0_3 l0_3.length c0_3] 45 (0, 0)) (by (with_reducible repeat (first | refine blk_drewN ?_ _ | refine blk_drew ?_ | refine blk_alloc ?_ _)); exact BK283.out) hb); have n1_ := Aside0.mk (blk_below (g := gb284) (o := .cells #[.int .i64 a1_0, .int .i64 a1_1, .int .i64 a1_2, .int .i64 a1_3, .int .i64 a1_4, .int .i64 a1_5] 47 (0, 0)) (by (with_reducible repeat (first | refine blk_drewN ?_ _ | refine blk_drew ?_ | refine blk_alloc ?_ _)); exact BK284.out) hb); have n2_ := Aside0.mk (below_step (by repeat (first | (with_reducible first | exact HB.out | apply below_alloc | apply pw_below_drewN | apply below_drew1 | refine below_set ?_ GE283.out | refine below_set ?_ GE284.out) | exact HB.out)) hb); clear BK283; clear BK284; clear HB; have BK283 := n0_; have BK284 := n1_; have HB := n2_; clear n0_ n1_ n2_; (try clear hb); (try clear hb2); (try clear hk); (try clear hi)))
    go_ret2
    exact ⟨by first | rfl | (simp [errW_none, errW_some] <;> rfl) | (simp [*, errW_none, errW_some] <;> rfl), by repeat (first | (with_reducible first | exact HB.out | apply below_alloc | apply pw_below_drewN | apply below_drew1 | refine below_set ?_ GE283.out | refine below_set ?_ GE284.out) | exact HB.out)⟩
  · rw [if_neg c4] at H
    have c4b0 : (t286 == 1) = false := beq_eq_false_iff_ne.mpr c4
    have c4b1 : (t286 != 1) = true := bne_iff_ne.mpr c4
    by_cases c11 : t286 = 4
    · rw [if_pos c11] at H
      have c11b0 : (t286 == 4) = true := beq_iff_eq.mpr c11
      have c11b1 : (t286 != 4) = false := bne_eq_false_iff_eq.mpr c11
      clear c11
      simp only [Option.some.injEq, Prod.mk.injEq] at H
      obtain ⟨rfl, rfl⟩ := H
      go_enter Tryd.func64, Tryd.ntmps64
      go_wp2_with (first | ((with_reducible refine gate_dst (N := 2) rfl ?_); refine box_event ?hg (N := 2) ?hd (cs := #[.int .i64 a0_0, .int .i64 a0_1, .int .i64 a0_2, .slice A0_3 l0_3.length c0_3]) (t := 45) ?hr ?_; (case hd => rfl); (case hg => rfl); (case hr => first | (go_simp; done) | (go_simp; rfl)); intro gb283 hg w12 hbox hb; have n0_ := Aside0.mk (below_step (by repeat (first | (with_reducible first | exact HB.out | apply below_alloc | apply pw_below_drewN | apply below_drew1) | exact HB.out)) hb); have n1_ := Aside0.mk (hbox); have n2_ := Aside0.mk ((by rw [hg]; exact (below_size (by repeat (first | (with_reducible first | exact HB.out | apply below_alloc | apply pw_below_drewN | apply below_drew1) | exact HB.out))) : w.heap.size ≤ gb283)); have n3_ := Aside0.mk ((by rw [hg]; exact (below_size (by repeat (first | (with_reducible first | exact HB.out | apply below_alloc | apply pw_below_drewN | apply below_drew1) | exact HB.out))) : w.heap.size ≤ gb283)); clear HB; have HB := n0_; have BK283 := n1_; have GW283 := n2_; have GE283 := n3_; clear n0_ n1_ n2_ n3_; clear hb hbox hg) | ((with_reducible refine gate_dst (N := 3) rfl ?_); refine box_event ?hg (N := 3) ?hd (cs := #[.int .i64 a1_0, .int .i64 a1_1, .int .i64 a1_2, .int .i64 a1_3, .int .i64 a1_4, .int .i64 a1_5]) (t := 47) ?hr ?_; (case hd => rfl); (case hg => rfl); (case hr => first | (go_simp; done) | (go_simp; rfl)); intro gb284 hg w13 hbox hb; have n0_ := Aside0.mk (blk_below (g := gb283) (o := .cells #[.int .i64 a0_0, .int .i64 a0_1, .int .i64 a0_2, .slice A0_3 l0_3.length c0_3] 45 (0, 0)) (by (with_reducible repeat (first | refine blk_drewN ?_ _ | refine blk_drew ?_ | refine blk_alloc ?_ _)); exact BK283.out) hb); have n1_ := Aside0.mk (below_step (by repeat (first | (with_reducible first | exact HB.out | apply below_alloc | apply pw_below_drewN | apply below_drew1 | refine below_set ?_ GE283.out) | exact HB.out)) hb); have n2_ := Aside0.mk (hbox); have n3_ := Aside0.mk ((by rw [hg]; exact (below_size (by repeat (first | (with_reducible first | exact HB.out | apply below_alloc | apply pw_below_drewN | apply below_drew1 | refine below_set ?_ GE283.out) | exact HB.out))) : w.heap.size ≤ gb284)); have n4_ := Aside0.mk ((by rw [hg]; exact (below_size (by repeat (first | (with_reducible first | exact HB.out | apply below_alloc | apply pw_below_drewN | apply below_drew1 | refine below_set ?_ GE283.out) | exact HB.out))) : w.heap.size ≤ gb284)); have n5_ := Aside0.mk ((by rw [hg]; exact Nat.ne_of_lt (blk_lt (g := gb283) (o := .cells #[.int .i64 a0_0, .int .i64 a0_1, .int .i64 a0_2, .slice A0_3 l0_3.length c0_3] 45 (0, 0)) (by (with_reducible repeat (first | refine blk_drewN ?_ _ | refine blk_drew ?_ | refine blk_alloc ?_ _)); exact BK283.out)) : gb283 ≠ gb284)); have n6_ := Aside0.mk ((by rw [hg]; exact Nat.ne_of_gt (blk_lt (g := gb283) (o := .cells #[.int .i64 a0_0, .int .i64 a0_1, .int .i64 a0_2, .slice A0_3 l0_3.length c0_3] 45 (0, 0)) (by (with_reducible repeat (first | refine blk_drewN ?_ _ | refine blk_drew ?_ | refine blk_alloc ?_ _)); exact BK283.out)) : gb284 ≠ gb283)); clear BK283; clear HB; have BK283 := n0_; have HB := n1_; have BK284 := n2_; have GW284 := n3_; have GE284 := n4_; have NB283_284 := n5_; have NB284_283 := n6_; clear n0_ n1_ n2_ n3_ n4_ n5_ n6_; clear hb hbox hg; have hnb14 := NB283_284.out; have hnc14 := NB284_283.out; have hcz15_0 : w13.cell? ⟨gb283, 0, none⟩ = some (.int .i64 a0_0) := (blk_cell BK283.out 0).trans rfl; have hcz15_1 : w13.cell? ⟨gb283, 1, none⟩ = some (.int .i64 a0_1) := (blk_cell BK283.out 1).trans rfl; have hcz15_2 : w13.cell? ⟨gb283, 2, none⟩ = some (.int .i64 a0_2) := (blk_cell BK283.out 2).trans rfl; have hcz15_3 : w13.cell? ⟨gb283, 3, none⟩ = some (.slice A0_3 l0_3.length c0_3) := (blk_cell BK283.out 3).trans rfl; have hfz15_0 := blk_frozen BK283.out 0; have hfz15_1 := blk_frozen BK283.out 1; have hfz15_2 := blk_frozen BK283.out 2; have hfz15_3 := blk_frozen BK283.out 3; have hcz16_0 : w13.cell? ⟨gb284, 0, none⟩ = some (.int .i64 a1_0) := (blk_cell BK284.out 0).trans rfl; have hcz16_1 : w13.cell? ⟨gb284, 1, none⟩ = some (.int .i64 a1_1) := (blk_cell BK284.out 1).trans rfl; have hcz16_2 : w13.cell? ⟨gb284, 2, none⟩ = some (.int .i64 a1_2) := (blk_cell BK284.out 2).trans rfl; have hcz16_3 : w13.cell? ⟨gb284, 3, none⟩ = some (.int .i64 a1_3) := (blk_cell BK284.out 3).trans rfl; have hcz16_4 : w13.cell? ⟨gb284, 4, none⟩ = some (.int .i64 a1_4) := (blk_cell BK284.out 4).trans rfl; have hcz16_5 : w13.cell? ⟨gb284, 5, none⟩ = some (.int .i64 a1_5) := (blk_cell BK284.out 5).trans rfl; have hfz16_0 := blk_frozen BK284.out 0; have hfz16_1 := blk_frozen BK284.out 1; have hfz16_2 := blk_frozen BK284.out 2; have hfz16_3 := blk_frozen BK284.out 3; have hfz16_4 := blk_frozen BK284.out 4; have hfz16_5 := blk_frozen BK284.out 5) | ((with_reducible refine gate_callee (f := 79) rfl ?_); refine goesL_ (some 15) rfl rfl Tryd.func79 (by kernel_rfl) rfl #[.agg #[.int .i64 a0_0, .int .i64 a0_1, .int .i64 a0_2, .slice A0_3 l0_3.length c0_3], .int .i64 a1_0, .int .i64 a1_1] rfl (by (try simp only [List.map_toArray, List.map_cons, List.map_nil]); first | done | rfl | (simp only [List.length_drop, List.length_take]; rfl)) ?_; (with_reducible refine (relief_Height.calls k a0_0 a0_1 a0_2 _ _ l0_3 a1_0 a1_1 t285 t286 _ ?side1 ?side2 A3.out).mono ?_); (case side1 => repeat (first | exact (Kd.C_below HR0_3.out HB.out) | (with_reducible refine Kd.C_alloc ?_ _) | (with_reducible refine Kd.C_drewN ?_ _) | (with_reducible refine Kd.C_drew ?_))); (case side2 => exact HC0_3.out); rintro e w17 ⟨rfl, hb⟩; refine ⟨_, rfl, ?_⟩; have n0_ := Aside0.mk (blk_below (g := gb283) (o := .cells #[.int .i64 a0_0, .int .i64 a0_1, .int .i64 a0_2, .slice A0_3 l0_3.length c0_3] 45 (0, 0)) (by (with_reducible repeat (first | refine blk_drewN ?_ _ | refine blk_drew ?_ | refine blk_alloc ?_ _)); exact BK283.out) hb); have n1_ := Aside0.mk (blk_below (g := gb284) (o := .cells #[.int .i64 a1_0, .int .i64 a1_1, .int .i64 a1_2, .int .i64 a1_3, .int .i64 a1_4, .int .i64 a1_5] 47 (0, 0)) (by (with_reducible repeat (first | refine blk_drewN ?_ _ | refine blk_drew ?_ | refine blk_alloc ?_ _)); exact BK284.out) hb); have n2_ := Aside0.mk (below_step (by repeat (first | (with_reducible first | exact HB.out | apply below_alloc | apply pw_below_drewN | apply below_drew1 | refine below_set ?_ GE283.out | refine below_set ?_ GE284.out) | exact HB.out)) hb); clear BK283; clear BK284; clear HB; have BK283 := n0_; have BK284 := n1_; have HB := n2_; clear n0_ n1_ n2_; (try clear hb); (try clear hb2); (try clear hk); (try clear hi)))
      go_ret2
      exact ⟨by first | rfl | (simp [errW_none, errW_some] <;> rfl) | (simp [*, errW_none, errW_some] <;> rfl), by repeat (first | (with_reducible first | exact HB.out | apply below_alloc | apply pw_below_drewN | apply below_drew1 | refine below_set ?_ GE283.out | refine below_set ?_ GE284.out) | exact HB.out)⟩
    · rw [if_neg c11] at H
      have c11b0 : (t286 == 4) = false := beq_eq_false_iff_ne.mpr c11
      have c11b1 : (t286 != 4) = true := bne_iff_ne.mpr c11
      obtain ⟨ji18, hji18⟩ : ∃ j_ : Int, (mx t285 (wrap64 (a0_2 * 65536))) = j_ := ⟨_, rfl⟩
      replace H : (if a1_2 > (ji18) then (some (0, 0)) else (if t285 ≥ (wrap64 (a0_2 * 65536)) then (some (1, 0)) else (some (2, 0)))) = some (r1, r2) := by first | (rw [hji18] at H; exact H) | (simp only [hji18] at H ⊢; exact H)
      (try rw [hji18] at A3)
      have hji18_ : (if t285 < (wrap64 (a0_2 * 65536)) then (wrap64 (a0_2 * 65536)) else t285) = ji18 := hji18
      by_cases c19 : a1_2 > (ji18)
      · rw [if_pos c19] at H
        have c19b0 : decide ((ji18) < a1_2) = true := decide_eq_true c19
        clear c19
        simp only [Option.some.injEq, Prod.mk.injEq] at H
        obtain ⟨rfl, rfl⟩ := H
        go_enter Tryd.func64, Tryd.ntmps64
        go_wp2_with (first | ((with_reducible refine gate_dst (N := 2) rfl ?_); refine box_event ?hg (N := 2) ?hd (cs := #[.int .i64 a0_0, .int .i64 a0_1, .int .i64 a0_2, .slice A0_3 l0_3.length c0_3]) (t := 45) ?hr ?_; (case hd => rfl); (case hg => rfl); (case hr => first | (go_simp; done) | (go_simp; rfl)); intro gb283 hg w20 hbox hb; have n0_ := Aside0.mk (below_step (by repeat (first | (with_reducible first | exact HB.out | apply below_alloc | apply pw_below_drewN | apply below_drew1) | exact HB.out)) hb); have n1_ := Aside0.mk (hbox); have n2_ := Aside0.mk ((by rw [hg]; exact (below_size (by repeat (first | (with_reducible first | exact HB.out | apply below_alloc | apply pw_below_drewN | apply below_drew1) | exact HB.out))) : w.heap.size ≤ gb283)); have n3_ := Aside0.mk ((by rw [hg]; exact (below_size (by repeat (first | (with_reducible first | exact HB.out | apply below_alloc | apply pw_below_drewN | apply below_drew1) | exact HB.out))) : w.heap.size ≤ gb283)); clear HB; have HB := n0_; have BK283 := n1_; have GW283 := n2_; have GE283 := n3_; clear n0_ n1_ n2_ n3_; clear hb hbox hg) | ((with_reducible refine gate_dst (N := 3) rfl ?_); refine box_event ?hg (N := 3) ?hd (cs := #[.int .i64 a1_0, .int .i64 a1_1, .int .i64 a1_2, .int .i64 a1_3, .int .i64 a1_4, .int .i64 a1_5]) (t := 47) ?hr ?_; (case hd => rfl); (case hg => rfl); (case hr => first | (go_simp; done) | (go_simp; rfl)); intro gb284 hg w21 hbox hb; have n0_ := Aside0.mk (blk_below (g := gb283) (o := .cells #[.int .i64 a0_0, .int .i64 a0_1, .int .i64 a0_2, .slice A0_3 l0_3.length c0_3] 45 (0, 0)) (by (with_reducible repeat (first | refine blk_drewN ?_ _ | refine blk_drew ?_ | refine blk_alloc ?_ _)); exact BK283.out) hb); have n1_ := Aside0.mk (below_step (by repeat (first | (with_reducible first | exact HB.out | apply below_alloc | apply pw_below_drewN | apply below_drew1 | refine below_set ?_ GE283.out) | exact HB.out)) hb); have n2_ := Aside0.mk (hbox); have n3_ := Aside0.mk ((by rw [hg]; exact (below_size (by repeat (first | (with_reducible first | exact HB.out | apply below_alloc | apply pw_below_drewN | apply below_drew1 | refine below_set ?_ GE283.out) | exact HB.out))) : w.heap.size ≤ gb284)); have n4_ := Aside0.mk ((by rw [hg]; exact (below_size (by repeat (first | (with_reducible first | exact HB.out | apply below_alloc | apply pw_below_drewN | apply below_drew1 | refine below_set ?_ GE283.out) | exact HB.out))) : w.heap.size ≤ gb284)); have n5_ := Aside0.mk ((by rw [hg]; exact Nat.ne_of_lt (blk_lt (g := gb283) (o := .cells #[.int .i64 a0_0, .int .i64 a0_1, .int .i64 a0_2, .slice A0_3 l0_3.length c0_3] 45 (0, 0)) (by (with_reducible repeat (first | refine blk_drewN ?_ _ | refine blk_drew ?_ | refine blk_alloc ?_ _)); exact BK283.out)) : gb283 ≠ gb284)); have n6_ := Aside0.mk ((by rw [hg]; exact Nat.ne_of_gt (blk_lt (g := gb283) (o := .cells #[.int .i64 a0_0, .int .i64 a0_1, .int .i64 a0_2, .slice A0_3 l0_3.length c0_3] 45 (0, 0)) (by (with_reducible repeat (first | refine blk_drewN ?_ _ | refine blk_drew ?_ | refine blk_alloc ?_ _)); exact BK283.out)) : gb284 ≠ gb283)); clear BK283; clear HB; have BK283 := n0_; have HB := n1_; have BK284 := n2_; have GW284 := n3_; have GE284 := n4_; have NB283_284 := n5_; have NB284_283 := n6_; clear n0_ n1_ n2_ n3_ n4_ n5_ n6_; clear hb hbox hg; have hnb22 := NB283_284.out; have hnc22 := NB284_283.out; have hcz23_0 : w21.cell? ⟨gb283, 0, none⟩ = some (.int .i64 a0_0) := (blk_cell BK283.out 0).trans rfl; have hcz23_1 : w21.cell? ⟨gb283, 1, none⟩ = some (.int .i64 a0_1) := (blk_cell BK283.out 1).trans rfl; have hcz23_2 : w21.cell? ⟨gb283, 2, none⟩ = some (.int .i64 a0_2) := (blk_cell BK283.out 2).trans rfl; have hcz23_3 : w21.cell? ⟨gb283, 3, none⟩ = some (.slice A0_3 l0_3.length c0_3) := (blk_cell BK283.out 3).trans rfl; have hfz23_0 := blk_frozen BK283.out 0; have hfz23_1 := blk_frozen BK283.out 1; have hfz23_2 := blk_frozen BK283.out 2; have hfz23_3 := blk_frozen BK283.out 3; have hcz24_0 : w21.cell? ⟨gb284, 0, none⟩ = some (.int .i64 a1_0) := (blk_cell BK284.out 0).trans rfl; have hcz24_1 : w21.cell? ⟨gb284, 1, none⟩ = some (.int .i64 a1_1) := (blk_cell BK284.out 1).trans rfl; have hcz24_2 : w21.cell? ⟨gb284, 2, none⟩ = some (.int .i64 a1_2) := (blk_cell BK284.out 2).trans rfl; have hcz24_3 : w21.cell? ⟨gb284, 3, none⟩ = some (.int .i64 a1_3) := (blk_cell BK284.out 3).trans rfl; have hcz24_4 : w21.cell? ⟨gb284, 4, none⟩ = some (.int .i64 a1_4) := (blk_cell BK284.out 4).trans rfl; have hcz24_5 : w21.cell? ⟨gb284, 5, none⟩ = some (.int .i64 a1_5) := (blk_cell BK284.out 5).trans rfl; have hfz24_0 := blk_frozen BK284.out 0; have hfz24_1 := blk_frozen BK284.out 1; have hfz24_2 := blk_frozen BK284.out 2; have hfz24_3 := blk_frozen BK284.out 3; have hfz24_4 := blk_frozen BK284.out 4; have hfz24_5 := blk_frozen BK284.out 5) | ((with_reducible refine gate_callee (f := 79) rfl ?_); refine goesL_ (some 15) rfl rfl Tryd.func79 (by kernel_rfl) rfl #[.agg #[.int .i64 a0_0, .int .i64 a0_1, .int .i64 a0_2, .slice A0_3 l0_3.length c0_3], .int .i64 a1_0, .int .i64 a1_1] rfl (by (try simp only [List.map_toArray, List.map_cons, List.map_nil]); first | done | rfl | (simp only [List.length_drop, List.length_take]; rfl)) ?_; (with_reducible refine (relief_Height.calls k a0_0 a0_1 a0_2 _ _ l0_3 a1_0 a1_1 t285 t286 _ ?side1 ?side2 A3.out).mono ?_); (case side1 => repeat (first | exact (Kd.C_below HR0_3.out HB.out) | (with_reducible refine Kd.C_alloc ?_ _) | (with_reducible refine Kd.C_drewN ?_ _) | (with_reducible refine Kd.C_drew ?_))); (case side2 => exact HC0_3.out); rintro e w25 ⟨rfl, hb⟩; refine ⟨_, rfl, ?_⟩; have n0_ := Aside0.mk (blk_below (g := gb283) (o := .cells #[.int .i64 a0_0, .int .i64 a0_1, .int .i64 a0_2, .slice A0_3 l0_3.length c0_3] 45 (0, 0)) (by (with_reducible repeat (first | refine blk_drewN ?_ _ | refine blk_drew ?_ | refine blk_alloc ?_ _)); exact BK283.out) hb); have n1_ := Aside0.mk (blk_below (g := gb284) (o := .cells #[.int .i64 a1_0, .int .i64 a1_1, .int .i64 a1_2, .int .i64 a1_3, .int .i64 a1_4, .int .i64 a1_5] 47 (0, 0)) (by (with_reducible repeat (first | refine blk_drewN ?_ _ | refine blk_drew ?_ | refine blk_alloc ?_ _)); exact BK284.out) hb); have n2_ := Aside0.mk (below_step (by repeat (first | (with_reducible first | exact HB.out | apply below_alloc | apply pw_below_drewN | apply below_drew1 | refine below_set ?_ GE283.out | refine below_set ?_ GE284.out) | exact HB.out)) hb); clear BK283; clear BK284; clear HB; have BK283 := n0_; have BK284 := n1_; have HB := n2_; clear n0_ n1_ n2_; (try clear hb); (try clear hb2); (try clear hk); (try clear hi); have hcz26_0 : w25.cell? ⟨gb283, 0, none⟩ = some (.int .i64 a0_0) := (blk_cell BK283.out 0).trans rfl; have hcz26_1 : w25.cell? ⟨gb283, 1, none⟩ = some (.int .i64 a0_1) := (blk_cell BK283.out 1).trans rfl; have hcz26_2 : w25.cell? ⟨gb283, 2, none⟩ = some (.int .i64 a0_2) := (blk_cell BK283.out 2).trans rfl; have hcz26_3 : w25.cell? ⟨gb283, 3, none⟩ = some (.slice A0_3 l0_3.length c0_3) := (blk_cell BK283.out 3).trans rfl; have hfz26_0 := blk_frozen BK283.out 0; have hfz26_1 := blk_frozen BK283.out 1; have hfz26_2 := blk_frozen BK283.out 2; have hfz26_3 := blk_frozen BK283.out 3; have hcz27_0 : w25.cell? ⟨gb284, 0, none⟩ = some (.int .i64 a1_0) := (blk_cell BK284.out 0).trans rfl; have hcz27_1 : w25.cell? ⟨gb284, 1, none⟩ = some (.int .i64 a1_1) := (blk_cell BK284.out 1).trans rfl; have hcz27_2 : w25.cell? ⟨gb284, 2, none⟩ = some (.int .i64 a1_2) := (blk_cell BK284.out 2).trans rfl; have hcz27_3 : w25.cell? ⟨gb284, 3, none⟩ = some (.int .i64 a1_3) := (blk_cell BK284.out 3).trans rfl; have hcz27_4 : w25.cell? ⟨gb284, 4, none⟩ = some (.int .i64 a1_4) := (blk_cell BK284.out 4).trans rfl; have hcz27_5 : w25.cell? ⟨gb284, 5, none⟩ = some (.int .i64 a1_5) := (blk_cell BK284.out 5).trans rfl; have hfz27_0 := blk_frozen BK284.out 0; have hfz27_1 := blk_frozen BK284.out 1; have hfz27_2 := blk_frozen BK284.out 2; have hfz27_3 := blk_frozen BK284.out 3; have hfz27_4 := blk_frozen BK284.out 4; have hfz27_5 := blk_frozen BK284.out 5))
        go_ret2
        exact ⟨by first | rfl | (simp [errW_none, errW_some] <;> rfl) | (simp only [← hji18]; first | rfl | (simp [errW_none, errW_some] <;> rfl)) | (simp [*, errW_none, errW_some] <;> rfl), by repeat (first | (with_reducible first | exact HB.out | apply below_alloc | apply pw_below_drewN | apply below_drew1 | refine below_set ?_ GE283.out | refine below_set ?_ GE284.out) | exact HB.out)⟩
      · rw [if_neg c19] at H
        have c19b0 : decide ((ji18) < a1_2) = false := decide_eq_false c19
        clear c19
        by_cases c28 : t285 ≥ (wrap64 (a0_2 * 65536))
        · rw [if_pos c28] at H
          have c28b0 : decide ((wrap64 (a0_2 * 65536)) ≤ t285) = true := decide_eq_true c28
          clear c28
          simp only [Option.some.injEq, Prod.mk.injEq] at H
          obtain ⟨rfl, rfl⟩ := H
          go_enter Tryd.func64, Tryd.ntmps64
          go_wp2_with (first | ((with_reducible refine gate_dst (N := 2) rfl ?_); refine box_event ?hg (N := 2) ?hd (cs := #[.int .i64 a0_0, .int .i64 a0_1, .int .i64 a0_2, .slice A0_3 l0_3.length c0_3]) (t := 45) ?hr ?_; (case hd => rfl); (case hg => rfl); (case hr => first | (go_simp; done) | (go_simp; rfl)); intro gb283 hg w29 hbox hb; have n0_ := Aside0.mk (below_step (by repeat (first | (with_reducible first | exact HB.out | apply below_alloc | apply pw_below_drewN | apply below_drew1) | exact HB.out)) hb); have n1_ := Aside0.mk (hbox); have n2_ := Aside0.mk ((by rw [hg]; exact (below_size (by repeat (first | (with_reducible first | exact HB.out | apply below_alloc | apply pw_below_drewN | apply below_drew1) | exact HB.out))) : w.heap.size ≤ gb283)); have n3_ := Aside0.mk ((by rw [hg]; exact (below_size (by repeat (first | (with_reducible first | exact HB.out | apply below_alloc | apply pw_below_drewN | apply below_drew1) | exact HB.out))) : w.heap.size ≤ gb283)); clear HB; have HB := n0_; have BK283 := n1_; have GW283 := n2_; have GE283 := n3_; clear n0_ n1_ n2_ n3_; clear hb hbox hg) | ((with_reducible refine gate_dst (N := 3) rfl ?_); refine box_event ?hg (N := 3) ?hd (cs := #[.int .i64 a1_0, .int .i64 a1_1, .int .i64 a1_2, .int .i64 a1_3, .int .i64 a1_4, .int .i64 a1_5]) (t := 47) ?hr ?_; (case hd => rfl); (case hg => rfl); (case hr => first | (go_simp; done) | (go_simp; rfl)); intro gb284 hg w30 hbox hb; have n0_ := Aside0.mk (blk_below (g := gb283) (o := .cells #[.int .i64 a0_0, .int .i64 a0_1, .int .i64 a0_2, .slice A0_3 l0_3.length c0_3] 45 (0, 0)) (by (with_reducible repeat (first | refine blk_drewN ?_ _ | refine blk_drew ?_ | refine blk_alloc ?_ _)); exact BK283.out) hb); have n1_ := Aside0.mk (below_step (by repeat (first | (with_reducible first | exact HB.out | apply below_alloc | apply pw_below_drewN | apply below_drew1 | refine below_set ?_ GE283.out) | exact HB.out)) hb); have n2_ := Aside0.mk (hbox); have n3_ := Aside0.mk ((by rw [hg]; exact (below_size (by repeat (first | (with_reducible first | exact HB.out | apply below_alloc | apply pw_below_drewN | apply below_drew1 | refine below_set ?_ GE283.out) | exact HB.out))) : w.heap.size ≤ gb284)); have n4_ := Aside0.mk ((by rw [hg]; exact (below_size (by repeat (first | (with_reducible first | exact HB.out | apply below_alloc | apply pw_below_drewN | apply below_drew1 | refine below_set ?_ GE283.out) | exact HB.out))) : w.heap.size ≤ gb284)); have n5_ := Aside0.mk ((by rw [hg]; exact Nat.ne_of_lt (blk_lt (g := gb283) (o := .cells #[.int .i64 a0_0, .int .i64 a0_1, .int .i64 a0_2, .slice A0_3 l0_3.length c0_3] 45 (0, 0)) (by (with_reducible repeat (first | refine blk_drewN ?_ _ | refine blk_drew ?_ | refine blk_alloc ?_ _)); exact BK283.out)) : gb283 ≠ gb284)); have n6_ := Aside0.mk ((by rw [hg]; exact Nat.ne_of_gt (blk_lt (g := gb283) (o := .cells #[.int .i64 a0_0, .int .i64 a0_1, .int .i64 a0_2, .slice A0_3 l0_3.length c0_3] 45 (0, 0)) (by (with_reducible repeat (first | refine blk_drewN ?_ _ | refine blk_drew ?_ | refine blk_alloc ?_ _)); exact BK283.out)) : gb284 ≠ gb283)); clear BK283; clear HB; have BK283 := n0_; have HB := n1_; have BK284 := n2_; have GW284 := n3_; have GE284 := n4_; have NB283_284 := n5_; have NB284_283 := n6_; clear n0_ n1_ n2_ n3_ n4_ n5_ n6_; clear hb hbox hg; have hnb31 := NB283_284.out; have hnc31 := NB284_283.out; have hcz32_0 : w30.cell? ⟨gb283, 0, none⟩ = some (.int .i64 a0_0) := (blk_cell BK283.out 0).trans rfl; have hcz32_1 : w30.cell? ⟨gb283, 1, none⟩ = some (.int .i64 a0_1) := (blk_cell BK283.out 1).trans rfl; have hcz32_2 : w30.cell? ⟨gb283, 2, none⟩ = some (.int .i64 a0_2) := (blk_cell BK283.out 2).trans rfl; have hcz32_3 : w30.cell? ⟨gb283, 3, none⟩ = some (.slice A0_3 l0_3.length c0_3) := (blk_cell BK283.out 3).trans rfl; have hfz32_0 := blk_frozen BK283.out 0; have hfz32_1 := blk_frozen BK283.out 1; have hfz32_2 := blk_frozen BK283.out 2; have hfz32_3 := blk_frozen BK283.out 3; have hcz33_0 : w30.cell? ⟨gb284, 0, none⟩ = some (.int .i64 a1_0) := (blk_cell BK284.out 0).trans rfl; have hcz33_1 : w30.cell? ⟨gb284, 1, none⟩ = some (.int .i64 a1_1) := (blk_cell BK284.out 1).trans rfl; have hcz33_2 : w30.cell? ⟨gb284, 2, none⟩ = some (.int .i64 a1_2) := (blk_cell BK284.out 2).trans rfl; have hcz33_3 : w30.cell? ⟨gb284, 3, none⟩ = some (.int .i64 a1_3) := (blk_cell BK284.out 3).trans rfl; have hcz33_4 : w30.cell? ⟨gb284, 4, none⟩ = some (.int .i64 a1_4) := (blk_cell BK284.out 4).trans rfl; have hcz33_5 : w30.cell? ⟨gb284, 5, none⟩ = some (.int .i64 a1_5) := (blk_cell BK284.out 5).trans rfl; have hfz33_0 := blk_frozen BK284.out 0; have hfz33_1 := blk_frozen BK284.out 1; have hfz33_2 := blk_frozen BK284.out 2; have hfz33_3 := blk_frozen BK284.out 3; have hfz33_4 := blk_frozen BK284.out 4; have hfz33_5 := blk_frozen BK284.out 5) | ((with_reducible refine gate_callee (f := 79) rfl ?_); refine goesL_ (some 15) rfl rfl Tryd.func79 (by kernel_rfl) rfl #[.agg #[.int .i64 a0_0, .int .i64 a0_1, .int .i64 a0_2, .slice A0_3 l0_3.length c0_3], .int .i64 a1_0, .int .i64 a1_1] rfl (by (try simp only [List.map_toArray, List.map_cons, List.map_nil]); first | done | rfl | (simp only [List.length_drop, List.length_take]; rfl)) ?_; (with_reducible refine (relief_Height.calls k a0_0 a0_1 a0_2 _ _ l0_3 a1_0 a1_1 t285 t286 _ ?side1 ?side2 A3.out).mono ?_); (case side1 => repeat (first | exact (Kd.C_below HR0_3.out HB.out) | (with_reducible refine Kd.C_alloc ?_ _) | (with_reducible refine Kd.C_drewN ?_ _) | (with_reducible refine Kd.C_drew ?_))); (case side2 => exact HC0_3.out); rintro e w34 ⟨rfl, hb⟩; refine ⟨_, rfl, ?_⟩; have n0_ := Aside0.mk (blk_below (g := gb283) (o := .cells #[.int .i64 a0_0, .int .i64 a0_1, .int .i64 a0_2, .slice A0_3 l0_3.length c0_3] 45 (0, 0)) (by (with_reducible repeat (first | refine blk_drewN ?_ _ | refine blk_drew ?_ | refine blk_alloc ?_ _)); exact BK283.out) hb); have n1_ := Aside0.mk (blk_below (g := gb284) (o := .cells #[.int .i64 a1_0, .int .i64 a1_1, .int .i64 a1_2, .int .i64 a1_3, .int .i64 a1_4, .int .i64 a1_5] 47 (0, 0)) (by (with_reducible repeat (first | refine blk_drewN ?_ _ | refine blk_drew ?_ | refine blk_alloc ?_ _)); exact BK284.out) hb); have n2_ := Aside0.mk (below_step (by repeat (first | (with_reducible first | exact HB.out | apply below_alloc | apply pw_below_drewN | apply below_drew1 | refine below_set ?_ GE283.out | refine below_set ?_ GE284.out) | exact HB.out)) hb); clear BK283; clear BK284; clear HB; have BK283 := n0_; have BK284 := n1_; have HB := n2_; clear n0_ n1_ n2_; (try clear hb); (try clear hb2); (try clear hk); (try clear hi); have hcz35_0 : w34.cell? ⟨gb283, 0, none⟩ = some (.int .i64 a0_0) := (blk_cell BK283.out 0).trans rfl; have hcz35_1 : w34.cell? ⟨gb283, 1, none⟩ = some (.int .i64 a0_1) := (blk_cell BK283.out 1).trans rfl; have hcz35_2 : w34.cell? ⟨gb283, 2, none⟩ = some (.int .i64 a0_2) := (blk_cell BK283.out 2).trans rfl; have hcz35_3 : w34.cell? ⟨gb283, 3, none⟩ = some (.slice A0_3 l0_3.length c0_3) := (blk_cell BK283.out 3).trans rfl; have hfz35_0 := blk_frozen BK283.out 0; have hfz35_1 := blk_frozen BK283.out 1; have hfz35_2 := blk_frozen BK283.out 2; have hfz35_3 := blk_frozen BK283.out 3; have hcz36_0 : w34.cell? ⟨gb284, 0, none⟩ = some (.int .i64 a1_0) := (blk_cell BK284.out 0).trans rfl; have hcz36_1 : w34.cell? ⟨gb284, 1, none⟩ = some (.int .i64 a1_1) := (blk_cell BK284.out 1).trans rfl; have hcz36_2 : w34.cell? ⟨gb284, 2, none⟩ = some (.int .i64 a1_2) := (blk_cell BK284.out 2).trans rfl; have hcz36_3 : w34.cell? ⟨gb284, 3, none⟩ = some (.int .i64 a1_3) := (blk_cell BK284.out 3).trans rfl; have hcz36_4 : w34.cell? ⟨gb284, 4, none⟩ = some (.int .i64 a1_4) := (blk_cell BK284.out 4).trans rfl; have hcz36_5 : w34.cell? ⟨gb284, 5, none⟩ = some (.int .i64 a1_5) := (blk_cell BK284.out 5).trans rfl; have hfz36_0 := blk_frozen BK284.out 0; have hfz36_1 := blk_frozen BK284.out 1; have hfz36_2 := blk_frozen BK284.out 2; have hfz36_3 := blk_frozen BK284.out 3; have hfz36_4 := blk_frozen BK284.out 4; have hfz36_5 := blk_frozen BK284.out 5))
          go_ret2
          exact ⟨by first | rfl | (simp [errW_none, errW_some] <;> rfl) | (simp only [← hji18]; first | rfl | (simp [errW_none, errW_some] <;> rfl)) | (simp [*, errW_none, errW_some] <;> rfl), by repeat (first | (with_reducible first | exact HB.out | apply below_alloc | apply pw_below_drewN | apply below_drew1 | refine below_set ?_ GE283.out | refine below_set ?_ GE284.out) | exact HB.out)⟩
        · rw [if_neg c28] at H
          have c28b0 : decide ((wrap64 (a0_2 * 65536)) ≤ t285) = false := decide_eq_false c28
          clear c28
          simp only [Option.some.injEq, Prod.mk.injEq] at H
          obtain ⟨rfl, rfl⟩ := H
          go_enter Tryd.func64, Tryd.ntmps64
          go_wp2_with (first | ((with_reducible refine gate_dst (N := 2) rfl ?_); refine box_event ?hg (N := 2) ?hd (cs := #[.int .i64 a0_0, .int .i64 a0_1, .int .i64 a0_2, .slice A0_3 l0_3.length c0_3]) (t := 45) ?hr ?_; (case hd => rfl); (case hg => rfl); (case hr => first | (go_simp; done) | (go_simp; rfl)); intro gb283 hg w37 hbox hb; have n0_ := Aside0.mk (below_step (by repeat (first | (with_reducible first | exact HB.out | apply below_alloc | apply pw_below_drewN | apply below_drew1) | exact HB.out)) hb); have n1_ := Aside0.mk (hbox); have n2_ := Aside0.mk ((by rw [hg]; exact (below_size (by repeat (first | (with_reducible first | exact HB.out | apply below_alloc | apply pw_below_drewN | apply below_drew1) | exact HB.out))) : w.heap.size ≤ gb283)); have n3_ := Aside0.mk ((by rw [hg]; exact (below_size (by repeat (first | (with_reducible first | exact HB.out | apply below_alloc | apply pw_below_drewN | apply below_drew1) | exact HB.out))) : w.heap.size ≤ gb283)); clear HB; have HB := n0_; have BK283 := n1_; have GW283 := n2_; have GE283 := n3_; clear n0_ n1_ n2_ n3_; clear hb hbox hg) | ((with_reducible refine gate_dst (N := 3) rfl ?_); refine box_event ?hg (N := 3) ?hd (cs := #[.int .i64 a1_0, .int .i64 a1_1, .int .i64 a1_2, .int .i64 a1_3, .int .i64 a1_4, .int .i64 a1_5]) (t := 47) ?hr ?_; (case hd => rfl); (case hg => rfl); (case hr => first | (go_simp; done) | (go_simp; rfl)); intro gb284 hg w38 hbox hb; have n0_ := Aside0.mk (blk_below (g := gb283) (o := .cells #[.int .i64 a0_0, .int .i64 a0_1, .int .i64 a0_2, .slice A0_3 l0_3.length c0_3] 45 (0, 0)) (by (with_reducible repeat (first | refine blk_drewN ?_ _ | refine blk_drew ?_ | refine blk_alloc ?_ _)); exact BK283.out) hb); have n1_ := Aside0.mk (below_step (by repeat (first | (with_reducible first | exact HB.out | apply below_alloc | apply pw_below_drewN | apply below_drew1 | refine below_set ?_ GE283.out) | exact HB.out)) hb); have n2_ := Aside0.mk (hbox); have n3_ := Aside0.mk ((by rw [hg]; exact (below_size (by repeat (first | (with_reducible first | exact HB.out | apply below_alloc | apply pw_below_drewN | apply below_drew1 | refine below_set ?_ GE283.out) | exact HB.out))) : w.heap.size ≤ gb284)); have n4_ := Aside0.mk ((by rw [hg]; exact (below_size (by repeat (first | (with_reducible first | exact HB.out | apply below_alloc | apply pw_below_drewN | apply below_drew1 | refine below_set ?_ GE283.out) | exact HB.out))) : w.heap.size ≤ gb284)); have n5_ := Aside0.mk ((by rw [hg]; exact Nat.ne_of_lt (blk_lt (g := gb283) (o := .cells #[.int .i64 a0_0, .int .i64 a0_1, .int .i64 a0_2, .slice A0_3 l0_3.length c0_3] 45 (0, 0)) (by (with_reducible repeat (first | refine blk_drewN ?_ _ | refine blk_drew ?_ | refine blk_alloc ?_ _)); exact BK283.out)) : gb283 ≠ gb284)); have n6_ := Aside0.mk ((by rw [hg]; exact Nat.ne_of_gt (blk_lt (g := gb283) (o := .cells #[.int .i64 a0_0, .int .i64 a0_1, .int .i64 a0_2, .slice A0_3 l0_3.length c0_3] 45 (0, 0)) (by (with_reducible repeat (first | refine blk_drewN ?_ _ | refine blk_drew ?_ | refine blk_alloc ?_ _)); exact BK283.out)) : gb284 ≠ gb283)); clear BK283; clear HB; have BK283 := n0_; have HB := n1_; have BK284 := n2_; have GW284 := n3_; have GE284 := n4_; have NB283_284 := n5_; have NB284_283 := n6_; clear n0_ n1_ n2_ n3_ n4_ n5_ n6_; clear hb hbox hg; have hnb39 := NB283_284.out; have hnc39 := NB284_283.out; have hcz40_0 : w38.cell? ⟨gb283, 0, none⟩ = some (.int .i64 a0_0) := (blk_cell BK283.out 0).trans rfl; have hcz40_1 : w38.cell? ⟨gb283, 1, none⟩ = some (.int .i64 a0_1) := (blk_cell BK283.out 1).trans rfl; have hcz40_2 : w38.cell? ⟨gb283, 2, none⟩ = some (.int .i64 a0_2) := (blk_cell BK283.out 2).trans rfl; have hcz40_3 : w38.cell? ⟨gb283, 3, none⟩ = some (.slice A0_3 l0_3.length c0_3) := (blk_cell BK283.out 3).trans rfl; have hfz40_0 := blk_frozen BK283.out 0; have hfz40_1 := blk_frozen BK283.out 1; have hfz40_2 := blk_frozen BK283.out 2; have hfz40_3 := blk_frozen BK283.out 3; have hcz41_0 : w38.cell? ⟨gb284, 0, none⟩ = some (.int .i64 a1_0) := (blk_cell BK284.out 0).trans rfl; have hcz41_1 : w38.cell? ⟨gb284, 1, none⟩ = some (.int .i64 a1_1) := (blk_cell BK284.out 1).trans rfl; have hcz41_2 : w38.cell? ⟨gb284, 2, none⟩ = some (.int .i64 a1_2) := (blk_cell BK284.out 2).trans rfl; have hcz41_3 : w38.cell? ⟨gb284, 3, none⟩ = some (.int .i64 a1_3) := (blk_cell BK284.out 3).trans rfl; have hcz41_4 : w38.cell? ⟨gb284, 4, none⟩ = some (.int .i64 a1_4) := (blk_cell BK284.out 4).trans rfl; have hcz41_5 : w38.cell? ⟨gb284, 5, none⟩ = some (.int .i64 a1_5) := (blk_cell BK284.out 5).trans rfl; have hfz41_0 := blk_frozen BK284.out 0; have hfz41_1 := blk_frozen BK284.out 1; have hfz41_2 := blk_frozen BK284.out 2; have hfz41_3 := blk_frozen BK284.out 3; have hfz41_4 := blk_frozen BK284.out 4; have hfz41_5 := blk_frozen BK284.out 5) | ((with_reducible refine gate_callee (f := 79) rfl ?_); refine goesL_ (some 15) rfl rfl Tryd.func79 (by kernel_rfl) rfl #[.agg #[.int .i64 a0_0, .int .i64 a0_1, .int .i64 a0_2, .slice A0_3 l0_3.length c0_3], .int .i64 a1_0, .int .i64 a1_1] rfl (by (try simp only [List.map_toArray, List.map_cons, List.map_nil]); first | done | rfl | (simp only [List.length_drop, List.length_take]; rfl)) ?_; (with_reducible refine (relief_Height.calls k a0_0 a0_1 a0_2 _ _ l0_3 a1_0 a1_1 t285 t286 _ ?side1 ?side2 A3.out).mono ?_); (case side1 => repeat (first | exact (Kd.C_below HR0_3.out HB.out) | (with_reducible refine Kd.C_alloc ?_ _) | (with_reducible refine Kd.C_drewN ?_ _) | (with_reducible refine Kd.C_drew ?_))); (case side2 => exact HC0_3.out); rintro e w42 ⟨rfl, hb⟩; refine ⟨_, rfl, ?_⟩; have n0_ := Aside0.mk (blk_below (g := gb283) (o := .cells #[.int .i64 a0_0, .int .i64 a0_1, .int .i64 a0_2, .slice A0_3 l0_3.length c0_3] 45 (0, 0)) (by (with_reducible repeat (first | refine blk_drewN ?_ _ | refine blk_drew ?_ | refine blk_alloc ?_ _)); exact BK283.out) hb); have n1_ := Aside0.mk (blk_below (g := gb284) (o := .cells #[.int .i64 a1_0, .int .i64 a1_1, .int .i64 a1_2, .int .i64 a1_3, .int .i64 a1_4, .int .i64 a1_5] 47 (0, 0)) (by (with_reducible repeat (first | refine blk_drewN ?_ _ | refine blk_drew ?_ | refine blk_alloc ?_ _)); exact BK284.out) hb); have n2_ := Aside0.mk (below_step (by repeat (first | (with_reducible first | exact HB.out | apply below_alloc | apply pw_below_drewN | apply below_drew1 | refine below_set ?_ GE283.out | refine below_set ?_ GE284.out) | exact HB.out)) hb); clear BK283; clear BK284; clear HB; have BK283 := n0_; have BK284 := n1_; have HB := n2_; clear n0_ n1_ n2_; (try clear hb); (try clear hb2); (try clear hk); (try clear hi); have hcz43_0 : w42.cell? ⟨gb283, 0, none⟩ = some (.int .i64 a0_0) := (blk_cell BK283.out 0).trans rfl; have hcz43_1 : w42.cell? ⟨gb283, 1, none⟩ = some (.int .i64 a0_1) := (blk_cell BK283.out 1).trans rfl; have hcz43_2 : w42.cell? ⟨gb283, 2, none⟩ = some (.int .i64 a0_2) := (blk_cell BK283.out 2).trans rfl; have hcz43_3 : w42.cell? ⟨gb283, 3, none⟩ = some (.slice A0_3 l0_3.length c0_3) := (blk_cell BK283.out 3).trans rfl; have hfz43_0 := blk_frozen BK283.out 0; have hfz43_1 := blk_frozen BK283.out 1; have hfz43_2 := blk_frozen BK283.out 2; have hfz43_3 := blk_frozen BK283.out 3; have hcz44_0 : w42.cell? ⟨gb284, 0, none⟩ = some (.int .i64 a1_0) := (blk_cell BK284.out 0).trans rfl; have hcz44_1 : w42.cell? ⟨gb284, 1, none⟩ = some (.int .i64 a1_1) := (blk_cell BK284.out 1).trans rfl; have hcz44_2 : w42.cell? ⟨gb284, 2, none⟩ = some (.int .i64 a1_2) := (blk_cell BK284.out 2).trans rfl; have hcz44_3 : w42.cell? ⟨gb284, 3, none⟩ = some (.int .i64 a1_3) := (blk_cell BK284.out 3).trans rfl; have hcz44_4 : w42.cell? ⟨gb284, 4, none⟩ = some (.int .i64 a1_4) := (blk_cell BK284.out 4).trans rfl; have hcz44_5 : w42.cell? ⟨gb284, 5, none⟩ = some (.int .i64 a1_5) := (blk_cell BK284.out 5).trans rfl; have hfz44_0 := blk_frozen BK284.out 0; have hfz44_1 := blk_frozen BK284.out 1; have hfz44_2 := blk_frozen BK284.out 2; have hfz44_3 := blk_frozen BK284.out 3; have hfz44_4 := blk_frozen BK284.out 4; have hfz44_5 := blk_frozen BK284.out 5))
          go_ret2
          exact ⟨by first | rfl | (simp [errW_none, errW_some] <;> rfl) | (simp only [← hji18]; first | rfl | (simp [errW_none, errW_some] <;> rfl)) | (simp [*, errW_none, errW_some] <;> rfl), by repeat (first | (with_reducible first | exact HB.out | apply below_alloc | apply pw_below_drewN | apply below_drew1 | refine below_set ?_ GE283.out | refine below_set ?_ GE284.out) | exact HB.out)⟩
end Go.Proofs.YtbcddiaplpbhjaaDoor.MAi
namespace Go.Proofs.YtbcddiaplpbhjaaDoor.MAi
open Go.RowKit Go.Proofs.YtbcddiaplpbhjaaDoorW.PrintWords Go.Proofs.YtbcddiaplpbhjaaDoorW.PrintLast Go.Proofs.YtbcddiaplpbhjaaDoorW.PrintMore
attribute [local go_sem] max2_int min2_int max_two min_two max_three min_three max_four min_four
set_option linter.unusedVariables false
set_option linter.unusedSimpArgs false
mutual
noncomputable def shot_Fly.j0 : Nat → Int → Bool → Int → Int → Int → List Int → Int → Int → Int → Int → Int → Int → Option (Int × Int × Int × Int × Int × Int × Int × Int × Int)
  | 0, _, _, _, _, _, _, _, _, _, _, _, _ => none
  | k + 1, x2, x22, x288000, x288001, x288002, x288003, x289000, x289001, x289002, x289003, x289004, x289005 => if x22 = true then (some (0, 0, 0, 0, 0, 0, 0, 0, 1)) else (shot_Fly.l0 k x2 x2 0 x288000 x288001 x288002 x288003 x289000 x289001 x289002 x289003 x289004 x289005)
noncomputable def shot_Fly.l0 : Nat → Int → Int → Int → Int → Int → Int → List Int → Int → Int → Int → Int → Int → Int → Option (Int × Int × Int × Int × Int × Int × Int × Int × Int)
  | 0, _, _, _, _, _, _, _, _, _, _, _, _, _ => none
  | k + 1, x2, x24, x25, x288000, x288001, x288002, x288003, x289000, x289001, x289002, x289003, x289004, x289005 => if x25 < x24 then ((shot_tick.f x289000 x289001 x289002 x289003 x289004 x289005).bind fun bt291 => ((shot_How.f k x288000 x288001 x288002 x288003 bt291.1 bt291.2.1 bt291.2.2.1 bt291.2.2.2.1 bt291.2.2.2.2.1 bt291.2.2.2.2.2).bind fun bt297 => (if bt297.1 = 0 then (shot_Fly.l0 k x2 x24 (wrap64 (x25 + 1)) x288000 x288001 x288002 x288003 bt291.1 bt291.2.1 bt291.2.2.1 bt291.2.2.2.1 bt291.2.2.2.2.1 bt291.2.2.2.2.2) else (some (wrap64 (x25 + 1), bt297.1, bt291.1, bt291.2.1, bt291.2.2.1, bt291.2.2.2.1, bt291.2.2.2.2.1, bt291.2.2.2.2.2, 0))))) else (some (x2, 0, x289000, x289001, x289002, x289003, x289004, x289005, 0))
end
noncomputable def shot_Fly.f (k : Nat) (a0_0 : Int) (a0_1 : Int) (a0_2 : Int) (l0_3 : List Int) (a1_0 : Int) (a1_1 : Int) (a1_2 : Int) (a1_3 : Int) (a1_4 : Int) (a1_5 : Int) (a2 : Int) : Option (Int × Int × Int × Int × Int × Int × Int × Int × Int) := (shot_May.f k a0_0 a0_1 a0_2 l0_3 a1_0 a1_1 a1_2 a1_3 a1_4 a1_5).bind fun t290 => (if t290 = true then (if a2 < 0 then (shot_Fly.j0 k a2 true a0_0 a0_1 a0_2 l0_3 a1_0 a1_1 a1_2 a1_3 a1_4 a1_5) else (shot_Fly.j0 k a2 (decide (a2 > 1024)) a0_0 a0_1 a0_2 l0_3 a1_0 a1_1 a1_2 a1_3 a1_4 a1_5)) else (shot_Fly.j0 k a2 true a0_0 a0_1 a0_2 l0_3 a1_0 a1_1 a1_2 a1_3 a1_4 a1_5))
theorem shot_Fly.mono_l : ∀ k, (∀ y0 y1 y2 y3 y4 y5 y6 y7 y8 y9 y10 y11, LeO (shot_Fly.j0 k y0 y1 y2 y3 y4 y5 y6 y7 y8 y9 y10 y11) (shot_Fly.j0 (k + 1) y0 y1 y2 y3 y4 y5 y6 y7 y8 y9 y10 y11)) ∧ (∀ y0 y1 y2 y3 y4 y5 y6 y7 y8 y9 y10 y11 y12, LeO (shot_Fly.l0 k y0 y1 y2 y3 y4 y5 y6 y7 y8 y9 y10 y11 y12) (shot_Fly.l0 (k + 1) y0 y1 y2 y3 y4 y5 y6 y7 y8 y9 y10 y11 y12))
  | 0 => ⟨fun _ _ _ _ _ _ _ _ _ _ _ _ r h => by simp [shot_Fly.j0] at h, fun _ _ _ _ _ _ _ _ _ _ _ _ _ r h => by simp [shot_Fly.l0] at h⟩
  | k + 1 => by
    obtain ⟨ih0, ih1⟩ := shot_Fly.mono_l k
    refine ⟨?_, ?_⟩
    · intro y0 y1 y2 y3 y4 y5 y6 y7 y8 y9 y10 y11
      unfold shot_Fly.j0
      repeat' first
      | (with_reducible exact ih0 _ _ _ _ _ _ _ _ _ _ _ _)
      | (with_reducible exact ih1 _ _ _ _ _ _ _ _ _ _ _ _ _)
      | (with_reducible exact shot_How.mono _ _ _ _ _ _ _ _ _ _ _)
      | (with_reducible exact shot_May.mono _ _ _ _ _ _ _ _ _ _ _)
      | (with_reducible exact LeO.refl _)
      | (with_reducible exact LeO.none _)
      | (with_reducible refine LeO.ite ?_ ?_)
      | (with_reducible refine LeO.bind ?_ (fun _ => ?_))
      | exact ih0 _ _ _ _ _ _ _ _ _ _ _ _
      | exact ih1 _ _ _ _ _ _ _ _ _ _ _ _ _
      | exact shot_How.mono _ _ _ _ _ _ _ _ _ _ _
      | exact shot_May.mono _ _ _ _ _ _ _ _ _ _ _
      | exact LeO.none _
      | refine LeO.ite ?_ ?_
      | refine LeO.bind ?_ (fun _ => ?_)
    · intro y0 y1 y2 y3 y4 y5 y6 y7 y8 y9 y10 y11 y12
      unfold shot_Fly.l0
      repeat' first
      | (with_reducible exact ih0 _ _ _ _ _ _ _ _ _ _ _ _)
      | (with_reducible exact ih1 _ _ _ _ _ _ _ _ _ _ _ _ _)
      | (with_reducible exact shot_How.mono _ _ _ _ _ _ _ _ _ _ _)
      | (with_reducible exact shot_May.mono _ _ _ _ _ _ _ _ _ _ _)
      | (with_reducible exact LeO.refl _)
      | (with_reducible exact LeO.none _)
      | (with_reducible refine LeO.ite ?_ ?_)
      | (with_reducible refine LeO.bind ?_ (fun _ => ?_))
      | exact ih0 _ _ _ _ _ _ _ _ _ _ _ _
      | exact ih1 _ _ _ _ _ _ _ _ _ _ _ _ _
      | exact shot_How.mono _ _ _ _ _ _ _ _ _ _ _
      | exact shot_May.mono _ _ _ _ _ _ _ _ _ _ _
      | exact LeO.none _
      | refine LeO.ite ?_ ?_
      | refine LeO.bind ?_ (fun _ => ?_)
theorem shot_Fly.mono : ∀ a0 a1 a2 a3 a4 a5 a6 a7 a8 a9 a10 k, LeO (shot_Fly.f k a0 a1 a2 a3 a4 a5 a6 a7 a8 a9 a10) (shot_Fly.f (k + 1) a0 a1 a2 a3 a4 a5 a6 a7 a8 a9 a10) := by
  intro a0 a1 a2 a3 a4 a5 a6 a7 a8 a9 a10 k
  obtain ⟨ih0, ih1⟩ := shot_Fly.mono_l k
  unfold shot_Fly.f
  repeat' first
      | (with_reducible exact ih0 _ _ _ _ _ _ _ _ _ _ _ _)
      | (with_reducible exact ih1 _ _ _ _ _ _ _ _ _ _ _ _ _)
      | (with_reducible exact shot_How.mono _ _ _ _ _ _ _ _ _ _ _)
      | (with_reducible exact shot_May.mono _ _ _ _ _ _ _ _ _ _ _)
      | (with_reducible exact LeO.refl _)
      | (with_reducible exact LeO.none _)
      | (with_reducible refine LeO.ite ?_ ?_)
      | (with_reducible refine LeO.bind ?_ (fun _ => ?_))
      | exact ih0 _ _ _ _ _ _ _ _ _ _ _ _
      | exact ih1 _ _ _ _ _ _ _ _ _ _ _ _ _
      | exact shot_How.mono _ _ _ _ _ _ _ _ _ _ _
      | exact shot_May.mono _ _ _ _ _ _ _ _ _ _ _
      | exact LeO.none _
      | refine LeO.ite ?_ ?_
      | refine LeO.bind ?_ (fun _ => ?_)
set_option maxHeartbeats 8000000 in
set_option maxRecDepth 100000 in
theorem shot_Fly.calls (k : Nat) (a0_0 : Int) (a0_1 : Int) (a0_2 : Int) (A0_3 : Option Addr) (c0_3 : Nat) (l0_3 : List Int) (a1_0 : Int) (a1_1 : Int) (a1_2 : Int) (a1_3 : Int) (a1_4 : Int) (a1_5 : Int) (a2 : Int) (r1 : Int) (r2 : Int) (r3 : Int) (r4 : Int) (r5 : Int) (r6 : Int) (r7 : Int) (r8 : Int) (r9 : Int) (w : World) (hr0_3 : Kd.C (Kd.int .u8) w A0_3 l0_3.length l0_3) (hc0_3 : l0_3.length ≤ c0_3) (h : shot_Fly.f k a0_0 a0_1 a0_2 l0_3 a1_0 a1_1 a1_2 a1_3 a1_4 a1_5 a2 = some (r1, r2, r3, r4, r5, r6, r7, r8, r9)) :
    Calls Tryd.prog 30 #[.agg #[.int .i64 a0_0, .int .i64 a0_1, .int .i64 a0_2, .slice A0_3 l0_3.length c0_3], .agg #[.int .i64 a1_0, .int .i64 a1_1, .int .i64 a1_2, .int .i64 a1_3, .int .i64 a1_4, .int .i64 a1_5], .int .i64 a2] w fun e w' => e = .returned (.tuple #[.agg #[.int .i64 r1, .int .i64 r2, .int .i64 r3, .int .i64 r4, .int .i64 r5, .int .i64 r6, .int .i64 r7, .int .i64 r8], .int .i64 r9]) ∧ Below w.heap.size w w' := by
  have hu45 := Tryd.underlying45
  have hu47 := Tryd.underlying47
  have hu62 := Tryd.underlying62
  have HR0_3 := Aside0.mk hr0_3
  have HC0_3 := Aside0.mk hc0_3
  clear hr0_3 hc0_3
  have HB := Aside0.mk (Below.refl w.heap.size w)
  have H : ((shot_May.f k a0_0 a0_1 a0_2 l0_3 a1_0 a1_1 a1_2 a1_3 a1_4 a1_5).bind fun t290 => (if t290 = true then (if a2 < 0 then (shot_Fly.j0 k a2 true a0_0 a0_1 a0_2 l0_3 a1_0 a1_1 a1_2 a1_3 a1_4 a1_5) else (shot_Fly.j0 k a2 (decide (a2 > 1024)) a0_0 a0_1 a0_2 l0_3 a1_0 a1_1 a1_2 a1_3 a1_4 a1_5)) else (shot_Fly.j0 k a2 true a0_0 a0_1 a0_2 l0_3 a1_0 a1_1 a1_2 a1_3 a1_4 a1_5))) = some (r1, r2, r3, r4, r5, r6, r7, r8, r9) := h
  clear h
  have HC4 := Aside0.mk H
  clear H
  go_enter Tryd.func30, Tryd.ntmps30
  go_upto_region 1 with (first | ((with_reducible refine gate_dst (N := 3) rfl ?_); refine box_event ?hg (N := 3) ?hd (cs := #[.int .i64 a0_0, .int .i64 a0_1, .int .i64 a0_2, .slice A0_3 l0_3.length c0_3]) (t := 45) ?hr ?_; (case hd => rfl); (case hg => rfl); (case hr => first | (go_simp; done) | (go_simp; rfl)); intro gb287 hg w5 hbox hb; have n0_ := Aside0.mk (below_step (by repeat (first | (with_reducible first | exact HB.out | apply below_alloc | apply pw_below_drewN | apply below_drew1) | exact HB.out)) hb); have n1_ := Aside0.mk (hbox); have n2_ := Aside0.mk ((by rw [hg]; exact (below_size (by repeat (first | (with_reducible first | exact HB.out | apply below_alloc | apply pw_below_drewN | apply below_drew1) | exact HB.out))) : w.heap.size ≤ gb287)); have n3_ := Aside0.mk ((by rw [hg]; exact (below_size (by repeat (first | (with_reducible first | exact HB.out | apply below_alloc | apply pw_below_drewN | apply below_drew1) | exact HB.out))) : w.heap.size ≤ gb287)); clear HB; have HB := n0_; have BK287 := n1_; have GW287 := n2_; have GE287 := n3_; clear n0_ n1_ n2_ n3_; clear hb hbox hg) | ((with_reducible refine gate_dst (N := 4) rfl ?_); refine box_event ?hg (N := 4) ?hd (cs := #[.int .i64 a1_0, .int .i64 a1_1, .int .i64 a1_2, .int .i64 a1_3, .int .i64 a1_4, .int .i64 a1_5]) (t := 47) ?hr ?_; (case hd => rfl); (case hg => rfl); (case hr => first | (go_simp; done) | (go_simp; rfl)); intro gb288 hg w6 hbox hb; have n0_ := Aside0.mk (blk_below (g := gb287) (o := .cells #[.int .i64 a0_0, .int .i64 a0_1, .int .i64 a0_2, .slice A0_3 l0_3.length c0_3] 45 (0, 0)) (by (with_reducible repeat (first | refine blk_drewN ?_ _ | refine blk_drew ?_ | refine blk_alloc ?_ _)); exact BK287.out) hb); have n1_ := Aside0.mk (below_step (by repeat (first | (with_reducible first | exact HB.out | apply below_alloc | apply pw_below_drewN | apply below_drew1 | refine below_set ?_ GE287.out) | exact HB.out)) hb); have n2_ := Aside0.mk (hbox); have n3_ := Aside0.mk ((by rw [hg]; exact (below_size (by repeat (first | (with_reducible first | exact HB.out | apply below_alloc | apply pw_below_drewN | apply below_drew1 | refine below_set ?_ GE287.out) | exact HB.out))) : w.heap.size ≤ gb288)); have n4_ := Aside0.mk ((by rw [hg]; exact (below_size (by repeat (first | (with_reducible first | exact HB.out | apply below_alloc | apply pw_below_drewN | apply below_drew1 | refine below_set ?_ GE287.out) | exact HB.out))) : w.heap.size ≤ gb288)); have n5_ := Aside0.mk ((by rw [hg]; exact Nat.ne_of_lt (blk_lt (g := gb287) (o := .cells #[.int .i64 a0_0, .int .i64 a0_1, .int .i64 a0_2, .slice A0_3 l0_3.length c0_3] 45 (0, 0)) (by (with_reducible repeat (first | refine blk_drewN ?_ _ | refine blk_drew ?_ | refine blk_alloc ?_ _)); exact BK287.out)) : gb287 ≠ gb288)); have n6_ := Aside0.mk ((by rw [hg]; exact Nat.ne_of_gt (blk_lt (g := gb287) (o := .cells #[.int .i64 a0_0, .int .i64 a0_1, .int .i64 a0_2, .slice A0_3 l0_3.length c0_3] 45 (0, 0)) (by (with_reducible repeat (first | refine blk_drewN ?_ _ | refine blk_drew ?_ | refine blk_alloc ?_ _)); exact BK287.out)) : gb288 ≠ gb287)); clear BK287; clear HB; have BK287 := n0_; have HB := n1_; have BK288 := n2_; have GW288 := n3_; have GE288 := n4_; have NB287_288 := n5_; have NB288_287 := n6_; clear n0_ n1_ n2_ n3_ n4_ n5_ n6_; clear hb hbox hg) | ((with_reducible refine gate_dst (N := 6) rfl ?_); refine box_event ?hg (N := 6) ?hd (cs := #[.int .i64 0, .int .i64 0, .int .i64 0, .int .i64 0, .int .i64 0, .int .i64 0, .int .i64 0, .int .i64 0]) (t := 62) ?hr ?_; (case hd => rfl); (case hg => rfl); (case hr => first | (go_simp; done) | (go_simp; rfl)); intro gb289 hg w7 hbox hb; have n0_ := Aside0.mk (blk_below (g := gb287) (o := .cells #[.int .i64 a0_0, .int .i64 a0_1, .int .i64 a0_2, .slice A0_3 l0_3.length c0_3] 45 (0, 0)) (by (with_reducible repeat (first | refine blk_drewN ?_ _ | refine blk_drew ?_ | refine blk_alloc ?_ _)); exact BK287.out) hb); have n1_ := Aside0.mk (blk_below (g := gb288) (o := .cells #[.int .i64 a1_0, .int .i64 a1_1, .int .i64 a1_2, .int .i64 a1_3, .int .i64 a1_4, .int .i64 a1_5] 47 (0, 0)) (by (with_reducible repeat (first | refine blk_drewN ?_ _ | refine blk_drew ?_ | refine blk_alloc ?_ _)); exact BK288.out) hb); have n2_ := Aside0.mk (below_step (by repeat (first | (with_reducible first | exact HB.out | apply below_alloc | apply pw_below_drewN | apply below_drew1 | refine below_set ?_ GE287.out | refine below_set ?_ GE288.out) | exact HB.out)) hb); have n3_ := Aside0.mk (hbox); have n4_ := Aside0.mk ((by rw [hg]; exact (below_size (by repeat (first | (with_reducible first | exact HB.out | apply below_alloc | apply pw_below_drewN | apply below_drew1 | refine below_set ?_ GE287.out | refine below_set ?_ GE288.out) | exact HB.out))) : w.heap.size ≤ gb289)); have n5_ := Aside0.mk ((by rw [hg]; exact (below_size (by repeat (first | (with_reducible first | exact HB.out | apply below_alloc | apply pw_below_drewN | apply below_drew1 | refine below_set ?_ GE287.out | refine below_set ?_ GE288.out) | exact HB.out))) : w.heap.size ≤ gb289)); have n6_ := Aside0.mk ((by rw [hg]; exact Nat.ne_of_lt (blk_lt (g := gb287) (o := .cells #[.int .i64 a0_0, .int .i64 a0_1, .int .i64 a0_2, .slice A0_3 l0_3.length c0_3] 45 (0, 0)) (by (with_reducible repeat (first | refine blk_drewN ?_ _ | refine blk_drew ?_ | refine blk_alloc ?_ _)); exact BK287.out)) : gb287 ≠ gb289)); have n7_ := Aside0.mk ((by rw [hg]; exact Nat.ne_of_gt (blk_lt (g := gb287) (o := .cells #[.int .i64 a0_0, .int .i64 a0_1, .int .i64 a0_2, .slice A0_3 l0_3.length c0_3] 45 (0, 0)) (by (with_reducible repeat (first | refine blk_drewN ?_ _ | refine blk_drew ?_ | refine blk_alloc ?_ _)); exact BK287.out)) : gb289 ≠ gb287)); have n8_ := Aside0.mk ((by rw [hg]; exact Nat.ne_of_lt (blk_lt (g := gb288) (o := .cells #[.int .i64 a1_0, .int .i64 a1_1, .int .i64 a1_2, .int .i64 a1_3, .int .i64 a1_4, .int .i64 a1_5] 47 (0, 0)) (by (with_reducible repeat (first | refine blk_drewN ?_ _ | refine blk_drew ?_ | refine blk_alloc ?_ _)); exact BK288.out)) : gb288 ≠ gb289)); have n9_ := Aside0.mk ((by rw [hg]; exact Nat.ne_of_gt (blk_lt (g := gb288) (o := .cells #[.int .i64 a1_0, .int .i64 a1_1, .int .i64 a1_2, .int .i64 a1_3, .int .i64 a1_4, .int .i64 a1_5] 47 (0, 0)) (by (with_reducible repeat (first | refine blk_drewN ?_ _ | refine blk_drew ?_ | refine blk_alloc ?_ _)); exact BK288.out)) : gb289 ≠ gb288)); clear BK287; clear BK288; clear HB; have BK287 := n0_; have BK288 := n1_; have HB := n2_; have BK289 := n3_; have GW289 := n4_; have GE289 := n5_; have NB287_289 := n6_; have NB289_287 := n7_; have NB288_289 := n8_; have NB289_288 := n9_; clear n0_ n1_ n2_ n3_ n4_ n5_ n6_ n7_ n8_ n9_; clear hb hbox hg))
  (try simp only [Act.put, List.setIfInBounds_toArray, List.set_cons_zero, List.set_cons_succ])
  go_cut [22] (fun v22 wc => ∃ (kq : Nat) (x22_3 : Bool), v22 = .bool x22_3 ∧ Aside0 (shot_Fly.j0 kq a2 x22_3 a0_0 a0_1 a0_2 l0_3 a1_0 a1_1 a1_2 a1_3 a1_4 a1_5 = some (r1, r2, r3, r4, r5, r6, r7, r8, r9)) ∧ Aside0 (kq ≤ k) ∧ Aside0 (wc.heap[gb287]? = some (.cells #[.int .i64 a0_0, .int .i64 a0_1, .int .i64 a0_2, (.slice A0_3 l0_3.length c0_3)] 45 (0, 0))) ∧ Aside0 (wc.heap[gb288]? = some (.cells #[.int .i64 a1_0, .int .i64 a1_1, .int .i64 a1_2, .int .i64 a1_3, .int .i64 a1_4, .int .i64 a1_5] 47 (0, 0))) ∧ Aside0 (wc.heap[gb289]? = some (.cells #[.int .i64 0, .int .i64 0, .int .i64 0, .int .i64 0, .int .i64 0, .int .i64 0, .int .i64 0, .int .i64 0] 62 (0, 0))) ∧ Aside0 (Below w.heap.size w wc))
  case first =>
    have H := HC4.out
    clear HC4
    replace H := Option.bind_eq_some_iff.mp H
    obtain ⟨t290, A80, H⟩ := H
    replace H : (if t290 = true then (if a2 < 0 then (shot_Fly.j0 k a2 true a0_0 a0_1 a0_2 l0_3 a1_0 a1_1 a1_2 a1_3 a1_4 a1_5) else (shot_Fly.j0 k a2 (decide (a2 > 1024)) a0_0 a0_1 a0_2 l0_3 a1_0 a1_1 a1_2 a1_3 a1_4 a1_5)) else (shot_Fly.j0 k a2 true a0_0 a0_1 a0_2 l0_3 a1_0 a1_1 a1_2 a1_3 a1_4 a1_5)) = some (r1, r2, r3, r4, r5, r6, r7, r8, r9) := H
    have A8 := Aside0.mk A80
    clear A80
    by_cases c9 : t290 = true
    · subst c9
      have H1 : (if a2 < 0 then (shot_Fly.j0 k a2 true a0_0 a0_1 a0_2 l0_3 a1_0 a1_1 a1_2 a1_3 a1_4 a1_5) else (shot_Fly.j0 k a2 (decide (a2 > 1024)) a0_0 a0_1 a0_2 l0_3 a1_0 a1_1 a1_2 a1_3 a1_4 a1_5)) = some (r1, r2, r3, r4, r5, r6, r7, r8, r9) := by rw [if_pos rfl] at H; exact H
      clear H
      have H := H1
      clear H1
      by_cases c10 : a2 < 0
      · rw [if_pos c10] at H
        have c10b0 : decide (a2 < 0) = true := decide_eq_true c10
        clear c10
        (first | rw [c10b0] | (simp only [i64_w, i32_w]; rw [c10b0]) | skip)
        have H' := Aside0.mk H
        clear H
        have hnb11 := NB287_288.out
        have hnc11 := NB288_287.out
        have hnb12 := NB287_289.out
        have hnc12 := NB289_287.out
        have hcz13_0 : w7.cell? ⟨gb287, 0, none⟩ = some (.int .i64 a0_0) := (blk_cell BK287.out 0).trans rfl
        have hcz13_1 : w7.cell? ⟨gb287, 1, none⟩ = some (.int .i64 a0_1) := (blk_cell BK287.out 1).trans rfl
        have hcz13_2 : w7.cell? ⟨gb287, 2, none⟩ = some (.int .i64 a0_2) := (blk_cell BK287.out 2).trans rfl
        have hcz13_3 : w7.cell? ⟨gb287, 3, none⟩ = some (.slice A0_3 l0_3.length c0_3) := (blk_cell BK287.out 3).trans rfl
        have hfz13_0 := blk_frozen BK287.out 0
        have hfz13_1 := blk_frozen BK287.out 1
        have hfz13_2 := blk_frozen BK287.out 2
        have hfz13_3 := blk_frozen BK287.out 3
        have hnb14 := NB288_289.out
        have hnc14 := NB289_288.out
        have hcz15_0 : w7.cell? ⟨gb288, 0, none⟩ = some (.int .i64 a1_0) := (blk_cell BK288.out 0).trans rfl
        have hcz15_1 : w7.cell? ⟨gb288, 1, none⟩ = some (.int .i64 a1_1) := (blk_cell BK288.out 1).trans rfl
        have hcz15_2 : w7.cell? ⟨gb288, 2, none⟩ = some (.int .i64 a1_2) := (blk_cell BK288.out 2).trans rfl
        have hcz15_3 : w7.cell? ⟨gb288, 3, none⟩ = some (.int .i64 a1_3) := (blk_cell BK288.out 3).trans rfl
        have hcz15_4 : w7.cell? ⟨gb288, 4, none⟩ = some (.int .i64 a1_4) := (blk_cell BK288.out 4).trans rfl
        have hcz15_5 : w7.cell? ⟨gb288, 5, none⟩ = some (.int .i64 a1_5) := (blk_cell BK288.out 5).trans rfl
        have hfz15_0 := blk_frozen BK288.out 0
        have hfz15_1 := blk_frozen BK288.out 1
        have hfz15_2 := blk_frozen BK288.out 2
        have hfz15_3 := blk_frozen BK288.out 3
        have hfz15_4 := blk_frozen BK288.out 4
        have hfz15_5 := blk_frozen BK288.out 5
        go_wp2_with (first | ((with_reducible refine gate_callee (f := 62) rfl ?_); refine goesL_ (some 13) rfl rfl Tryd.func62 (by kernel_rfl) rfl #[.agg #[.int .i64 a0_0, .int .i64 a0_1, .int .i64 a0_2, .slice A0_3 l0_3.length c0_3], .agg #[.int .i64 a1_0, .int .i64 a1_1, .int .i64 a1_2, .int .i64 a1_3, .int .i64 a1_4, .int .i64 a1_5]] rfl (by (try simp only [List.map_toArray, List.map_cons, List.map_nil]); first | done | rfl | (simp only [List.length_drop, List.length_take]; rfl)) ?_; (with_reducible refine (shot_May.calls k a0_0 a0_1 a0_2 _ _ l0_3 a1_0 a1_1 a1_2 a1_3 a1_4 a1_5 true _ ?side1 ?side2 A8.out).mono ?_); (case side1 => repeat (first | exact (Kd.C_below HR0_3.out HB.out) | (with_reducible refine Kd.C_alloc ?_ _) | (with_reducible refine Kd.C_drewN ?_ _) | (with_reducible refine Kd.C_drew ?_))); (case side2 => exact HC0_3.out); rintro e w16 ⟨rfl, hb⟩; refine ⟨_, rfl, ?_⟩; have n0_ := Aside0.mk (blk_below (g := gb287) (o := .cells #[.int .i64 a0_0, .int .i64 a0_1, .int .i64 a0_2, .slice A0_3 l0_3.length c0_3] 45 (0, 0)) (by (with_reducible repeat (first | refine blk_drewN ?_ _ | refine blk_drew ?_ | refine blk_alloc ?_ _)); exact BK287.out) hb); have n1_ := Aside0.mk (blk_below (g := gb288) (o := .cells #[.int .i64 a1_0, .int .i64 a1_1, .int .i64 a1_2, .int .i64 a1_3, .int .i64 a1_4, .int .i64 a1_5] 47 (0, 0)) (by (with_reducible repeat (first | refine blk_drewN ?_ _ | refine blk_drew ?_ | refine blk_alloc ?_ _)); exact BK288.out) hb); have n2_ := Aside0.mk (blk_below (g := gb289) (o := .cells #[.int .i64 0, .int .i64 0, .int .i64 0, .int .i64 0, .int .i64 0, .int .i64 0, .int .i64 0, .int .i64 0] 62 (0, 0)) (by (with_reducible repeat (first | refine blk_drewN ?_ _ | refine blk_drew ?_ | refine blk_alloc ?_ _)); exact BK289.out) hb); have n3_ := Aside0.mk (below_step (by repeat (first | (with_reducible first | exact HB.out | apply below_alloc | apply pw_below_drewN | apply below_drew1 | refine below_set ?_ GE287.out | refine below_set ?_ GE288.out | refine below_set ?_ GE289.out) | exact HB.out)) hb); clear BK287; clear BK288; clear BK289; clear HB; have BK287 := n0_; have BK288 := n1_; have BK289 := n2_; have HB := n3_; clear n0_ n1_ n2_ n3_; (try clear hb); (try clear hb2); (try clear hk); (try clear hi)))
        go_meet
        case rel => exact ⟨_, (true), (by first | rfl | (simp; done) | (simp [*]; done)), H', ⟨by first | omega | exact Nat.le_refl _⟩, ⟨by (with_reducible repeat (first | refine blk_drewN ?_ _ | refine blk_drew ?_ | refine blk_alloc ?_ _)); exact BK287.out⟩, ⟨by (with_reducible repeat (first | refine blk_drewN ?_ _ | refine blk_drew ?_ | refine blk_alloc ?_ _)); exact BK288.out⟩, ⟨by (with_reducible repeat (first | refine blk_drewN ?_ _ | refine blk_drew ?_ | refine blk_alloc ?_ _)); exact BK289.out⟩, ⟨by repeat (first | (with_reducible first | exact HB.out | apply below_alloc | apply pw_below_drewN | apply below_drew1 | refine below_set ?_ GE287.out | refine below_set ?_ GE288.out | refine below_set ?_ GE289.out) | exact HB.out)⟩⟩
      · rw [if_neg c10] at H
        have c10b0 : decide (a2 < 0) = false := decide_eq_false c10
        clear c10
        (first | rw [c10b0] | (simp only [i64_w, i32_w]; rw [c10b0]) | skip)
        have H' := Aside0.mk H
        clear H
        have hnb17 := NB287_288.out
        have hnc17 := NB288_287.out
        have hnb18 := NB287_289.out
        have hnc18 := NB289_287.out
        have hcz19_0 : w7.cell? ⟨gb287, 0, none⟩ = some (.int .i64 a0_0) := (blk_cell BK287.out 0).trans rfl
        have hcz19_1 : w7.cell? ⟨gb287, 1, none⟩ = some (.int .i64 a0_1) := (blk_cell BK287.out 1).trans rfl
        have hcz19_2 : w7.cell? ⟨gb287, 2, none⟩ = some (.int .i64 a0_2) := (blk_cell BK287.out 2).trans rfl
        have hcz19_3 : w7.cell? ⟨gb287, 3, none⟩ = some (.slice A0_3 l0_3.length c0_3) := (blk_cell BK287.out 3).trans rfl
        have hfz19_0 := blk_frozen BK287.out 0
        have hfz19_1 := blk_frozen BK287.out 1
        have hfz19_2 := blk_frozen BK287.out 2
        have hfz19_3 := blk_frozen BK287.out 3
        have hnb20 := NB288_289.out
        have hnc20 := NB289_288.out
        have hcz21_0 : w7.cell? ⟨gb288, 0, none⟩ = some (.int .i64 a1_0) := (blk_cell BK288.out 0).trans rfl
        have hcz21_1 : w7.cell? ⟨gb288, 1, none⟩ = some (.int .i64 a1_1) := (blk_cell BK288.out 1).trans rfl
        have hcz21_2 : w7.cell? ⟨gb288, 2, none⟩ = some (.int .i64 a1_2) := (blk_cell BK288.out 2).trans rfl
        have hcz21_3 : w7.cell? ⟨gb288, 3, none⟩ = some (.int .i64 a1_3) := (blk_cell BK288.out 3).trans rfl
        have hcz21_4 : w7.cell? ⟨gb288, 4, none⟩ = some (.int .i64 a1_4) := (blk_cell BK288.out 4).trans rfl
        have hcz21_5 : w7.cell? ⟨gb288, 5, none⟩ = some (.int .i64 a1_5) := (blk_cell BK288.out 5).trans rfl
        have hfz21_0 := blk_frozen BK288.out 0
        have hfz21_1 := blk_frozen BK288.out 1
        have hfz21_2 := blk_frozen BK288.out 2
        have hfz21_3 := blk_frozen BK288.out 3
        have hfz21_4 := blk_frozen BK288.out 4
        have hfz21_5 := blk_frozen BK288.out 5
        go_wp2_with (first | ((with_reducible refine gate_callee (f := 62) rfl ?_); refine goesL_ (some 13) rfl rfl Tryd.func62 (by kernel_rfl) rfl #[.agg #[.int .i64 a0_0, .int .i64 a0_1, .int .i64 a0_2, .slice A0_3 l0_3.length c0_3], .agg #[.int .i64 a1_0, .int .i64 a1_1, .int .i64 a1_2, .int .i64 a1_3, .int .i64 a1_4, .int .i64 a1_5]] rfl (by (try simp only [List.map_toArray, List.map_cons, List.map_nil]); first | done | rfl | (simp only [List.length_drop, List.length_take]; rfl)) ?_; (with_reducible refine (shot_May.calls k a0_0 a0_1 a0_2 _ _ l0_3 a1_0 a1_1 a1_2 a1_3 a1_4 a1_5 true _ ?side1 ?side2 A8.out).mono ?_); (case side1 => repeat (first | exact (Kd.C_below HR0_3.out HB.out) | (with_reducible refine Kd.C_alloc ?_ _) | (with_reducible refine Kd.C_drewN ?_ _) | (with_reducible refine Kd.C_drew ?_))); (case side2 => exact HC0_3.out); rintro e w22 ⟨rfl, hb⟩; refine ⟨_, rfl, ?_⟩; have n0_ := Aside0.mk (blk_below (g := gb287) (o := .cells #[.int .i64 a0_0, .int .i64 a0_1, .int .i64 a0_2, .slice A0_3 l0_3.length c0_3] 45 (0, 0)) (by (with_reducible repeat (first | refine blk_drewN ?_ _ | refine blk_drew ?_ | refine blk_alloc ?_ _)); exact BK287.out) hb); have n1_ := Aside0.mk (blk_below (g := gb288) (o := .cells #[.int .i64 a1_0, .int .i64 a1_1, .int .i64 a1_2, .int .i64 a1_3, .int .i64 a1_4, .int .i64 a1_5] 47 (0, 0)) (by (with_reducible repeat (first | refine blk_drewN ?_ _ | refine blk_drew ?_ | refine blk_alloc ?_ _)); exact BK288.out) hb); have n2_ := Aside0.mk (blk_below (g := gb289) (o := .cells #[.int .i64 0, .int .i64 0, .int .i64 0, .int .i64 0, .int .i64 0, .int .i64 0, .int .i64 0, .int .i64 0] 62 (0, 0)) (by (with_reducible repeat (first | refine blk_drewN ?_ _ | refine blk_drew ?_ | refine blk_alloc ?_ _)); exact BK289.out) hb); have n3_ := Aside0.mk (below_step (by repeat (first | (with_reducible first | exact HB.out | apply below_alloc | apply pw_below_drewN | apply below_drew1 | refine below_set ?_ GE287.out | refine below_set ?_ GE288.out | refine below_set ?_ GE289.out) | exact HB.out)) hb); clear BK287; clear BK288; clear BK289; clear HB; have BK287 := n0_; have BK288 := n1_; have BK289 := n2_; have HB := n3_; clear n0_ n1_ n2_ n3_; (try clear hb); (try clear hb2); (try clear hk); (try clear hi)))
        go_meet
        case rel => exact ⟨_, (decide (a2 > 1024)), (by first | rfl | (simp; done) | (simp [*]; done)), H', ⟨by first | omega | exact Nat.le_refl _⟩, ⟨by (with_reducible repeat (first | refine blk_drewN ?_ _ | refine blk_drew ?_ | refine blk_alloc ?_ _)); exact BK287.out⟩, ⟨by (with_reducible repeat (first | refine blk_drewN ?_ _ | refine blk_drew ?_ | refine blk_alloc ?_ _)); exact BK288.out⟩, ⟨by (with_reducible repeat (first | refine blk_drewN ?_ _ | refine blk_drew ?_ | refine blk_alloc ?_ _)); exact BK289.out⟩, ⟨by repeat (first | (with_reducible first | exact HB.out | apply below_alloc | apply pw_below_drewN | apply below_drew1 | refine below_set ?_ GE287.out | refine below_set ?_ GE288.out | refine below_set ?_ GE289.out) | exact HB.out)⟩⟩
    · replace c9 := Bool.eq_false_iff.mpr c9
      subst c9
      have H1 : (shot_Fly.j0 k a2 true a0_0 a0_1 a0_2 l0_3 a1_0 a1_1 a1_2 a1_3 a1_4 a1_5) = some (r1, r2, r3, r4, r5, r6, r7, r8, r9) := by rw [if_neg (show ¬ (false = true) by decide)] at H; exact H
      clear H
      have H := H1
      clear H1
      have H' := Aside0.mk H
      clear H
      have hnb23 := NB287_288.out
      have hnc23 := NB288_287.out
      have hnb24 := NB287_289.out
      have hnc24 := NB289_287.out
      have hcz25_0 : w7.cell? ⟨gb287, 0, none⟩ = some (.int .i64 a0_0) := (blk_cell BK287.out 0).trans rfl
      have hcz25_1 : w7.cell? ⟨gb287, 1, none⟩ = some (.int .i64 a0_1) := (blk_cell BK287.out 1).trans rfl
      have hcz25_2 : w7.cell? ⟨gb287, 2, none⟩ = some (.int .i64 a0_2) := (blk_cell BK287.out 2).trans rfl
      have hcz25_3 : w7.cell? ⟨gb287, 3, none⟩ = some (.slice A0_3 l0_3.length c0_3) := (blk_cell BK287.out 3).trans rfl
      have hfz25_0 := blk_frozen BK287.out 0
      have hfz25_1 := blk_frozen BK287.out 1
      have hfz25_2 := blk_frozen BK287.out 2
      have hfz25_3 := blk_frozen BK287.out 3
      have hnb26 := NB288_289.out
      have hnc26 := NB289_288.out
      have hcz27_0 : w7.cell? ⟨gb288, 0, none⟩ = some (.int .i64 a1_0) := (blk_cell BK288.out 0).trans rfl
      have hcz27_1 : w7.cell? ⟨gb288, 1, none⟩ = some (.int .i64 a1_1) := (blk_cell BK288.out 1).trans rfl
      have hcz27_2 : w7.cell? ⟨gb288, 2, none⟩ = some (.int .i64 a1_2) := (blk_cell BK288.out 2).trans rfl
      have hcz27_3 : w7.cell? ⟨gb288, 3, none⟩ = some (.int .i64 a1_3) := (blk_cell BK288.out 3).trans rfl
      have hcz27_4 : w7.cell? ⟨gb288, 4, none⟩ = some (.int .i64 a1_4) := (blk_cell BK288.out 4).trans rfl
      have hcz27_5 : w7.cell? ⟨gb288, 5, none⟩ = some (.int .i64 a1_5) := (blk_cell BK288.out 5).trans rfl
      have hfz27_0 := blk_frozen BK288.out 0
      have hfz27_1 := blk_frozen BK288.out 1
      have hfz27_2 := blk_frozen BK288.out 2
      have hfz27_3 := blk_frozen BK288.out 3
      have hfz27_4 := blk_frozen BK288.out 4
      have hfz27_5 := blk_frozen BK288.out 5
      go_wp2_with (first | ((with_reducible refine gate_callee (f := 62) rfl ?_); refine goesL_ (some 13) rfl rfl Tryd.func62 (by kernel_rfl) rfl #[.agg #[.int .i64 a0_0, .int .i64 a0_1, .int .i64 a0_2, .slice A0_3 l0_3.length c0_3], .agg #[.int .i64 a1_0, .int .i64 a1_1, .int .i64 a1_2, .int .i64 a1_3, .int .i64 a1_4, .int .i64 a1_5]] rfl (by (try simp only [List.map_toArray, List.map_cons, List.map_nil]); first | done | rfl | (simp only [List.length_drop, List.length_take]; rfl)) ?_; (with_reducible refine (shot_May.calls k a0_0 a0_1 a0_2 _ _ l0_3 a1_0 a1_1 a1_2 a1_3 a1_4 a1_5 false _ ?side1 ?side2 A8.out).mono ?_); (case side1 => repeat (first | exact (Kd.C_below HR0_3.out HB.out) | (with_reducible refine Kd.C_alloc ?_ _) | (with_reducible refine Kd.C_drewN ?_ _) | (with_reducible refine Kd.C_drew ?_))); (case side2 => exact HC0_3.out); rintro e w28 ⟨rfl, hb⟩; refine ⟨_, rfl, ?_⟩; have n0_ := Aside0.mk (blk_below (g := gb287) (o := .cells #[.int .i64 a0_0, .int .i64 a0_1, .int .i64 a0_2, .slice A0_3 l0_3.length c0_3] 45 (0, 0)) (by (with_reducible repeat (first | refine blk_drewN ?_ _ | refine blk_drew ?_ | refine blk_alloc ?_ _)); exact BK287.out) hb); have n1_ := Aside0.mk (blk_below (g := gb288) (o := .cells #[.int .i64 a1_0, .int .i64 a1_1, .int .i64 a1_2, .int .i64 a1_3, .int .i64 a1_4, .int .i64 a1_5] 47 (0, 0)) (by (with_reducible repeat (first | refine blk_drewN ?_ _ | refine blk_drew ?_ | refine blk_alloc ?_ _)); exact BK288.out) hb); have n2_ := Aside0.mk (blk_below (g := gb289) (o := .cells #[.int .i64 0, .int .i64 0, .int .i64 0, .int .i64 0, .int .i64 0, .int .i64 0, .int .i64 0, .int .i64 0] 62 (0, 0)) (by (with_reducible repeat (first | refine blk_drewN ?_ _ | refine blk_drew ?_ | refine blk_alloc ?_ _)); exact BK289.out) hb); have n3_ := Aside0.mk (below_step (by repeat (first | (with_reducible first | exact HB.out | apply below_alloc | apply pw_below_drewN | apply below_drew1 | refine below_set ?_ GE287.out | refine below_set ?_ GE288.out | refine below_set ?_ GE289.out) | exact HB.out)) hb); clear BK287; clear BK288; clear BK289; clear HB; have BK287 := n0_; have BK288 := n1_; have BK289 := n2_; have HB := n3_; clear n0_ n1_ n2_ n3_; (try clear hb); (try clear hb2); (try clear hk); (try clear hi)))
      go_meet
      case rel => exact ⟨_, (true), (by first | rfl | (simp; done) | (simp [*]; done)), H', ⟨by first | omega | exact Nat.le_refl _⟩, ⟨by (with_reducible repeat (first | refine blk_drewN ?_ _ | refine blk_drew ?_ | refine blk_alloc ?_ _)); exact BK287.out⟩, ⟨by (with_reducible repeat (first | refine blk_drewN ?_ _ | refine blk_drew ?_ | refine blk_alloc ?_ _)); exact BK288.out⟩, ⟨by (with_reducible repeat (first | refine blk_drewN ?_ _ | refine blk_drew ?_ | refine blk_alloc ?_ _)); exact BK289.out⟩, ⟨by repeat (first | (with_reducible first | exact HB.out | apply below_alloc | apply pw_below_drewN | apply below_drew1 | refine below_set ?_ GE287.out | refine below_set ?_ GE288.out | refine below_set ?_ GE289.out) | exact HB.out)⟩⟩
  case rest =>
    clear HC4
    try clear c1
    try clear c2
    try clear p2
    try clear c3
    try clear c6
    try clear c9
    try clear c10
    try clear c10b0
    try clear c11
    try clear c12
    try clear c14
    try clear c17
    try clear c18
    try clear c20
    try clear c23
    try clear c24
    try clear c26
    try clear hcz13_0
    try clear hcz13_1
    try clear hcz13_2
    try clear hcz13_3
    try clear hcz15_0
    try clear hcz15_1
    try clear hcz15_2
    try clear hcz15_3
    try clear hcz15_4
    try clear hcz15_5
    try clear hcz19_0
    try clear hcz19_1
    try clear hcz19_2
    try clear hcz19_3
    try clear hcz21_0
    try clear hcz21_1
    try clear hcz21_2
    try clear hcz21_3
    try clear hcz21_4
    try clear hcz21_5
    try clear hcz25_0
    try clear hcz25_1
    try clear hcz25_2
    try clear hcz25_3
    try clear hcz27_0
    try clear hcz27_1
    try clear hcz27_2
    try clear hcz27_3
    try clear hcz27_4
    try clear hcz27_5
    try clear hfz13_0
    try clear hfz13_1
    try clear hfz13_2
    try clear hfz13_3
    try clear hfz15_0
    try clear hfz15_1
    try clear hfz15_2
    try clear hfz15_3
    try clear hfz15_4
    try clear hfz15_5
    try clear hfz19_0
    try clear hfz19_1
    try clear hfz19_2
    try clear hfz19_3
    try clear hfz21_0
    try clear hfz21_1
    try clear hfz21_2
    try clear hfz21_3
    try clear hfz21_4
    try clear hfz21_5
    try clear hfz25_0
    try clear hfz25_1
    try clear hfz25_2
    try clear hfz25_3
    try clear hfz27_0
    try clear hfz27_1
    try clear hfz27_2
    try clear hfz27_3
    try clear hfz27_4
    try clear hfz27_5
    obtain ⟨kq, x22_3, rfl, HA, HJ3, BK287, BK288, BK289, HB⟩ := hcut
    cases kq with
    | zero => exact absurd HA.out (by simp [shot_Fly.j0])
    | succ kj3 =>
      have H := HA.out
      clear HA
      simp only [shot_Fly.j0] at H
      by_cases c29 : x22_3 = true
      · subst c29
        have H1 : (some (0, 0, 0, 0, 0, 0, 0, 0, 1)) = some (r1, r2, r3, r4, r5, r6, r7, r8, r9) := by rw [if_pos rfl] at H; exact H
        clear H
        have H := H1
        clear H1
        simp only [Option.some.injEq, Prod.mk.injEq] at H
        obtain ⟨rfl, rfl, rfl, rfl, rfl, rfl, rfl, rfl, rfl⟩ := H
        have hnb30 := NB289_287.out
        have hnc30 := NB287_289.out
        have hnb31 := NB289_288.out
        have hnc31 := NB288_289.out
        have hcz32_0 : wc.cell? ⟨gb289, 0, none⟩ = some (.int .i64 0) := (blk_cell BK289.out 0).trans rfl
        have hcz32_1 : wc.cell? ⟨gb289, 1, none⟩ = some (.int .i64 0) := (blk_cell BK289.out 1).trans rfl
        have hcz32_2 : wc.cell? ⟨gb289, 2, none⟩ = some (.int .i64 0) := (blk_cell BK289.out 2).trans rfl
        have hcz32_3 : wc.cell? ⟨gb289, 3, none⟩ = some (.int .i64 0) := (blk_cell BK289.out 3).trans rfl
        have hcz32_4 : wc.cell? ⟨gb289, 4, none⟩ = some (.int .i64 0) := (blk_cell BK289.out 4).trans rfl
        have hcz32_5 : wc.cell? ⟨gb289, 5, none⟩ = some (.int .i64 0) := (blk_cell BK289.out 5).trans rfl
        have hcz32_6 : wc.cell? ⟨gb289, 6, none⟩ = some (.int .i64 0) := (blk_cell BK289.out 6).trans rfl
        have hcz32_7 : wc.cell? ⟨gb289, 7, none⟩ = some (.int .i64 0) := (blk_cell BK289.out 7).trans rfl
        have hfz32_0 := blk_frozen BK289.out 0
        have hfz32_1 := blk_frozen BK289.out 1
        have hfz32_2 := blk_frozen BK289.out 2
        have hfz32_3 := blk_frozen BK289.out 3
        have hfz32_4 := blk_frozen BK289.out 4
        have hfz32_5 := blk_frozen BK289.out 5
        have hfz32_6 := blk_frozen BK289.out 6
        have hfz32_7 := blk_frozen BK289.out 7
        go_wp2
        refine bodyPost_ret (results_ct rfl _ _ gb289 62 #[.int .i64 0, .int .i64 0, .int .i64 0, .int .i64 0, .int .i64 0, .int .i64 0, .int .i64 0, .int .i64 0] (0, 0) _ rfl (by (with_reducible repeat (first | refine blk_drewN ?_ _ | refine blk_drew ?_ | refine blk_alloc ?_ _)); refine blk_put (cs := #[.int .i64 0, .int .i64 0, .int .i64 0, .int .i64 0, .int .i64 0, .int .i64 0, .int .i64 0, .int .i64 0]) ?_ 7 _ rfl; (with_reducible repeat (first | refine blk_drewN ?_ _ | refine blk_drew ?_ | refine blk_alloc ?_ _)); refine blk_put (cs := #[.int .i64 0, .int .i64 0, .int .i64 0, .int .i64 0, .int .i64 0, .int .i64 0, .int .i64 0, .int .i64 0]) ?_ 6 _ rfl; (with_reducible repeat (first | refine blk_drewN ?_ _ | refine blk_drew ?_ | refine blk_alloc ?_ _)); refine blk_put (cs := #[.int .i64 0, .int .i64 0, .int .i64 0, .int .i64 0, .int .i64 0, .int .i64 0, .int .i64 0, .int .i64 0]) ?_ 5 _ rfl; (with_reducible repeat (first | refine blk_drewN ?_ _ | refine blk_drew ?_ | refine blk_alloc ?_ _)); refine blk_put (cs := #[.int .i64 0, .int .i64 0, .int .i64 0, .int .i64 0, .int .i64 0, .int .i64 0, .int .i64 0, .int .i64 0]) ?_ 4 _ rfl; (with_reducible repeat (first | refine blk_drewN ?_ _ | refine blk_drew ?_ | refine blk_alloc ?_ _)); refine blk_put (cs := #[.int .i64 0, .int .i64 0, .int .i64 0, .int .i64 0, .int .i64 0, .int .i64 0, .int .i64 0, .int .i64 0]) ?_ 3 _ rfl; (with_reducible repeat (first | refine blk_drewN ?_ _ | refine blk_drew ?_ | refine blk_alloc ?_ _)); refine blk_put (cs := #[.int .i64 0, .int .i64 0, .int .i64 0, .int .i64 0, .int .i64 0, .int .i64 0, .int .i64 0, .int .i64 0]) ?_ 2 _ rfl; (with_reducible repeat (first | refine blk_drewN ?_ _ | refine blk_drew ?_ | refine blk_alloc ?_ _)); refine blk_put (cs := #[.int .i64 0, .int .i64 0, .int .i64 0, .int .i64 0, .int .i64 0, .int .i64 0, .int .i64 0, .int .i64 0]) ?_ 1 _ rfl; (with_reducible repeat (first | refine blk_drewN ?_ _ | refine blk_drew ?_ | refine blk_alloc ?_ _)); refine blk_put (cs := #[.int .i64 0, .int .i64 0, .int .i64 0, .int .i64 0, .int .i64 0, .int .i64 0, .int .i64 0, .int .i64 0]) ?_ 0 _ rfl; (with_reducible repeat (first | refine blk_drewN ?_ _ | refine blk_drew ?_ | refine blk_alloc ?_ _)); exact BK289.out) Tryd.underlying62 rfl (by kernel_rfl)) rfl ?_
        exact ⟨by first | rfl | (simp [errW_none, errW_some] <;> rfl) | (simp [*, errW_none, errW_some] <;> rfl), by repeat (first | (with_reducible first | exact HB.out | apply below_alloc | apply pw_below_drewN | apply below_drew1 | refine below_set ?_ GE287.out | refine below_set ?_ GE288.out | refine below_set ?_ GE289.out) | exact HB.out)⟩
      · replace c29 := Bool.eq_false_iff.mpr c29
        subst c29
        have H1 : (shot_Fly.l0 kj3 a2 a2 0 a0_0 a0_1 a0_2 l0_3 a1_0 a1_1 a1_2 a1_3 a1_4 a1_5) = some (r1, r2, r3, r4, r5, r6, r7, r8, r9) := by rw [if_neg (show ¬ (false = true) by decide)] at H; exact H
        clear H
        have H := H1
        clear H1
        have H' := Aside0.mk H
        clear H
        go_wp2
        go_loopg [25] kj3 (fun kq v25 w' => ∃ (x25_2 : Int) (x289000_2 : Int) (x289001_2 : Int) (x289002_2 : Int) (x289003_2 : Int) (x289004_2 : Int) (x289005_2 : Int) (x290000_2 : Int) (x290001_2 : Int) (x290002_2 : Int) (x290003_2 : Int) (x290004_2 : Int) (x290005_2 : Int) (x290006_2 : Int) (x290007_2 : Int), v25 = .int .i64 x25_2 ∧ Aside0 (shot_Fly.l0 kq a2 a2 x25_2 a0_0 a0_1 a0_2 l0_3 x289000_2 x289001_2 x289002_2 x289003_2 x289004_2 x289005_2 = some (r1, r2, r3, r4, r5, r6, r7, r8, r9)) ∧ Aside0 (kq ≤ kj3) ∧ Aside0 (w'.heap[gb287]? = some (.cells #[.int .i64 a0_0, .int .i64 a0_1, .int .i64 a0_2, (.slice A0_3 l0_3.length c0_3)] 45 (0, 0))) ∧ Aside0 (w'.heap[gb288]? = some (.cells #[.int .i64 x289000_2, .int .i64 x289001_2, .int .i64 x289002_2, .int .i64 x289003_2, .int .i64 x289004_2, .int .i64 x289005_2] 47 (0, 0))) ∧ Aside0 (w'.heap[gb289]? = some (.cells #[.int .i64 x290000_2, .int .i64 x290001_2, .int .i64 x290002_2, .int .i64 x290003_2, .int .i64 x290004_2, .int .i64 x290005_2, .int .i64 x290006_2, .int .i64 x290007_2] 62 (0, 0))) ∧ Aside0 (Below w.heap.size w w'))
        case atStart => exact ⟨(0), (a1_0), (a1_1), (a1_2), (a1_3), (a1_4), (a1_5), (0), (0), (0), (0), (0), (0), (0), (0), (by first | rfl | (simp; done) | (simp [*]; done)), H', ⟨Nat.le_refl _⟩, ⟨by (with_reducible repeat (first | refine blk_drewN ?_ _ | refine blk_drew ?_ | refine blk_alloc ?_ _)); exact BK287.out⟩, ⟨by (with_reducible repeat (first | refine blk_drewN ?_ _ | refine blk_drew ?_ | refine blk_alloc ?_ _)); exact BK288.out⟩, ⟨by (with_reducible repeat (first | refine blk_drewN ?_ _ | refine blk_drew ?_ | refine blk_alloc ?_ _)); exact BK289.out⟩, ⟨by repeat (first | (with_reducible first | exact HB.out | apply below_alloc | apply pw_below_drewN | apply below_drew1 | refine below_set ?_ GE287.out | refine below_set ?_ GE288.out | refine below_set ?_ GE289.out) | exact HB.out)⟩⟩
        case round =>
          clear H'
          try clear c1
          try clear c2
          try clear p2
          try clear c3
          try clear c6
          try clear c9
          try clear c10
          try clear c10b0
          try clear c11
          try clear c12
          try clear c14
          try clear c17
          try clear c18
          try clear c20
          try clear c23
          try clear c24
          try clear c26
          try clear c29
          try clear c30
          try clear c31
          try clear hcz13_0
          try clear hcz13_1
          try clear hcz13_2
          try clear hcz13_3
          try clear hcz15_0
          try clear hcz15_1
          try clear hcz15_2
          try clear hcz15_3
          try clear hcz15_4
          try clear hcz15_5
          try clear hcz19_0
          try clear hcz19_1
          try clear hcz19_2
          try clear hcz19_3
          try clear hcz21_0
          try clear hcz21_1
          try clear hcz21_2
          try clear hcz21_3
          try clear hcz21_4
          try clear hcz21_5
          try clear hcz25_0
          try clear hcz25_1
          try clear hcz25_2
          try clear hcz25_3
          try clear hcz27_0
          try clear hcz27_1
          try clear hcz27_2
          try clear hcz27_3
          try clear hcz27_4
          try clear hcz27_5
          try clear hcz32_0
          try clear hcz32_1
          try clear hcz32_2
          try clear hcz32_3
          try clear hcz32_4
          try clear hcz32_5
          try clear hcz32_6
          try clear hcz32_7
          try clear hfz13_0
          try clear hfz13_1
          try clear hfz13_2
          try clear hfz13_3
          try clear hfz15_0
          try clear hfz15_1
          try clear hfz15_2
          try clear hfz15_3
          try clear hfz15_4
          try clear hfz15_5
          try clear hfz19_0
          try clear hfz19_1
          try clear hfz19_2
          try clear hfz19_3
          try clear hfz21_0
          try clear hfz21_1
          try clear hfz21_2
          try clear hfz21_3
          try clear hfz21_4
          try clear hfz21_5
          try clear hfz25_0
          try clear hfz25_1
          try clear hfz25_2
          try clear hfz25_3
          try clear hfz27_0
          try clear hfz27_1
          try clear hfz27_2
          try clear hfz27_3
          try clear hfz27_4
          try clear hfz27_5
          try clear hfz32_0
          try clear hfz32_1
          try clear hfz32_2
          try clear hfz32_3
          try clear hfz32_4
          try clear hfz32_5
          try clear hfz32_6
          try clear hfz32_7
          try clear p2
          obtain ⟨x25_2, x289000_2, x289001_2, x289002_2, x289003_2, x289004_2, x289005_2, x290000_2, x290001_2, x290002_2, x290003_2, x290004_2, x290005_2, x290006_2, x290007_2, rfl, HA, HK2, BK287, BK288, BK289, HB⟩ := hrel
          cases gk with
          | zero => exact absurd HA.out (by simp [shot_Fly.l0])
          | succ k2 =>
            have H := HA.out
            clear HA
            simp only [shot_Fly.l0] at H
            by_cases c33 : x25_2 < a2
            · rw [if_pos c33] at H
              have c33b0 : decide (x25_2 < a2) = true := decide_eq_true c33
              clear c33
              replace H := Option.bind_eq_some_iff.mp H
              obtain ⟨⟨t291, t292, t293, t294, t295, t296⟩, A340, H⟩ := H
              replace H : ((shot_How.f k2 a0_0 a0_1 a0_2 l0_3 t291 t292 t293 t294 t295 t296).bind fun bt297 => (if bt297.1 = 0 then (shot_Fly.l0 k2 a2 a2 (wrap64 (x25_2 + 1)) a0_0 a0_1 a0_2 l0_3 t291 t292 t293 t294 t295 t296) else (some (wrap64 (x25_2 + 1), bt297.1, t291, t292, t293, t294, t295, t296, 0)))) = some (r1, r2, r3, r4, r5, r6, r7, r8, r9) := H
              have A34 := Aside0.mk A340
              clear A340
              replace H := Option.bind_eq_some_iff.mp H
              obtain ⟨⟨t297, t298⟩, A350, H⟩ := H
              replace H : (if t297 = 0 then (shot_Fly.l0 k2 a2 a2 (wrap64 (x25_2 + 1)) a0_0 a0_1 a0_2 l0_3 t291 t292 t293 t294 t295 t296) else (some (wrap64 (x25_2 + 1), t297, t291, t292, t293, t294, t295, t296, 0))) = some (r1, r2, r3, r4, r5, r6, r7, r8, r9) := H
              have A35 := Aside0.mk A350
              clear A350
              by_cases c36 : t297 = 0
              · rw [if_pos c36] at H
                have c36b0 : (t297 == 0) = true := beq_iff_eq.mpr c36
                have c36b1 : (t297 != 0) = false := bne_eq_false_iff_eq.mpr c36
                clear c36
                have H' := Aside0.mk H
                clear H
                have hnb37 := NB288_287.out
                have hnc37 := NB287_288.out
                have hnb38 := NB288_289.out
                have hnc38 := NB289_288.out
                have hcz39_0 : wr.cell? ⟨gb288, 0, none⟩ = some (.int .i64 x289000_2) := (blk_cell BK288.out 0).trans rfl
                have hcz39_1 : wr.cell? ⟨gb288, 1, none⟩ = some (.int .i64 x289001_2) := (blk_cell BK288.out 1).trans rfl
                have hcz39_2 : wr.cell? ⟨gb288, 2, none⟩ = some (.int .i64 x289002_2) := (blk_cell BK288.out 2).trans rfl
                have hcz39_3 : wr.cell? ⟨gb288, 3, none⟩ = some (.int .i64 x289003_2) := (blk_cell BK288.out 3).trans rfl
                have hcz39_4 : wr.cell? ⟨gb288, 4, none⟩ = some (.int .i64 x289004_2) := (blk_cell BK288.out 4).trans rfl
                have hcz39_5 : wr.cell? ⟨gb288, 5, none⟩ = some (.int .i64 x289005_2) := (blk_cell BK288.out 5).trans rfl
                have hfz39_0 := blk_frozen BK288.out 0
                have hfz39_1 := blk_frozen BK288.out 1
                have hfz39_2 := blk_frozen BK288.out 2
                have hfz39_3 := blk_frozen BK288.out 3
                have hfz39_4 := blk_frozen BK288.out 4
                have hfz39_5 := blk_frozen BK288.out 5
                go_wp2_with (first | ((with_reducible refine gate_callee (f := 63) rfl ?_); refine goesL_ (some 29) rfl rfl Tryd.func63 (by kernel_rfl) rfl #[.agg #[.int .i64 x289000_2, .int .i64 x289001_2, .int .i64 x289002_2, .int .i64 x289003_2, .int .i64 x289004_2, .int .i64 x289005_2]] rfl (by (try simp only [List.map_toArray, List.map_cons, List.map_nil]); first | done | rfl | (simp only [List.length_drop, List.length_take]; rfl)) ?_; (with_reducible refine (shot_tick.calls x289000_2 x289001_2 x289002_2 x289003_2 x289004_2 x289005_2 t291 t292 t293 t294 t295 t296 _ A34.out).mono ?_); rintro e w40 ⟨rfl, hb⟩; refine ⟨_, rfl, ?_⟩; have n0_ := Aside0.mk (blk_below (g := gb287) (o := .cells #[.int .i64 a0_0, .int .i64 a0_1, .int .i64 a0_2, .slice A0_3 l0_3.length c0_3] 45 (0, 0)) (by (with_reducible repeat (first | refine blk_drewN ?_ _ | refine blk_drew ?_ | refine blk_alloc ?_ _)); exact BK287.out) hb); have n1_ := Aside0.mk (blk_below (g := gb288) (o := .cells #[.int .i64 x289000_2, .int .i64 x289001_2, .int .i64 x289002_2, .int .i64 x289003_2, .int .i64 x289004_2, .int .i64 x289005_2] 47 (0, 0)) (by (with_reducible repeat (first | refine blk_drewN ?_ _ | refine blk_drew ?_ | refine blk_alloc ?_ _)); exact BK288.out) hb); have n2_ := Aside0.mk (blk_below (g := gb289) (o := .cells #[.int .i64 x290000_2, .int .i64 x290001_2, .int .i64 x290002_2, .int .i64 x290003_2, .int .i64 x290004_2, .int .i64 x290005_2, .int .i64 x290006_2, .int .i64 x290007_2] 62 (0, 0)) (by (with_reducible repeat (first | refine blk_drewN ?_ _ | refine blk_drew ?_ | refine blk_alloc ?_ _)); exact BK289.out) hb); have n3_ := Aside0.mk (below_step (by repeat (first | (with_reducible first | exact HB.out | apply below_alloc | apply pw_below_drewN | apply below_drew1 | refine below_set ?_ GE287.out | refine below_set ?_ GE288.out | refine below_set ?_ GE289.out) | exact HB.out)) hb); clear BK287; clear BK288; clear BK289; clear HB; have BK287 := n0_; have BK288 := n1_; have BK289 := n2_; have HB := n3_; clear n0_ n1_ n2_ n3_; (try clear hb); (try clear hb2); (try clear hk); (try clear hi); have hcz41_0 : w40.cell? ⟨gb288, 0, none⟩ = some (.int .i64 x289000_2) := (blk_cell BK288.out 0).trans rfl; have hcz41_1 : w40.cell? ⟨gb288, 1, none⟩ = some (.int .i64 x289001_2) := (blk_cell BK288.out 1).trans rfl; have hcz41_2 : w40.cell? ⟨gb288, 2, none⟩ = some (.int .i64 x289002_2) := (blk_cell BK288.out 2).trans rfl; have hcz41_3 : w40.cell? ⟨gb288, 3, none⟩ = some (.int .i64 x289003_2) := (blk_cell BK288.out 3).trans rfl; have hcz41_4 : w40.cell? ⟨gb288, 4, none⟩ = some (.int .i64 x289004_2) := (blk_cell BK288.out 4).trans rfl; have hcz41_5 : w40.cell? ⟨gb288, 5, none⟩ = some (.int .i64 x289005_2) := (blk_cell BK288.out 5).trans rfl; have hfz41_0 := blk_frozen BK288.out 0; have hfz41_1 := blk_frozen BK288.out 1; have hfz41_2 := blk_frozen BK288.out 2; have hfz41_3 := blk_frozen BK288.out 3; have hfz41_4 := blk_frozen BK288.out 4; have hfz41_5 := blk_frozen BK288.out 5; have hnb42 := NB287_289.out; have hnc42 := NB289_287.out; have hcz43_0 : w40.cell? ⟨gb287, 0, none⟩ = some (.int .i64 a0_0) := (blk_cell BK287.out 0).trans rfl; have hcz43_1 : w40.cell? ⟨gb287, 1, none⟩ = some (.int .i64 a0_1) := (blk_cell BK287.out 1).trans rfl; have hcz43_2 : w40.cell? ⟨gb287, 2, none⟩ = some (.int .i64 a0_2) := (blk_cell BK287.out 2).trans rfl; have hcz43_3 : w40.cell? ⟨gb287, 3, none⟩ = some (.slice A0_3 l0_3.length c0_3) := (blk_cell BK287.out 3).trans rfl; have hfz43_0 := blk_frozen BK287.out 0; have hfz43_1 := blk_frozen BK287.out 1; have hfz43_2 := blk_frozen BK287.out 2; have hfz43_3 := blk_frozen BK287.out 3) | ((with_reducible refine gate_callee (f := 64) rfl ?_); refine goesL_ (some 33) rfl rfl Tryd.func64 (by kernel_rfl) rfl #[.agg #[.int .i64 a0_0, .int .i64 a0_1, .int .i64 a0_2, .slice A0_3 l0_3.length c0_3], .agg #[.int .i64 t291, .int .i64 t292, .int .i64 t293, .int .i64 t294, .int .i64 t295, .int .i64 t296]] rfl (by (try simp only [List.map_toArray, List.map_cons, List.map_nil]); first | done | rfl | (simp only [List.length_drop, List.length_take]; rfl)) ?_; (with_reducible refine (shot_How.calls k2 a0_0 a0_1 a0_2 _ _ l0_3 t291 t292 t293 t294 t295 t296 t297 t298 _ ?side1 ?side2 A35.out).mono ?_); (case side1 => exact Kd.C_below HR0_3.out (by repeat (first | (with_reducible first | exact HB.out | apply below_alloc | apply pw_below_drewN | apply below_drew1 | refine below_set ?_ GE287.out | refine below_set ?_ GE288.out | refine below_set ?_ GE289.out) | exact HB.out))); (case side2 => exact HC0_3.out); rintro e w44 ⟨rfl, hb⟩; refine ⟨_, rfl, ?_⟩; have n0_ := Aside0.mk (blk_below (g := gb287) (o := .cells #[.int .i64 a0_0, .int .i64 a0_1, .int .i64 a0_2, .slice A0_3 l0_3.length c0_3] 45 (0, 0)) (by (with_reducible repeat (first | refine blk_drewN ?_ _ | refine blk_drew ?_ | refine blk_alloc ?_ _)); refine blk_far ?_ NB287_288.out _; (with_reducible repeat (first | refine blk_drewN ?_ _ | refine blk_drew ?_ | refine blk_alloc ?_ _)); refine blk_far ?_ NB287_288.out _; (with_reducible repeat (first | refine blk_drewN ?_ _ | refine blk_drew ?_ | refine blk_alloc ?_ _)); refine blk_far ?_ NB287_288.out _; (with_reducible repeat (first | refine blk_drewN ?_ _ | refine blk_drew ?_ | refine blk_alloc ?_ _)); refine blk_far ?_ NB287_288.out _; (with_reducible repeat (first | refine blk_drewN ?_ _ | refine blk_drew ?_ | refine blk_alloc ?_ _)); refine blk_far ?_ NB287_288.out _; (with_reducible repeat (first | refine blk_drewN ?_ _ | refine blk_drew ?_ | refine blk_alloc ?_ _)); refine blk_far ?_ NB287_288.out _; (with_reducible repeat (first | refine blk_drewN ?_ _ | refine blk_drew ?_ | refine blk_alloc ?_ _)); exact BK287.out) hb); have n1_ := Aside0.mk (blk_below (g := gb288) (o := .cells #[.int .i64 t291, .int .i64 t292, .int .i64 t293, .int .i64 t294, .int .i64 t295, .int .i64 t296] 47 (0, 0)) (by (with_reducible repeat (first | refine blk_drewN ?_ _ | refine blk_drew ?_ | refine blk_alloc ?_ _)); refine blk_put (cs := #[.int .i64 t291, .int .i64 t292, .int .i64 t293, .int .i64 t294, .int .i64 t295, .int .i64 x289005_2]) ?_ 5 _ rfl; (with_reducible repeat (first | refine blk_drewN ?_ _ | refine blk_drew ?_ | refine blk_alloc ?_ _)); refine blk_put (cs := #[.int .i64 t291, .int .i64 t292, .int .i64 t293, .int .i64 t294, .int .i64 x289004_2, .int .i64 x289005_2]) ?_ 4 _ rfl; (with_reducible repeat (first | refine blk_drewN ?_ _ | refine blk_drew ?_ | refine blk_alloc ?_ _)); refine blk_put (cs := #[.int .i64 t291, .int .i64 t292, .int .i64 t293, .int .i64 x289003_2, .int .i64 x289004_2, .int .i64 x289005_2]) ?_ 3 _ rfl; (with_reducible repeat (first | refine blk_drewN ?_ _ | refine blk_drew ?_ | refine blk_alloc ?_ _)); refine blk_put (cs := #[.int .i64 t291, .int .i64 t292, .int .i64 x289002_2, .int .i64 x289003_2, .int .i64 x289004_2, .int .i64 x289005_2]) ?_ 2 _ rfl; (with_reducible repeat (first | refine blk_drewN ?_ _ | refine blk_drew ?_ | refine blk_alloc ?_ _)); refine blk_put (cs := #[.int .i64 t291, .int .i64 x289001_2, .int .i64 x289002_2, .int .i64 x289003_2, .int .i64 x289004_2, .int .i64 x289005_2]) ?_ 1 _ rfl; (with_reducible repeat (first | refine blk_drewN ?_ _ | refine blk_drew ?_ | refine blk_alloc ?_ _)); refine blk_put (cs := #[.int .i64 x289000_2, .int .i64 x289001_2, .int .i64 x289002_2, .int .i64 x289003_2, .int .i64 x289004_2, .int .i64 x289005_2]) ?_ 0 _ rfl; (with_reducible repeat (first | refine blk_drewN ?_ _ | refine blk_drew ?_ | refine blk_alloc ?_ _)); exact BK288.out) hb); have n2_ := Aside0.mk (blk_below (g := gb289) (o := .cells #[.int .i64 x290000_2, .int .i64 x290001_2, .int .i64 x290002_2, .int .i64 x290003_2, .int .i64 x290004_2, .int .i64 x290005_2, .int .i64 x290006_2, .int .i64 x290007_2] 62 (0, 0)) (by (with_reducible repeat (first | refine blk_drewN ?_ _ | refine blk_drew ?_ | refine blk_alloc ?_ _)); refine blk_far ?_ NB289_288.out _; (with_reducible repeat (first | refine blk_drewN ?_ _ | refine blk_drew ?_ | refine blk_alloc ?_ _)); refine blk_far ?_ NB289_288.out _; (with_reducible repeat (first | refine blk_drewN ?_ _ | refine blk_drew ?_ | refine blk_alloc ?_ _)); refine blk_far ?_ NB289_288.out _; (with_reducible repeat (first | refine blk_drewN ?_ _ | refine blk_drew ?_ | refine blk_alloc ?_ _)); refine blk_far ?_ NB289_288.out _; (with_reducible repeat (first | refine blk_drewN ?_ _ | refine blk_drew ?_ | refine blk_alloc ?_ _)); refine blk_far ?_ NB289_288.out _; (with_reducible repeat (first | refine blk_drewN ?_ _ | refine blk_drew ?_ | refine blk_alloc ?_ _)); refine blk_far ?_ NB289_288.out _; (with_reducible repeat (first | refine blk_drewN ?_ _ | refine blk_drew ?_ | refine blk_alloc ?_ _)); exact BK289.out) hb); have n3_ := Aside0.mk (below_step (by repeat (first | (with_reducible first | exact HB.out | apply below_alloc | apply pw_below_drewN | apply below_drew1 | refine below_set ?_ GE287.out | refine below_set ?_ GE288.out | refine below_set ?_ GE289.out) | exact HB.out)) hb); clear BK287; clear BK288; clear BK289; clear HB; have BK287 := n0_; have BK288 := n1_; have BK289 := n2_; have HB := n3_; clear n0_ n1_ n2_ n3_; (try clear hb); (try clear hb2); (try clear hk); (try clear hi)))
                go_roundg k2
                case measure => have := HJ3.out; have := HK2.out; omega
                case rel => exact ⟨(wrap64 (x25_2 + 1)), (t291), (t292), (t293), (t294), (t295), (t296), (x290000_2), (x290001_2), (x290002_2), (x290003_2), (x290004_2), (x290005_2), (x290006_2), (x290007_2), (by first | rfl | (simp; done) | (simp [*]; done)), H', ⟨by have := HJ3.out; have := HK2.out; omega⟩, ⟨by (with_reducible repeat (first | refine blk_drewN ?_ _ | refine blk_drew ?_ | refine blk_alloc ?_ _)); exact BK287.out⟩, ⟨by (with_reducible repeat (first | refine blk_drewN ?_ _ | refine blk_drew ?_ | refine blk_alloc ?_ _)); exact BK288.out⟩, ⟨by (with_reducible repeat (first | refine blk_drewN ?_ _ | refine blk_drew ?_ | refine blk_alloc ?_ _)); exact BK289.out⟩, ⟨by repeat (first | (with_reducible first | exact HB.out | apply below_alloc | apply pw_below_drewN | apply below_drew1 | refine below_set ?_ GE287.out | refine below_set ?_ GE288.out | refine below_set ?_ GE289.out) | exact HB.out)⟩⟩
              · rw [if_neg c36] at H
                have c36b0 : (t297 == 0) = false := beq_eq_false_iff_ne.mpr c36
                have c36b1 : (t297 != 0) = true := bne_iff_ne.mpr c36
                simp only [Option.some.injEq, Prod.mk.injEq] at H
                obtain ⟨rfl, rfl, rfl, rfl, rfl, rfl, rfl, rfl, rfl⟩ := H
                have hnb45 := NB288_287.out
                have hnc45 := NB287_288.out
                have hnb46 := NB288_289.out
                have hnc46 := NB289_288.out
                have hcz47_0 : wr.cell? ⟨gb288, 0, none⟩ = some (.int .i64 x289000_2) := (blk_cell BK288.out 0).trans rfl
                have hcz47_1 : wr.cell? ⟨gb288, 1, none⟩ = some (.int .i64 x289001_2) := (blk_cell BK288.out 1).trans rfl
                have hcz47_2 : wr.cell? ⟨gb288, 2, none⟩ = some (.int .i64 x289002_2) := (blk_cell BK288.out 2).trans rfl
                have hcz47_3 : wr.cell? ⟨gb288, 3, none⟩ = some (.int .i64 x289003_2) := (blk_cell BK288.out 3).trans rfl
                have hcz47_4 : wr.cell? ⟨gb288, 4, none⟩ = some (.int .i64 x289004_2) := (blk_cell BK288.out 4).trans rfl
                have hcz47_5 : wr.cell? ⟨gb288, 5, none⟩ = some (.int .i64 x289005_2) := (blk_cell BK288.out 5).trans rfl
                have hfz47_0 := blk_frozen BK288.out 0
                have hfz47_1 := blk_frozen BK288.out 1
                have hfz47_2 := blk_frozen BK288.out 2
                have hfz47_3 := blk_frozen BK288.out 3
                have hfz47_4 := blk_frozen BK288.out 4
                have hfz47_5 := blk_frozen BK288.out 5
                go_wp2_with (first | ((with_reducible refine gate_callee (f := 63) rfl ?_); refine goesL_ (some 29) rfl rfl Tryd.func63 (by kernel_rfl) rfl #[.agg #[.int .i64 x289000_2, .int .i64 x289001_2, .int .i64 x289002_2, .int .i64 x289003_2, .int .i64 x289004_2, .int .i64 x289005_2]] rfl (by (try simp only [List.map_toArray, List.map_cons, List.map_nil]); first | done | rfl | (simp only [List.length_drop, List.length_take]; rfl)) ?_; (with_reducible refine (shot_tick.calls x289000_2 x289001_2 x289002_2 x289003_2 x289004_2 x289005_2 t291 t292 t293 t294 t295 t296 _ A34.out).mono ?_); rintro e w48 ⟨rfl, hb⟩; refine ⟨_, rfl, ?_⟩; have n0_ := Aside0.mk (blk_below (g := gb287) (o := .cells #[.int .i64 a0_0, .int .i64 a0_1, .int .i64 a0_2, .slice A0_3 l0_3.length c0_3] 45 (0, 0)) (by (with_reducible repeat (first | refine blk_drewN ?_ _ | refine blk_drew ?_ | refine blk_alloc ?_ _)); exact BK287.out) hb); have n1_ := Aside0.mk (blk_below (g := gb288) (o := .cells #[.int .i64 x289000_2, .int .i64 x289001_2, .int .i64 x289002_2, .int .i64 x289003_2, .int .i64 x289004_2, .int .i64 x289005_2] 47 (0, 0)) (by (with_reducible repeat (first | refine blk_drewN ?_ _ | refine blk_drew ?_ | refine blk_alloc ?_ _)); exact BK288.out) hb); have n2_ := Aside0.mk (blk_below (g := gb289) (o := .cells #[.int .i64 x290000_2, .int .i64 x290001_2, .int .i64 x290002_2, .int .i64 x290003_2, .int .i64 x290004_2, .int .i64 x290005_2, .int .i64 x290006_2, .int .i64 x290007_2] 62 (0, 0)) (by (with_reducible repeat (first | refine blk_drewN ?_ _ | refine blk_drew ?_ | refine blk_alloc ?_ _)); exact BK289.out) hb); have n3_ := Aside0.mk (below_step (by repeat (first | (with_reducible first | exact HB.out | apply below_alloc | apply pw_below_drewN | apply below_drew1 | refine below_set ?_ GE287.out | refine below_set ?_ GE288.out | refine below_set ?_ GE289.out) | exact HB.out)) hb); clear BK287; clear BK288; clear BK289; clear HB; have BK287 := n0_; have BK288 := n1_; have BK289 := n2_; have HB := n3_; clear n0_ n1_ n2_ n3_; (try clear hb); (try clear hb2); (try clear hk); (try clear hi); have hcz49_0 : w48.cell? ⟨gb288, 0, none⟩ = some (.int .i64 x289000_2) := (blk_cell BK288.out 0).trans rfl; have hcz49_1 : w48.cell? ⟨gb288, 1, none⟩ = some (.int .i64 x289001_2) := (blk_cell BK288.out 1).trans rfl; have hcz49_2 : w48.cell? ⟨gb288, 2, none⟩ = some (.int .i64 x289002_2) := (blk_cell BK288.out 2).trans rfl; have hcz49_3 : w48.cell? ⟨gb288, 3, none⟩ = some (.int .i64 x289003_2) := (blk_cell BK288.out 3).trans rfl; have hcz49_4 : w48.cell? ⟨gb288, 4, none⟩ = some (.int .i64 x289004_2) := (blk_cell BK288.out 4).trans rfl; have hcz49_5 : w48.cell? ⟨gb288, 5, none⟩ = some (.int .i64 x289005_2) := (blk_cell BK288.out 5).trans rfl; have hfz49_0 := blk_frozen BK288.out 0; have hfz49_1 := blk_frozen BK288.out 1; have hfz49_2 := blk_frozen BK288.out 2; have hfz49_3 := blk_frozen BK288.out 3; have hfz49_4 := blk_frozen BK288.out 4; have hfz49_5 := blk_frozen BK288.out 5; have hnb50 := NB287_289.out; have hnc50 := NB289_287.out; have hcz51_0 : w48.cell? ⟨gb287, 0, none⟩ = some (.int .i64 a0_0) := (blk_cell BK287.out 0).trans rfl; have hcz51_1 : w48.cell? ⟨gb287, 1, none⟩ = some (.int .i64 a0_1) := (blk_cell BK287.out 1).trans rfl; have hcz51_2 : w48.cell? ⟨gb287, 2, none⟩ = some (.int .i64 a0_2) := (blk_cell BK287.out 2).trans rfl; have hcz51_3 : w48.cell? ⟨gb287, 3, none⟩ = some (.slice A0_3 l0_3.length c0_3) := (blk_cell BK287.out 3).trans rfl; have hfz51_0 := blk_frozen BK287.out 0; have hfz51_1 := blk_frozen BK287.out 1; have hfz51_2 := blk_frozen BK287.out 2; have hfz51_3 := blk_frozen BK287.out 3) | ((with_reducible refine gate_callee (f := 64) rfl ?_); refine goesL_ (some 33) rfl rfl Tryd.func64 (by kernel_rfl) rfl #[.agg #[.int .i64 a0_0, .int .i64 a0_1, .int .i64 a0_2, .slice A0_3 l0_3.length c0_3], .agg #[.int .i64 t291, .int .i64 t292, .int .i64 t293, .int .i64 t294, .int .i64 t295, .int .i64 t296]] rfl (by (try simp only [List.map_toArray, List.map_cons, List.map_nil]); first | done | rfl | (simp only [List.length_drop, List.length_take]; rfl)) ?_; (with_reducible refine (shot_How.calls k2 a0_0 a0_1 a0_2 _ _ l0_3 t291 t292 t293 t294 t295 t296 t297 t298 _ ?side1 ?side2 A35.out).mono ?_); (case side1 => exact Kd.C_below HR0_3.out (by repeat (first | (with_reducible first | exact HB.out | apply below_alloc | apply pw_below_drewN | apply below_drew1 | refine below_set ?_ GE287.out | refine below_set ?_ GE288.out | refine below_set ?_ GE289.out) | exact HB.out))); (case side2 => exact HC0_3.out); rintro e w52 ⟨rfl, hb⟩; refine ⟨_, rfl, ?_⟩; have n0_ := Aside0.mk (blk_below (g := gb287) (o := .cells #[.int .i64 a0_0, .int .i64 a0_1, .int .i64 a0_2, .slice A0_3 l0_3.length c0_3] 45 (0, 0)) (by (with_reducible repeat (first | refine blk_drewN ?_ _ | refine blk_drew ?_ | refine blk_alloc ?_ _)); refine blk_far ?_ NB287_288.out _; (with_reducible repeat (first | refine blk_drewN ?_ _ | refine blk_drew ?_ | refine blk_alloc ?_ _)); refine blk_far ?_ NB287_288.out _; (with_reducible repeat (first | refine blk_drewN ?_ _ | refine blk_drew ?_ | refine blk_alloc ?_ _)); refine blk_far ?_ NB287_288.out _; (with_reducible repeat (first | refine blk_drewN ?_ _ | refine blk_drew ?_ | refine blk_alloc ?_ _)); refine blk_far ?_ NB287_288.out _; (with_reducible repeat (first | refine blk_drewN ?_ _ | refine blk_drew ?_ | refine blk_alloc ?_ _)); refine blk_far ?_ NB287_288.out _; (with_reducible repeat (first | refine blk_drewN ?_ _ | refine blk_drew ?_ | refine blk_alloc ?_ _)); refine blk_far ?_ NB287_288.out _; (with_reducible repeat (first | refine blk_drewN ?_ _ | refine blk_drew ?_ | refine blk_alloc ?_ _)); exact BK287.out) hb); have n1_ := Aside0.mk (blk_below (g := gb288) (o := .cells #[.int .i64 t291, .int .i64 t292, .int .i64 t293, .int .i64 t294, .int .i64 t295, .int .i64 t296] 47 (0, 0)) (by (with_reducible repeat (first | refine blk_drewN ?_ _ | refine blk_drew ?_ | refine blk_alloc ?_ _)); refine blk_put (cs := #[.int .i64 t291, .int .i64 t292, .int .i64 t293, .int .i64 t294, .int .i64 t295, .int .i64 x289005_2]) ?_ 5 _ rfl; (with_reducible repeat (first | refine blk_drewN ?_ _ | refine blk_drew ?_ | refine blk_alloc ?_ _)); refine blk_put (cs := #[.int .i64 t291, .int .i64 t292, .int .i64 t293, .int .i64 t294, .int .i64 x289004_2, .int .i64 x289005_2]) ?_ 4 _ rfl; (with_reducible repeat (first | refine blk_drewN ?_ _ | refine blk_drew ?_ | refine blk_alloc ?_ _)); refine blk_put (cs := #[.int .i64 t291, .int .i64 t292, .int .i64 t293, .int .i64 x289003_2, .int .i64 x289004_2, .int .i64 x289005_2]) ?_ 3 _ rfl; (with_reducible repeat (first | refine blk_drewN ?_ _ | refine blk_drew ?_ | refine blk_alloc ?_ _)); refine blk_put (cs := #[.int .i64 t291, .int .i64 t292, .int .i64 x289002_2, .int .i64 x289003_2, .int .i64 x289004_2, .int .i64 x289005_2]) ?_ 2 _ rfl; (with_reducible repeat (first | refine blk_drewN ?_ _ | refine blk_drew ?_ | refine blk_alloc ?_ _)); refine blk_put (cs := #[.int .i64 t291, .int .i64 x289001_2, .int .i64 x289002_2, .int .i64 x289003_2, .int .i64 x289004_2, .int .i64 x289005_2]) ?_ 1 _ rfl; (with_reducible repeat (first | refine blk_drewN ?_ _ | refine blk_drew ?_ | refine blk_alloc ?_ _)); refine blk_put (cs := #[.int .i64 x289000_2, .int .i64 x289001_2, .int .i64 x289002_2, .int .i64 x289003_2, .int .i64 x289004_2, .int .i64 x289005_2]) ?_ 0 _ rfl; (with_reducible repeat (first | refine blk_drewN ?_ _ | refine blk_drew ?_ | refine blk_alloc ?_ _)); exact BK288.out) hb); have n2_ := Aside0.mk (blk_below (g := gb289) (o := .cells #[.int .i64 x290000_2, .int .i64 x290001_2, .int .i64 x290002_2, .int .i64 x290003_2, .int .i64 x290004_2, .int .i64 x290005_2, .int .i64 x290006_2, .int .i64 x290007_2] 62 (0, 0)) (by (with_reducible repeat (first | refine blk_drewN ?_ _ | refine blk_drew ?_ | refine blk_alloc ?_ _)); refine blk_far ?_ NB289_288.out _; (with_reducible repeat (first | refine blk_drewN ?_ _ | refine blk_drew ?_ | refine blk_alloc ?_ _)); refine blk_far ?_ NB289_288.out _; (with_reducible repeat (first | refine blk_drewN ?_ _ | refine blk_drew ?_ | refine blk_alloc ?_ _)); refine blk_far ?_ NB289_288.out _; (with_reducible repeat (first | refine blk_drewN ?_ _ | refine blk_drew ?_ | refine blk_alloc ?_ _)); refine blk_far ?_ NB289_288.out _; (with_reducible repeat (first | refine blk_drewN ?_ _ | refine blk_drew ?_ | refine blk_alloc ?_ _)); refine blk_far ?_ NB289_288.out _; (with_reducible repeat (first | refine blk_drewN ?_ _ | refine blk_drew ?_ | refine blk_alloc ?_ _)); refine blk_far ?_ NB289_288.out _; (with_reducible repeat (first | refine blk_drewN ?_ _ | refine blk_drew ?_ | refine blk_alloc ?_ _)); exact BK289.out) hb); have n3_ := Aside0.mk (below_step (by repeat (first | (with_reducible first | exact HB.out | apply below_alloc | apply pw_below_drewN | apply below_drew1 | refine below_set ?_ GE287.out | refine below_set ?_ GE288.out | refine below_set ?_ GE289.out) | exact HB.out)) hb); clear BK287; clear BK288; clear BK289; clear HB; have BK287 := n0_; have BK288 := n1_; have BK289 := n2_; have HB := n3_; clear n0_ n1_ n2_ n3_; (try clear hb); (try clear hb2); (try clear hk); (try clear hi); have hcz53_0 : w52.cell? ⟨gb288, 0, none⟩ = some (.int .i64 t291) := (blk_cell BK288.out 0).trans rfl; have hcz53_1 : w52.cell? ⟨gb288, 1, none⟩ = some (.int .i64 t292) := (blk_cell BK288.out 1).trans rfl; have hcz53_2 : w52.cell? ⟨gb288, 2, none⟩ = some (.int .i64 t293) := (blk_cell BK288.out 2).trans rfl; have hcz53_3 : w52.cell? ⟨gb288, 3, none⟩ = some (.int .i64 t294) := (blk_cell BK288.out 3).trans rfl; have hcz53_4 : w52.cell? ⟨gb288, 4, none⟩ = some (.int .i64 t295) := (blk_cell BK288.out 4).trans rfl; have hcz53_5 : w52.cell? ⟨gb288, 5, none⟩ = some (.int .i64 t296) := (blk_cell BK288.out 5).trans rfl; have hfz53_0 := blk_frozen BK288.out 0; have hfz53_1 := blk_frozen BK288.out 1; have hfz53_2 := blk_frozen BK288.out 2; have hfz53_3 := blk_frozen BK288.out 3; have hfz53_4 := blk_frozen BK288.out 4; have hfz53_5 := blk_frozen BK288.out 5; have hcz54_0 : w52.cell? ⟨gb289, 0, none⟩ = some (.int .i64 x290000_2) := (blk_cell BK289.out 0).trans rfl; have hcz54_1 : w52.cell? ⟨gb289, 1, none⟩ = some (.int .i64 x290001_2) := (blk_cell BK289.out 1).trans rfl; have hcz54_2 : w52.cell? ⟨gb289, 2, none⟩ = some (.int .i64 x290002_2) := (blk_cell BK289.out 2).trans rfl; have hcz54_3 : w52.cell? ⟨gb289, 3, none⟩ = some (.int .i64 x290003_2) := (blk_cell BK289.out 3).trans rfl; have hcz54_4 : w52.cell? ⟨gb289, 4, none⟩ = some (.int .i64 x290004_2) := (blk_cell BK289.out 4).trans rfl; have hcz54_5 : w52.cell? ⟨gb289, 5, none⟩ = some (.int .i64 x290005_2) := (blk_cell BK289.out 5).trans rfl; have hcz54_6 : w52.cell? ⟨gb289, 6, none⟩ = some (.int .i64 x290006_2) := (blk_cell BK289.out 6).trans rfl; have hcz54_7 : w52.cell? ⟨gb289, 7, none⟩ = some (.int .i64 x290007_2) := (blk_cell BK289.out 7).trans rfl; have hfz54_0 := blk_frozen BK289.out 0; have hfz54_1 := blk_frozen BK289.out 1; have hfz54_2 := blk_frozen BK289.out 2; have hfz54_3 := blk_frozen BK289.out 3; have hfz54_4 := blk_frozen BK289.out 4; have hfz54_5 := blk_frozen BK289.out 5; have hfz54_6 := blk_frozen BK289.out 6; have hfz54_7 := blk_frozen BK289.out 7))
                refine bodyPost_ret (results_ct rfl _ _ gb289 62 #[.int .i64 (wrap64 (x25_2 + 1)), .int .i64 t297, .int .i64 t291, .int .i64 t292, .int .i64 t293, .int .i64 t294, .int .i64 t295, .int .i64 t296] (0, 0) _ rfl (by (with_reducible repeat (first | refine blk_drewN ?_ _ | refine blk_drew ?_ | refine blk_alloc ?_ _)); refine blk_put (cs := #[.int .i64 (wrap64 (x25_2 + 1)), .int .i64 t297, .int .i64 t291, .int .i64 t292, .int .i64 t293, .int .i64 t294, .int .i64 t295, .int .i64 x290007_2]) ?_ 7 _ rfl; (with_reducible repeat (first | refine blk_drewN ?_ _ | refine blk_drew ?_ | refine blk_alloc ?_ _)); refine blk_put (cs := #[.int .i64 (wrap64 (x25_2 + 1)), .int .i64 t297, .int .i64 t291, .int .i64 t292, .int .i64 t293, .int .i64 t294, .int .i64 x290006_2, .int .i64 x290007_2]) ?_ 6 _ rfl; (with_reducible repeat (first | refine blk_drewN ?_ _ | refine blk_drew ?_ | refine blk_alloc ?_ _)); refine blk_put (cs := #[.int .i64 (wrap64 (x25_2 + 1)), .int .i64 t297, .int .i64 t291, .int .i64 t292, .int .i64 t293, .int .i64 x290005_2, .int .i64 x290006_2, .int .i64 x290007_2]) ?_ 5 _ rfl; (with_reducible repeat (first | refine blk_drewN ?_ _ | refine blk_drew ?_ | refine blk_alloc ?_ _)); refine blk_put (cs := #[.int .i64 (wrap64 (x25_2 + 1)), .int .i64 t297, .int .i64 t291, .int .i64 t292, .int .i64 x290004_2, .int .i64 x290005_2, .int .i64 x290006_2, .int .i64 x290007_2]) ?_ 4 _ rfl; (with_reducible repeat (first | refine blk_drewN ?_ _ | refine blk_drew ?_ | refine blk_alloc ?_ _)); refine blk_put (cs := #[.int .i64 (wrap64 (x25_2 + 1)), .int .i64 t297, .int .i64 t291, .int .i64 x290003_2, .int .i64 x290004_2, .int .i64 x290005_2, .int .i64 x290006_2, .int .i64 x290007_2]) ?_ 3 _ rfl; (with_reducible repeat (first | refine blk_drewN ?_ _ | refine blk_drew ?_ | refine blk_alloc ?_ _)); refine blk_put (cs := #[.int .i64 (wrap64 (x25_2 + 1)), .int .i64 t297, .int .i64 x290002_2, .int .i64 x290003_2, .int .i64 x290004_2, .int .i64 x290005_2, .int .i64 x290006_2, .int .i64 x290007_2]) ?_ 2 _ rfl; (with_reducible repeat (first | refine blk_drewN ?_ _ | refine blk_drew ?_ | refine blk_alloc ?_ _)); refine blk_put (cs := #[.int .i64 (wrap64 (x25_2 + 1)), .int .i64 x290001_2, .int .i64 x290002_2, .int .i64 x290003_2, .int .i64 x290004_2, .int .i64 x290005_2, .int .i64 x290006_2, .int .i64 x290007_2]) ?_ 1 _ rfl; (with_reducible repeat (first | refine blk_drewN ?_ _ | refine blk_drew ?_ | refine blk_alloc ?_ _)); refine blk_put (cs := #[.int .i64 x290000_2, .int .i64 x290001_2, .int .i64 x290002_2, .int .i64 x290003_2, .int .i64 x290004_2, .int .i64 x290005_2, .int .i64 x290006_2, .int .i64 x290007_2]) ?_ 0 _ rfl; (with_reducible repeat (first | refine blk_drewN ?_ _ | refine blk_drew ?_ | refine blk_alloc ?_ _)); exact BK289.out) Tryd.underlying62 rfl (by kernel_rfl)) rfl ?_
                exact ⟨by first | rfl | (simp [errW_none, errW_some] <;> rfl) | (simp [*, errW_none, errW_some] <;> rfl), by repeat (first | (with_reducible first | exact HB.out | apply below_alloc | apply pw_below_drewN | apply below_drew1 | refine below_set ?_ GE287.out | refine below_set ?_ GE288.out | refine below_set ?_ GE289.out) | exact HB.out)⟩
            · rw [if_neg c33] at H
              have c33b0 : decide (x25_2 < a2) = false := decide_eq_false c33
              clear c33
              simp only [Option.some.injEq, Prod.mk.injEq] at H
              obtain ⟨rfl, rfl, rfl, rfl, rfl, rfl, rfl, rfl, rfl⟩ := H
              have hnb55 := NB288_287.out
              have hnc55 := NB287_288.out
              have hnb56 := NB288_289.out
              have hnc56 := NB289_288.out
              have hcz57_0 : wr.cell? ⟨gb288, 0, none⟩ = some (.int .i64 x289000_2) := (blk_cell BK288.out 0).trans rfl
              have hcz57_1 : wr.cell? ⟨gb288, 1, none⟩ = some (.int .i64 x289001_2) := (blk_cell BK288.out 1).trans rfl
              have hcz57_2 : wr.cell? ⟨gb288, 2, none⟩ = some (.int .i64 x289002_2) := (blk_cell BK288.out 2).trans rfl
              have hcz57_3 : wr.cell? ⟨gb288, 3, none⟩ = some (.int .i64 x289003_2) := (blk_cell BK288.out 3).trans rfl
              have hcz57_4 : wr.cell? ⟨gb288, 4, none⟩ = some (.int .i64 x289004_2) := (blk_cell BK288.out 4).trans rfl
              have hcz57_5 : wr.cell? ⟨gb288, 5, none⟩ = some (.int .i64 x289005_2) := (blk_cell BK288.out 5).trans rfl
              have hfz57_0 := blk_frozen BK288.out 0
              have hfz57_1 := blk_frozen BK288.out 1
              have hfz57_2 := blk_frozen BK288.out 2
              have hfz57_3 := blk_frozen BK288.out 3
              have hfz57_4 := blk_frozen BK288.out 4
              have hfz57_5 := blk_frozen BK288.out 5
              have hnb58 := NB289_287.out
              have hnc58 := NB287_289.out
              have hcz59_0 : wr.cell? ⟨gb289, 0, none⟩ = some (.int .i64 x290000_2) := (blk_cell BK289.out 0).trans rfl
              have hcz59_1 : wr.cell? ⟨gb289, 1, none⟩ = some (.int .i64 x290001_2) := (blk_cell BK289.out 1).trans rfl
              have hcz59_2 : wr.cell? ⟨gb289, 2, none⟩ = some (.int .i64 x290002_2) := (blk_cell BK289.out 2).trans rfl
              have hcz59_3 : wr.cell? ⟨gb289, 3, none⟩ = some (.int .i64 x290003_2) := (blk_cell BK289.out 3).trans rfl
              have hcz59_4 : wr.cell? ⟨gb289, 4, none⟩ = some (.int .i64 x290004_2) := (blk_cell BK289.out 4).trans rfl
              have hcz59_5 : wr.cell? ⟨gb289, 5, none⟩ = some (.int .i64 x290005_2) := (blk_cell BK289.out 5).trans rfl
              have hcz59_6 : wr.cell? ⟨gb289, 6, none⟩ = some (.int .i64 x290006_2) := (blk_cell BK289.out 6).trans rfl
              have hcz59_7 : wr.cell? ⟨gb289, 7, none⟩ = some (.int .i64 x290007_2) := (blk_cell BK289.out 7).trans rfl
              have hfz59_0 := blk_frozen BK289.out 0
              have hfz59_1 := blk_frozen BK289.out 1
              have hfz59_2 := blk_frozen BK289.out 2
              have hfz59_3 := blk_frozen BK289.out 3
              have hfz59_4 := blk_frozen BK289.out 4
              have hfz59_5 := blk_frozen BK289.out 5
              have hfz59_6 := blk_frozen BK289.out 6
              have hfz59_7 := blk_frozen BK289.out 7
              go_wp2
              refine bodyPost_ret (results_ct rfl _ _ gb289 62 #[.int .i64 a2, .int .i64 0, .int .i64 x289000_2, .int .i64 x289001_2, .int .i64 x289002_2, .int .i64 x289003_2, .int .i64 x289004_2, .int .i64 x289005_2] (0, 0) _ rfl (by (with_reducible repeat (first | refine blk_drewN ?_ _ | refine blk_drew ?_ | refine blk_alloc ?_ _)); refine blk_put (cs := #[.int .i64 a2, .int .i64 0, .int .i64 x289000_2, .int .i64 x289001_2, .int .i64 x289002_2, .int .i64 x289003_2, .int .i64 x289004_2, .int .i64 x290007_2]) ?_ 7 _ rfl; (with_reducible repeat (first | refine blk_drewN ?_ _ | refine blk_drew ?_ | refine blk_alloc ?_ _)); refine blk_put (cs := #[.int .i64 a2, .int .i64 0, .int .i64 x289000_2, .int .i64 x289001_2, .int .i64 x289002_2, .int .i64 x289003_2, .int .i64 x290006_2, .int .i64 x290007_2]) ?_ 6 _ rfl; (with_reducible repeat (first | refine blk_drewN ?_ _ | refine blk_drew ?_ | refine blk_alloc ?_ _)); refine blk_put (cs := #[.int .i64 a2, .int .i64 0, .int .i64 x289000_2, .int .i64 x289001_2, .int .i64 x289002_2, .int .i64 x290005_2, .int .i64 x290006_2, .int .i64 x290007_2]) ?_ 5 _ rfl; (with_reducible repeat (first | refine blk_drewN ?_ _ | refine blk_drew ?_ | refine blk_alloc ?_ _)); refine blk_put (cs := #[.int .i64 a2, .int .i64 0, .int .i64 x289000_2, .int .i64 x289001_2, .int .i64 x290004_2, .int .i64 x290005_2, .int .i64 x290006_2, .int .i64 x290007_2]) ?_ 4 _ rfl; (with_reducible repeat (first | refine blk_drewN ?_ _ | refine blk_drew ?_ | refine blk_alloc ?_ _)); refine blk_put (cs := #[.int .i64 a2, .int .i64 0, .int .i64 x289000_2, .int .i64 x290003_2, .int .i64 x290004_2, .int .i64 x290005_2, .int .i64 x290006_2, .int .i64 x290007_2]) ?_ 3 _ rfl; (with_reducible repeat (first | refine blk_drewN ?_ _ | refine blk_drew ?_ | refine blk_alloc ?_ _)); refine blk_put (cs := #[.int .i64 a2, .int .i64 0, .int .i64 x290002_2, .int .i64 x290003_2, .int .i64 x290004_2, .int .i64 x290005_2, .int .i64 x290006_2, .int .i64 x290007_2]) ?_ 2 _ rfl; (with_reducible repeat (first | refine blk_drewN ?_ _ | refine blk_drew ?_ | refine blk_alloc ?_ _)); refine blk_put (cs := #[.int .i64 a2, .int .i64 x290001_2, .int .i64 x290002_2, .int .i64 x290003_2, .int .i64 x290004_2, .int .i64 x290005_2, .int .i64 x290006_2, .int .i64 x290007_2]) ?_ 1 _ rfl; (with_reducible repeat (first | refine blk_drewN ?_ _ | refine blk_drew ?_ | refine blk_alloc ?_ _)); refine blk_put (cs := #[.int .i64 x290000_2, .int .i64 x290001_2, .int .i64 x290002_2, .int .i64 x290003_2, .int .i64 x290004_2, .int .i64 x290005_2, .int .i64 x290006_2, .int .i64 x290007_2]) ?_ 0 _ rfl; (with_reducible repeat (first | refine blk_drewN ?_ _ | refine blk_drew ?_ | refine blk_alloc ?_ _)); exact BK289.out) Tryd.underlying62 rfl (by kernel_rfl)) rfl ?_
              exact ⟨by first | rfl | (simp [errW_none, errW_some] <;> rfl) | (simp [*, errW_none, errW_some] <;> rfl), by repeat (first | (with_reducible first | exact HB.out | apply below_alloc | apply pw_below_drewN | apply below_drew1 | refine below_set ?_ GE287.out | refine below_set ?_ GE288.out | refine below_set ?_ GE289.out) | exact HB.out)⟩
end Go.Proofs.YtbcddiaplpbhjaaDoor.MAi
namespace Go.Proofs.YtbcddiaplpbhjaaDoor.Tr
open Go Go.RowKit
set_option linter.unusedVariables false
end Go.Proofs.YtbcddiaplpbhjaaDoor.Tr
namespace Go.Proofs.YtbcddiaplpbhjaaDoor.Ap
open Go Go.RowKit Go.Proofs.YtbcddiaplpbhjaaDoorW.PrintMore Go.Proofs.YtbcddiaplpbhjaaDoorW.PrintWords Go.Proofs.YtbcddiaplpbhjaaDoor.MAi
set_option linter.unusedVariables false
set_option linter.unusedSimpArgs false
theorem w_in {x : Int} (h0 : -9223372036854775808 ≤ x) (h1 : x ≤ 9223372036854775807) : wrap64 x = x := by unfold wrap64; omega
theorem u_in {x : Int} (h0 : 0 ≤ x) (h1 : x ≤ 9223372036854775807) : IntKind.u64.wrap x = x := by rw [wrap_u64]; omega
theorem mul_in {a b : Int} {A B : Nat} (ha : -(A : Int) ≤ a ∧ a ≤ A) (hb : -(B : Int) ≤ b ∧ b ≤ B) : -((A * B : Nat) : Int) ≤ a * b ∧ a * b ≤ (A * B : Nat) := by
  have h : (a * b).natAbs ≤ A * B := by rw [Int.natAbs_mul]; exact Nat.mul_le_mul (by omega) (by omega)
  omega
theorem sq_nonneg' (x : Int) : 0 ≤ x * x := by
  rcases Int.le_total 0 x with h | h
  · exact Int.mul_nonneg h h
  · exact Int.mul_nonneg_of_nonpos_of_nonpos h h
theorem mul_nn {a b : Int} {B C : Int} (h0 : 0 ≤ a) (h1 : a ≤ B) (k0 : 0 ≤ b) (k1 : b ≤ C) : 0 ≤ a * b ∧ a * b ≤ B * C :=
  ⟨Int.mul_nonneg h0 k0, Int.le_trans (Int.mul_le_mul_of_nonneg_right h1 k0) (Int.mul_le_mul_of_nonneg_left k1 (by omega))⟩
def Bnd (W H Wa : Int) : Prop := 1 ≤ W ∧ W ≤ 64 ∧ 1 ≤ H ∧ H ≤ 64 ∧ 0 ≤ Wa ∧ Wa ≤ 255
instance (W H Wa : Int) : Decidable (Bnd W H Wa) := by unfold Bnd; infer_instance
def chk (W H Wa : Int) (l : List Int) : Int := if Bnd W H Wa then (if (l.length : Int) < (W + 1) * (H + 1) then 2 else if (l.length : Int) > (W + 1) * (H + 1) then 7 else 0) else 1
theorem chk_zero {W H Wa : Int} {l : List Int} (h : chk W H Wa l = 0) : Bnd W H Wa ∧ (l.length : Int) = (W + 1) * (H + 1) := by
  unfold chk at h
  split at h
  · rename_i hb
    split at h
    · omega
    · split at h
      · omega
      · exact ⟨hb, by omega⟩
  · omega
theorem chk_f (W H Wa : Int) (l : List Int) (k : Nat) : relief_Check.f (k + 1) W H Wa l = some (chk W H Wa l) := by
  have hj : relief_Check.j0 (k + 1) true W H Wa l = some 1 := by rw [relief_Check.j0, if_pos rfl]
  unfold relief_Check.f chk
  by_cases hb : Bnd W H Wa
  · rw [if_pos hb]
    unfold Bnd at hb
    have hm := mul_in (a := W + 1) (b := H + 1) (A := 65) (B := 65) (by omega) (by omega)
    rw [if_neg (by omega), if_neg (by omega), if_neg (by omega), if_neg (by omega), if_neg (by omega), decide_eq_false (by omega), relief_Check.j0, if_neg (by decide), w_in (x := W + 1) (by omega) (by omega), w_in (x := H + 1) (by omega) (by omega), w_in (by omega) (by omega)]
    repeat' split
    all_goals rfl
  · rw [if_neg hb]
    unfold Bnd at hb
    repeat' split
    all_goals first
      | exact hj
      | (rw [decide_eq_true (by omega)]; exact hj)
def On (W H x y : Int) : Prop := 0 ≤ x ∧ x < W * 65536 ∧ 0 ≤ y ∧ y < H * 65536
instance (W H x y : Int) : Decidable (On W H x y) := by unfold On; infer_instance
theorem on_f (W H Wa : Int) (l : List Int) (x y : Int) (k : Nat) : relief_On.f (k + 1) W H Wa l x y = some (decide (chk W H Wa l = 0 ∧ On W H x y)) := by
  unfold relief_On.f
  rw [chk_f, Option.bind_some]
  by_cases hc : chk W H Wa l = 0
  · obtain ⟨hb, _⟩ := chk_zero hc
    rw [if_pos hc]
    unfold Bnd at hb
    rw [w_in (x := W * 65536) (by omega) (by omega), w_in (x := H * 65536) (by omega) (by omega)]
    by_cases h : On W H x y
    · rw [decide_eq_true (show chk W H Wa l = 0 ∧ On W H x y from ⟨hc, h⟩)]
      unfold On at h
      rw [if_pos (by omega), if_pos (by omega), if_pos (by omega), decide_eq_true (by omega)]
    · rw [decide_eq_false (show ¬ (chk W H Wa l = 0 ∧ On W H x y) from fun q => h q.2)]
      unfold On at h
      repeat' split
      all_goals first
        | rfl
        | (congr 1; exact decide_eq_false (by omega))
  · rw [if_neg hc, decide_eq_false (show ¬ (chk W H Wa l = 0 ∧ On W H x y) from fun q => hc q.1)]
def Bytes (l : List Int) : Prop := ∀ z ∈ l, 0 ≤ z ∧ z ≤ 255
theorem rd_byte {l : List Int} (h : Bytes l) (i : Int) : 0 ≤ rd l i ∧ rd l i ≤ 255 := by
  unfold rd
  by_cases hi : i.toNat < l.length
  · rw [List.getD_eq_getElem?_getD, List.getElem?_eq_getElem hi]
    exact h _ (List.getElem_mem hi)
  · rw [List.getD_eq_getElem?_getD, List.getElem?_eq_none (by omega)]
    simp
def cor (W x y : Int) : Int := (W + 1) * (y / 65536) + x / 65536
def hgt (W : Int) (l : List Int) (x y : Int) : Int :=
  (rd l (cor W x y) * (65536 - x % 65536) * (65536 - y % 65536) + rd l (cor W x y + 1) * (x % 65536) * (65536 - y % 65536) + rd l (cor W x y + (W + 1)) * (65536 - x % 65536) * (y % 65536) + rd l (cor W x y + (W + 1) + 1) * (x % 65536) * (y % 65536)) / 65536
theorem cor_in {W H Wa x y : Int} {l : List Int} (hc : chk W H Wa l = 0) (ho : On W H x y) :
    0 ≤ cor W x y ∧ cor W x y + (W + 1) + 1 < (l.length : Int) ∧ 0 ≤ (W + 1) * (y / 65536) ∧ (W + 1) * (y / 65536) ≤ 4225 ∧ (l.length : Int) ≤ 4225 := by
  obtain ⟨hb, hl⟩ := chk_zero hc
  unfold Bnd at hb
  unfold On at ho
  have hp := mul_nn (a := W + 1) (b := y / 65536) (B := 65) (C := 65) (by omega) (by omega) (by omega) (by omega)
  have hm : (W + 1) * (y / 65536) ≤ (W + 1) * (H - 1) := Int.mul_le_mul_of_nonneg_left (by omega) (by omega)
  have hm2 := mul_in (a := W + 1) (b := H + 1) (A := 65) (B := 65) (by omega) (by omega)
  have he : (W + 1) * (H + 1) = (W + 1) * (H - 1) + (W + 1) * 2 := by rw [← Int.mul_add]; congr 1; omega
  unfold cor
  omega
theorem part4 {c : Int} (h0 : 0 ≤ c) (h1 : c ≤ 255) {u v : Int} (u0 : 0 ≤ u) (u1 : u ≤ 65536) (v0 : 0 ≤ v) (v1 : v ≤ 65536) :
    0 ≤ c * u ∧ c * u ≤ 16711680 ∧ 0 ≤ c * u * v ∧ c * u * v ≤ 1095216660480 := by
  have a := mul_nn h0 h1 u0 u1
  have b := mul_nn a.1 a.2 v0 v1
  omega
set_option maxHeartbeats 1000000 in
theorem hgt_f {W H Wa x y : Int} {l : List Int} (hc : chk W H Wa l = 0) (ho : On W H x y) (hl : Bytes l) (k : Nat) : relief_Height.f (k + 1) W H Wa l x y = some (hgt W l x y, 0) := by
  have hi := cor_in hc ho
  have hb := (chk_zero hc).1
  unfold relief_Height.f
  rw [chk_f, Option.bind_some, if_pos hc, on_f, Option.bind_some, if_pos (decide_eq_true ⟨hc, ho⟩)]
  unfold fix_Whole.f fix_Part.f
  simp only [Option.bind_some, and_part]
  unfold Bnd at hb
  unfold On at ho
  have hco : cor W x y = (W + 1) * (y / 65536) + x / 65536 := rfl
  have hk : wrap64 (wrap64 (wrap64 (W + 1) * (y / 65536)) + x / 65536) = cor W x y := by
    rw [w_in (x := W + 1) (by omega) (by omega), w_in (x := (W + 1) * (y / 65536)) (by omega) (by omega), w_in (by omega) (by omega)]; omega
  have hd : wrap64 (wrap64 (cor W x y + W) + 1) = cor W x y + (W + 1) := by
    rw [w_in (x := cor W x y + W) (by omega) (by omega), w_in (by omega) (by omega)]; omega
  have b0 := rd_byte hl (cor W x y)
  have b1 := rd_byte hl (cor W x y + 1)
  have b2 := rd_byte hl (cor W x y + (W + 1))
  have b3 := rd_byte hl (cor W x y + (W + 1) + 1)
  unfold relief_corners.f
  rw [hk, hd, if_pos (by omega), if_pos (by omega), if_pos (by omega), if_pos (by omega), if_pos (by omega), w_in (x := rd l (cor W x y)) (by omega) (by omega), w_in (x := rd l (cor W x y + 1)) (by omega) (by omega), w_in (x := rd l (cor W x y + (W + 1))) (by omega) (by omega), w_in (x := rd l (cor W x y + (W + 1) + 1)) (by omega) (by omega), Option.bind_some]
  unfold hgt
  dsimp only
  generalize rd l (cor W x y) = c0 at b0 ⊢
  generalize rd l (cor W x y + 1) = c1 at b1 ⊢
  generalize rd l (cor W x y + (W + 1)) = c2 at b2 ⊢
  generalize rd l (cor W x y + (W + 1) + 1) = c3 at b3 ⊢
  have u0 : 0 ≤ x % 65536 ∧ x % 65536 < 65536 := by omega
  have v0 : 0 ≤ y % 65536 ∧ y % 65536 < 65536 := by omega
  generalize x % 65536 = u at u0 ⊢
  generalize y % 65536 = v at v0 ⊢
  have q0 := part4 b0.1 b0.2 (u := 65536 - u) (v := 65536 - v) (by omega) (by omega) (by omega) (by omega)
  have q1 := part4 b1.1 b1.2 (u := u) (v := 65536 - v) (by omega) (by omega) (by omega) (by omega)
  have q2 := part4 b2.1 b2.2 (u := 65536 - u) (v := v) (by omega) (by omega) (by omega) (by omega)
  have q3 := part4 b3.1 b3.2 (u := u) (v := v) (by omega) (by omega) (by omega) (by omega)
  rw [w_in (x := 65536 - u) (by omega) (by omega), w_in (x := 65536 - v) (by omega) (by omega), w_in (x := c0 * (65536 - u)) (by omega) (by omega), w_in (x := c1 * u) (by omega) (by omega), w_in (x := c2 * (65536 - u)) (by omega) (by omega), w_in (x := c3 * u) (by omega) (by omega)]
  rw [w_in (x := c0 * (65536 - u) + c1 * u) (by omega) (by omega), w_in (x := c2 * (65536 - u) + c3 * u) (by omega) (by omega), Int.add_mul, Int.add_mul]
  generalize c0 * (65536 - u) * (65536 - v) = p0 at q0 ⊢
  generalize c1 * u * (65536 - v) = p1 at q1 ⊢
  generalize c2 * (65536 - u) * v = p2 at q2 ⊢
  generalize c3 * u * v = p3 at q3 ⊢
  rw [w_in (x := p0 + p1) (by omega) (by omega), w_in (x := p2 + p3) (by omega) (by omega), w_in (by omega) (by omega)]
  congr 3
  omega
theorem hgt_off {W H Wa x y : Int} {l : List Int} (hc : chk W H Wa l = 0) (ho : ¬ On W H x y) (k : Nat) : relief_Height.f (k + 1) W H Wa l x y = some (0, 4) := by
  unfold relief_Height.f
  rw [chk_f, Option.bind_some, if_pos hc, on_f, Option.bind_some, if_neg (by simpa using fun _ => ho)]
def how (W H Wa : Int) (l : List Int) (x y z : Int) : Int := if On W H x y then (if z > hgt W l x y ∧ z > Wa * 65536 then 0 else if hgt W l x y ≥ Wa * 65536 then 1 else 2) else 3
theorem how_f {W H Wa : Int} {l : List Int} (hc : chk W H Wa l = 0) (hl : Bytes l) (x y z a b c : Int) (k : Nat) : shot_How.f (k + 1) W H Wa l x y z a b c = some (how W H Wa l x y z, 0) := by
  have hb := (chk_zero hc).1
  unfold Bnd at hb
  unfold shot_How.f how
  by_cases ho : On W H x y
  · rw [hgt_f hc ho hl, Option.bind_some, if_pos ho, if_neg (show ¬ (0 : Int) = 1 by decide), if_neg (show ¬ (0 : Int) = 4 by decide), w_in (x := Wa * 65536) (by omega) (by omega)]
    dsimp only
    unfold mx
    repeat' split
    all_goals first | rfl | (exfalso; omega)
  · rw [hgt_off hc ho, Option.bind_some, if_neg ho, if_neg (by decide), if_pos (by decide)]
theorem how_on {W H Wa : Int} {l : List Int} {x y z : Int} (h : how W H Wa l x y z = 1 ∨ how W H Wa l x y z = 2) : On W H x y := by
  unfold how at h
  by_cases ho : On W H x y
  · exact ho
  · rw [if_neg ho] at h; omega
end Go.Proofs.YtbcddiaplpbhjaaDoor.Ap
