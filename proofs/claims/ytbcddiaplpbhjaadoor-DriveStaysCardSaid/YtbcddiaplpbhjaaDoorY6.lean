/- What the claim's proof leans on: texts of this claim, laid together. -/
import Derived.Test.YtbcddiaplpbhjaaDoorY5
namespace Go.Proofs.YtbcddiaplpbhjaaDoor.MDr
open Go.RowKit Go.Proofs.YtbcddiaplpbhjaaDoorW.PrintWords Go.Proofs.YtbcddiaplpbhjaaDoorW.PrintLast Go.Proofs.YtbcddiaplpbhjaaDoorW.PrintMore
attribute [local go_sem] max2_int min2_int max_two min_two max_three min_three max_four min_four
set_option linter.unusedVariables false
set_option linter.unusedSimpArgs false
attribute [local go_sem high] eqA26
set_option maxHeartbeats 8000000 in
set_option maxRecDepth 100000 in
theorem DSt.calls (k : Nat) (a0_0 : Int) (a0_1 : Int) (a0_2 : Int) (a0_3 : Int) (a0_4 : Int) (a0_5 : Int) (a0_6 : Int) (a0_7 : Int) (a0_8 : Int) (a0_9 : Int) (r : Bool) (w : World) (hT_ : Tg.Tab w) (h : DSt.f k a0_0 a0_1 a0_2 a0_3 a0_4 a0_5 a0_6 a0_7 a0_8 a0_9 = some r) :
  Calls Tryd.prog 6 #[.agg #[.int .i64 a0_0,.int .i64 a0_1,.int .i64 a0_2,.int .i64 a0_3,.int .i64 a0_4,.int .i64 a0_5,.int .i64 a0_6,.int .i64 a0_7,.int .i64 a0_8,.int .i64 a0_9]] w fun e w' => e = .returned (.bool r) ∧ Below w.heap.size w w' := by
 have hu30 := Tryd.underlying30
 have hu26 := Tryd.underlying26
 have hu28 := Tryd.underlying28
 have HB := Aside0.mk (Below.refl w.heap.size w)
 have HTAB := Aside0.mk hT_
 clear hT_
 have H : (DSt.l0 k 0 a0_0 a0_1 a0_2 a0_3 a0_4 a0_5 a0_6 a0_7 a0_8 a0_9 a0_0 a0_1 a0_2) = some r := h
 clear h
 have H' := Aside0.mk H
 clear H
 go_enter Tryd.func6,Tryd.ntmps6
 go_wp2_with (first | ((with_reducible refine gate_dst (N := 1) rfl ?_);refine box_event ?hg (N := 1) ?hd (cs := #[.int .i64 a0_0,.int .i64 a0_1,.int .i64 a0_2,.int .i64 a0_3,.int .i64 a0_4,.int .i64 a0_5,.int .i64 a0_6,.int .i64 a0_7,.int .i64 a0_8,.int .i64 a0_9]) (t := 30) ?hr ?_;(case hd => rfl);(case hg => rfl);(case hr => first | (go_simp;done) | (go_simp;rfl));intro gb183 hg w2 hbox hb;have n0_ := Aside0.mk (below_step (by repeat (first | (with_reducible first | exact HB.out | apply below_alloc | apply pw_below_drewN | apply below_drew1) | exact HB.out)) hb);have n1_ := Aside0.mk (hbox);have n2_ := Aside0.mk ((by rw [hg];exact (below_size (by repeat (first | (with_reducible first | exact HB.out | apply below_alloc | apply pw_below_drewN | apply below_drew1) | exact HB.out))) : w.heap.size ≤ gb183));have n3_ := Aside0.mk ((by rw [hg];exact (below_size (by repeat (first | (with_reducible first | exact HB.out | apply below_alloc | apply pw_below_drewN | apply below_drew1) | exact HB.out))) : w.heap.size ≤ gb183));clear HB;have HB := n0_;have K83 := n1_;have GW183 := n2_;have GE183 := n3_;clear n0_ n1_ n2_ n3_;clear hb hbox hg;have hcz3_0 : w2.cell? ⟨gb183,0,none⟩ = some (.int .i64 a0_0) := (blk_cell K83.out 0).trans rfl;have hcz3_1 : w2.cell? ⟨gb183,1,none⟩ = some (.int .i64 a0_1) := (blk_cell K83.out 1).trans rfl;have hcz3_2 : w2.cell? ⟨gb183,2,none⟩ = some (.int .i64 a0_2) := (blk_cell K83.out 2).trans rfl;have hcz3_3 : w2.cell? ⟨gb183,3,none⟩ = some (.int .i64 a0_3) := (blk_cell K83.out 3).trans rfl;have hcz3_4 : w2.cell? ⟨gb183,4,none⟩ = some (.int .i64 a0_4) := (blk_cell K83.out 4).trans rfl;have hcz3_5 : w2.cell? ⟨gb183,5,none⟩ = some (.int .i64 a0_5) := (blk_cell K83.out 5).trans rfl;have hcz3_6 : w2.cell? ⟨gb183,6,none⟩ = some (.int .i64 a0_6) := (blk_cell K83.out 6).trans rfl;have hcz3_7 : w2.cell? ⟨gb183,7,none⟩ = some (.int .i64 a0_7) := (blk_cell K83.out 7).trans rfl;have hcz3_8 : w2.cell? ⟨gb183,8,none⟩ = some (.int .i64 a0_8) := (blk_cell K83.out 8).trans rfl;have hcz3_9 : w2.cell? ⟨gb183,9,none⟩ = some (.int .i64 a0_9) := (blk_cell K83.out 9).trans rfl;have hfz3_0 := blk_frozen K83.out 0;have hfz3_1 := blk_frozen K83.out 1;have hfz3_2 := blk_frozen K83.out 2;have hfz3_3 := blk_frozen K83.out 3;have hfz3_4 := blk_frozen K83.out 4;have hfz3_5 := blk_frozen K83.out 5;have hfz3_6 := blk_frozen K83.out 6;have hfz3_7 := blk_frozen K83.out 7;have hfz3_8 := blk_frozen K83.out 8;have hfz3_9 := blk_frozen K83.out 9) | ((with_reducible refine gate_dst (N := 3) rfl ?_);refine box_event ?hg (N := 3) ?hd (cs := #[.int .i64 0,.int .i64 0,.int .i64 0]) (t := 26) ?hr ?_;(case hd => rfl);(case hg => rfl);(case hr => first | (go_simp;done) | (go_simp;rfl));intro gb184 hg w4 hbox hb;have n0_ := Aside0.mk (blk_below (g := gb183) (o := .cells #[.int .i64 a0_0,.int .i64 a0_1,.int .i64 a0_2,.int .i64 a0_3,.int .i64 a0_4,.int .i64 a0_5,.int .i64 a0_6,.int .i64 a0_7,.int .i64 a0_8,.int .i64 a0_9] 30 (0,0)) (by (with_reducible repeat (first | refine blk_drewN ?_ _ | refine blk_drew ?_ | refine blk_alloc ?_ _));exact K83.out) hb);have n1_ := Aside0.mk (below_step (by repeat (first | (with_reducible first | exact HB.out | apply below_alloc | apply pw_below_drewN | apply below_drew1 | refine below_set ?_ GE183.out) | exact HB.out)) hb);have n2_ := Aside0.mk (hbox);have n3_ := Aside0.mk ((by rw [hg];exact (below_size (by repeat (first | (with_reducible first | exact HB.out | apply below_alloc | apply pw_below_drewN | apply below_drew1 | refine below_set ?_ GE183.out) | exact HB.out))) : w.heap.size ≤ gb184));have n4_ := Aside0.mk ((by rw [hg];exact (below_size (by repeat (first | (with_reducible first | exact HB.out | apply below_alloc | apply pw_below_drewN | apply below_drew1 | refine below_set ?_ GE183.out) | exact HB.out))) : w.heap.size ≤ gb184));have n5_ := Aside0.mk ((by rw [hg];exact Nat.ne_of_lt (blk_lt (g := gb183) (o := .cells #[.int .i64 a0_0,.int .i64 a0_1,.int .i64 a0_2,.int .i64 a0_3,.int .i64 a0_4,.int .i64 a0_5,.int .i64 a0_6,.int .i64 a0_7,.int .i64 a0_8,.int .i64 a0_9] 30 (0,0)) (by (with_reducible repeat (first | refine blk_drewN ?_ _ | refine blk_drew ?_ | refine blk_alloc ?_ _));exact K83.out)) : gb183 ≠ gb184));have n6_ := Aside0.mk ((by rw [hg];exact Nat.ne_of_gt (blk_lt (g := gb183) (o := .cells #[.int .i64 a0_0,.int .i64 a0_1,.int .i64 a0_2,.int .i64 a0_3,.int .i64 a0_4,.int .i64 a0_5,.int .i64 a0_6,.int .i64 a0_7,.int .i64 a0_8,.int .i64 a0_9] 30 (0,0)) (by (with_reducible repeat (first | refine blk_drewN ?_ _ | refine blk_drew ?_ | refine blk_alloc ?_ _));exact K83.out)) : gb184 ≠ gb183));clear K83;clear HB;have K83 := n0_;have HB := n1_;have K84 := n2_;have GW184 := n3_;have GE184 := n4_;have NB183_184 := n5_;have NB184_183 := n6_;clear n0_ n1_ n2_ n3_ n4_ n5_ n6_;clear hb hbox hg;have hnb5 := NB184_183.out;have hnc5 := NB183_184.out;have hcz6_0 : w4.cell? ⟨gb184,0,none⟩ = some (.int .i64 0) := (blk_cell K84.out 0).trans rfl;have hcz6_1 : w4.cell? ⟨gb184,1,none⟩ = some (.int .i64 0) := (blk_cell K84.out 1).trans rfl;have hcz6_2 : w4.cell? ⟨gb184,2,none⟩ = some (.int .i64 0) := (blk_cell K84.out 2).trans rfl;have hfz6_0 := blk_frozen K84.out 0;have hfz6_1 := blk_frozen K84.out 1;have hfz6_2 := blk_frozen K84.out 2))
 go_loopg [4] k (fun kq v4 w' => ∃ (x4_1 : Int) (x185000_1 : Int) (x185001_1 : Int) (x185002_1 : Int),v4 = .int .i64 x4_1 ∧ Aside0 (DSt.l0 kq x4_1 a0_0 a0_1 a0_2 a0_3 a0_4 a0_5 a0_6 a0_7 a0_8 a0_9 x185000_1 x185001_1 x185002_1 = some r) ∧ Aside0 (kq ≤ k) ∧ Aside0 (w'.heap[gb183]? = some (.cells #[.int .i64 a0_0,.int .i64 a0_1,.int .i64 a0_2,.int .i64 a0_3,.int .i64 a0_4,.int .i64 a0_5,.int .i64 a0_6,.int .i64 a0_7,.int .i64 a0_8,.int .i64 a0_9] 30 (0,0))) ∧ Aside0 (w'.heap[gb184]? = some (.cells #[.int .i64 x185000_1,.int .i64 x185001_1,.int .i64 x185002_1] 26 (0,0))) ∧ Aside0 (Below w.heap.size w w'))
 case atStart => exact ⟨(0),(a0_0),(a0_1),(a0_2),(by first | rfl | (simp;done) | (simp [*];done)),H',⟨Nat.le_refl _⟩,⟨by (with_reducible repeat (first | refine blk_drewN ?_ _ | refine blk_drew ?_ | refine blk_alloc ?_ _));refine blk_far ?_ NB183_184.out _;(with_reducible repeat (first | refine blk_drewN ?_ _ | refine blk_drew ?_ | refine blk_alloc ?_ _));refine blk_far ?_ NB183_184.out _;(with_reducible repeat (first | refine blk_drewN ?_ _ | refine blk_drew ?_ | refine blk_alloc ?_ _));refine blk_far ?_ NB183_184.out _;(with_reducible repeat (first | refine blk_drewN ?_ _ | refine blk_drew ?_ | refine blk_alloc ?_ _));exact K83.out⟩,⟨by (with_reducible repeat (first | refine blk_drewN ?_ _ | refine blk_drew ?_ | refine blk_alloc ?_ _));refine blk_put (cs := #[.int .i64 a0_0,.int .i64 a0_1,.int .i64 0]) ?_ 2 _ rfl;(with_reducible repeat (first | refine blk_drewN ?_ _ | refine blk_drew ?_ | refine blk_alloc ?_ _));refine blk_put (cs := #[.int .i64 a0_0,.int .i64 0,.int .i64 0]) ?_ 1 _ rfl;(with_reducible repeat (first | refine blk_drewN ?_ _ | refine blk_drew ?_ | refine blk_alloc ?_ _));refine blk_put (cs := #[.int .i64 0,.int .i64 0,.int .i64 0]) ?_ 0 _ rfl;(with_reducible repeat (first | refine blk_drewN ?_ _ | refine blk_drew ?_ | refine blk_alloc ?_ _));exact K84.out⟩,⟨by repeat (first | (with_reducible first | exact HB.out | apply below_alloc | apply pw_below_drewN | apply below_drew1 | refine below_set ?_ GE183.out | refine below_set ?_ GE184.out) | exact HB.out)⟩⟩
 case round =>
  clear H'
  try clear p2
  try clear c5
  try clear c6
  try clear hcz3_0
  try clear hcz3_1
  try clear hcz3_2
  try clear hcz3_3
  try clear hcz3_4
  try clear hcz3_5
  try clear hcz3_6
  try clear hcz3_7
  try clear hcz3_8
  try clear hcz3_9
  try clear hcz6_0
  try clear hcz6_1
  try clear hcz6_2
  try clear hfz3_0
  try clear hfz3_1
  try clear hfz3_2
  try clear hfz3_3
  try clear hfz3_4
  try clear hfz3_5
  try clear hfz3_6
  try clear hfz3_7
  try clear hfz3_8
  try clear hfz3_9
  try clear hfz6_0
  try clear hfz6_1
  try clear hfz6_2
  obtain ⟨x4_1,x185000_1,x185001_1,x185002_1,rfl,HA,HK1,K83,K84,HB⟩ := hrel
  cases gk with
  | zero => exact absurd HA.out (by simp [DSt.l0])
  | succ k1 =>
   have H := HA.out
   clear HA
   simp only [DSt.l0] at H
   have HC7 := Aside0.mk H
   clear H
   go_upto_region 3 with (fail)
   go_cut [22] (fun v22 wc => ∃ (kq : Nat) (x22_6 : Bool),v22 = .bool x22_6 ∧ Aside0 (DSt.j1 kq x4_1 x22_6 a0_0 a0_1 a0_2 a0_3 a0_4 a0_5 a0_6 a0_7 a0_8 a0_9 x185000_1 x185001_1 x185002_1 = some r) ∧ Aside0 (kq ≤ k1) ∧ Aside0 (wc.heap[gb183]? = some (.cells #[.int .i64 a0_0,.int .i64 a0_1,.int .i64 a0_2,.int .i64 a0_3,.int .i64 a0_4,.int .i64 a0_5,.int .i64 a0_6,.int .i64 a0_7,.int .i64 a0_8,.int .i64 a0_9] 30 (0,0))) ∧ Aside0 (wc.heap[gb184]? = some (.cells #[.int .i64 x185000_1,.int .i64 x185001_1,.int .i64 x185002_1] 26 (0,0))) ∧ Aside0 (Below w.heap.size w wc))
   case first =>
    have H := HC7.out
    clear HC7
    by_cases c8 : x4_1 < a0_9
    ·
     rw [if_pos c8] at H
     have c8b0 : decide (x4_1 < a0_9) = true := decide_eq_true c8
     clear c8
     (first | rw [c8b0] | (simp only [i64_w,i32_w];rw [c8b0]) | skip)
     have H' := Aside0.mk H
     clear H
     have hnb9 := NB183_184.out
     have hnc9 := NB184_183.out
     have hcz10_0 : wr.cell? ⟨gb183,0,none⟩ = some (.int .i64 a0_0) := (blk_cell K83.out 0).trans rfl
     have hcz10_1 : wr.cell? ⟨gb183,1,none⟩ = some (.int .i64 a0_1) := (blk_cell K83.out 1).trans rfl
     have hcz10_2 : wr.cell? ⟨gb183,2,none⟩ = some (.int .i64 a0_2) := (blk_cell K83.out 2).trans rfl
     have hcz10_3 : wr.cell? ⟨gb183,3,none⟩ = some (.int .i64 a0_3) := (blk_cell K83.out 3).trans rfl
     have hcz10_4 : wr.cell? ⟨gb183,4,none⟩ = some (.int .i64 a0_4) := (blk_cell K83.out 4).trans rfl
     have hcz10_5 : wr.cell? ⟨gb183,5,none⟩ = some (.int .i64 a0_5) := (blk_cell K83.out 5).trans rfl
     have hcz10_6 : wr.cell? ⟨gb183,6,none⟩ = some (.int .i64 a0_6) := (blk_cell K83.out 6).trans rfl
     have hcz10_7 : wr.cell? ⟨gb183,7,none⟩ = some (.int .i64 a0_7) := (blk_cell K83.out 7).trans rfl
     have hcz10_8 : wr.cell? ⟨gb183,8,none⟩ = some (.int .i64 a0_8) := (blk_cell K83.out 8).trans rfl
     have hcz10_9 : wr.cell? ⟨gb183,9,none⟩ = some (.int .i64 a0_9) := (blk_cell K83.out 9).trans rfl
     have hfz10_0 := blk_frozen K83.out 0
     have hfz10_1 := blk_frozen K83.out 1
     have hfz10_2 := blk_frozen K83.out 2
     have hfz10_3 := blk_frozen K83.out 3
     have hfz10_4 := blk_frozen K83.out 4
     have hfz10_5 := blk_frozen K83.out 5
     have hfz10_6 := blk_frozen K83.out 6
     have hfz10_7 := blk_frozen K83.out 7
     have hfz10_8 := blk_frozen K83.out 8
     have hfz10_9 := blk_frozen K83.out 9
     go_wp2
     go_meet
     case rel => exact ⟨_,(decide (x4_1 < 60)),(by first | rfl | (simp;done) | (simp [*];done)),H',⟨by have := HK1.out;first | omega | exact Nat.le_refl _⟩,⟨by (with_reducible repeat (first | refine blk_drewN ?_ _ | refine blk_drew ?_ | refine blk_alloc ?_ _));exact K83.out⟩,⟨by (with_reducible repeat (first | refine blk_drewN ?_ _ | refine blk_drew ?_ | refine blk_alloc ?_ _));exact K84.out⟩,⟨by repeat (first | (with_reducible first | exact HB.out | apply below_alloc | apply pw_below_drewN | apply below_drew1 | refine below_set ?_ GE183.out | refine below_set ?_ GE184.out) | exact HB.out)⟩⟩
    ·
     rw [if_neg c8] at H
     have c8b0 : decide (x4_1 < a0_9) = false := decide_eq_false c8
     clear c8
     (first | rw [c8b0] | (simp only [i64_w,i32_w];rw [c8b0]) | skip)
     have H' := Aside0.mk H
     clear H
     have hnb11 := NB183_184.out
     have hnc11 := NB184_183.out
     have hcz12_0 : wr.cell? ⟨gb183,0,none⟩ = some (.int .i64 a0_0) := (blk_cell K83.out 0).trans rfl
     have hcz12_1 : wr.cell? ⟨gb183,1,none⟩ = some (.int .i64 a0_1) := (blk_cell K83.out 1).trans rfl
     have hcz12_2 : wr.cell? ⟨gb183,2,none⟩ = some (.int .i64 a0_2) := (blk_cell K83.out 2).trans rfl
     have hcz12_3 : wr.cell? ⟨gb183,3,none⟩ = some (.int .i64 a0_3) := (blk_cell K83.out 3).trans rfl
     have hcz12_4 : wr.cell? ⟨gb183,4,none⟩ = some (.int .i64 a0_4) := (blk_cell K83.out 4).trans rfl
     have hcz12_5 : wr.cell? ⟨gb183,5,none⟩ = some (.int .i64 a0_5) := (blk_cell K83.out 5).trans rfl
     have hcz12_6 : wr.cell? ⟨gb183,6,none⟩ = some (.int .i64 a0_6) := (blk_cell K83.out 6).trans rfl
     have hcz12_7 : wr.cell? ⟨gb183,7,none⟩ = some (.int .i64 a0_7) := (blk_cell K83.out 7).trans rfl
     have hcz12_8 : wr.cell? ⟨gb183,8,none⟩ = some (.int .i64 a0_8) := (blk_cell K83.out 8).trans rfl
     have hcz12_9 : wr.cell? ⟨gb183,9,none⟩ = some (.int .i64 a0_9) := (blk_cell K83.out 9).trans rfl
     have hfz12_0 := blk_frozen K83.out 0
     have hfz12_1 := blk_frozen K83.out 1
     have hfz12_2 := blk_frozen K83.out 2
     have hfz12_3 := blk_frozen K83.out 3
     have hfz12_4 := blk_frozen K83.out 4
     have hfz12_5 := blk_frozen K83.out 5
     have hfz12_6 := blk_frozen K83.out 6
     have hfz12_7 := blk_frozen K83.out 7
     have hfz12_8 := blk_frozen K83.out 8
     have hfz12_9 := blk_frozen K83.out 9
     go_wp2
     go_meet
     case rel => exact ⟨_,(false),(by first | rfl | (simp;done) | (simp [*];done)),H',⟨by have := HK1.out;first | omega | exact Nat.le_refl _⟩,⟨by (with_reducible repeat (first | refine blk_drewN ?_ _ | refine blk_drew ?_ | refine blk_alloc ?_ _));exact K83.out⟩,⟨by (with_reducible repeat (first | refine blk_drewN ?_ _ | refine blk_drew ?_ | refine blk_alloc ?_ _));exact K84.out⟩,⟨by repeat (first | (with_reducible first | exact HB.out | apply below_alloc | apply pw_below_drewN | apply below_drew1 | refine below_set ?_ GE183.out | refine below_set ?_ GE184.out) | exact HB.out)⟩⟩
   case rest =>
    clear HC7
    try clear c1
    try clear p2
    try clear c5
    try clear c6
    try clear c8
    try clear c8b0
    try clear c9
    try clear c11
    try clear hcz10_0
    try clear hcz10_1
    try clear hcz10_2
    try clear hcz10_3
    try clear hcz10_4
    try clear hcz10_5
    try clear hcz10_6
    try clear hcz10_7
    try clear hcz10_8
    try clear hcz10_9
    try clear hcz12_0
    try clear hcz12_1
    try clear hcz12_2
    try clear hcz12_3
    try clear hcz12_4
    try clear hcz12_5
    try clear hcz12_6
    try clear hcz12_7
    try clear hcz12_8
    try clear hcz12_9
    try clear hcz3_0
    try clear hcz3_1
    try clear hcz3_2
    try clear hcz3_3
    try clear hcz3_4
    try clear hcz3_5
    try clear hcz3_6
    try clear hcz3_7
    try clear hcz3_8
    try clear hcz3_9
    try clear hcz6_0
    try clear hcz6_1
    try clear hcz6_2
    try clear hfz10_0
    try clear hfz10_1
    try clear hfz10_2
    try clear hfz10_3
    try clear hfz10_4
    try clear hfz10_5
    try clear hfz10_6
    try clear hfz10_7
    try clear hfz10_8
    try clear hfz10_9
    try clear hfz12_0
    try clear hfz12_1
    try clear hfz12_2
    try clear hfz12_3
    try clear hfz12_4
    try clear hfz12_5
    try clear hfz12_6
    try clear hfz12_7
    try clear hfz12_8
    try clear hfz12_9
    try clear hfz3_0
    try clear hfz3_1
    try clear hfz3_2
    try clear hfz3_3
    try clear hfz3_4
    try clear hfz3_5
    try clear hfz3_6
    try clear hfz3_7
    try clear hfz3_8
    try clear hfz3_9
    try clear hfz6_0
    try clear hfz6_1
    try clear hfz6_2
    try clear p2
    obtain ⟨kq,x22_6,rfl,HA,HJ6,K83,K84,HB⟩ := hcut
    cases kq with
    | zero => exact absurd HA.out (by simp [DSt.j1])
    | succ kj6 =>
     have H := HA.out
     clear HA
     simp only [DSt.j1] at H
     by_cases c13 : x22_6 = true
     ·
      subst c13
      have H1 : ((drive_Step.f kj6 x185000_1 x185001_1 x185002_1 a0_3 a0_4 a0_5 a0_6 a0_7 a0_8).bind fun bt186 => (if bt186.2.2.2.2 = 0 then (if bt186.2.2.2.1 = true then (if bt186.1 = a0_7 then (if bt186.2.1 = a0_8 then (if bt186.1 < 0 then (DSt.j2 kj6 x4_1 bt186.2.2.2.1 (wrap64 (bt186.1 - x185000_1)) (wrap64 (bt186.2.1 - x185001_1)) true a0_0 a0_1 a0_2 a0_3 a0_4 a0_5 a0_6 a0_7 a0_8 a0_9 x185000_1 x185001_1 x185002_1 bt186.1 bt186.2.1 bt186.2.2.1) else (if bt186.1 ≥ (wrap64 (a0_5 * 65536)) then (DSt.j2 kj6 x4_1 bt186.2.2.2.1 (wrap64 (bt186.1 - x185000_1)) (wrap64 (bt186.2.1 - x185001_1)) true a0_0 a0_1 a0_2 a0_3 a0_4 a0_5 a0_6 a0_7 a0_8 a0_9 x185000_1 x185001_1 x185002_1 bt186.1 bt186.2.1 bt186.2.2.1) else (if bt186.2.1 < 0 then (DSt.j2 kj6 x4_1 bt186.2.2.2.1 (wrap64 (bt186.1 - x185000_1)) (wrap64 (bt186.2.1 - x185001_1)) true a0_0 a0_1 a0_2 a0_3 a0_4 a0_5 a0_6 a0_7 a0_8 a0_9 x185000_1 x185001_1 x185002_1 bt186.1 bt186.2.1 bt186.2.2.1) else (if bt186.2.1 ≥ (wrap64 (a0_6 * 65536)) then (DSt.j2 kj6 x4_1 bt186.2.2.2.1 (wrap64 (bt186.1 - x185000_1)) (wrap64 (bt186.2.1 - x185001_1)) true a0_0 a0_1 a0_2 a0_3 a0_4 a0_5 a0_6 a0_7 a0_8 a0_9 x185000_1 x185001_1 x185002_1 bt186.1 bt186.2.1 bt186.2.2.1) else (if bt186.2.2.1 < 0 then (DSt.j2 kj6 x4_1 bt186.2.2.2.1 (wrap64 (bt186.1 - x185000_1)) (wrap64 (bt186.2.1 - x185001_1)) true a0_0 a0_1 a0_2 a0_3 a0_4 a0_5 a0_6 a0_7 a0_8 a0_9 x185000_1 x185001_1 x185002_1 bt186.1 bt186.2.1 bt186.2.2.1) else (DSt.j2 kj6 x4_1 bt186.2.2.2.1 (wrap64 (bt186.1 - x185000_1)) (wrap64 (bt186.2.1 - x185001_1)) (decide (bt186.2.2.1 > 65535)) a0_0 a0_1 a0_2 a0_3 a0_4 a0_5 a0_6 a0_7 a0_8 a0_9 x185000_1 x185001_1 x185002_1 bt186.1 bt186.2.1 bt186.2.2.1)))))) else (DSt.j2 kj6 x4_1 bt186.2.2.2.1 (wrap64 (bt186.1 - x185000_1)) (wrap64 (bt186.2.1 - x185001_1)) true a0_0 a0_1 a0_2 a0_3 a0_4 a0_5 a0_6 a0_7 a0_8 a0_9 x185000_1 x185001_1 x185002_1 bt186.1 bt186.2.1 bt186.2.2.1)) else (DSt.j2 kj6 x4_1 bt186.2.2.2.1 (wrap64 (bt186.1 - x185000_1)) (wrap64 (bt186.2.1 - x185001_1)) true a0_0 a0_1 a0_2 a0_3 a0_4 a0_5 a0_6 a0_7 a0_8 a0_9 x185000_1 x185001_1 x185002_1 bt186.1 bt186.2.1 bt186.2.2.1)) else (if bt186.1 < 0 then (DSt.j2 kj6 x4_1 bt186.2.2.2.1 (wrap64 (bt186.1 - x185000_1)) (wrap64 (bt186.2.1 - x185001_1)) true a0_0 a0_1 a0_2 a0_3 a0_4 a0_5 a0_6 a0_7 a0_8 a0_9 x185000_1 x185001_1 x185002_1 bt186.1 bt186.2.1 bt186.2.2.1) else (if bt186.1 ≥ (wrap64 (a0_5 * 65536)) then (DSt.j2 kj6 x4_1 bt186.2.2.2.1 (wrap64 (bt186.1 - x185000_1)) (wrap64 (bt186.2.1 - x185001_1)) true a0_0 a0_1 a0_2 a0_3 a0_4 a0_5 a0_6 a0_7 a0_8 a0_9 x185000_1 x185001_1 x185002_1 bt186.1 bt186.2.1 bt186.2.2.1) else (if bt186.2.1 < 0 then (DSt.j2 kj6 x4_1 bt186.2.2.2.1 (wrap64 (bt186.1 - x185000_1)) (wrap64 (bt186.2.1 - x185001_1)) true a0_0 a0_1 a0_2 a0_3 a0_4 a0_5 a0_6 a0_7 a0_8 a0_9 x185000_1 x185001_1 x185002_1 bt186.1 bt186.2.1 bt186.2.2.1) else (if bt186.2.1 ≥ (wrap64 (a0_6 * 65536)) then (DSt.j2 kj6 x4_1 bt186.2.2.2.1 (wrap64 (bt186.1 - x185000_1)) (wrap64 (bt186.2.1 - x185001_1)) true a0_0 a0_1 a0_2 a0_3 a0_4 a0_5 a0_6 a0_7 a0_8 a0_9 x185000_1 x185001_1 x185002_1 bt186.1 bt186.2.1 bt186.2.2.1) else (if bt186.2.2.1 < 0 then (DSt.j2 kj6 x4_1 bt186.2.2.2.1 (wrap64 (bt186.1 - x185000_1)) (wrap64 (bt186.2.1 - x185001_1)) true a0_0 a0_1 a0_2 a0_3 a0_4 a0_5 a0_6 a0_7 a0_8 a0_9 x185000_1 x185001_1 x185002_1 bt186.1 bt186.2.1 bt186.2.2.1) else (DSt.j2 kj6 x4_1 bt186.2.2.2.1 (wrap64 (bt186.1 - x185000_1)) (wrap64 (bt186.2.1 - x185001_1)) (decide (bt186.2.2.1 > 65535)) a0_0 a0_1 a0_2 a0_3 a0_4 a0_5 a0_6 a0_7 a0_8 a0_9 x185000_1 x185001_1 x185002_1 bt186.1 bt186.2.1 bt186.2.2.1))))))) else (if x4_1 = 0 then (if bt186.2.2.2.1 = true then (some false) else ((bivouaclaw14_awake.f kj6).bind fun t192 => (some t192))) else (some false)))) = some r := by rw [if_pos rfl] at H;exact H
      clear H
      have H := H1
      clear H1
      replace H := Option.bind_eq_some_iff.mp H
      obtain ⟨⟨t186,t187,t188,t189,t190⟩,A140,H⟩ := H
      replace H : (if t190 = 0 then (if t189 = true then (if t186 = a0_7 then (if t187 = a0_8 then (if t186 < 0 then (DSt.j2 kj6 x4_1 t189 (wrap64 (t186 - x185000_1)) (wrap64 (t187 - x185001_1)) true a0_0 a0_1 a0_2 a0_3 a0_4 a0_5 a0_6 a0_7 a0_8 a0_9 x185000_1 x185001_1 x185002_1 t186 t187 t188) else (if t186 ≥ (wrap64 (a0_5 * 65536)) then (DSt.j2 kj6 x4_1 t189 (wrap64 (t186 - x185000_1)) (wrap64 (t187 - x185001_1)) true a0_0 a0_1 a0_2 a0_3 a0_4 a0_5 a0_6 a0_7 a0_8 a0_9 x185000_1 x185001_1 x185002_1 t186 t187 t188) else (if t187 < 0 then (DSt.j2 kj6 x4_1 t189 (wrap64 (t186 - x185000_1)) (wrap64 (t187 - x185001_1)) true a0_0 a0_1 a0_2 a0_3 a0_4 a0_5 a0_6 a0_7 a0_8 a0_9 x185000_1 x185001_1 x185002_1 t186 t187 t188) else (if t187 ≥ (wrap64 (a0_6 * 65536)) then (DSt.j2 kj6 x4_1 t189 (wrap64 (t186 - x185000_1)) (wrap64 (t187 - x185001_1)) true a0_0 a0_1 a0_2 a0_3 a0_4 a0_5 a0_6 a0_7 a0_8 a0_9 x185000_1 x185001_1 x185002_1 t186 t187 t188) else (if t188 < 0 then (DSt.j2 kj6 x4_1 t189 (wrap64 (t186 - x185000_1)) (wrap64 (t187 - x185001_1)) true a0_0 a0_1 a0_2 a0_3 a0_4 a0_5 a0_6 a0_7 a0_8 a0_9 x185000_1 x185001_1 x185002_1 t186 t187 t188) else (DSt.j2 kj6 x4_1 t189 (wrap64 (t186 - x185000_1)) (wrap64 (t187 - x185001_1)) (decide (t188 > 65535)) a0_0 a0_1 a0_2 a0_3 a0_4 a0_5 a0_6 a0_7 a0_8 a0_9 x185000_1 x185001_1 x185002_1 t186 t187 t188)))))) else (DSt.j2 kj6 x4_1 t189 (wrap64 (t186 - x185000_1)) (wrap64 (t187 - x185001_1)) true a0_0 a0_1 a0_2 a0_3 a0_4 a0_5 a0_6 a0_7 a0_8 a0_9 x185000_1 x185001_1 x185002_1 t186 t187 t188)) else (DSt.j2 kj6 x4_1 t189 (wrap64 (t186 - x185000_1)) (wrap64 (t187 - x185001_1)) true a0_0 a0_1 a0_2 a0_3 a0_4 a0_5 a0_6 a0_7 a0_8 a0_9 x185000_1 x185001_1 x185002_1 t186 t187 t188)) else (if t186 < 0 then (DSt.j2 kj6 x4_1 t189 (wrap64 (t186 - x185000_1)) (wrap64 (t187 - x185001_1)) true a0_0 a0_1 a0_2 a0_3 a0_4 a0_5 a0_6 a0_7 a0_8 a0_9 x185000_1 x185001_1 x185002_1 t186 t187 t188) else (if t186 ≥ (wrap64 (a0_5 * 65536)) then (DSt.j2 kj6 x4_1 t189 (wrap64 (t186 - x185000_1)) (wrap64 (t187 - x185001_1)) true a0_0 a0_1 a0_2 a0_3 a0_4 a0_5 a0_6 a0_7 a0_8 a0_9 x185000_1 x185001_1 x185002_1 t186 t187 t188) else (if t187 < 0 then (DSt.j2 kj6 x4_1 t189 (wrap64 (t186 - x185000_1)) (wrap64 (t187 - x185001_1)) true a0_0 a0_1 a0_2 a0_3 a0_4 a0_5 a0_6 a0_7 a0_8 a0_9 x185000_1 x185001_1 x185002_1 t186 t187 t188) else (if t187 ≥ (wrap64 (a0_6 * 65536)) then (DSt.j2 kj6 x4_1 t189 (wrap64 (t186 - x185000_1)) (wrap64 (t187 - x185001_1)) true a0_0 a0_1 a0_2 a0_3 a0_4 a0_5 a0_6 a0_7 a0_8 a0_9 x185000_1 x185001_1 x185002_1 t186 t187 t188) else (if t188 < 0 then (DSt.j2 kj6 x4_1 t189 (wrap64 (t186 - x185000_1)) (wrap64 (t187 - x185001_1)) true a0_0 a0_1 a0_2 a0_3 a0_4 a0_5 a0_6 a0_7 a0_8 a0_9 x185000_1 x185001_1 x185002_1 t186 t187 t188) else (DSt.j2 kj6 x4_1 t189 (wrap64 (t186 - x185000_1)) (wrap64 (t187 - x185001_1)) (decide (t188 > 65535)) a0_0 a0_1 a0_2 a0_3 a0_4 a0_5 a0_6 a0_7 a0_8 a0_9 x185000_1 x185001_1 x185002_1 t186 t187 t188))))))) else (if x4_1 = 0 then (if t189 = true then (some false) else ((bivouaclaw14_awake.f kj6).bind fun t192 => (some t192))) else (some false))) = some r := H
      have A14 := Aside0.mk A140
      clear A140
      by_cases c15 : t190 = 0
      ·
       rw [if_pos c15] at H
       have c15b0 : (t190 == 0) = true := beq_iff_eq.mpr c15
       have c15b1 : (t190 != 0) = false := bne_eq_false_iff_eq.mpr c15
       clear c15
       have HC16 := Aside0.mk H
       clear H
       have hnb17 := NB184_183.out
       have hnc17 := NB183_184.out
       have hcz18_0 : wc.cell? ⟨gb184,0,none⟩ = some (.int .i64 x185000_1) := (blk_cell K84.out 0).trans rfl
       have hcz18_1 : wc.cell? ⟨gb184,1,none⟩ = some (.int .i64 x185001_1) := (blk_cell K84.out 1).trans rfl
       have hcz18_2 : wc.cell? ⟨gb184,2,none⟩ = some (.int .i64 x185002_1) := (blk_cell K84.out 2).trans rfl
       have hfz18_0 := blk_frozen K84.out 0
       have hfz18_1 := blk_frozen K84.out 1
       have hfz18_2 := blk_frozen K84.out 2
       have hcz19_0 : wc.cell? ⟨gb183,0,none⟩ = some (.int .i64 a0_0) := (blk_cell K83.out 0).trans rfl
       have hcz19_1 : wc.cell? ⟨gb183,1,none⟩ = some (.int .i64 a0_1) := (blk_cell K83.out 1).trans rfl
       have hcz19_2 : wc.cell? ⟨gb183,2,none⟩ = some (.int .i64 a0_2) := (blk_cell K83.out 2).trans rfl
       have hcz19_3 : wc.cell? ⟨gb183,3,none⟩ = some (.int .i64 a0_3) := (blk_cell K83.out 3).trans rfl
       have hcz19_4 : wc.cell? ⟨gb183,4,none⟩ = some (.int .i64 a0_4) := (blk_cell K83.out 4).trans rfl
       have hcz19_5 : wc.cell? ⟨gb183,5,none⟩ = some (.int .i64 a0_5) := (blk_cell K83.out 5).trans rfl
       have hcz19_6 : wc.cell? ⟨gb183,6,none⟩ = some (.int .i64 a0_6) := (blk_cell K83.out 6).trans rfl
       have hcz19_7 : wc.cell? ⟨gb183,7,none⟩ = some (.int .i64 a0_7) := (blk_cell K83.out 7).trans rfl
       have hcz19_8 : wc.cell? ⟨gb183,8,none⟩ = some (.int .i64 a0_8) := (blk_cell K83.out 8).trans rfl
       have hcz19_9 : wc.cell? ⟨gb183,9,none⟩ = some (.int .i64 a0_9) := (blk_cell K83.out 9).trans rfl
       have hfz19_0 := blk_frozen K83.out 0
       have hfz19_1 := blk_frozen K83.out 1
       have hfz19_2 := blk_frozen K83.out 2
       have hfz19_3 := blk_frozen K83.out 3
       have hfz19_4 := blk_frozen K83.out 4
       have hfz19_5 := blk_frozen K83.out 5
       have hfz19_6 := blk_frozen K83.out 6
       have hfz19_7 := blk_frozen K83.out 7
       have hfz19_8 := blk_frozen K83.out 8
       have hfz19_9 := blk_frozen K83.out 9
       try go_wp2_with (first | ((with_reducible refine gate_callee (f := 15) rfl ?_);refine goesL_ (some 33) rfl rfl Tryd.func15 (by kernel_rfl) rfl #[.agg #[.int .i64 x185000_1,.int .i64 x185001_1,.int .i64 x185002_1],.agg #[.int .i64 a0_3,.int .i64 a0_4,.int .i64 a0_5,.int .i64 a0_6],.int .i64 a0_7,.int .i64 a0_8] rfl (by (try simp only [List.map_toArray,List.map_cons,List.map_nil]);first | done | rfl | (simp only [List.length_drop,List.length_take];rfl)) ?_;(with_reducible refine (drive_Step.calls kj6 x185000_1 x185001_1 x185002_1 a0_3 a0_4 a0_5 a0_6 a0_7 a0_8 t186 t187 t188 t189 t190 _ ?side1 A14.out).mono ?_);(case side1 => exact Tg.Tab.below HTAB.out (by repeat (first | (with_reducible first | exact HB.out | apply below_alloc | apply pw_below_drewN | apply below_drew1 | refine below_set ?_ GE183.out | refine below_set ?_ GE184.out) | exact HB.out)));rintro e w20 ⟨rfl,hb⟩;refine ⟨_,rfl,?_⟩;have n0_ := Aside0.mk (blk_below (g := gb183) (o := .cells #[.int .i64 a0_0,.int .i64 a0_1,.int .i64 a0_2,.int .i64 a0_3,.int .i64 a0_4,.int .i64 a0_5,.int .i64 a0_6,.int .i64 a0_7,.int .i64 a0_8,.int .i64 a0_9] 30 (0,0)) (by (with_reducible repeat (first | refine blk_drewN ?_ _ | refine blk_drew ?_ | refine blk_alloc ?_ _));exact K83.out) hb);have n1_ := Aside0.mk (blk_below (g := gb184) (o := .cells #[.int .i64 x185000_1,.int .i64 x185001_1,.int .i64 x185002_1] 26 (0,0)) (by (with_reducible repeat (first | refine blk_drewN ?_ _ | refine blk_drew ?_ | refine blk_alloc ?_ _));exact K84.out) hb);have n2_ := Aside0.mk (below_step (by repeat (first | (with_reducible first | exact HB.out | apply below_alloc | apply pw_below_drewN | apply below_drew1 | refine below_set ?_ GE183.out | refine below_set ?_ GE184.out) | exact HB.out)) hb);clear K83;clear K84;clear HB;have K83 := n0_;have K84 := n1_;have HB := n2_;clear n0_ n1_ n2_;(try clear hb);(try clear hb2);(try clear hk);(try clear hi)) | ((with_reducible refine gate_dst (N := 5) rfl ?_);refine box_event ?hg (N := 5) ?hd (cs := #[.int .i64 0,.int .i64 0,.int .i64 0]) (t := 26) ?hr ?_;(case hd => rfl);(case hg => rfl);(case hr => first | (go_simp;done) | (go_simp;rfl));intro gb191 hg w21 hbox hb;have n0_ := Aside0.mk (blk_below (g := gb183) (o := .cells #[.int .i64 a0_0,.int .i64 a0_1,.int .i64 a0_2,.int .i64 a0_3,.int .i64 a0_4,.int .i64 a0_5,.int .i64 a0_6,.int .i64 a0_7,.int .i64 a0_8,.int .i64 a0_9] 30 (0,0)) (by (with_reducible repeat (first | refine blk_drewN ?_ _ | refine blk_drew ?_ | refine blk_alloc ?_ _));exact K83.out) hb);have n1_ := Aside0.mk (blk_below (g := gb184) (o := .cells #[.int .i64 x185000_1,.int .i64 x185001_1,.int .i64 x185002_1] 26 (0,0)) (by (with_reducible repeat (first | refine blk_drewN ?_ _ | refine blk_drew ?_ | refine blk_alloc ?_ _));exact K84.out) hb);have n2_ := Aside0.mk (below_step (by repeat (first | (with_reducible first | exact HB.out | apply below_alloc | apply pw_below_drewN | apply below_drew1 | refine below_set ?_ GE183.out | refine below_set ?_ GE184.out) | exact HB.out)) hb);have n3_ := Aside0.mk (hbox);have n4_ := Aside0.mk ((by rw [hg];exact (below_size (by repeat (first | (with_reducible first | exact HB.out | apply below_alloc | apply pw_below_drewN | apply below_drew1 | refine below_set ?_ GE183.out | refine below_set ?_ GE184.out) | exact HB.out))) : w.heap.size ≤ gb191));have n5_ := Aside0.mk ((by rw [hg];exact (below_size (by repeat (first | (with_reducible first | exact HB.out | apply below_alloc | apply pw_below_drewN | apply below_drew1 | refine below_set ?_ GE183.out | refine below_set ?_ GE184.out) | exact HB.out))) : w.heap.size ≤ gb191));have n6_ := Aside0.mk ((by rw [hg];exact Nat.ne_of_lt (blk_lt (g := gb183) (o := .cells #[.int .i64 a0_0,.int .i64 a0_1,.int .i64 a0_2,.int .i64 a0_3,.int .i64 a0_4,.int .i64 a0_5,.int .i64 a0_6,.int .i64 a0_7,.int .i64 a0_8,.int .i64 a0_9] 30 (0,0)) (by (with_reducible repeat (first | refine blk_drewN ?_ _ | refine blk_drew ?_ | refine blk_alloc ?_ _));exact K83.out)) : gb183 ≠ gb191));have n7_ := Aside0.mk ((by rw [hg];exact Nat.ne_of_gt (blk_lt (g := gb183) (o := .cells #[.int .i64 a0_0,.int .i64 a0_1,.int .i64 a0_2,.int .i64 a0_3,.int .i64 a0_4,.int .i64 a0_5,.int .i64 a0_6,.int .i64 a0_7,.int .i64 a0_8,.int .i64 a0_9] 30 (0,0)) (by (with_reducible repeat (first | refine blk_drewN ?_ _ | refine blk_drew ?_ | refine blk_alloc ?_ _));exact K83.out)) : gb191 ≠ gb183));have n8_ := Aside0.mk ((by rw [hg];exact Nat.ne_of_lt (blk_lt (g := gb184) (o := .cells #[.int .i64 x185000_1,.int .i64 x185001_1,.int .i64 x185002_1] 26 (0,0)) (by (with_reducible repeat (first | refine blk_drewN ?_ _ | refine blk_drew ?_ | refine blk_alloc ?_ _));exact K84.out)) : gb184 ≠ gb191));have n9_ := Aside0.mk ((by rw [hg];exact Nat.ne_of_gt (blk_lt (g := gb184) (o := .cells #[.int .i64 x185000_1,.int .i64 x185001_1,.int .i64 x185002_1] 26 (0,0)) (by (with_reducible repeat (first | refine blk_drewN ?_ _ | refine blk_drew ?_ | refine blk_alloc ?_ _));exact K84.out)) : gb191 ≠ gb184));clear K83;clear K84;clear HB;have K83 := n0_;have K84 := n1_;have HB := n2_;have K91 := n3_;have GW191 := n4_;have GE191 := n5_;have NB183_191 := n6_;have NB191_183 := n7_;have NB184_191 := n8_;have NB191_184 := n9_;clear n0_ n1_ n2_ n3_ n4_ n5_ n6_ n7_ n8_ n9_;clear hb hbox hg;have hnb22 := NB191_183.out;have hnc22 := NB183_191.out;have hnb23 := NB191_184.out;have hnc23 := NB184_191.out;have hcz24_0 : w21.cell? ⟨gb191,0,none⟩ = some (.int .i64 0) := (blk_cell K91.out 0).trans rfl;have hcz24_1 : w21.cell? ⟨gb191,1,none⟩ = some (.int .i64 0) := (blk_cell K91.out 1).trans rfl;have hcz24_2 : w21.cell? ⟨gb191,2,none⟩ = some (.int .i64 0) := (blk_cell K91.out 2).trans rfl;have hfz24_0 := blk_frozen K91.out 0;have hfz24_1 := blk_frozen K91.out 1;have hfz24_2 := blk_frozen K91.out 2))
       have n0_ : Aside0 ((((w21.setCell ⟨gb191,0,none⟩ (.int .i64 t186)).setCell ⟨gb191,1,none⟩ (.int .i64 t187)).setCell ⟨gb191,2,none⟩ (.int .i64 t188)).heap[gb183]? = some (.cells #[.int .i64 a0_0,.int .i64 a0_1,.int .i64 a0_2,.int .i64 a0_3,.int .i64 a0_4,.int .i64 a0_5,.int .i64 a0_6,.int .i64 a0_7,.int .i64 a0_8,.int .i64 a0_9] 30 (0,0))) := ⟨by (with_reducible repeat (first | refine blk_drewN ?_ _ | refine blk_drew ?_ | refine blk_alloc ?_ _));refine blk_far ?_ NB183_191.out _;(with_reducible repeat (first | refine blk_drewN ?_ _ | refine blk_drew ?_ | refine blk_alloc ?_ _));refine blk_far ?_ NB183_191.out _;(with_reducible repeat (first | refine blk_drewN ?_ _ | refine blk_drew ?_ | refine blk_alloc ?_ _));refine blk_far ?_ NB183_191.out _;(with_reducible repeat (first | refine blk_drewN ?_ _ | refine blk_drew ?_ | refine blk_alloc ?_ _));exact K83.out⟩
       have n1_ : Aside0 ((((w21.setCell ⟨gb191,0,none⟩ (.int .i64 t186)).setCell ⟨gb191,1,none⟩ (.int .i64 t187)).setCell ⟨gb191,2,none⟩ (.int .i64 t188)).heap[gb184]? = some (.cells #[.int .i64 x185000_1,.int .i64 x185001_1,.int .i64 x185002_1] 26 (0,0))) := ⟨by (with_reducible repeat (first | refine blk_drewN ?_ _ | refine blk_drew ?_ | refine blk_alloc ?_ _));refine blk_far ?_ NB184_191.out _;(with_reducible repeat (first | refine blk_drewN ?_ _ | refine blk_drew ?_ | refine blk_alloc ?_ _));refine blk_far ?_ NB184_191.out _;(with_reducible repeat (first | refine blk_drewN ?_ _ | refine blk_drew ?_ | refine blk_alloc ?_ _));refine blk_far ?_ NB184_191.out _;(with_reducible repeat (first | refine blk_drewN ?_ _ | refine blk_drew ?_ | refine blk_alloc ?_ _));exact K84.out⟩
       have n2_ : Aside0 ((((w21.setCell ⟨gb191,0,none⟩ (.int .i64 t186)).setCell ⟨gb191,1,none⟩ (.int .i64 t187)).setCell ⟨gb191,2,none⟩ (.int .i64 t188)).heap[gb191]? = some (.cells #[.int .i64 t186,.int .i64 t187,.int .i64 t188] 26 (0,0))) := ⟨by (with_reducible repeat (first | refine blk_drewN ?_ _ | refine blk_drew ?_ | refine blk_alloc ?_ _));refine blk_put (cs := #[.int .i64 t186,.int .i64 t187,.int .i64 0]) ?_ 2 _ rfl;(with_reducible repeat (first | refine blk_drewN ?_ _ | refine blk_drew ?_ | refine blk_alloc ?_ _));refine blk_put (cs := #[.int .i64 t186,.int .i64 0,.int .i64 0]) ?_ 1 _ rfl;(with_reducible repeat (first | refine blk_drewN ?_ _ | refine blk_drew ?_ | refine blk_alloc ?_ _));refine blk_put (cs := #[.int .i64 0,.int .i64 0,.int .i64 0]) ?_ 0 _ rfl;(with_reducible repeat (first | refine blk_drewN ?_ _ | refine blk_drew ?_ | refine blk_alloc ?_ _));exact K91.out⟩
       have n3_ : Aside0 (Below w.heap.size w (((w21.setCell ⟨gb191,0,none⟩ (.int .i64 t186)).setCell ⟨gb191,1,none⟩ (.int .i64 t187)).setCell ⟨gb191,2,none⟩ (.int .i64 t188))) := ⟨by repeat (first | (with_reducible first | exact HB.out | apply below_alloc | apply pw_below_drewN | apply below_drew1 | refine below_set ?_ GE183.out | refine below_set ?_ GE184.out | refine below_set ?_ GE191.out) | exact HB.out)⟩
       (try clear K83)
       (try clear K84)
       (try clear K91)
       (try clear HB)
       generalize (((w21.setCell ⟨gb191,0,none⟩ (.int .i64 t186)).setCell ⟨gb191,1,none⟩ (.int .i64 t187)).setCell ⟨gb191,2,none⟩ (.int .i64 t188)) = w25 at n0_ n1_ n2_ n3_ ⊢
       have K83 := n0_
       have K84 := n1_
       have K91 := n2_
       have HB := n3_
       clear n0_ n1_ n2_ n3_
       have n0_ := Aside0.mk (blk_drew K83.out)
       have n1_ := Aside0.mk (blk_drew K84.out)
       have n2_ := Aside0.mk (blk_drew K91.out)
       have n3_ := Aside0.mk (below_drew1 HB.out)
       clear K83
       clear K84
       clear K91
       clear HB
       have K83 := n0_
       have K84 := n1_
       have K91 := n2_
       have HB := n3_
       clear n0_ n1_ n2_ n3_
       refine start_ (n := 12) (S := fun w' => w'.cell? ⟨gb191,0,none⟩ = some (.int .i64 t186) ∧ w'.cell? ⟨gb191,1,none⟩ = some (.int .i64 t187) ∧ w'.cell? ⟨gb191,2,none⟩ = some (.int .i64 t188) ∧ w'.cell? ⟨gb184,0,none⟩ = some (.int .i64 x185000_1) ∧ w'.cell? ⟨gb184,1,none⟩ = some (.int .i64 x185001_1) ∧ w'.cell? ⟨gb184,2,none⟩ = some (.int .i64 x185002_1)) (ds := []) m0_ (by kernel_rfl) rfl rfl ⟨(blk_cell K91.out 0).trans rfl,(blk_cell K91.out 1).trans rfl,(blk_cell K91.out 2).trans rfl,(blk_cell K84.out 0).trans rfl,(blk_cell K84.out 1).trans rfl,(blk_cell K84.out 2).trans rfl⟩ (fun hHeld => ?_);refine with_tabW DSt.tab8 DSt.bits8 (fun HT_ HW_ => ?_)
       generalize w25.drew = w26 at K83 K84 K91 HB hHeld ⊢
       refine pure_ (i := 0) (N := some 48) (v := ?_) (a' := ?_) m1_ rfl rfl (any_of HT_.out (by kernel_rfl)) (fun _ _ _ h => h) (Or.inl ⟨by rfl,?_⟩) ?_ ?_
       rotate_left
       ·
        intro w'
        go_simp
        with_reducible rfl
       rotate_left
       ·
        simp only [Act.put,LS_,L0_,L1_,i64_w,i32_w]
        rfl
       refine pure_ (i := 2) (N := some 50) (v := ?_) (a' := ?_) m2_ rfl rfl (any_of HT_.out (by kernel_rfl)) (fun _ _ _ h => h) (Or.inl ⟨by rfl,?_⟩) ?_ ?_
       rotate_left
       ·
        intro w'
        go_simp
        with_reducible rfl
       rotate_left
       ·
        simp only [Act.put,LS_,L0_,L1_,i64_w,i32_w]
        rfl
       refine pure_ (i := 5) (N := some 53) (v := ?_) (a' := ?_) m3_ rfl rfl (any_of HT_.out (by kernel_rfl)) (fun _ _ _ h => h) (Or.inl ⟨by rfl,?_⟩) ?_ ?_
       rotate_left
       ·
        intro w'
        go_simp
        with_reducible rfl
       rotate_left
       ·
        simp only [Act.put,LS_,L0_,L1_,i64_w,i32_w]
        rfl
       refine pure_ (i := 7) (N := some 55) (v := ?_) (a' := ?_) m4_ rfl rfl (any_of HT_.out (by kernel_rfl)) (fun _ _ _ h => h) (Or.inl ⟨by rfl,?_⟩) ?_ ?_
       rotate_left
       ·
        intro w'
        go_simp
        with_reducible rfl
       rotate_left
       ·
        simp only [Act.put,LS_,L0_,L1_,i64_w,i32_w]
        rfl
       refine take_ (i := 1) (N := some 49) (v := ?_) (a' := ?_) m5_ rfl rfl (take_ofW HT_.out HW_.out (by kernel_rfl)) (fun _ _ _ h => h) (Or.inl ⟨by rfl,?_⟩) hHeld ?_ ?_
       rotate_left
       ·
        rintro w' ⟨s0,s1,s2,s3,s4,s5⟩
        go_simp
        with_reducible rfl
       rotate_left
       ·
        simp only [Act.put,LS_,L0_,L1_,i64_w,i32_w]
        rfl
       refine take_ (i := 3) (N := some 51) (v := ?_) (a' := ?_) m6_ rfl rfl (take_ofW HT_.out HW_.out (by kernel_rfl)) (fun _ _ _ h => h) (Or.inl ⟨by rfl,?_⟩) hHeld ?_ ?_
       rotate_left
       ·
        rintro w' ⟨s0,s1,s2,s3,s4,s5⟩
        go_simp
        with_reducible rfl
       rotate_left
       ·
        simp only [Act.put,LS_,L0_,L1_,i64_w,i32_w]
        rfl
       refine pure_ (i := 4) (N := some 52) (v := ?_) (a' := ?_) m7_ rfl rfl (any_of HT_.out (by kernel_rfl)) (fun _ _ _ h => h) (Or.inl ⟨by rfl,?_⟩) ?_ ?_
       rotate_left
       ·
        intro w'
        go_simp
        with_reducible rfl
       rotate_left
       ·
        simp only [Act.put,LS_,L0_,L1_,i64_w,i32_w]
        rfl
       refine pure_ (i := 10) (N := some 8) (v := ?_) (a' := ?_) m8_ rfl rfl (any_of HT_.out (by kernel_rfl)) (fun _ _ _ h => h) (Or.inl ⟨by rfl,?_⟩) ?_ ?_
       rotate_left
       ·
        intro w'
        go_simp
        with_reducible rfl
       rotate_left
       ·
        simp only [Act.put,LS_,L0_,L1_,i64_w,i32_w]
        rfl
       refine take_ (i := 6) (N := some 54) (v := ?_) (a' := ?_) m9_ rfl rfl (take_ofW HT_.out HW_.out (by kernel_rfl)) (fun _ _ _ h => h) (Or.inl ⟨by rfl,?_⟩) hHeld ?_ ?_
       rotate_left
       ·
        rintro w' ⟨s0,s1,s2,s3,s4,s5⟩
        go_simp
        with_reducible rfl
       rotate_left
       ·
        simp only [Act.put,LS_,L0_,L1_,i64_w,i32_w]
        rfl
       refine take_ (i := 8) (N := some 56) (v := ?_) (a' := ?_) m10_ rfl rfl (take_ofW HT_.out HW_.out (by kernel_rfl)) (fun _ _ _ h => h) (Or.inl ⟨by rfl,?_⟩) hHeld ?_ ?_
       rotate_left
       ·
        rintro w' ⟨s0,s1,s2,s3,s4,s5⟩
        go_simp
        with_reducible rfl
       rotate_left
       ·
        simp only [Act.put,LS_,L0_,L1_,i64_w,i32_w]
        rfl
       refine pure_ (i := 9) (N := some 57) (v := ?_) (a' := ?_) m11_ rfl rfl (any_of HT_.out (by kernel_rfl)) (fun _ _ _ h => h) (Or.inl ⟨by rfl,?_⟩) ?_ ?_
       rotate_left
       ·
        intro w'
        go_simp
        with_reducible rfl
       rotate_left
       ·
        simp only [Act.put,LS_,L0_,L1_,i64_w,i32_w]
        rfl
       refine pure_ (i := 11) (N := some 9) (v := ?_) (a' := ?_) m12_ rfl rfl (any_of HT_.out (by kernel_rfl)) (fun _ _ _ h => h) (Or.inl ⟨by rfl,?_⟩) ?_ ?_
       rotate_left
       ·
        intro w'
        go_simp
        with_reducible rfl
       rotate_left
       ·
        simp only [Act.put,LS_,L0_,L1_,i64_w,i32_w]
        rfl
       refine done_ (done_of HT_.out (by kernel_rfl)) ?_
       go_upto_region 9 with (fail)
       go_cut [110] (fun v110 wc => ∃ (kq : Nat) (x110_15 : Bool),v110 = .bool x110_15 ∧ Aside0 (DSt.j2 kq x4_1 t189 (wrap64 (t186 - x185000_1)) (wrap64 (t187 - x185001_1)) x110_15 a0_0 a0_1 a0_2 a0_3 a0_4 a0_5 a0_6 a0_7 a0_8 a0_9 x185000_1 x185001_1 x185002_1 t186 t187 t188 = some r) ∧ Aside0 (kq ≤ kj6) ∧ Aside0 (wc.heap[gb183]? = some (.cells #[.int .i64 a0_0,.int .i64 a0_1,.int .i64 a0_2,.int .i64 a0_3,.int .i64 a0_4,.int .i64 a0_5,.int .i64 a0_6,.int .i64 a0_7,.int .i64 a0_8,.int .i64 a0_9] 30 (0,0))) ∧ Aside0 (wc.heap[gb184]? = some (.cells #[.int .i64 x185000_1,.int .i64 x185001_1,.int .i64 x185002_1] 26 (0,0))) ∧ Aside0 (wc.heap[gb191]? = some (.cells #[.int .i64 t186,.int .i64 t187,.int .i64 t188] 26 (0,0))) ∧ Aside0 (Below w.heap.size w wc))
       case first =>
        have H := HC16.out
        clear HC16
        by_cases c27 : t189 = true
        ·
         as_aux_lemma =>
          subst c27
          have H1 : (if t186 = a0_7 then (if t187 = a0_8 then (if t186 < 0 then (DSt.j2 kj6 x4_1 true (wrap64 (t186 - x185000_1)) (wrap64 (t187 - x185001_1)) true a0_0 a0_1 a0_2 a0_3 a0_4 a0_5 a0_6 a0_7 a0_8 a0_9 x185000_1 x185001_1 x185002_1 t186 t187 t188) else (if t186 ≥ (wrap64 (a0_5 * 65536)) then (DSt.j2 kj6 x4_1 true (wrap64 (t186 - x185000_1)) (wrap64 (t187 - x185001_1)) true a0_0 a0_1 a0_2 a0_3 a0_4 a0_5 a0_6 a0_7 a0_8 a0_9 x185000_1 x185001_1 x185002_1 t186 t187 t188) else (if t187 < 0 then (DSt.j2 kj6 x4_1 true (wrap64 (t186 - x185000_1)) (wrap64 (t187 - x185001_1)) true a0_0 a0_1 a0_2 a0_3 a0_4 a0_5 a0_6 a0_7 a0_8 a0_9 x185000_1 x185001_1 x185002_1 t186 t187 t188) else (if t187 ≥ (wrap64 (a0_6 * 65536)) then (DSt.j2 kj6 x4_1 true (wrap64 (t186 - x185000_1)) (wrap64 (t187 - x185001_1)) true a0_0 a0_1 a0_2 a0_3 a0_4 a0_5 a0_6 a0_7 a0_8 a0_9 x185000_1 x185001_1 x185002_1 t186 t187 t188) else (if t188 < 0 then (DSt.j2 kj6 x4_1 true (wrap64 (t186 - x185000_1)) (wrap64 (t187 - x185001_1)) true a0_0 a0_1 a0_2 a0_3 a0_4 a0_5 a0_6 a0_7 a0_8 a0_9 x185000_1 x185001_1 x185002_1 t186 t187 t188) else (DSt.j2 kj6 x4_1 true (wrap64 (t186 - x185000_1)) (wrap64 (t187 - x185001_1)) (decide (t188 > 65535)) a0_0 a0_1 a0_2 a0_3 a0_4 a0_5 a0_6 a0_7 a0_8 a0_9 x185000_1 x185001_1 x185002_1 t186 t187 t188)))))) else (DSt.j2 kj6 x4_1 true (wrap64 (t186 - x185000_1)) (wrap64 (t187 - x185001_1)) true a0_0 a0_1 a0_2 a0_3 a0_4 a0_5 a0_6 a0_7 a0_8 a0_9 x185000_1 x185001_1 x185002_1 t186 t187 t188)) else (DSt.j2 kj6 x4_1 true (wrap64 (t186 - x185000_1)) (wrap64 (t187 - x185001_1)) true a0_0 a0_1 a0_2 a0_3 a0_4 a0_5 a0_6 a0_7 a0_8 a0_9 x185000_1 x185001_1 x185002_1 t186 t187 t188)) = some r := by rw [if_pos rfl] at H;exact H
          clear H
          have H := H1
          clear H1
          by_cases c28 : t186 = a0_7
          ·
           rw [if_pos c28] at H
           have c28b0 : (t186 == a0_7) = true := beq_iff_eq.mpr c28
           have c28b1 : (t186 != a0_7) = false := bne_eq_false_iff_eq.mpr c28
           clear c28
           (first | rw [c28b0] | (simp only [i64_w,i32_w];rw [c28b0]) | skip)
           by_cases c29 : t187 = a0_8
           ·
            rw [if_pos c29] at H
            have c29b0 : (t187 == a0_8) = true := beq_iff_eq.mpr c29
            have c29b1 : (t187 != a0_8) = false := bne_eq_false_iff_eq.mpr c29
            clear c29
            by_cases c30 : t186 < 0
            ·
             rw [if_pos c30] at H
             have c30b0 : decide (t186 < 0) = true := decide_eq_true c30
             clear c30
             have H' := Aside0.mk H
             clear H
             have hnb31 := NB191_183.out
             have hnc31 := NB183_191.out
             have hnb32 := NB191_184.out
             have hnc32 := NB184_191.out
             have hcz33_0 : w26.cell? ⟨gb191,0,none⟩ = some (.int .i64 t186) := (blk_cell K91.out 0).trans rfl
             have hcz33_1 : w26.cell? ⟨gb191,1,none⟩ = some (.int .i64 t187) := (blk_cell K91.out 1).trans rfl
             have hcz33_2 : w26.cell? ⟨gb191,2,none⟩ = some (.int .i64 t188) := (blk_cell K91.out 2).trans rfl
             have hfz33_0 := blk_frozen K91.out 0
             have hfz33_1 := blk_frozen K91.out 1
             have hfz33_2 := blk_frozen K91.out 2
             have hnb34 := NB183_184.out
             have hnc34 := NB184_183.out
             have hcz35_0 : w26.cell? ⟨gb183,0,none⟩ = some (.int .i64 a0_0) := (blk_cell K83.out 0).trans rfl
             have hcz35_1 : w26.cell? ⟨gb183,1,none⟩ = some (.int .i64 a0_1) := (blk_cell K83.out 1).trans rfl
             have hcz35_2 : w26.cell? ⟨gb183,2,none⟩ = some (.int .i64 a0_2) := (blk_cell K83.out 2).trans rfl
             have hcz35_3 : w26.cell? ⟨gb183,3,none⟩ = some (.int .i64 a0_3) := (blk_cell K83.out 3).trans rfl
             have hcz35_4 : w26.cell? ⟨gb183,4,none⟩ = some (.int .i64 a0_4) := (blk_cell K83.out 4).trans rfl
             have hcz35_5 : w26.cell? ⟨gb183,5,none⟩ = some (.int .i64 a0_5) := (blk_cell K83.out 5).trans rfl
             have hcz35_6 : w26.cell? ⟨gb183,6,none⟩ = some (.int .i64 a0_6) := (blk_cell K83.out 6).trans rfl
             have hcz35_7 : w26.cell? ⟨gb183,7,none⟩ = some (.int .i64 a0_7) := (blk_cell K83.out 7).trans rfl
             have hcz35_8 : w26.cell? ⟨gb183,8,none⟩ = some (.int .i64 a0_8) := (blk_cell K83.out 8).trans rfl
             have hcz35_9 : w26.cell? ⟨gb183,9,none⟩ = some (.int .i64 a0_9) := (blk_cell K83.out 9).trans rfl
             have hfz35_0 := blk_frozen K83.out 0
             have hfz35_1 := blk_frozen K83.out 1
             have hfz35_2 := blk_frozen K83.out 2
             have hfz35_3 := blk_frozen K83.out 3
             have hfz35_4 := blk_frozen K83.out 4
             have hfz35_5 := blk_frozen K83.out 5
             have hfz35_6 := blk_frozen K83.out 6
             have hfz35_7 := blk_frozen K83.out 7
             have hfz35_8 := blk_frozen K83.out 8
             have hfz35_9 := blk_frozen K83.out 9
             go_wp2
             go_meet
             case rel => exact ⟨_,(true),(by first | rfl | (simp;done) | (simp [*];done)),H',⟨by have := HK1.out;have := HJ6.out;first | omega | exact Nat.le_refl _⟩,⟨by (with_reducible repeat (first | refine blk_drewN ?_ _ | refine blk_drew ?_ | refine blk_alloc ?_ _));exact K83.out⟩,⟨by (with_reducible repeat (first | refine blk_drewN ?_ _ | refine blk_drew ?_ | refine blk_alloc ?_ _));exact K84.out⟩,⟨by (with_reducible repeat (first | refine blk_drewN ?_ _ | refine blk_drew ?_ | refine blk_alloc ?_ _));exact K91.out⟩,⟨by repeat (first | (with_reducible first | exact HB.out | apply below_alloc | apply pw_below_drewN | apply below_drew1 | refine below_set ?_ GE183.out | refine below_set ?_ GE184.out | refine below_set ?_ GE191.out) | exact HB.out)⟩⟩
            ·
             rw [if_neg c30] at H
             have c30b0 : decide (t186 < 0) = false := decide_eq_false c30
             clear c30
             by_cases c36 : t186 ≥ (wrap64 (a0_5 * 65536))
             ·
              rw [if_pos c36] at H
              have c36b0 : decide ((wrap64 (a0_5 * 65536)) ≤ t186) = true := decide_eq_true c36
              clear c36
              have H' := Aside0.mk H
              clear H
              have hnb37 := NB191_183.out
              have hnc37 := NB183_191.out
              have hnb38 := NB191_184.out
              have hnc38 := NB184_191.out
              have hcz39_0 : w26.cell? ⟨gb191,0,none⟩ = some (.int .i64 t186) := (blk_cell K91.out 0).trans rfl
              have hcz39_1 : w26.cell? ⟨gb191,1,none⟩ = some (.int .i64 t187) := (blk_cell K91.out 1).trans rfl
              have hcz39_2 : w26.cell? ⟨gb191,2,none⟩ = some (.int .i64 t188) := (blk_cell K91.out 2).trans rfl
              have hfz39_0 := blk_frozen K91.out 0
              have hfz39_1 := blk_frozen K91.out 1
              have hfz39_2 := blk_frozen K91.out 2
              have hnb40 := NB183_184.out
              have hnc40 := NB184_183.out
              have hcz41_0 : w26.cell? ⟨gb183,0,none⟩ = some (.int .i64 a0_0) := (blk_cell K83.out 0).trans rfl
              have hcz41_1 : w26.cell? ⟨gb183,1,none⟩ = some (.int .i64 a0_1) := (blk_cell K83.out 1).trans rfl
              have hcz41_2 : w26.cell? ⟨gb183,2,none⟩ = some (.int .i64 a0_2) := (blk_cell K83.out 2).trans rfl
              have hcz41_3 : w26.cell? ⟨gb183,3,none⟩ = some (.int .i64 a0_3) := (blk_cell K83.out 3).trans rfl
              have hcz41_4 : w26.cell? ⟨gb183,4,none⟩ = some (.int .i64 a0_4) := (blk_cell K83.out 4).trans rfl
              have hcz41_5 : w26.cell? ⟨gb183,5,none⟩ = some (.int .i64 a0_5) := (blk_cell K83.out 5).trans rfl
              have hcz41_6 : w26.cell? ⟨gb183,6,none⟩ = some (.int .i64 a0_6) := (blk_cell K83.out 6).trans rfl
              have hcz41_7 : w26.cell? ⟨gb183,7,none⟩ = some (.int .i64 a0_7) := (blk_cell K83.out 7).trans rfl
              have hcz41_8 : w26.cell? ⟨gb183,8,none⟩ = some (.int .i64 a0_8) := (blk_cell K83.out 8).trans rfl
              have hcz41_9 : w26.cell? ⟨gb183,9,none⟩ = some (.int .i64 a0_9) := (blk_cell K83.out 9).trans rfl
              have hfz41_0 := blk_frozen K83.out 0
              have hfz41_1 := blk_frozen K83.out 1
              have hfz41_2 := blk_frozen K83.out 2
              have hfz41_3 := blk_frozen K83.out 3
              have hfz41_4 := blk_frozen K83.out 4
              have hfz41_5 := blk_frozen K83.out 5
              have hfz41_6 := blk_frozen K83.out 6
              have hfz41_7 := blk_frozen K83.out 7
              have hfz41_8 := blk_frozen K83.out 8
              have hfz41_9 := blk_frozen K83.out 9
              go_wp2
              go_meet
              case rel => exact ⟨_,(true),(by first | rfl | (simp;done) | (simp [*];done)),H',⟨by have := HK1.out;have := HJ6.out;first | omega | exact Nat.le_refl _⟩,⟨by (with_reducible repeat (first | refine blk_drewN ?_ _ | refine blk_drew ?_ | refine blk_alloc ?_ _));exact K83.out⟩,⟨by (with_reducible repeat (first | refine blk_drewN ?_ _ | refine blk_drew ?_ | refine blk_alloc ?_ _));exact K84.out⟩,⟨by (with_reducible repeat (first | refine blk_drewN ?_ _ | refine blk_drew ?_ | refine blk_alloc ?_ _));exact K91.out⟩,⟨by repeat (first | (with_reducible first | exact HB.out | apply below_alloc | apply pw_below_drewN | apply below_drew1 | refine below_set ?_ GE183.out | refine below_set ?_ GE184.out | refine below_set ?_ GE191.out) | exact HB.out)⟩⟩
             ·
              rw [if_neg c36] at H
              have c36b0 : decide ((wrap64 (a0_5 * 65536)) ≤ t186) = false := decide_eq_false c36
              clear c36
              by_cases c42 : t187 < 0
              ·
               rw [if_pos c42] at H
               have c42b0 : decide (t187 < 0) = true := decide_eq_true c42
               clear c42
               have H' := Aside0.mk H
               clear H
               have hnb43 := NB191_183.out
               have hnc43 := NB183_191.out
               have hnb44 := NB191_184.out
               have hnc44 := NB184_191.out
               have hcz45_0 : w26.cell? ⟨gb191,0,none⟩ = some (.int .i64 t186) := (blk_cell K91.out 0).trans rfl
               have hcz45_1 : w26.cell? ⟨gb191,1,none⟩ = some (.int .i64 t187) := (blk_cell K91.out 1).trans rfl
               have hcz45_2 : w26.cell? ⟨gb191,2,none⟩ = some (.int .i64 t188) := (blk_cell K91.out 2).trans rfl
               have hfz45_0 := blk_frozen K91.out 0
               have hfz45_1 := blk_frozen K91.out 1
               have hfz45_2 := blk_frozen K91.out 2
               have hnb46 := NB183_184.out
               have hnc46 := NB184_183.out
               have hcz47_0 : w26.cell? ⟨gb183,0,none⟩ = some (.int .i64 a0_0) := (blk_cell K83.out 0).trans rfl
               have hcz47_1 : w26.cell? ⟨gb183,1,none⟩ = some (.int .i64 a0_1) := (blk_cell K83.out 1).trans rfl
               have hcz47_2 : w26.cell? ⟨gb183,2,none⟩ = some (.int .i64 a0_2) := (blk_cell K83.out 2).trans rfl
               have hcz47_3 : w26.cell? ⟨gb183,3,none⟩ = some (.int .i64 a0_3) := (blk_cell K83.out 3).trans rfl
               have hcz47_4 : w26.cell? ⟨gb183,4,none⟩ = some (.int .i64 a0_4) := (blk_cell K83.out 4).trans rfl
               have hcz47_5 : w26.cell? ⟨gb183,5,none⟩ = some (.int .i64 a0_5) := (blk_cell K83.out 5).trans rfl
               have hcz47_6 : w26.cell? ⟨gb183,6,none⟩ = some (.int .i64 a0_6) := (blk_cell K83.out 6).trans rfl
               have hcz47_7 : w26.cell? ⟨gb183,7,none⟩ = some (.int .i64 a0_7) := (blk_cell K83.out 7).trans rfl
               have hcz47_8 : w26.cell? ⟨gb183,8,none⟩ = some (.int .i64 a0_8) := (blk_cell K83.out 8).trans rfl
               have hcz47_9 : w26.cell? ⟨gb183,9,none⟩ = some (.int .i64 a0_9) := (blk_cell K83.out 9).trans rfl
               have hfz47_0 := blk_frozen K83.out 0
               have hfz47_1 := blk_frozen K83.out 1
               have hfz47_2 := blk_frozen K83.out 2
               have hfz47_3 := blk_frozen K83.out 3
               have hfz47_4 := blk_frozen K83.out 4
               have hfz47_5 := blk_frozen K83.out 5
               have hfz47_6 := blk_frozen K83.out 6
               have hfz47_7 := blk_frozen K83.out 7
               have hfz47_8 := blk_frozen K83.out 8
               have hfz47_9 := blk_frozen K83.out 9
               go_wp2
               go_meet
               case rel => exact ⟨_,(true),(by first | rfl | (simp;done) | (simp [*];done)),H',⟨by have := HK1.out;have := HJ6.out;first | omega | exact Nat.le_refl _⟩,⟨by (with_reducible repeat (first | refine blk_drewN ?_ _ | refine blk_drew ?_ | refine blk_alloc ?_ _));exact K83.out⟩,⟨by (with_reducible repeat (first | refine blk_drewN ?_ _ | refine blk_drew ?_ | refine blk_alloc ?_ _));exact K84.out⟩,⟨by (with_reducible repeat (first | refine blk_drewN ?_ _ | refine blk_drew ?_ | refine blk_alloc ?_ _));exact K91.out⟩,⟨by repeat (first | (with_reducible first | exact HB.out | apply below_alloc | apply pw_below_drewN | apply below_drew1 | refine below_set ?_ GE183.out | refine below_set ?_ GE184.out | refine below_set ?_ GE191.out) | exact HB.out)⟩⟩
              ·
               rw [if_neg c42] at H
               have c42b0 : decide (t187 < 0) = false := decide_eq_false c42
               clear c42
               by_cases c48 : t187 ≥ (wrap64 (a0_6 * 65536))
               ·
                rw [if_pos c48] at H
                have c48b0 : decide ((wrap64 (a0_6 * 65536)) ≤ t187) = true := decide_eq_true c48
                clear c48
                have H' := Aside0.mk H
                clear H
                have hnb49 := NB191_183.out
                have hnc49 := NB183_191.out
                have hnb50 := NB191_184.out
                have hnc50 := NB184_191.out
                have hcz51_0 : w26.cell? ⟨gb191,0,none⟩ = some (.int .i64 t186) := (blk_cell K91.out 0).trans rfl
                have hcz51_1 : w26.cell? ⟨gb191,1,none⟩ = some (.int .i64 t187) := (blk_cell K91.out 1).trans rfl
                have hcz51_2 : w26.cell? ⟨gb191,2,none⟩ = some (.int .i64 t188) := (blk_cell K91.out 2).trans rfl
                have hfz51_0 := blk_frozen K91.out 0
                have hfz51_1 := blk_frozen K91.out 1
                have hfz51_2 := blk_frozen K91.out 2
                have hnb52 := NB183_184.out
                have hnc52 := NB184_183.out
                have hcz53_0 : w26.cell? ⟨gb183,0,none⟩ = some (.int .i64 a0_0) := (blk_cell K83.out 0).trans rfl
                have hcz53_1 : w26.cell? ⟨gb183,1,none⟩ = some (.int .i64 a0_1) := (blk_cell K83.out 1).trans rfl
                have hcz53_2 : w26.cell? ⟨gb183,2,none⟩ = some (.int .i64 a0_2) := (blk_cell K83.out 2).trans rfl
                have hcz53_3 : w26.cell? ⟨gb183,3,none⟩ = some (.int .i64 a0_3) := (blk_cell K83.out 3).trans rfl
                have hcz53_4 : w26.cell? ⟨gb183,4,none⟩ = some (.int .i64 a0_4) := (blk_cell K83.out 4).trans rfl
                have hcz53_5 : w26.cell? ⟨gb183,5,none⟩ = some (.int .i64 a0_5) := (blk_cell K83.out 5).trans rfl
                have hcz53_6 : w26.cell? ⟨gb183,6,none⟩ = some (.int .i64 a0_6) := (blk_cell K83.out 6).trans rfl
                have hcz53_7 : w26.cell? ⟨gb183,7,none⟩ = some (.int .i64 a0_7) := (blk_cell K83.out 7).trans rfl
                have hcz53_8 : w26.cell? ⟨gb183,8,none⟩ = some (.int .i64 a0_8) := (blk_cell K83.out 8).trans rfl
                have hcz53_9 : w26.cell? ⟨gb183,9,none⟩ = some (.int .i64 a0_9) := (blk_cell K83.out 9).trans rfl
                have hfz53_0 := blk_frozen K83.out 0
                have hfz53_1 := blk_frozen K83.out 1
                have hfz53_2 := blk_frozen K83.out 2
                have hfz53_3 := blk_frozen K83.out 3
                have hfz53_4 := blk_frozen K83.out 4
                have hfz53_5 := blk_frozen K83.out 5
                have hfz53_6 := blk_frozen K83.out 6
                have hfz53_7 := blk_frozen K83.out 7
                have hfz53_8 := blk_frozen K83.out 8
                have hfz53_9 := blk_frozen K83.out 9
                go_wp2
                go_meet
                case rel => exact ⟨_,(true),(by first | rfl | (simp;done) | (simp [*];done)),H',⟨by have := HK1.out;have := HJ6.out;first | omega | exact Nat.le_refl _⟩,⟨by (with_reducible repeat (first | refine blk_drewN ?_ _ | refine blk_drew ?_ | refine blk_alloc ?_ _));exact K83.out⟩,⟨by (with_reducible repeat (first | refine blk_drewN ?_ _ | refine blk_drew ?_ | refine blk_alloc ?_ _));exact K84.out⟩,⟨by (with_reducible repeat (first | refine blk_drewN ?_ _ | refine blk_drew ?_ | refine blk_alloc ?_ _));exact K91.out⟩,⟨by repeat (first | (with_reducible first | exact HB.out | apply below_alloc | apply pw_below_drewN | apply below_drew1 | refine below_set ?_ GE183.out | refine below_set ?_ GE184.out | refine below_set ?_ GE191.out) | exact HB.out)⟩⟩
               ·
                rw [if_neg c48] at H
                have c48b0 : decide ((wrap64 (a0_6 * 65536)) ≤ t187) = false := decide_eq_false c48
                clear c48
                by_cases c54 : t188 < 0
                ·
                 rw [if_pos c54] at H
                 have c54b0 : decide (t188 < 0) = true := decide_eq_true c54
                 clear c54
                 have H' := Aside0.mk H
                 clear H
                 have hnb55 := NB191_183.out
                 have hnc55 := NB183_191.out
                 have hnb56 := NB191_184.out
                 have hnc56 := NB184_191.out
                 have hcz57_0 : w26.cell? ⟨gb191,0,none⟩ = some (.int .i64 t186) := (blk_cell K91.out 0).trans rfl
                 have hcz57_1 : w26.cell? ⟨gb191,1,none⟩ = some (.int .i64 t187) := (blk_cell K91.out 1).trans rfl
                 have hcz57_2 : w26.cell? ⟨gb191,2,none⟩ = some (.int .i64 t188) := (blk_cell K91.out 2).trans rfl
                 have hfz57_0 := blk_frozen K91.out 0
                 have hfz57_1 := blk_frozen K91.out 1
                 have hfz57_2 := blk_frozen K91.out 2
                 have hnb58 := NB183_184.out
                 have hnc58 := NB184_183.out
                 have hcz59_0 : w26.cell? ⟨gb183,0,none⟩ = some (.int .i64 a0_0) := (blk_cell K83.out 0).trans rfl
                 have hcz59_1 : w26.cell? ⟨gb183,1,none⟩ = some (.int .i64 a0_1) := (blk_cell K83.out 1).trans rfl
                 have hcz59_2 : w26.cell? ⟨gb183,2,none⟩ = some (.int .i64 a0_2) := (blk_cell K83.out 2).trans rfl
                 have hcz59_3 : w26.cell? ⟨gb183,3,none⟩ = some (.int .i64 a0_3) := (blk_cell K83.out 3).trans rfl
                 have hcz59_4 : w26.cell? ⟨gb183,4,none⟩ = some (.int .i64 a0_4) := (blk_cell K83.out 4).trans rfl
                 have hcz59_5 : w26.cell? ⟨gb183,5,none⟩ = some (.int .i64 a0_5) := (blk_cell K83.out 5).trans rfl
                 have hcz59_6 : w26.cell? ⟨gb183,6,none⟩ = some (.int .i64 a0_6) := (blk_cell K83.out 6).trans rfl
                 have hcz59_7 : w26.cell? ⟨gb183,7,none⟩ = some (.int .i64 a0_7) := (blk_cell K83.out 7).trans rfl
                 have hcz59_8 : w26.cell? ⟨gb183,8,none⟩ = some (.int .i64 a0_8) := (blk_cell K83.out 8).trans rfl
                 have hcz59_9 : w26.cell? ⟨gb183,9,none⟩ = some (.int .i64 a0_9) := (blk_cell K83.out 9).trans rfl
                 have hfz59_0 := blk_frozen K83.out 0
                 have hfz59_1 := blk_frozen K83.out 1
                 have hfz59_2 := blk_frozen K83.out 2
                 have hfz59_3 := blk_frozen K83.out 3
                 have hfz59_4 := blk_frozen K83.out 4
                 have hfz59_5 := blk_frozen K83.out 5
                 have hfz59_6 := blk_frozen K83.out 6
                 have hfz59_7 := blk_frozen K83.out 7
                 have hfz59_8 := blk_frozen K83.out 8
                 have hfz59_9 := blk_frozen K83.out 9
                 go_wp2
                 go_meet
                 case rel => exact ⟨_,(true),(by first | rfl | (simp;done) | (simp [*];done)),H',⟨by have := HK1.out;have := HJ6.out;first | omega | exact Nat.le_refl _⟩,⟨by (with_reducible repeat (first | refine blk_drewN ?_ _ | refine blk_drew ?_ | refine blk_alloc ?_ _));exact K83.out⟩,⟨by (with_reducible repeat (first | refine blk_drewN ?_ _ | refine blk_drew ?_ | refine blk_alloc ?_ _));exact K84.out⟩,⟨by (with_reducible repeat (first | refine blk_drewN ?_ _ | refine blk_drew ?_ | refine blk_alloc ?_ _));exact K91.out⟩,⟨by repeat (first | (with_reducible first | exact HB.out | apply below_alloc | apply pw_below_drewN | apply below_drew1 | refine below_set ?_ GE183.out | refine below_set ?_ GE184.out | refine below_set ?_ GE191.out) | exact HB.out)⟩⟩
                ·
                 rw [if_neg c54] at H
                 have c54b0 : decide (t188 < 0) = false := decide_eq_false c54
                 clear c54
                 have H' := Aside0.mk H
                 clear H
                 have hnb60 := NB191_183.out
                 have hnc60 := NB183_191.out
                 have hnb61 := NB191_184.out
                 have hnc61 := NB184_191.out
                 have hcz62_0 : w26.cell? ⟨gb191,0,none⟩ = some (.int .i64 t186) := (blk_cell K91.out 0).trans rfl
                 have hcz62_1 : w26.cell? ⟨gb191,1,none⟩ = some (.int .i64 t187) := (blk_cell K91.out 1).trans rfl
                 have hcz62_2 : w26.cell? ⟨gb191,2,none⟩ = some (.int .i64 t188) := (blk_cell K91.out 2).trans rfl
                 have hfz62_0 := blk_frozen K91.out 0
                 have hfz62_1 := blk_frozen K91.out 1
                 have hfz62_2 := blk_frozen K91.out 2
                 have hnb63 := NB183_184.out
                 have hnc63 := NB184_183.out
                 have hcz64_0 : w26.cell? ⟨gb183,0,none⟩ = some (.int .i64 a0_0) := (blk_cell K83.out 0).trans rfl
                 have hcz64_1 : w26.cell? ⟨gb183,1,none⟩ = some (.int .i64 a0_1) := (blk_cell K83.out 1).trans rfl
                 have hcz64_2 : w26.cell? ⟨gb183,2,none⟩ = some (.int .i64 a0_2) := (blk_cell K83.out 2).trans rfl
                 have hcz64_3 : w26.cell? ⟨gb183,3,none⟩ = some (.int .i64 a0_3) := (blk_cell K83.out 3).trans rfl
                 have hcz64_4 : w26.cell? ⟨gb183,4,none⟩ = some (.int .i64 a0_4) := (blk_cell K83.out 4).trans rfl
                 have hcz64_5 : w26.cell? ⟨gb183,5,none⟩ = some (.int .i64 a0_5) := (blk_cell K83.out 5).trans rfl
                 have hcz64_6 : w26.cell? ⟨gb183,6,none⟩ = some (.int .i64 a0_6) := (blk_cell K83.out 6).trans rfl
                 have hcz64_7 : w26.cell? ⟨gb183,7,none⟩ = some (.int .i64 a0_7) := (blk_cell K83.out 7).trans rfl
                 have hcz64_8 : w26.cell? ⟨gb183,8,none⟩ = some (.int .i64 a0_8) := (blk_cell K83.out 8).trans rfl
                 have hcz64_9 : w26.cell? ⟨gb183,9,none⟩ = some (.int .i64 a0_9) := (blk_cell K83.out 9).trans rfl
                 have hfz64_0 := blk_frozen K83.out 0
                 have hfz64_1 := blk_frozen K83.out 1
                 have hfz64_2 := blk_frozen K83.out 2
                 have hfz64_3 := blk_frozen K83.out 3
                 have hfz64_4 := blk_frozen K83.out 4
                 have hfz64_5 := blk_frozen K83.out 5
                 have hfz64_6 := blk_frozen K83.out 6
                 have hfz64_7 := blk_frozen K83.out 7
                 have hfz64_8 := blk_frozen K83.out 8
                 have hfz64_9 := blk_frozen K83.out 9
                 go_wp2
                 go_meet
                 case rel => exact ⟨_,(decide (t188 > 65535)),(by first | rfl | (simp;done) | (simp [*];done)),H',⟨by have := HK1.out;have := HJ6.out;first | omega | exact Nat.le_refl _⟩,⟨by (with_reducible repeat (first | refine blk_drewN ?_ _ | refine blk_drew ?_ | refine blk_alloc ?_ _));exact K83.out⟩,⟨by (with_reducible repeat (first | refine blk_drewN ?_ _ | refine blk_drew ?_ | refine blk_alloc ?_ _));exact K84.out⟩,⟨by (with_reducible repeat (first | refine blk_drewN ?_ _ | refine blk_drew ?_ | refine blk_alloc ?_ _));exact K91.out⟩,⟨by repeat (first | (with_reducible first | exact HB.out | apply below_alloc | apply pw_below_drewN | apply below_drew1 | refine below_set ?_ GE183.out | refine below_set ?_ GE184.out | refine below_set ?_ GE191.out) | exact HB.out)⟩⟩
           ·
            rw [if_neg c29] at H
            have c29b0 : (t187 == a0_8) = false := beq_eq_false_iff_ne.mpr c29
            have c29b1 : (t187 != a0_8) = true := bne_iff_ne.mpr c29
            have H' := Aside0.mk H
            clear H
            have hnb65 := NB191_183.out
            have hnc65 := NB183_191.out
            have hnb66 := NB191_184.out
            have hnc66 := NB184_191.out
            have hcz67_0 : w26.cell? ⟨gb191,0,none⟩ = some (.int .i64 t186) := (blk_cell K91.out 0).trans rfl
            have hcz67_1 : w26.cell? ⟨gb191,1,none⟩ = some (.int .i64 t187) := (blk_cell K91.out 1).trans rfl
            have hcz67_2 : w26.cell? ⟨gb191,2,none⟩ = some (.int .i64 t188) := (blk_cell K91.out 2).trans rfl
            have hfz67_0 := blk_frozen K91.out 0
            have hfz67_1 := blk_frozen K91.out 1
            have hfz67_2 := blk_frozen K91.out 2
            have hnb68 := NB183_184.out
            have hnc68 := NB184_183.out
            have hcz69_0 : w26.cell? ⟨gb183,0,none⟩ = some (.int .i64 a0_0) := (blk_cell K83.out 0).trans rfl
            have hcz69_1 : w26.cell? ⟨gb183,1,none⟩ = some (.int .i64 a0_1) := (blk_cell K83.out 1).trans rfl
            have hcz69_2 : w26.cell? ⟨gb183,2,none⟩ = some (.int .i64 a0_2) := (blk_cell K83.out 2).trans rfl
            have hcz69_3 : w26.cell? ⟨gb183,3,none⟩ = some (.int .i64 a0_3) := (blk_cell K83.out 3).trans rfl
            have hcz69_4 : w26.cell? ⟨gb183,4,none⟩ = some (.int .i64 a0_4) := (blk_cell K83.out 4).trans rfl
            have hcz69_5 : w26.cell? ⟨gb183,5,none⟩ = some (.int .i64 a0_5) := (blk_cell K83.out 5).trans rfl
            have hcz69_6 : w26.cell? ⟨gb183,6,none⟩ = some (.int .i64 a0_6) := (blk_cell K83.out 6).trans rfl
            have hcz69_7 : w26.cell? ⟨gb183,7,none⟩ = some (.int .i64 a0_7) := (blk_cell K83.out 7).trans rfl
            have hcz69_8 : w26.cell? ⟨gb183,8,none⟩ = some (.int .i64 a0_8) := (blk_cell K83.out 8).trans rfl
            have hcz69_9 : w26.cell? ⟨gb183,9,none⟩ = some (.int .i64 a0_9) := (blk_cell K83.out 9).trans rfl
            have hfz69_0 := blk_frozen K83.out 0
            have hfz69_1 := blk_frozen K83.out 1
            have hfz69_2 := blk_frozen K83.out 2
            have hfz69_3 := blk_frozen K83.out 3
            have hfz69_4 := blk_frozen K83.out 4
            have hfz69_5 := blk_frozen K83.out 5
            have hfz69_6 := blk_frozen K83.out 6
            have hfz69_7 := blk_frozen K83.out 7
            have hfz69_8 := blk_frozen K83.out 8
            have hfz69_9 := blk_frozen K83.out 9
            go_wp2
            go_meet
            case rel => exact ⟨_,(true),(by first | rfl | (simp;done) | (simp [*];done)),H',⟨by have := HK1.out;have := HJ6.out;first | omega | exact Nat.le_refl _⟩,⟨by (with_reducible repeat (first | refine blk_drewN ?_ _ | refine blk_drew ?_ | refine blk_alloc ?_ _));exact K83.out⟩,⟨by (with_reducible repeat (first | refine blk_drewN ?_ _ | refine blk_drew ?_ | refine blk_alloc ?_ _));exact K84.out⟩,⟨by (with_reducible repeat (first | refine blk_drewN ?_ _ | refine blk_drew ?_ | refine blk_alloc ?_ _));exact K91.out⟩,⟨by repeat (first | (with_reducible first | exact HB.out | apply below_alloc | apply pw_below_drewN | apply below_drew1 | refine below_set ?_ GE183.out | refine below_set ?_ GE184.out | refine below_set ?_ GE191.out) | exact HB.out)⟩⟩
          ·
           rw [if_neg c28] at H
           have c28b0 : (t186 == a0_7) = false := beq_eq_false_iff_ne.mpr c28
           have c28b1 : (t186 != a0_7) = true := bne_iff_ne.mpr c28
           (first | rw [c28b0] | (simp only [i64_w,i32_w];rw [c28b0]) | skip)
           have H' := Aside0.mk H
           clear H
           have hnb70 := NB191_183.out
           have hnc70 := NB183_191.out
           have hnb71 := NB191_184.out
           have hnc71 := NB184_191.out
           have hcz72_0 : w26.cell? ⟨gb191,0,none⟩ = some (.int .i64 t186) := (blk_cell K91.out 0).trans rfl
           have hcz72_1 : w26.cell? ⟨gb191,1,none⟩ = some (.int .i64 t187) := (blk_cell K91.out 1).trans rfl
           have hcz72_2 : w26.cell? ⟨gb191,2,none⟩ = some (.int .i64 t188) := (blk_cell K91.out 2).trans rfl
           have hfz72_0 := blk_frozen K91.out 0
           have hfz72_1 := blk_frozen K91.out 1
           have hfz72_2 := blk_frozen K91.out 2
           have hnb73 := NB183_184.out
           have hnc73 := NB184_183.out
           have hcz74_0 : w26.cell? ⟨gb183,0,none⟩ = some (.int .i64 a0_0) := (blk_cell K83.out 0).trans rfl
           have hcz74_1 : w26.cell? ⟨gb183,1,none⟩ = some (.int .i64 a0_1) := (blk_cell K83.out 1).trans rfl
           have hcz74_2 : w26.cell? ⟨gb183,2,none⟩ = some (.int .i64 a0_2) := (blk_cell K83.out 2).trans rfl
           have hcz74_3 : w26.cell? ⟨gb183,3,none⟩ = some (.int .i64 a0_3) := (blk_cell K83.out 3).trans rfl
           have hcz74_4 : w26.cell? ⟨gb183,4,none⟩ = some (.int .i64 a0_4) := (blk_cell K83.out 4).trans rfl
           have hcz74_5 : w26.cell? ⟨gb183,5,none⟩ = some (.int .i64 a0_5) := (blk_cell K83.out 5).trans rfl
           have hcz74_6 : w26.cell? ⟨gb183,6,none⟩ = some (.int .i64 a0_6) := (blk_cell K83.out 6).trans rfl
           have hcz74_7 : w26.cell? ⟨gb183,7,none⟩ = some (.int .i64 a0_7) := (blk_cell K83.out 7).trans rfl
           have hcz74_8 : w26.cell? ⟨gb183,8,none⟩ = some (.int .i64 a0_8) := (blk_cell K83.out 8).trans rfl
           have hcz74_9 : w26.cell? ⟨gb183,9,none⟩ = some (.int .i64 a0_9) := (blk_cell K83.out 9).trans rfl
           have hfz74_0 := blk_frozen K83.out 0
           have hfz74_1 := blk_frozen K83.out 1
           have hfz74_2 := blk_frozen K83.out 2
           have hfz74_3 := blk_frozen K83.out 3
           have hfz74_4 := blk_frozen K83.out 4
           have hfz74_5 := blk_frozen K83.out 5
           have hfz74_6 := blk_frozen K83.out 6
           have hfz74_7 := blk_frozen K83.out 7
           have hfz74_8 := blk_frozen K83.out 8
           have hfz74_9 := blk_frozen K83.out 9
           go_wp2
           go_meet
           case rel => exact ⟨_,(true),(by first | rfl | (simp;done) | (simp [*];done)),H',⟨by have := HK1.out;have := HJ6.out;first | omega | exact Nat.le_refl _⟩,⟨by (with_reducible repeat (first | refine blk_drewN ?_ _ | refine blk_drew ?_ | refine blk_alloc ?_ _));exact K83.out⟩,⟨by (with_reducible repeat (first | refine blk_drewN ?_ _ | refine blk_drew ?_ | refine blk_alloc ?_ _));exact K84.out⟩,⟨by (with_reducible repeat (first | refine blk_drewN ?_ _ | refine blk_drew ?_ | refine blk_alloc ?_ _));exact K91.out⟩,⟨by repeat (first | (with_reducible first | exact HB.out | apply below_alloc | apply pw_below_drewN | apply below_drew1 | refine below_set ?_ GE183.out | refine below_set ?_ GE184.out | refine below_set ?_ GE191.out) | exact HB.out)⟩⟩
        ·
         as_aux_lemma =>
          replace c27 := Bool.eq_false_iff.mpr c27
          subst c27
          have H1 : (if t186 < 0 then (DSt.j2 kj6 x4_1 false (wrap64 (t186 - x185000_1)) (wrap64 (t187 - x185001_1)) true a0_0 a0_1 a0_2 a0_3 a0_4 a0_5 a0_6 a0_7 a0_8 a0_9 x185000_1 x185001_1 x185002_1 t186 t187 t188) else (if t186 ≥ (wrap64 (a0_5 * 65536)) then (DSt.j2 kj6 x4_1 false (wrap64 (t186 - x185000_1)) (wrap64 (t187 - x185001_1)) true a0_0 a0_1 a0_2 a0_3 a0_4 a0_5 a0_6 a0_7 a0_8 a0_9 x185000_1 x185001_1 x185002_1 t186 t187 t188) else (if t187 < 0 then (DSt.j2 kj6 x4_1 false (wrap64 (t186 - x185000_1)) (wrap64 (t187 - x185001_1)) true a0_0 a0_1 a0_2 a0_3 a0_4 a0_5 a0_6 a0_7 a0_8 a0_9 x185000_1 x185001_1 x185002_1 t186 t187 t188) else (if t187 ≥ (wrap64 (a0_6 * 65536)) then (DSt.j2 kj6 x4_1 false (wrap64 (t186 - x185000_1)) (wrap64 (t187 - x185001_1)) true a0_0 a0_1 a0_2 a0_3 a0_4 a0_5 a0_6 a0_7 a0_8 a0_9 x185000_1 x185001_1 x185002_1 t186 t187 t188) else (if t188 < 0 then (DSt.j2 kj6 x4_1 false (wrap64 (t186 - x185000_1)) (wrap64 (t187 - x185001_1)) true a0_0 a0_1 a0_2 a0_3 a0_4 a0_5 a0_6 a0_7 a0_8 a0_9 x185000_1 x185001_1 x185002_1 t186 t187 t188) else (DSt.j2 kj6 x4_1 false (wrap64 (t186 - x185000_1)) (wrap64 (t187 - x185001_1)) (decide (t188 > 65535)) a0_0 a0_1 a0_2 a0_3 a0_4 a0_5 a0_6 a0_7 a0_8 a0_9 x185000_1 x185001_1 x185002_1 t186 t187 t188)))))) = some r := by rw [if_neg (show ¬ (false = true) by decide)] at H;exact H
          clear H
          have H := H1
          clear H1
          by_cases c75 : t186 < 0
          ·
           rw [if_pos c75] at H
           have c75b0 : decide (t186 < 0) = true := decide_eq_true c75
           clear c75
           have H' := Aside0.mk H
           clear H
           have hnb76 := NB191_183.out
           have hnc76 := NB183_191.out
           have hnb77 := NB191_184.out
           have hnc77 := NB184_191.out
           have hcz78_0 : w26.cell? ⟨gb191,0,none⟩ = some (.int .i64 t186) := (blk_cell K91.out 0).trans rfl
           have hcz78_1 : w26.cell? ⟨gb191,1,none⟩ = some (.int .i64 t187) := (blk_cell K91.out 1).trans rfl
           have hcz78_2 : w26.cell? ⟨gb191,2,none⟩ = some (.int .i64 t188) := (blk_cell K91.out 2).trans rfl
           have hfz78_0 := blk_frozen K91.out 0
           have hfz78_1 := blk_frozen K91.out 1
           have hfz78_2 := blk_frozen K91.out 2
           go_wp2
           go_meet
           case rel => exact ⟨_,(true),(by first | rfl | (simp;done) | (simp [*];done)),H',⟨by have := HK1.out;have := HJ6.out;first | omega | exact Nat.le_refl _⟩,⟨by (with_reducible repeat (first | refine blk_drewN ?_ _ | refine blk_drew ?_ | refine blk_alloc ?_ _));exact K83.out⟩,⟨by (with_reducible repeat (first | refine blk_drewN ?_ _ | refine blk_drew ?_ | refine blk_alloc ?_ _));exact K84.out⟩,⟨by (with_reducible repeat (first | refine blk_drewN ?_ _ | refine blk_drew ?_ | refine blk_alloc ?_ _));exact K91.out⟩,⟨by repeat (first | (with_reducible first | exact HB.out | apply below_alloc | apply pw_below_drewN | apply below_drew1 | refine below_set ?_ GE183.out | refine below_set ?_ GE184.out | refine below_set ?_ GE191.out) | exact HB.out)⟩⟩
          ·
           rw [if_neg c75] at H
           have c75b0 : decide (t186 < 0) = false := decide_eq_false c75
           clear c75
           by_cases c79 : t186 ≥ (wrap64 (a0_5 * 65536))
           ·
            rw [if_pos c79] at H
            have c79b0 : decide ((wrap64 (a0_5 * 65536)) ≤ t186) = true := decide_eq_true c79
            clear c79
            have H' := Aside0.mk H
            clear H
            have hnb80 := NB191_183.out
            have hnc80 := NB183_191.out
            have hnb81 := NB191_184.out
            have hnc81 := NB184_191.out
            have hcz82_0 : w26.cell? ⟨gb191,0,none⟩ = some (.int .i64 t186) := (blk_cell K91.out 0).trans rfl
            have hcz82_1 : w26.cell? ⟨gb191,1,none⟩ = some (.int .i64 t187) := (blk_cell K91.out 1).trans rfl
            have hcz82_2 : w26.cell? ⟨gb191,2,none⟩ = some (.int .i64 t188) := (blk_cell K91.out 2).trans rfl
            have hfz82_0 := blk_frozen K91.out 0
            have hfz82_1 := blk_frozen K91.out 1
            have hfz82_2 := blk_frozen K91.out 2
            have hnb83 := NB183_184.out
            have hnc83 := NB184_183.out
            have hcz84_0 : w26.cell? ⟨gb183,0,none⟩ = some (.int .i64 a0_0) := (blk_cell K83.out 0).trans rfl
            have hcz84_1 : w26.cell? ⟨gb183,1,none⟩ = some (.int .i64 a0_1) := (blk_cell K83.out 1).trans rfl
            have hcz84_2 : w26.cell? ⟨gb183,2,none⟩ = some (.int .i64 a0_2) := (blk_cell K83.out 2).trans rfl
            have hcz84_3 : w26.cell? ⟨gb183,3,none⟩ = some (.int .i64 a0_3) := (blk_cell K83.out 3).trans rfl
            have hcz84_4 : w26.cell? ⟨gb183,4,none⟩ = some (.int .i64 a0_4) := (blk_cell K83.out 4).trans rfl
            have hcz84_5 : w26.cell? ⟨gb183,5,none⟩ = some (.int .i64 a0_5) := (blk_cell K83.out 5).trans rfl
            have hcz84_6 : w26.cell? ⟨gb183,6,none⟩ = some (.int .i64 a0_6) := (blk_cell K83.out 6).trans rfl
            have hcz84_7 : w26.cell? ⟨gb183,7,none⟩ = some (.int .i64 a0_7) := (blk_cell K83.out 7).trans rfl
            have hcz84_8 : w26.cell? ⟨gb183,8,none⟩ = some (.int .i64 a0_8) := (blk_cell K83.out 8).trans rfl
            have hcz84_9 : w26.cell? ⟨gb183,9,none⟩ = some (.int .i64 a0_9) := (blk_cell K83.out 9).trans rfl
            have hfz84_0 := blk_frozen K83.out 0
            have hfz84_1 := blk_frozen K83.out 1
            have hfz84_2 := blk_frozen K83.out 2
            have hfz84_3 := blk_frozen K83.out 3
            have hfz84_4 := blk_frozen K83.out 4
            have hfz84_5 := blk_frozen K83.out 5
            have hfz84_6 := blk_frozen K83.out 6
            have hfz84_7 := blk_frozen K83.out 7
            have hfz84_8 := blk_frozen K83.out 8
            have hfz84_9 := blk_frozen K83.out 9
            go_wp2
            go_meet
            case rel => exact ⟨_,(true),(by first | rfl | (simp;done) | (simp [*];done)),H',⟨by have := HK1.out;have := HJ6.out;first | omega | exact Nat.le_refl _⟩,⟨by (with_reducible repeat (first | refine blk_drewN ?_ _ | refine blk_drew ?_ | refine blk_alloc ?_ _));exact K83.out⟩,⟨by (with_reducible repeat (first | refine blk_drewN ?_ _ | refine blk_drew ?_ | refine blk_alloc ?_ _));exact K84.out⟩,⟨by (with_reducible repeat (first | refine blk_drewN ?_ _ | refine blk_drew ?_ | refine blk_alloc ?_ _));exact K91.out⟩,⟨by repeat (first | (with_reducible first | exact HB.out | apply below_alloc | apply pw_below_drewN | apply below_drew1 | refine below_set ?_ GE183.out | refine below_set ?_ GE184.out | refine below_set ?_ GE191.out) | exact HB.out)⟩⟩
           ·
            rw [if_neg c79] at H
            have c79b0 : decide ((wrap64 (a0_5 * 65536)) ≤ t186) = false := decide_eq_false c79
            clear c79
            by_cases c85 : t187 < 0
            ·
             rw [if_pos c85] at H
             have c85b0 : decide (t187 < 0) = true := decide_eq_true c85
             clear c85
             have H' := Aside0.mk H
             clear H
             have hnb86 := NB191_183.out
             have hnc86 := NB183_191.out
             have hnb87 := NB191_184.out
             have hnc87 := NB184_191.out
             have hcz88_0 : w26.cell? ⟨gb191,0,none⟩ = some (.int .i64 t186) := (blk_cell K91.out 0).trans rfl
             have hcz88_1 : w26.cell? ⟨gb191,1,none⟩ = some (.int .i64 t187) := (blk_cell K91.out 1).trans rfl
             have hcz88_2 : w26.cell? ⟨gb191,2,none⟩ = some (.int .i64 t188) := (blk_cell K91.out 2).trans rfl
             have hfz88_0 := blk_frozen K91.out 0
             have hfz88_1 := blk_frozen K91.out 1
             have hfz88_2 := blk_frozen K91.out 2
             have hnb89 := NB183_184.out
             have hnc89 := NB184_183.out
             have hcz90_0 : w26.cell? ⟨gb183,0,none⟩ = some (.int .i64 a0_0) := (blk_cell K83.out 0).trans rfl
             have hcz90_1 : w26.cell? ⟨gb183,1,none⟩ = some (.int .i64 a0_1) := (blk_cell K83.out 1).trans rfl
             have hcz90_2 : w26.cell? ⟨gb183,2,none⟩ = some (.int .i64 a0_2) := (blk_cell K83.out 2).trans rfl
             have hcz90_3 : w26.cell? ⟨gb183,3,none⟩ = some (.int .i64 a0_3) := (blk_cell K83.out 3).trans rfl
             have hcz90_4 : w26.cell? ⟨gb183,4,none⟩ = some (.int .i64 a0_4) := (blk_cell K83.out 4).trans rfl
             have hcz90_5 : w26.cell? ⟨gb183,5,none⟩ = some (.int .i64 a0_5) := (blk_cell K83.out 5).trans rfl
             have hcz90_6 : w26.cell? ⟨gb183,6,none⟩ = some (.int .i64 a0_6) := (blk_cell K83.out 6).trans rfl
             have hcz90_7 : w26.cell? ⟨gb183,7,none⟩ = some (.int .i64 a0_7) := (blk_cell K83.out 7).trans rfl
             have hcz90_8 : w26.cell? ⟨gb183,8,none⟩ = some (.int .i64 a0_8) := (blk_cell K83.out 8).trans rfl
             have hcz90_9 : w26.cell? ⟨gb183,9,none⟩ = some (.int .i64 a0_9) := (blk_cell K83.out 9).trans rfl
             have hfz90_0 := blk_frozen K83.out 0
             have hfz90_1 := blk_frozen K83.out 1
             have hfz90_2 := blk_frozen K83.out 2
             have hfz90_3 := blk_frozen K83.out 3
             have hfz90_4 := blk_frozen K83.out 4
             have hfz90_5 := blk_frozen K83.out 5
             have hfz90_6 := blk_frozen K83.out 6
             have hfz90_7 := blk_frozen K83.out 7
             have hfz90_8 := blk_frozen K83.out 8
             have hfz90_9 := blk_frozen K83.out 9
             go_wp2
             go_meet
             case rel => exact ⟨_,(true),(by first | rfl | (simp;done) | (simp [*];done)),H',⟨by have := HK1.out;have := HJ6.out;first | omega | exact Nat.le_refl _⟩,⟨by (with_reducible repeat (first | refine blk_drewN ?_ _ | refine blk_drew ?_ | refine blk_alloc ?_ _));exact K83.out⟩,⟨by (with_reducible repeat (first | refine blk_drewN ?_ _ | refine blk_drew ?_ | refine blk_alloc ?_ _));exact K84.out⟩,⟨by (with_reducible repeat (first | refine blk_drewN ?_ _ | refine blk_drew ?_ | refine blk_alloc ?_ _));exact K91.out⟩,⟨by repeat (first | (with_reducible first | exact HB.out | apply below_alloc | apply pw_below_drewN | apply below_drew1 | refine below_set ?_ GE183.out | refine below_set ?_ GE184.out | refine below_set ?_ GE191.out) | exact HB.out)⟩⟩
            ·
             rw [if_neg c85] at H
             have c85b0 : decide (t187 < 0) = false := decide_eq_false c85
             clear c85
             by_cases c91 : t187 ≥ (wrap64 (a0_6 * 65536))
             ·
              rw [if_pos c91] at H
              have c91b0 : decide ((wrap64 (a0_6 * 65536)) ≤ t187) = true := decide_eq_true c91
              clear c91
              have H' := Aside0.mk H
              clear H
              have hnb92 := NB191_183.out
              have hnc92 := NB183_191.out
              have hnb93 := NB191_184.out
              have hnc93 := NB184_191.out
              have hcz94_0 : w26.cell? ⟨gb191,0,none⟩ = some (.int .i64 t186) := (blk_cell K91.out 0).trans rfl
              have hcz94_1 : w26.cell? ⟨gb191,1,none⟩ = some (.int .i64 t187) := (blk_cell K91.out 1).trans rfl
              have hcz94_2 : w26.cell? ⟨gb191,2,none⟩ = some (.int .i64 t188) := (blk_cell K91.out 2).trans rfl
              have hfz94_0 := blk_frozen K91.out 0
              have hfz94_1 := blk_frozen K91.out 1
              have hfz94_2 := blk_frozen K91.out 2
              have hnb95 := NB183_184.out
              have hnc95 := NB184_183.out
              have hcz96_0 : w26.cell? ⟨gb183,0,none⟩ = some (.int .i64 a0_0) := (blk_cell K83.out 0).trans rfl
              have hcz96_1 : w26.cell? ⟨gb183,1,none⟩ = some (.int .i64 a0_1) := (blk_cell K83.out 1).trans rfl
              have hcz96_2 : w26.cell? ⟨gb183,2,none⟩ = some (.int .i64 a0_2) := (blk_cell K83.out 2).trans rfl
              have hcz96_3 : w26.cell? ⟨gb183,3,none⟩ = some (.int .i64 a0_3) := (blk_cell K83.out 3).trans rfl
              have hcz96_4 : w26.cell? ⟨gb183,4,none⟩ = some (.int .i64 a0_4) := (blk_cell K83.out 4).trans rfl
              have hcz96_5 : w26.cell? ⟨gb183,5,none⟩ = some (.int .i64 a0_5) := (blk_cell K83.out 5).trans rfl
              have hcz96_6 : w26.cell? ⟨gb183,6,none⟩ = some (.int .i64 a0_6) := (blk_cell K83.out 6).trans rfl
              have hcz96_7 : w26.cell? ⟨gb183,7,none⟩ = some (.int .i64 a0_7) := (blk_cell K83.out 7).trans rfl
              have hcz96_8 : w26.cell? ⟨gb183,8,none⟩ = some (.int .i64 a0_8) := (blk_cell K83.out 8).trans rfl
              have hcz96_9 : w26.cell? ⟨gb183,9,none⟩ = some (.int .i64 a0_9) := (blk_cell K83.out 9).trans rfl
              have hfz96_0 := blk_frozen K83.out 0
              have hfz96_1 := blk_frozen K83.out 1
              have hfz96_2 := blk_frozen K83.out 2
              have hfz96_3 := blk_frozen K83.out 3
              have hfz96_4 := blk_frozen K83.out 4
              have hfz96_5 := blk_frozen K83.out 5
              have hfz96_6 := blk_frozen K83.out 6
              have hfz96_7 := blk_frozen K83.out 7
              have hfz96_8 := blk_frozen K83.out 8
              have hfz96_9 := blk_frozen K83.out 9
              go_wp2
              go_meet
              case rel => exact ⟨_,(true),(by first | rfl | (simp;done) | (simp [*];done)),H',⟨by have := HK1.out;have := HJ6.out;first | omega | exact Nat.le_refl _⟩,⟨by (with_reducible repeat (first | refine blk_drewN ?_ _ | refine blk_drew ?_ | refine blk_alloc ?_ _));exact K83.out⟩,⟨by (with_reducible repeat (first | refine blk_drewN ?_ _ | refine blk_drew ?_ | refine blk_alloc ?_ _));exact K84.out⟩,⟨by (with_reducible repeat (first | refine blk_drewN ?_ _ | refine blk_drew ?_ | refine blk_alloc ?_ _));exact K91.out⟩,⟨by repeat (first | (with_reducible first | exact HB.out | apply below_alloc | apply pw_below_drewN | apply below_drew1 | refine below_set ?_ GE183.out | refine below_set ?_ GE184.out | refine below_set ?_ GE191.out) | exact HB.out)⟩⟩
             ·
              rw [if_neg c91] at H
              have c91b0 : decide ((wrap64 (a0_6 * 65536)) ≤ t187) = false := decide_eq_false c91
              clear c91
              by_cases c97 : t188 < 0
              ·
               rw [if_pos c97] at H
               have c97b0 : decide (t188 < 0) = true := decide_eq_true c97
               clear c97
               have H' := Aside0.mk H
               clear H
               have hnb98 := NB191_183.out
               have hnc98 := NB183_191.out
               have hnb99 := NB191_184.out
               have hnc99 := NB184_191.out
               have hcz100_0 : w26.cell? ⟨gb191,0,none⟩ = some (.int .i64 t186) := (blk_cell K91.out 0).trans rfl
               have hcz100_1 : w26.cell? ⟨gb191,1,none⟩ = some (.int .i64 t187) := (blk_cell K91.out 1).trans rfl
               have hcz100_2 : w26.cell? ⟨gb191,2,none⟩ = some (.int .i64 t188) := (blk_cell K91.out 2).trans rfl
               have hfz100_0 := blk_frozen K91.out 0
               have hfz100_1 := blk_frozen K91.out 1
               have hfz100_2 := blk_frozen K91.out 2
               have hnb101 := NB183_184.out
               have hnc101 := NB184_183.out
               have hcz102_0 : w26.cell? ⟨gb183,0,none⟩ = some (.int .i64 a0_0) := (blk_cell K83.out 0).trans rfl
               have hcz102_1 : w26.cell? ⟨gb183,1,none⟩ = some (.int .i64 a0_1) := (blk_cell K83.out 1).trans rfl
               have hcz102_2 : w26.cell? ⟨gb183,2,none⟩ = some (.int .i64 a0_2) := (blk_cell K83.out 2).trans rfl
               have hcz102_3 : w26.cell? ⟨gb183,3,none⟩ = some (.int .i64 a0_3) := (blk_cell K83.out 3).trans rfl
               have hcz102_4 : w26.cell? ⟨gb183,4,none⟩ = some (.int .i64 a0_4) := (blk_cell K83.out 4).trans rfl
               have hcz102_5 : w26.cell? ⟨gb183,5,none⟩ = some (.int .i64 a0_5) := (blk_cell K83.out 5).trans rfl
               have hcz102_6 : w26.cell? ⟨gb183,6,none⟩ = some (.int .i64 a0_6) := (blk_cell K83.out 6).trans rfl
               have hcz102_7 : w26.cell? ⟨gb183,7,none⟩ = some (.int .i64 a0_7) := (blk_cell K83.out 7).trans rfl
               have hcz102_8 : w26.cell? ⟨gb183,8,none⟩ = some (.int .i64 a0_8) := (blk_cell K83.out 8).trans rfl
               have hcz102_9 : w26.cell? ⟨gb183,9,none⟩ = some (.int .i64 a0_9) := (blk_cell K83.out 9).trans rfl
               have hfz102_0 := blk_frozen K83.out 0
               have hfz102_1 := blk_frozen K83.out 1
               have hfz102_2 := blk_frozen K83.out 2
               have hfz102_3 := blk_frozen K83.out 3
               have hfz102_4 := blk_frozen K83.out 4
               have hfz102_5 := blk_frozen K83.out 5
               have hfz102_6 := blk_frozen K83.out 6
               have hfz102_7 := blk_frozen K83.out 7
               have hfz102_8 := blk_frozen K83.out 8
               have hfz102_9 := blk_frozen K83.out 9
               go_wp2
               go_meet
               case rel => exact ⟨_,(true),(by first | rfl | (simp;done) | (simp [*];done)),H',⟨by have := HK1.out;have := HJ6.out;first | omega | exact Nat.le_refl _⟩,⟨by (with_reducible repeat (first | refine blk_drewN ?_ _ | refine blk_drew ?_ | refine blk_alloc ?_ _));exact K83.out⟩,⟨by (with_reducible repeat (first | refine blk_drewN ?_ _ | refine blk_drew ?_ | refine blk_alloc ?_ _));exact K84.out⟩,⟨by (with_reducible repeat (first | refine blk_drewN ?_ _ | refine blk_drew ?_ | refine blk_alloc ?_ _));exact K91.out⟩,⟨by repeat (first | (with_reducible first | exact HB.out | apply below_alloc | apply pw_below_drewN | apply below_drew1 | refine below_set ?_ GE183.out | refine below_set ?_ GE184.out | refine below_set ?_ GE191.out) | exact HB.out)⟩⟩
              ·
               rw [if_neg c97] at H
               have c97b0 : decide (t188 < 0) = false := decide_eq_false c97
               clear c97
               have H' := Aside0.mk H
               clear H
               have hnb103 := NB191_183.out
               have hnc103 := NB183_191.out
               have hnb104 := NB191_184.out
               have hnc104 := NB184_191.out
               have hcz105_0 : w26.cell? ⟨gb191,0,none⟩ = some (.int .i64 t186) := (blk_cell K91.out 0).trans rfl
               have hcz105_1 : w26.cell? ⟨gb191,1,none⟩ = some (.int .i64 t187) := (blk_cell K91.out 1).trans rfl
               have hcz105_2 : w26.cell? ⟨gb191,2,none⟩ = some (.int .i64 t188) := (blk_cell K91.out 2).trans rfl
               have hfz105_0 := blk_frozen K91.out 0
               have hfz105_1 := blk_frozen K91.out 1
               have hfz105_2 := blk_frozen K91.out 2
               have hnb106 := NB183_184.out
               have hnc106 := NB184_183.out
               have hcz107_0 : w26.cell? ⟨gb183,0,none⟩ = some (.int .i64 a0_0) := (blk_cell K83.out 0).trans rfl
               have hcz107_1 : w26.cell? ⟨gb183,1,none⟩ = some (.int .i64 a0_1) := (blk_cell K83.out 1).trans rfl
               have hcz107_2 : w26.cell? ⟨gb183,2,none⟩ = some (.int .i64 a0_2) := (blk_cell K83.out 2).trans rfl
               have hcz107_3 : w26.cell? ⟨gb183,3,none⟩ = some (.int .i64 a0_3) := (blk_cell K83.out 3).trans rfl
               have hcz107_4 : w26.cell? ⟨gb183,4,none⟩ = some (.int .i64 a0_4) := (blk_cell K83.out 4).trans rfl
               have hcz107_5 : w26.cell? ⟨gb183,5,none⟩ = some (.int .i64 a0_5) := (blk_cell K83.out 5).trans rfl
               have hcz107_6 : w26.cell? ⟨gb183,6,none⟩ = some (.int .i64 a0_6) := (blk_cell K83.out 6).trans rfl
               have hcz107_7 : w26.cell? ⟨gb183,7,none⟩ = some (.int .i64 a0_7) := (blk_cell K83.out 7).trans rfl
               have hcz107_8 : w26.cell? ⟨gb183,8,none⟩ = some (.int .i64 a0_8) := (blk_cell K83.out 8).trans rfl
               have hcz107_9 : w26.cell? ⟨gb183,9,none⟩ = some (.int .i64 a0_9) := (blk_cell K83.out 9).trans rfl
               have hfz107_0 := blk_frozen K83.out 0
               have hfz107_1 := blk_frozen K83.out 1
               have hfz107_2 := blk_frozen K83.out 2
               have hfz107_3 := blk_frozen K83.out 3
               have hfz107_4 := blk_frozen K83.out 4
               have hfz107_5 := blk_frozen K83.out 5
               have hfz107_6 := blk_frozen K83.out 6
               have hfz107_7 := blk_frozen K83.out 7
               have hfz107_8 := blk_frozen K83.out 8
               have hfz107_9 := blk_frozen K83.out 9
               go_wp2
               go_meet
               case rel => exact ⟨_,(decide (t188 > 65535)),(by first | rfl | (simp;done) | (simp [*];done)),H',⟨by have := HK1.out;have := HJ6.out;first | omega | exact Nat.le_refl _⟩,⟨by (with_reducible repeat (first | refine blk_drewN ?_ _ | refine blk_drew ?_ | refine blk_alloc ?_ _));exact K83.out⟩,⟨by (with_reducible repeat (first | refine blk_drewN ?_ _ | refine blk_drew ?_ | refine blk_alloc ?_ _));exact K84.out⟩,⟨by (with_reducible repeat (first | refine blk_drewN ?_ _ | refine blk_drew ?_ | refine blk_alloc ?_ _));exact K91.out⟩,⟨by repeat (first | (with_reducible first | exact HB.out | apply below_alloc | apply pw_below_drewN | apply below_drew1 | refine below_set ?_ GE183.out | refine below_set ?_ GE184.out | refine below_set ?_ GE191.out) | exact HB.out)⟩⟩
       case rest =>
        clear HC16
        try clear c1
        try clear c2
        try clear p2
        try clear c3
        try clear c4
        try clear c5
        try clear c6
        try clear p6
        try clear c7
        try clear c8
        try clear c9
        try clear c10
        try clear c27
        try clear c28
        try clear c28b0
        try clear c28b1
        try clear c29
        try clear c29b0
        try clear c29b1
        try clear c30
        try clear c30b0
        try clear c31
        try clear c32
        try clear c34
        try clear c36
        try clear c36b0
        try clear c37
        try clear c38
        try clear c40
        try clear c42
        try clear c42b0
        try clear c43
        try clear c44
        try clear c46
        try clear c48
        try clear c48b0
        try clear c49
        try clear c50
        try clear c52
        try clear c54
        try clear c54b0
        try clear c55
        try clear c56
        try clear c58
        try clear c60
        try clear c61
        try clear c63
        try clear p64
        try clear c65
        try clear c66
        try clear c68
        try clear c70
        try clear c71
        try clear c73
        try clear c75
        try clear c75b0
        try clear c76
        try clear c77
        try clear c79
        try clear c79b0
        try clear c80
        try clear c81
        try clear c83
        try clear c85
        try clear c85b0
        try clear c86
        try clear c87
        try clear c89
        try clear c91
        try clear c91b0
        try clear c92
        try clear c93
        try clear c95
        try clear c97
        try clear c97b0
        try clear c98
        try clear c99
        try clear c101
        try clear c103
        try clear c104
        try clear c106
        try clear hcz100_0
        try clear hcz100_1
        try clear hcz100_2
        try clear hcz102_0
        try clear hcz102_1
        try clear hcz102_2
        try clear hcz102_3
        try clear hcz102_4
        try clear hcz102_5
        try clear hcz102_6
        try clear hcz102_7
        try clear hcz102_8
        try clear hcz102_9
        try clear hcz105_0
        try clear hcz105_1
        try clear hcz105_2
        try clear hcz107_0
        try clear hcz107_1
        try clear hcz107_2
        try clear hcz107_3
        try clear hcz107_4
        try clear hcz107_5
        try clear hcz107_6
        try clear hcz107_7
        try clear hcz107_8
        try clear hcz107_9
        try clear hcz33_0
        try clear hcz33_1
        try clear hcz33_2
        try clear hcz35_0
        try clear hcz35_1
        try clear hcz35_2
        try clear hcz35_3
        try clear hcz35_4
        try clear hcz35_5
        try clear hcz35_6
        try clear hcz35_7
        try clear hcz35_8
        try clear hcz35_9
        try clear hcz39_0
        try clear hcz39_1
        try clear hcz39_2
        try clear hcz41_0
        try clear hcz41_1
        try clear hcz41_2
        try clear hcz41_3
        try clear hcz41_4
        try clear hcz41_5
        try clear hcz41_6
        try clear hcz41_7
        try clear hcz41_8
        try clear hcz41_9
        try clear hcz45_0
        try clear hcz45_1
        try clear hcz45_2
        try clear hcz47_0
        try clear hcz47_1
        try clear hcz47_2
        try clear hcz47_3
        try clear hcz47_4
        try clear hcz47_5
        try clear hcz47_6
        try clear hcz47_7
        try clear hcz47_8
        try clear hcz47_9
        try clear hcz51_0
        try clear hcz51_1
        try clear hcz51_2
        try clear hcz53_0
        try clear hcz53_1
        try clear hcz53_2
        try clear hcz53_3
        try clear hcz53_4
        try clear hcz53_5
        try clear hcz53_6
        try clear hcz53_7
        try clear hcz53_8
        try clear hcz53_9
        try clear hcz57_0
        try clear hcz57_1
        try clear hcz57_2
        try clear hcz59_0
        try clear hcz59_1
        try clear hcz59_2
        try clear hcz59_3
        try clear hcz59_4
        try clear hcz59_5
        try clear hcz59_6
        try clear hcz59_7
        try clear hcz59_8
        try clear hcz59_9
        try clear hcz62_0
        try clear hcz62_1
        try clear hcz62_2
        try clear hcz64_0
        try clear hcz64_1
        try clear hcz64_2
        try clear hcz64_3
        try clear hcz64_4
        try clear hcz64_5
        try clear hcz64_6
        try clear hcz64_7
        try clear hcz64_8
        try clear hcz64_9
        try clear hcz67_0
        try clear hcz67_1
        try clear hcz67_2
        try clear hcz69_0
        try clear hcz69_1
        try clear hcz69_2
        try clear hcz69_3
        try clear hcz69_4
        try clear hcz69_5
        try clear hcz69_6
        try clear hcz69_7
        try clear hcz69_8
        try clear hcz69_9
        try clear hcz72_0
        try clear hcz72_1
        try clear hcz72_2
        try clear hcz74_0
        try clear hcz74_1
        try clear hcz74_2
        try clear hcz74_3
        try clear hcz74_4
        try clear hcz74_5
        try clear hcz74_6
        try clear hcz74_7
        try clear hcz74_8
        try clear hcz74_9
        try clear hcz78_0
        try clear hcz78_1
        try clear hcz78_2
        try clear hcz82_0
        try clear hcz82_1
        try clear hcz82_2
        try clear hcz84_0
        try clear hcz84_1
        try clear hcz84_2
        try clear hcz84_3
        try clear hcz84_4
        try clear hcz84_5
        try clear hcz84_6
        try clear hcz84_7
        try clear hcz84_8
        try clear hcz84_9
        try clear hcz88_0
        try clear hcz88_1
        try clear hcz88_2
        try clear hcz90_0
        try clear hcz90_1
        try clear hcz90_2
        try clear hcz90_3
        try clear hcz90_4
        try clear hcz90_5
        try clear hcz90_6
        try clear hcz90_7
        try clear hcz90_8
        try clear hcz90_9
        try clear hcz94_0
        try clear hcz94_1
        try clear hcz94_2
        try clear hcz96_0
        try clear hcz96_1
        try clear hcz96_2
        try clear hcz96_3
        try clear hcz96_4
        try clear hcz96_5
        try clear hcz96_6
        try clear hcz96_7
        try clear hcz96_8
        try clear hcz96_9
        try clear hfz100_0
        try clear hfz100_1
        try clear hfz100_2
        try clear hfz102_0
        try clear hfz102_1
        try clear hfz102_2
        try clear hfz102_3
        try clear hfz102_4
        try clear hfz102_5
        try clear hfz102_6
        try clear hfz102_7
        try clear hfz102_8
        try clear hfz102_9
        try clear hfz105_0
        try clear hfz105_1
        try clear hfz105_2
        try clear hfz107_0
        try clear hfz107_1
        try clear hfz107_2
        try clear hfz107_3
        try clear hfz107_4
        try clear hfz107_5
        try clear hfz107_6
        try clear hfz107_7
        try clear hfz107_8
        try clear hfz107_9
        try clear hfz33_0
        try clear hfz33_1
        try clear hfz33_2
        try clear hfz35_0
        try clear hfz35_1
        try clear hfz35_2
        try clear hfz35_3
        try clear hfz35_4
        try clear hfz35_5
        try clear hfz35_6
        try clear hfz35_7
        try clear hfz35_8
        try clear hfz35_9
        try clear hfz39_0
        try clear hfz39_1
        try clear hfz39_2
        try clear hfz41_0
        try clear hfz41_1
        try clear hfz41_2
        try clear hfz41_3
        try clear hfz41_4
        try clear hfz41_5
        try clear hfz41_6
        try clear hfz41_7
        try clear hfz41_8
        try clear hfz41_9
        try clear hfz45_0
        try clear hfz45_1
        try clear hfz45_2
        try clear hfz47_0
        try clear hfz47_1
        try clear hfz47_2
        try clear hfz47_3
        try clear hfz47_4
        try clear hfz47_5
        try clear hfz47_6
        try clear hfz47_7
        try clear hfz47_8
        try clear hfz47_9
        try clear hfz51_0
        try clear hfz51_1
        try clear hfz51_2
        try clear hfz53_0
        try clear hfz53_1
        try clear hfz53_2
        try clear hfz53_3
        try clear hfz53_4
        try clear hfz53_5
        try clear hfz53_6
        try clear hfz53_7
        try clear hfz53_8
        try clear hfz53_9
        try clear hfz57_0
        try clear hfz57_1
        try clear hfz57_2
        try clear hfz59_0
        try clear hfz59_1
        try clear hfz59_2
        try clear hfz59_3
        try clear hfz59_4
        try clear hfz59_5
        try clear hfz59_6
        try clear hfz59_7
        try clear hfz59_8
        try clear hfz59_9
        try clear hfz62_0
        try clear hfz62_1
        try clear hfz62_2
        try clear hfz64_0
        try clear hfz64_1
        try clear hfz64_2
        try clear hfz64_3
        try clear hfz64_4
        try clear hfz64_5
        try clear hfz64_6
        try clear hfz64_7
        try clear hfz64_8
        try clear hfz64_9
        try clear hfz67_0
        try clear hfz67_1
        try clear hfz67_2
        try clear hfz69_0
        try clear hfz69_1
        try clear hfz69_2
        try clear hfz69_3
        try clear hfz69_4
        try clear hfz69_5
        try clear hfz69_6
        try clear hfz69_7
        try clear hfz69_8
        try clear hfz69_9
        try clear hfz72_0
        try clear hfz72_1
        try clear hfz72_2
        try clear hfz74_0
        try clear hfz74_1
        try clear hfz74_2
        try clear hfz74_3
        try clear hfz74_4
        try clear hfz74_5
        try clear hfz74_6
        try clear hfz74_7
        try clear hfz74_8
        try clear hfz74_9
        try clear hfz78_0
        try clear hfz78_1
        try clear hfz78_2
        try clear hfz82_0
        try clear hfz82_1
        try clear hfz82_2
        try clear hfz84_0
        try clear hfz84_1
        try clear hfz84_2
        try clear hfz84_3
        try clear hfz84_4
        try clear hfz84_5
        try clear hfz84_6
        try clear hfz84_7
        try clear hfz84_8
        try clear hfz84_9
        try clear hfz88_0
        try clear hfz88_1
        try clear hfz88_2
        try clear hfz90_0
        try clear hfz90_1
        try clear hfz90_2
        try clear hfz90_3
        try clear hfz90_4
        try clear hfz90_5
        try clear hfz90_6
        try clear hfz90_7
        try clear hfz90_8
        try clear hfz90_9
        try clear hfz94_0
        try clear hfz94_1
        try clear hfz94_2
        try clear hfz96_0
        try clear hfz96_1
        try clear hfz96_2
        try clear hfz96_3
        try clear hfz96_4
        try clear hfz96_5
        try clear hfz96_6
        try clear hfz96_7
        try clear hfz96_8
        try clear hfz96_9
        obtain ⟨kq,x110_15,rfl,HA,HJ15,K83,K84,K91,HB⟩ := hcut
        cases kq with
        | zero => exact absurd HA.out (by simp [DSt.j2])
        | succ kj15 =>
         have H := HA.out
         clear HA
         simp only [DSt.j2] at H
         by_cases c108 : x110_15 = true
         ·
          subst c108
          have H1 : (some false) = some r := by rw [if_pos rfl] at H;exact H
          clear H
          have H := H1
          clear H1
          obtain rfl := Option.some.inj H
          go_wp2
          go_ret
          exact ⟨by first | rfl | (simp [errW_none,errW_some] <;> rfl) | (simp [*,errW_none,errW_some] <;> rfl),by repeat (first | (with_reducible first | exact HB.out | apply below_alloc | apply pw_below_drewN | apply below_drew1 | refine below_set ?_ GE183.out | refine below_set ?_ GE184.out | refine below_set ?_ GE191.out) | exact HB.out)⟩
         ·
          replace c108 := Bool.eq_false_iff.mpr c108
          subst c108
          have H1 : (if (wrap64 (t186 - x185000_1)) > (wrap64 (a0_3 + 1)) then (DSt.j3 kj15 x4_1 t189 true a0_0 a0_1 a0_2 a0_3 a0_4 a0_5 a0_6 a0_7 a0_8 a0_9 t186 t187 t188) else (if (wrap64 (t186 - x185000_1)) < (wrap64 ((wrap64 (-a0_3)) - 1)) then (DSt.j3 kj15 x4_1 t189 true a0_0 a0_1 a0_2 a0_3 a0_4 a0_5 a0_6 a0_7 a0_8 a0_9 t186 t187 t188) else (if (wrap64 (t187 - x185001_1)) > (wrap64 (a0_3 + 1)) then (DSt.j3 kj15 x4_1 t189 true a0_0 a0_1 a0_2 a0_3 a0_4 a0_5 a0_6 a0_7 a0_8 a0_9 t186 t187 t188) else (if (wrap64 (t187 - x185001_1)) < (wrap64 ((wrap64 (-a0_3)) - 1)) then (DSt.j3 kj15 x4_1 t189 true a0_0 a0_1 a0_2 a0_3 a0_4 a0_5 a0_6 a0_7 a0_8 a0_9 t186 t187 t188) else ((drive_Off.f t188 x185002_1).bind fun t193 => (DSt.j3 kj15 x4_1 t189 (decide (t193 > a0_4)) a0_0 a0_1 a0_2 a0_3 a0_4 a0_5 a0_6 a0_7 a0_8 a0_9 t186 t187 t188)))))) = some r := by rw [if_neg (show ¬ (false = true) by decide)] at H;exact H
          clear H
          have H := H1
          clear H1
          have HC109 := Aside0.mk H
          clear H
          go_upto_region 11 with (fail)
          go_cut [153] (fun v153 wc => ∃ (kq : Nat) (x153_108 : Bool),v153 = .bool x153_108 ∧ Aside0 (DSt.j3 kq x4_1 t189 x153_108 a0_0 a0_1 a0_2 a0_3 a0_4 a0_5 a0_6 a0_7 a0_8 a0_9 t186 t187 t188 = some r) ∧ Aside0 (kq ≤ kj15) ∧ Aside0 (wc.heap[gb183]? = some (.cells #[.int .i64 a0_0,.int .i64 a0_1,.int .i64 a0_2,.int .i64 a0_3,.int .i64 a0_4,.int .i64 a0_5,.int .i64 a0_6,.int .i64 a0_7,.int .i64 a0_8,.int .i64 a0_9] 30 (0,0))) ∧ Aside0 (wc.heap[gb184]? = some (.cells #[.int .i64 x185000_1,.int .i64 x185001_1,.int .i64 x185002_1] 26 (0,0))) ∧ Aside0 (wc.heap[gb191]? = some (.cells #[.int .i64 t186,.int .i64 t187,.int .i64 t188] 26 (0,0))) ∧ Aside0 (Below w.heap.size w wc))
          case first =>
           have H := HC109.out
           clear HC109
           by_cases c110 : (wrap64 (t186 - x185000_1)) > (wrap64 (a0_3 + 1))
           ·
            as_aux_lemma =>
             rw [if_pos c110] at H
             have c110b0 : decide ((wrap64 (a0_3 + 1)) < (wrap64 (t186 - x185000_1))) = true := decide_eq_true c110
             clear c110
             (first | rw [c110b0] | (simp only [i64_w,i32_w];rw [c110b0]) | skip)
             have H' := Aside0.mk H
             clear H
             try go_wp2
             have n0_ := Aside0.mk (blk_drew K83.out)
             have n1_ := Aside0.mk (blk_drew K84.out)
             have n2_ := Aside0.mk (blk_drew K91.out)
             have n3_ := Aside0.mk (below_drew1 HB.out)
             clear K83
             clear K84
             clear K91
             clear HB
             have K83 := n0_
             have K84 := n1_
             have K91 := n2_
             have HB := n3_
             clear n0_ n1_ n2_ n3_
             refine start_ (n := 43) (S := fun w' => w'.cell? ⟨gb183,0,none⟩ = some (.int .i64 a0_0) ∧ w'.cell? ⟨gb183,1,none⟩ = some (.int .i64 a0_1) ∧ w'.cell? ⟨gb183,2,none⟩ = some (.int .i64 a0_2) ∧ w'.cell? ⟨gb183,3,none⟩ = some (.int .i64 a0_3) ∧ w'.cell? ⟨gb183,4,none⟩ = some (.int .i64 a0_4) ∧ w'.cell? ⟨gb183,5,none⟩ = some (.int .i64 a0_5) ∧ w'.cell? ⟨gb183,6,none⟩ = some (.int .i64 a0_6) ∧ w'.cell? ⟨gb183,7,none⟩ = some (.int .i64 a0_7) ∧ w'.cell? ⟨gb183,8,none⟩ = some (.int .i64 a0_8) ∧ w'.cell? ⟨gb183,9,none⟩ = some (.int .i64 a0_9)) (ds := []) m13_ (by kernel_rfl) rfl rfl ⟨(blk_cell K83.out 0).trans rfl,(blk_cell K83.out 1).trans rfl,(blk_cell K83.out 2).trans rfl,(blk_cell K83.out 3).trans rfl,(blk_cell K83.out 4).trans rfl,(blk_cell K83.out 5).trans rfl,(blk_cell K83.out 6).trans rfl,(blk_cell K83.out 7).trans rfl,(blk_cell K83.out 8).trans rfl,(blk_cell K83.out 9).trans rfl⟩ (fun hHeld => ?_);refine with_tabW DSt.tab11 DSt.bits11 (fun HT_ HW_ => ?_)
             generalize wc.drew = w111 at K83 K84 K91 HB hHeld ⊢
             refine pure_ (i := 0) (N := some 111) (v := ?_) (a' := ?_) m14_ rfl rfl (any_of HT_.out (by kernel_rfl)) (fun _ _ _ h => h) (Or.inl ⟨by rfl,?_⟩) ?_ ?_
             rotate_left
             ·
              intro w'
              go_simp
              with_reducible rfl
             rotate_left
             ·
              simp only [Act.put,LS_,L0_,L1_,i64_w,i32_w]
              rfl
             refine pure_ (i := 1) (N := some 112) (v := ?_) (a' := ?_) m15_ rfl rfl (any_of HT_.out (by kernel_rfl)) (fun _ _ _ h => h) (Or.inl ⟨by rfl,?_⟩) ?_ ?_
             rotate_left
             ·
              intro w'
              go_simp
              with_reducible rfl
             rotate_left
             ·
              simp only [Act.put,LS_,L0_,L1_,i64_w,i32_w]
              rfl
             refine pure_ (i := 2) (N := some 113) (v := ?_) (a' := ?_) m16_ rfl rfl (any_of HT_.out (by kernel_rfl)) (fun _ _ _ h => h) (Or.inl ⟨by rfl,?_⟩) ?_ ?_
             rotate_left
             ·
              intro w'
              go_simp
              with_reducible rfl
             rotate_left
             ·
              simp only [Act.put,LS_,L0_,L1_,i64_w,i32_w]
              rfl
             refine take_ (i := 3) (N := some 114) (v := ?_) (a' := ?_) m17_ rfl rfl (take_ofW HT_.out HW_.out (by kernel_rfl)) (fun _ _ _ h => h) (Or.inl ⟨by rfl,?_⟩) hHeld ?_ ?_
             rotate_left
             ·
              rintro w' ⟨s0,s1,s2,s3,s4,s5,s6,s7,s8,s9⟩
              go_simp
              with_reducible rfl
             rotate_left
             ·
              simp only [Act.put,LS_,L0_,L1_,i64_w,i32_w]
              rfl
             refine pure_ (i := 4) (N := some 115) (v := ?_) (a' := ?_) m18_ rfl rfl (any_of HT_.out (by kernel_rfl)) (fun _ _ _ h => h) (Or.inl ⟨by rfl,?_⟩) ?_ ?_
             rotate_left
             ·
              intro w'
              go_simp
              with_reducible rfl
             rotate_left
             ·
              simp only [Act.put,LS_,L0_,L1_,i64_w,i32_w]
              rfl
             refine pure_ (i := 5) (N := some 116) (v := ?_) (a' := ?_) m19_ rfl rfl (any_of HT_.out (by kernel_rfl)) (fun _ _ _ h => h) (Or.inl ⟨by rfl,?_⟩) ?_ ?_
             rotate_left
             ·
              intro w'
              go_simp
              with_reducible rfl
             rotate_left
             ·
              simp only [Act.put,LS_,L0_,L1_,i64_w,i32_w]
              rfl
             refine pure_ (i := 6) (N := some 117) (v := ?_) (a' := ?_) m20_ rfl rfl (any_of HT_.out (by kernel_rfl)) (fun _ _ _ h => h) (Or.inl ⟨by rfl,?_⟩) ?_ ?_
             rotate_left
             ·
              intro w'
              go_simp
              with_reducible rfl
             rotate_left
             ·
              simp only [Act.put,LS_,L0_,L1_,i64_w,i32_w]
              rfl
             refine pure_ (i := 7) (N := some 118) (v := undef) (a' := ?_) m21_ rfl rfl (any_of HT_.out (by kernel_rfl)) (fun _ _ _ h => h) (Or.inr ⟨by rfl,rfl⟩) ?_ ?_
             rotate_left
             ·
              simp only [Act.put,LS_,L0_,L1_,i64_w,i32_w]
              rfl
             refine pure_ (i := 8) (N := some 119) (v := undef) (a' := ?_) m22_ rfl rfl (any_of HT_.out (by kernel_rfl)) (fun _ _ _ h => h) (Or.inr ⟨by rfl,rfl⟩) ?_ ?_
             rotate_left
             ·
              simp only [Act.put,LS_,L0_,L1_,i64_w,i32_w]
              rfl
             refine pure_ (i := 9) (N := some 120) (v := undef) (a' := ?_) m23_ rfl rfl (any_of HT_.out (by kernel_rfl)) (fun _ _ _ h => h) (Or.inr ⟨by rfl,rfl⟩) ?_ ?_
             rotate_left
             ·
              simp only [Act.put,LS_,L0_,L1_,i64_w,i32_w]
              rfl
             refine pure_ (i := 10) (N := some 121) (v := undef) (a' := ?_) m24_ rfl rfl (any_of HT_.out (by kernel_rfl)) (fun _ _ _ h => h) (Or.inr ⟨by rfl,rfl⟩) ?_ ?_
             rotate_left
             ·
              simp only [Act.put,LS_,L0_,L1_,i64_w,i32_w]
              rfl
             refine pure_ (i := 11) (N := some 122) (v := undef) (a' := ?_) m25_ rfl rfl (any_of HT_.out (by kernel_rfl)) (fun _ _ _ h => h) (Or.inr ⟨by rfl,rfl⟩) ?_ ?_
             rotate_left
             ·
              simp only [Act.put,LS_,L0_,L1_,i64_w,i32_w]
              rfl
             refine pure_ (i := 12) (N := some 123) (v := undef) (a' := ?_) m26_ rfl rfl (any_of HT_.out (by kernel_rfl)) (fun _ _ _ h => h) (Or.inr ⟨by rfl,rfl⟩) ?_ ?_
             rotate_left
             ·
              simp only [Act.put,LS_,L0_,L1_,i64_w,i32_w]
              rfl
             refine pure_ (i := 13) (N := some 124) (v := undef) (a' := ?_) m27_ rfl rfl (any_of HT_.out (by kernel_rfl)) (fun _ _ _ h => h) (Or.inr ⟨by rfl,rfl⟩) ?_ ?_
             rotate_left
             ·
              simp only [Act.put,LS_,L0_,L1_,i64_w,i32_w]
              rfl
             refine pure_ (i := 14) (N := some 125) (v := ?_) (a' := ?_) m28_ rfl rfl (any_of HT_.out (by kernel_rfl)) (fun _ _ _ h => h) (Or.inl ⟨by rfl,?_⟩) ?_ ?_
             rotate_left
             ·
              intro w'
              go_simp
              with_reducible rfl
             rotate_left
             ·
              simp only [Act.put,LS_,L0_,L1_,i64_w,i32_w]
              rfl
             refine pure_ (i := 15) (N := some 126) (v := ?_) (a' := ?_) m29_ rfl rfl (any_of HT_.out (by kernel_rfl)) (fun _ _ _ h => h) (Or.inl ⟨by rfl,?_⟩) ?_ ?_
             rotate_left
             ·
              intro w'
              go_simp
              with_reducible rfl
             rotate_left
             ·
              simp only [Act.put,LS_,L0_,L1_,i64_w,i32_w]
              rfl
             refine pure_ (i := 16) (N := some 127) (v := undef) (a' := ?_) m30_ rfl rfl (any_of HT_.out (by kernel_rfl)) (fun _ _ _ h => h) (Or.inr ⟨by rfl,rfl⟩) ?_ ?_
             rotate_left
             ·
              simp only [Act.put,LS_,L0_,L1_,i64_w,i32_w]
              rfl
             refine pure_ (i := 17) (N := some 128) (v := undef) (a' := ?_) m31_ rfl rfl (any_of HT_.out (by kernel_rfl)) (fun _ _ _ h => h) (Or.inr ⟨by rfl,rfl⟩) ?_ ?_
             rotate_left
             ·
              simp only [Act.put,LS_,L0_,L1_,i64_w,i32_w]
              rfl
             refine pure_ (i := 18) (N := some 129) (v := undef) (a' := ?_) m32_ rfl rfl (any_of HT_.out (by kernel_rfl)) (fun _ _ _ h => h) (Or.inr ⟨by rfl,rfl⟩) ?_ ?_
             rotate_left
             ·
              simp only [Act.put,LS_,L0_,L1_,i64_w,i32_w]
              rfl
             refine pure_ (i := 19) (N := some 130) (v := undef) (a' := ?_) m33_ rfl rfl (any_of HT_.out (by kernel_rfl)) (fun _ _ _ h => h) (Or.inr ⟨by rfl,rfl⟩) ?_ ?_
             rotate_left
             ·
              simp only [Act.put,LS_,L0_,L1_,i64_w,i32_w]
              rfl
             refine pure_ (i := 20) (N := some 131) (v := undef) (a' := ?_) m34_ rfl rfl (any_of HT_.out (by kernel_rfl)) (fun _ _ _ h => h) (Or.inr ⟨by rfl,rfl⟩) ?_ ?_
             rotate_left
             ·
              simp only [Act.put,LS_,L0_,L1_,i64_w,i32_w]
              rfl
             refine pure_ (i := 21) (N := some 132) (v := undef) (a' := ?_) m35_ rfl rfl (any_of HT_.out (by kernel_rfl)) (fun _ _ _ h => h) (Or.inr ⟨by rfl,rfl⟩) ?_ ?_
             rotate_left
             ·
              simp only [Act.put,LS_,L0_,L1_,i64_w,i32_w]
              rfl
             refine pure_ (i := 22) (N := some 133) (v := ?_) (a' := ?_) m36_ rfl rfl (any_of HT_.out (by kernel_rfl)) (fun _ _ _ h => h) (Or.inl ⟨by rfl,?_⟩) ?_ ?_
             rotate_left
             ·
              intro w'
              go_simp
              with_reducible rfl
             rotate_left
             ·
              simp only [Act.put,LS_,L0_,L1_,i64_w,i32_w]
              rfl
             refine pure_ (i := 23) (N := some 134) (v := ?_) (a' := ?_) m37_ rfl rfl (any_of HT_.out (by kernel_rfl)) (fun _ _ _ h => h) (Or.inl ⟨by rfl,?_⟩) ?_ ?_
             rotate_left
             ·
              intro w'
              go_simp
              with_reducible rfl
             rotate_left
             ·
              simp only [Act.put,LS_,L0_,L1_,i64_w,i32_w]
              rfl
             refine pure_ (i := 24) (N := some 135) (v := undef) (a' := ?_) m38_ rfl rfl (any_of HT_.out (by kernel_rfl)) (fun _ _ _ h => h) (Or.inr ⟨by rfl,rfl⟩) ?_ ?_
             rotate_left
             ·
              simp only [Act.put,LS_,L0_,L1_,i64_w,i32_w]
              rfl
             refine pure_ (i := 25) (N := some 136) (v := undef) (a' := ?_) m39_ rfl rfl (any_of HT_.out (by kernel_rfl)) (fun _ _ _ h => h) (Or.inr ⟨by rfl,rfl⟩) ?_ ?_
             rotate_left
             ·
              simp only [Act.put,LS_,L0_,L1_,i64_w,i32_w]
              rfl
             refine pure_ (i := 26) (N := some 137) (v := undef) (a' := ?_) m40_ rfl rfl (any_of HT_.out (by kernel_rfl)) (fun _ _ _ h => h) (Or.inr ⟨by rfl,rfl⟩) ?_ ?_
             rotate_left
             ·
              simp only [Act.put,LS_,L0_,L1_,i64_w,i32_w]
              rfl
             refine pure_ (i := 27) (N := some 138) (v := undef) (a' := ?_) m41_ rfl rfl (any_of HT_.out (by kernel_rfl)) (fun _ _ _ h => h) (Or.inr ⟨by rfl,rfl⟩) ?_ ?_
             rotate_left
             ·
              simp only [Act.put,LS_,L0_,L1_,i64_w,i32_w]
              rfl
             refine pure_ (i := 28) (N := some 139) (v := undef) (a' := ?_) m42_ rfl rfl (any_of HT_.out (by kernel_rfl)) (fun _ _ _ h => h) (Or.inr ⟨by rfl,rfl⟩) ?_ ?_
             rotate_left
             ·
              simp only [Act.put,LS_,L0_,L1_,i64_w,i32_w]
              rfl
             refine pure_ (i := 29) (N := some 140) (v := undef) (a' := ?_) m43_ rfl rfl (any_of HT_.out (by kernel_rfl)) (fun _ _ _ h => h) (Or.inr ⟨by rfl,rfl⟩) ?_ ?_
             rotate_left
             ·
              simp only [Act.put,LS_,L0_,L1_,i64_w,i32_w]
              rfl
             refine pure_ (i := 30) (N := some 141) (v := undef) (a' := ?_) m44_ rfl rfl (any_of HT_.out (by kernel_rfl)) (fun _ _ _ h => h) (Or.inr ⟨by rfl,rfl⟩) ?_ ?_
             rotate_left
             ·
              simp only [Act.put,LS_,L0_,L1_,i64_w,i32_w]
              rfl
             refine pure_ (i := 31) (N := some 142) (v := ?_) (a' := ?_) m45_ rfl rfl (any_of HT_.out (by kernel_rfl)) (fun _ _ _ h => h) (Or.inl ⟨by rfl,?_⟩) ?_ ?_
             rotate_left
             ·
              intro w'
              go_simp
              with_reducible rfl
             rotate_left
             ·
              simp only [Act.put,LS_,L0_,L1_,i64_w,i32_w]
              rfl
             refine pure_ (i := 32) (N := some 143) (v := ?_) (a' := ?_) m46_ rfl rfl (any_of HT_.out (by kernel_rfl)) (fun _ _ _ h => h) (Or.inl ⟨by rfl,?_⟩) ?_ ?_
             rotate_left
             ·
              intro w'
              go_simp
              with_reducible rfl
             rotate_left
             ·
              simp only [Act.put,LS_,L0_,L1_,i64_w,i32_w]
              rfl
             refine pure_ (i := 33) (N := some 144) (v := undef) (a' := ?_) m47_ rfl rfl (any_of HT_.out (by kernel_rfl)) (fun _ _ _ h => h) (Or.inr ⟨by rfl,rfl⟩) ?_ ?_
             rotate_left
             ·
              simp only [Act.put,LS_,L0_,L1_,i64_w,i32_w]
              rfl
             refine pure_ (i := 34) (N := some 145) (v := undef) (a' := ?_) m48_ rfl rfl (any_of HT_.out (by kernel_rfl)) (fun _ _ _ h => h) (Or.inr ⟨by rfl,rfl⟩) ?_ ?_
             rotate_left
             ·
              simp only [Act.put,LS_,L0_,L1_,i64_w,i32_w]
              rfl
             refine pure_ (i := 35) (N := some 146) (v := undef) (a' := ?_) m49_ rfl rfl (any_of HT_.out (by kernel_rfl)) (fun _ _ _ h => h) (Or.inr ⟨by rfl,rfl⟩) ?_ ?_
             rotate_left
             ·
              simp only [Act.put,LS_,L0_,L1_,i64_w,i32_w]
              rfl
             refine pure_ (i := 36) (N := some 147) (v := undef) (a' := ?_) m50_ rfl rfl (any_of HT_.out (by kernel_rfl)) (fun _ _ _ h => h) (Or.inr ⟨by rfl,rfl⟩) ?_ ?_
             rotate_left
             ·
              simp only [Act.put,LS_,L0_,L1_,i64_w,i32_w]
              rfl
             refine pure_ (i := 37) (N := some 148) (v := undef) (a' := ?_) m51_ rfl rfl (any_of HT_.out (by kernel_rfl)) (fun _ _ _ h => h) (Or.inr ⟨by rfl,rfl⟩) ?_ ?_
             rotate_left
             ·
              simp only [Act.put,LS_,L0_,L1_,i64_w,i32_w]
              rfl
             refine pure_ (i := 38) (N := some 149) (v := undef) (a' := ?_) m52_ rfl rfl (any_of HT_.out (by kernel_rfl)) (fun _ _ _ h => h) (Or.inr ⟨by rfl,rfl⟩) ?_ ?_
             rotate_left
             ·
              simp only [Act.put,LS_,L0_,L1_,i64_w,i32_w]
              rfl
             refine pure_ (i := 39) (N := some 150) (v := undef) (a' := ?_) m53_ rfl rfl (any_of HT_.out (by kernel_rfl)) (fun _ _ _ h => h) (Or.inr ⟨by rfl,rfl⟩) ?_ ?_
             rotate_left
             ·
              simp only [Act.put,LS_,L0_,L1_,i64_w,i32_w]
              rfl
             refine pure_ (i := 40) (N := some 151) (v := undef) (a' := ?_) m54_ rfl rfl (any_of HT_.out (by kernel_rfl)) (fun _ _ _ h => h) (Or.inr ⟨by rfl,rfl⟩) ?_ ?_
             rotate_left
             ·
              simp only [Act.put,LS_,L0_,L1_,i64_w,i32_w]
              rfl
             refine pure_ (i := 41) (N := some 152) (v := undef) (a' := ?_) m55_ rfl rfl (any_of HT_.out (by kernel_rfl)) (fun _ _ _ h => h) (Or.inr ⟨by rfl,rfl⟩) ?_ ?_
             rotate_left
             ·
              simp only [Act.put,LS_,L0_,L1_,i64_w,i32_w]
              rfl
             refine pure_ (i := 42) (N := some 153) (v := ?_) (a' := ?_) m56_ rfl rfl (any_of HT_.out (by kernel_rfl)) (fun _ _ _ h => h) (Or.inl ⟨by rfl,?_⟩) ?_ ?_
             rotate_left
             ·
              intro w'
              go_simp
              with_reducible rfl
             rotate_left
             ·
              simp only [Act.put,LS_,L0_,L1_,i64_w,i32_w]
              rfl
             refine done_ (done_of HT_.out (by kernel_rfl)) ?_
             try go_wp2
             go_meet
             case rel => exact ⟨_,(true),(by first | rfl | (simp;done) | (simp [*];done)),H',⟨by have := HK1.out;have := HJ6.out;have := HJ15.out;first | omega | exact Nat.le_refl _⟩,⟨by (with_reducible repeat (first | refine blk_drewN ?_ _ | refine blk_drew ?_ | refine blk_alloc ?_ _));exact K83.out⟩,⟨by (with_reducible repeat (first | refine blk_drewN ?_ _ | refine blk_drew ?_ | refine blk_alloc ?_ _));exact K84.out⟩,⟨by (with_reducible repeat (first | refine blk_drewN ?_ _ | refine blk_drew ?_ | refine blk_alloc ?_ _));exact K91.out⟩,⟨by repeat (first | (with_reducible first | exact HB.out | apply below_alloc | apply pw_below_drewN | apply below_drew1 | refine below_set ?_ GE183.out | refine below_set ?_ GE184.out | refine below_set ?_ GE191.out) | exact HB.out)⟩⟩
           ·
            rw [if_neg c110] at H
            have c110b0 : decide ((wrap64 (a0_3 + 1)) < (wrap64 (t186 - x185000_1))) = false := decide_eq_false c110
            clear c110
            (first | rw [c110b0] | (simp only [i64_w,i32_w];rw [c110b0]) | skip)
            by_cases c112 : (wrap64 (t186 - x185000_1)) < (wrap64 ((wrap64 (-a0_3)) - 1))
            ·
             as_aux_lemma =>
              rw [if_pos c112] at H
              have c112b0 : decide ((wrap64 (t186 - x185000_1)) < (wrap64 ((wrap64 (-a0_3)) - 1))) = true := decide_eq_true c112
              clear c112
              have H' := Aside0.mk H
              clear H
              try go_wp2
              have n0_ := Aside0.mk (blk_drew K83.out)
              have n1_ := Aside0.mk (blk_drew K84.out)
              have n2_ := Aside0.mk (blk_drew K91.out)
              have n3_ := Aside0.mk (below_drew1 HB.out)
              clear K83
              clear K84
              clear K91
              clear HB
              have K83 := n0_
              have K84 := n1_
              have K91 := n2_
              have HB := n3_
              clear n0_ n1_ n2_ n3_
              refine start_ (n := 43) (S := fun w' => w'.cell? ⟨gb183,0,none⟩ = some (.int .i64 a0_0) ∧ w'.cell? ⟨gb183,1,none⟩ = some (.int .i64 a0_1) ∧ w'.cell? ⟨gb183,2,none⟩ = some (.int .i64 a0_2) ∧ w'.cell? ⟨gb183,3,none⟩ = some (.int .i64 a0_3) ∧ w'.cell? ⟨gb183,4,none⟩ = some (.int .i64 a0_4) ∧ w'.cell? ⟨gb183,5,none⟩ = some (.int .i64 a0_5) ∧ w'.cell? ⟨gb183,6,none⟩ = some (.int .i64 a0_6) ∧ w'.cell? ⟨gb183,7,none⟩ = some (.int .i64 a0_7) ∧ w'.cell? ⟨gb183,8,none⟩ = some (.int .i64 a0_8) ∧ w'.cell? ⟨gb183,9,none⟩ = some (.int .i64 a0_9)) (ds := []) m13_ (by kernel_rfl) rfl rfl ⟨(blk_cell K83.out 0).trans rfl,(blk_cell K83.out 1).trans rfl,(blk_cell K83.out 2).trans rfl,(blk_cell K83.out 3).trans rfl,(blk_cell K83.out 4).trans rfl,(blk_cell K83.out 5).trans rfl,(blk_cell K83.out 6).trans rfl,(blk_cell K83.out 7).trans rfl,(blk_cell K83.out 8).trans rfl,(blk_cell K83.out 9).trans rfl⟩ (fun hHeld => ?_);refine with_tabW DSt.tab11 DSt.bits11 (fun HT_ HW_ => ?_)
              generalize wc.drew = w113 at K83 K84 K91 HB hHeld ⊢
              refine pure_ (i := 0) (N := some 111) (v := ?_) (a' := ?_) m14_ rfl rfl (any_of HT_.out (by kernel_rfl)) (fun _ _ _ h => h) (Or.inl ⟨by rfl,?_⟩) ?_ ?_
              rotate_left
              ·
               intro w'
               go_simp
               with_reducible rfl
              rotate_left
              ·
               simp only [Act.put,LS_,L0_,L1_,i64_w,i32_w]
               rfl
              refine pure_ (i := 1) (N := some 112) (v := ?_) (a' := ?_) m15_ rfl rfl (any_of HT_.out (by kernel_rfl)) (fun _ _ _ h => h) (Or.inl ⟨by rfl,?_⟩) ?_ ?_
              rotate_left
              ·
               intro w'
               go_simp
               with_reducible rfl
              rotate_left
              ·
               simp only [Act.put,LS_,L0_,L1_,i64_w,i32_w]
               rfl
              refine pure_ (i := 2) (N := some 113) (v := ?_) (a' := ?_) m16_ rfl rfl (any_of HT_.out (by kernel_rfl)) (fun _ _ _ h => h) (Or.inl ⟨by rfl,?_⟩) ?_ ?_
              rotate_left
              ·
               intro w'
               go_simp
               with_reducible rfl
              rotate_left
              ·
               simp only [Act.put,LS_,L0_,L1_,i64_w,i32_w]
               rfl
              refine take_ (i := 3) (N := some 114) (v := ?_) (a' := ?_) m17_ rfl rfl (take_ofW HT_.out HW_.out (by kernel_rfl)) (fun _ _ _ h => h) (Or.inl ⟨by rfl,?_⟩) hHeld ?_ ?_
              rotate_left
              ·
               rintro w' ⟨s0,s1,s2,s3,s4,s5,s6,s7,s8,s9⟩
               go_simp
               with_reducible rfl
              rotate_left
              ·
               simp only [Act.put,LS_,L0_,L1_,i64_w,i32_w]
               rfl
              refine pure_ (i := 4) (N := some 115) (v := ?_) (a' := ?_) m18_ rfl rfl (any_of HT_.out (by kernel_rfl)) (fun _ _ _ h => h) (Or.inl ⟨by rfl,?_⟩) ?_ ?_
              rotate_left
              ·
               intro w'
               go_simp
               with_reducible rfl
              rotate_left
              ·
               simp only [Act.put,LS_,L0_,L1_,i64_w,i32_w]
               rfl
              refine pure_ (i := 5) (N := some 116) (v := ?_) (a' := ?_) m19_ rfl rfl (any_of HT_.out (by kernel_rfl)) (fun _ _ _ h => h) (Or.inl ⟨by rfl,?_⟩) ?_ ?_
              rotate_left
              ·
               intro w'
               go_simp
               with_reducible rfl
              rotate_left
              ·
               simp only [Act.put,LS_,L0_,L1_,i64_w,i32_w]
               rfl
              refine pure_ (i := 6) (N := some 117) (v := ?_) (a' := ?_) m20_ rfl rfl (any_of HT_.out (by kernel_rfl)) (fun _ _ _ h => h) (Or.inl ⟨by rfl,?_⟩) ?_ ?_
              rotate_left
              ·
               intro w'
               go_simp
               with_reducible rfl
              rotate_left
              ·
               simp only [Act.put,LS_,L0_,L1_,i64_w,i32_w]
               rfl
              refine pure_ (i := 7) (N := some 118) (v := ?_) (a' := ?_) m21_ rfl rfl (any_of HT_.out (by kernel_rfl)) (fun _ _ _ h => h) (Or.inl ⟨by rfl,?_⟩) ?_ ?_
              rotate_left
              ·
               intro w'
               go_simp
               with_reducible rfl
              rotate_left
              ·
               simp only [Act.put,LS_,L0_,L1_,i64_w,i32_w]
               rfl
              refine pure_ (i := 8) (N := some 119) (v := ?_) (a' := ?_) m22_ rfl rfl (any_of HT_.out (by kernel_rfl)) (fun _ _ _ h => h) (Or.inl ⟨by rfl,?_⟩) ?_ ?_
              rotate_left
              ·
               intro w'
               go_simp
               with_reducible rfl
              rotate_left
              ·
               simp only [Act.put,LS_,L0_,L1_,i64_w,i32_w]
               rfl
              refine pure_ (i := 9) (N := some 120) (v := ?_) (a' := ?_) m23_ rfl rfl (any_of HT_.out (by kernel_rfl)) (fun _ _ _ h => h) (Or.inl ⟨by rfl,?_⟩) ?_ ?_
              rotate_left
              ·
               intro w'
               go_simp
               with_reducible rfl
              rotate_left
              ·
               simp only [Act.put,LS_,L0_,L1_,i64_w,i32_w]
               rfl
              refine take_ (i := 10) (N := some 121) (v := ?_) (a' := ?_) m24_ rfl rfl (take_ofW HT_.out HW_.out (by kernel_rfl)) (fun _ _ _ h => h) (Or.inl ⟨by rfl,?_⟩) hHeld ?_ ?_
              rotate_left
              ·
               rintro w' ⟨s0,s1,s2,s3,s4,s5,s6,s7,s8,s9⟩
               go_simp
               with_reducible rfl
              rotate_left
              ·
               simp only [Act.put,LS_,L0_,L1_,i64_w,i32_w]
               rfl
              refine pure_ (i := 11) (N := some 122) (v := ?_) (a' := ?_) m25_ rfl rfl (any_of HT_.out (by kernel_rfl)) (fun _ _ _ h => h) (Or.inl ⟨by rfl,?_⟩) ?_ ?_
              rotate_left
              ·
               intro w'
               go_simp
               with_reducible rfl
              rotate_left
              ·
               simp only [Act.put,LS_,L0_,L1_,i64_w,i32_w]
               rfl
              refine pure_ (i := 12) (N := some 123) (v := ?_) (a' := ?_) m26_ rfl rfl (any_of HT_.out (by kernel_rfl)) (fun _ _ _ h => h) (Or.inl ⟨by rfl,?_⟩) ?_ ?_
              rotate_left
              ·
               intro w'
               go_simp
               with_reducible rfl
              rotate_left
              ·
               simp only [Act.put,LS_,L0_,L1_,i64_w,i32_w]
               rfl
              refine pure_ (i := 13) (N := some 124) (v := ?_) (a' := ?_) m27_ rfl rfl (any_of HT_.out (by kernel_rfl)) (fun _ _ _ h => h) (Or.inl ⟨by rfl,?_⟩) ?_ ?_
              rotate_left
              ·
               intro w'
               go_simp
               with_reducible rfl
              rotate_left
              ·
               simp only [Act.put,LS_,L0_,L1_,i64_w,i32_w]
               rfl
              refine pure_ (i := 14) (N := some 125) (v := ?_) (a' := ?_) m28_ rfl rfl (any_of HT_.out (by kernel_rfl)) (fun _ _ _ h => h) (Or.inl ⟨by rfl,?_⟩) ?_ ?_
              rotate_left
              ·
               intro w'
               go_simp
               with_reducible rfl
              rotate_left
              ·
               simp only [Act.put,LS_,L0_,L1_,i64_w,i32_w]
               rfl
              refine pure_ (i := 15) (N := some 126) (v := ?_) (a' := ?_) m29_ rfl rfl (any_of HT_.out (by kernel_rfl)) (fun _ _ _ h => h) (Or.inl ⟨by rfl,?_⟩) ?_ ?_
              rotate_left
              ·
               intro w'
               go_simp
               with_reducible rfl
              rotate_left
              ·
               simp only [Act.put,LS_,L0_,L1_,i64_w,i32_w]
               rfl
              refine pure_ (i := 16) (N := some 127) (v := undef) (a' := ?_) m30_ rfl rfl (any_of HT_.out (by kernel_rfl)) (fun _ _ _ h => h) (Or.inr ⟨by rfl,rfl⟩) ?_ ?_
              rotate_left
              ·
               simp only [Act.put,LS_,L0_,L1_,i64_w,i32_w]
               rfl
              refine pure_ (i := 17) (N := some 128) (v := undef) (a' := ?_) m31_ rfl rfl (any_of HT_.out (by kernel_rfl)) (fun _ _ _ h => h) (Or.inr ⟨by rfl,rfl⟩) ?_ ?_
              rotate_left
              ·
               simp only [Act.put,LS_,L0_,L1_,i64_w,i32_w]
               rfl
              refine pure_ (i := 18) (N := some 129) (v := undef) (a' := ?_) m32_ rfl rfl (any_of HT_.out (by kernel_rfl)) (fun _ _ _ h => h) (Or.inr ⟨by rfl,rfl⟩) ?_ ?_
              rotate_left
              ·
               simp only [Act.put,LS_,L0_,L1_,i64_w,i32_w]
               rfl
              refine pure_ (i := 19) (N := some 130) (v := undef) (a' := ?_) m33_ rfl rfl (any_of HT_.out (by kernel_rfl)) (fun _ _ _ h => h) (Or.inr ⟨by rfl,rfl⟩) ?_ ?_
              rotate_left
              ·
               simp only [Act.put,LS_,L0_,L1_,i64_w,i32_w]
               rfl
              refine pure_ (i := 20) (N := some 131) (v := undef) (a' := ?_) m34_ rfl rfl (any_of HT_.out (by kernel_rfl)) (fun _ _ _ h => h) (Or.inr ⟨by rfl,rfl⟩) ?_ ?_
              rotate_left
              ·
               simp only [Act.put,LS_,L0_,L1_,i64_w,i32_w]
               rfl
              refine pure_ (i := 21) (N := some 132) (v := undef) (a' := ?_) m35_ rfl rfl (any_of HT_.out (by kernel_rfl)) (fun _ _ _ h => h) (Or.inr ⟨by rfl,rfl⟩) ?_ ?_
              rotate_left
              ·
               simp only [Act.put,LS_,L0_,L1_,i64_w,i32_w]
               rfl
              refine pure_ (i := 22) (N := some 133) (v := ?_) (a' := ?_) m36_ rfl rfl (any_of HT_.out (by kernel_rfl)) (fun _ _ _ h => h) (Or.inl ⟨by rfl,?_⟩) ?_ ?_
              rotate_left
              ·
               intro w'
               go_simp
               with_reducible rfl
              rotate_left
              ·
               simp only [Act.put,LS_,L0_,L1_,i64_w,i32_w]
               rfl
              refine pure_ (i := 23) (N := some 134) (v := ?_) (a' := ?_) m37_ rfl rfl (any_of HT_.out (by kernel_rfl)) (fun _ _ _ h => h) (Or.inl ⟨by rfl,?_⟩) ?_ ?_
              rotate_left
              ·
               intro w'
               go_simp
               with_reducible rfl
              rotate_left
              ·
               simp only [Act.put,LS_,L0_,L1_,i64_w,i32_w]
               rfl
              refine pure_ (i := 24) (N := some 135) (v := undef) (a' := ?_) m38_ rfl rfl (any_of HT_.out (by kernel_rfl)) (fun _ _ _ h => h) (Or.inr ⟨by rfl,rfl⟩) ?_ ?_
              rotate_left
              ·
               simp only [Act.put,LS_,L0_,L1_,i64_w,i32_w]
               rfl
              refine pure_ (i := 25) (N := some 136) (v := undef) (a' := ?_) m39_ rfl rfl (any_of HT_.out (by kernel_rfl)) (fun _ _ _ h => h) (Or.inr ⟨by rfl,rfl⟩) ?_ ?_
              rotate_left
              ·
               simp only [Act.put,LS_,L0_,L1_,i64_w,i32_w]
               rfl
              refine pure_ (i := 26) (N := some 137) (v := undef) (a' := ?_) m40_ rfl rfl (any_of HT_.out (by kernel_rfl)) (fun _ _ _ h => h) (Or.inr ⟨by rfl,rfl⟩) ?_ ?_
              rotate_left
              ·
               simp only [Act.put,LS_,L0_,L1_,i64_w,i32_w]
               rfl
              refine pure_ (i := 27) (N := some 138) (v := undef) (a' := ?_) m41_ rfl rfl (any_of HT_.out (by kernel_rfl)) (fun _ _ _ h => h) (Or.inr ⟨by rfl,rfl⟩) ?_ ?_
              rotate_left
              ·
               simp only [Act.put,LS_,L0_,L1_,i64_w,i32_w]
               rfl
              refine pure_ (i := 28) (N := some 139) (v := undef) (a' := ?_) m42_ rfl rfl (any_of HT_.out (by kernel_rfl)) (fun _ _ _ h => h) (Or.inr ⟨by rfl,rfl⟩) ?_ ?_
              rotate_left
              ·
               simp only [Act.put,LS_,L0_,L1_,i64_w,i32_w]
               rfl
              refine pure_ (i := 29) (N := some 140) (v := undef) (a' := ?_) m43_ rfl rfl (any_of HT_.out (by kernel_rfl)) (fun _ _ _ h => h) (Or.inr ⟨by rfl,rfl⟩) ?_ ?_
              rotate_left
              ·
               simp only [Act.put,LS_,L0_,L1_,i64_w,i32_w]
               rfl
              refine pure_ (i := 30) (N := some 141) (v := undef) (a' := ?_) m44_ rfl rfl (any_of HT_.out (by kernel_rfl)) (fun _ _ _ h => h) (Or.inr ⟨by rfl,rfl⟩) ?_ ?_
              rotate_left
              ·
               simp only [Act.put,LS_,L0_,L1_,i64_w,i32_w]
               rfl
              refine pure_ (i := 31) (N := some 142) (v := ?_) (a' := ?_) m45_ rfl rfl (any_of HT_.out (by kernel_rfl)) (fun _ _ _ h => h) (Or.inl ⟨by rfl,?_⟩) ?_ ?_
              rotate_left
              ·
               intro w'
               go_simp
               with_reducible rfl
              rotate_left
              ·
               simp only [Act.put,LS_,L0_,L1_,i64_w,i32_w]
               rfl
              refine pure_ (i := 32) (N := some 143) (v := ?_) (a' := ?_) m46_ rfl rfl (any_of HT_.out (by kernel_rfl)) (fun _ _ _ h => h) (Or.inl ⟨by rfl,?_⟩) ?_ ?_
              rotate_left
              ·
               intro w'
               go_simp
               with_reducible rfl
              rotate_left
              ·
               simp only [Act.put,LS_,L0_,L1_,i64_w,i32_w]
               rfl
              refine pure_ (i := 33) (N := some 144) (v := undef) (a' := ?_) m47_ rfl rfl (any_of HT_.out (by kernel_rfl)) (fun _ _ _ h => h) (Or.inr ⟨by rfl,rfl⟩) ?_ ?_
              rotate_left
              ·
               simp only [Act.put,LS_,L0_,L1_,i64_w,i32_w]
               rfl
              refine pure_ (i := 34) (N := some 145) (v := undef) (a' := ?_) m48_ rfl rfl (any_of HT_.out (by kernel_rfl)) (fun _ _ _ h => h) (Or.inr ⟨by rfl,rfl⟩) ?_ ?_
              rotate_left
              ·
               simp only [Act.put,LS_,L0_,L1_,i64_w,i32_w]
               rfl
              refine pure_ (i := 35) (N := some 146) (v := undef) (a' := ?_) m49_ rfl rfl (any_of HT_.out (by kernel_rfl)) (fun _ _ _ h => h) (Or.inr ⟨by rfl,rfl⟩) ?_ ?_
              rotate_left
              ·
               simp only [Act.put,LS_,L0_,L1_,i64_w,i32_w]
               rfl
              refine pure_ (i := 36) (N := some 147) (v := undef) (a' := ?_) m50_ rfl rfl (any_of HT_.out (by kernel_rfl)) (fun _ _ _ h => h) (Or.inr ⟨by rfl,rfl⟩) ?_ ?_
              rotate_left
              ·
               simp only [Act.put,LS_,L0_,L1_,i64_w,i32_w]
               rfl
              refine pure_ (i := 37) (N := some 148) (v := undef) (a' := ?_) m51_ rfl rfl (any_of HT_.out (by kernel_rfl)) (fun _ _ _ h => h) (Or.inr ⟨by rfl,rfl⟩) ?_ ?_
              rotate_left
              ·
               simp only [Act.put,LS_,L0_,L1_,i64_w,i32_w]
               rfl
              refine pure_ (i := 38) (N := some 149) (v := undef) (a' := ?_) m52_ rfl rfl (any_of HT_.out (by kernel_rfl)) (fun _ _ _ h => h) (Or.inr ⟨by rfl,rfl⟩) ?_ ?_
              rotate_left
              ·
               simp only [Act.put,LS_,L0_,L1_,i64_w,i32_w]
               rfl
              refine pure_ (i := 39) (N := some 150) (v := undef) (a' := ?_) m53_ rfl rfl (any_of HT_.out (by kernel_rfl)) (fun _ _ _ h => h) (Or.inr ⟨by rfl,rfl⟩) ?_ ?_
              rotate_left
              ·
               simp only [Act.put,LS_,L0_,L1_,i64_w,i32_w]
               rfl
              refine pure_ (i := 40) (N := some 151) (v := undef) (a' := ?_) m54_ rfl rfl (any_of HT_.out (by kernel_rfl)) (fun _ _ _ h => h) (Or.inr ⟨by rfl,rfl⟩) ?_ ?_
              rotate_left
              ·
               simp only [Act.put,LS_,L0_,L1_,i64_w,i32_w]
               rfl
              refine pure_ (i := 41) (N := some 152) (v := undef) (a' := ?_) m55_ rfl rfl (any_of HT_.out (by kernel_rfl)) (fun _ _ _ h => h) (Or.inr ⟨by rfl,rfl⟩) ?_ ?_
              rotate_left
              ·
               simp only [Act.put,LS_,L0_,L1_,i64_w,i32_w]
               rfl
              refine pure_ (i := 42) (N := some 153) (v := ?_) (a' := ?_) m56_ rfl rfl (any_of HT_.out (by kernel_rfl)) (fun _ _ _ h => h) (Or.inl ⟨by rfl,?_⟩) ?_ ?_
              rotate_left
              ·
               intro w'
               go_simp
               with_reducible rfl
              rotate_left
              ·
               simp only [Act.put,LS_,L0_,L1_,i64_w,i32_w]
               rfl
              refine done_ (done_of HT_.out (by kernel_rfl)) ?_
              try go_wp2
              go_meet
              case rel => exact ⟨_,(true),(by first | rfl | (simp;done) | (simp [*];done)),H',⟨by have := HK1.out;have := HJ6.out;have := HJ15.out;first | omega | exact Nat.le_refl _⟩,⟨by (with_reducible repeat (first | refine blk_drewN ?_ _ | refine blk_drew ?_ | refine blk_alloc ?_ _));exact K83.out⟩,⟨by (with_reducible repeat (first | refine blk_drewN ?_ _ | refine blk_drew ?_ | refine blk_alloc ?_ _));exact K84.out⟩,⟨by (with_reducible repeat (first | refine blk_drewN ?_ _ | refine blk_drew ?_ | refine blk_alloc ?_ _));exact K91.out⟩,⟨by repeat (first | (with_reducible first | exact HB.out | apply below_alloc | apply pw_below_drewN | apply below_drew1 | refine below_set ?_ GE183.out | refine below_set ?_ GE184.out | refine below_set ?_ GE191.out) | exact HB.out)⟩⟩
            ·
             rw [if_neg c112] at H
             have c112b0 : decide ((wrap64 (t186 - x185000_1)) < (wrap64 ((wrap64 (-a0_3)) - 1))) = false := decide_eq_false c112
             clear c112
             by_cases c114 : (wrap64 (t187 - x185001_1)) > (wrap64 (a0_3 + 1))
             ·
              as_aux_lemma =>
               rw [if_pos c114] at H
               have c114b0 : decide ((wrap64 (a0_3 + 1)) < (wrap64 (t187 - x185001_1))) = true := decide_eq_true c114
               clear c114
               have H' := Aside0.mk H
               clear H
               try go_wp2
               have n0_ := Aside0.mk (blk_drew K83.out)
               have n1_ := Aside0.mk (blk_drew K84.out)
               have n2_ := Aside0.mk (blk_drew K91.out)
               have n3_ := Aside0.mk (below_drew1 HB.out)
               clear K83
               clear K84
               clear K91
               clear HB
               have K83 := n0_
               have K84 := n1_
               have K91 := n2_
               have HB := n3_
               clear n0_ n1_ n2_ n3_
               refine start_ (n := 43) (S := fun w' => w'.cell? ⟨gb183,0,none⟩ = some (.int .i64 a0_0) ∧ w'.cell? ⟨gb183,1,none⟩ = some (.int .i64 a0_1) ∧ w'.cell? ⟨gb183,2,none⟩ = some (.int .i64 a0_2) ∧ w'.cell? ⟨gb183,3,none⟩ = some (.int .i64 a0_3) ∧ w'.cell? ⟨gb183,4,none⟩ = some (.int .i64 a0_4) ∧ w'.cell? ⟨gb183,5,none⟩ = some (.int .i64 a0_5) ∧ w'.cell? ⟨gb183,6,none⟩ = some (.int .i64 a0_6) ∧ w'.cell? ⟨gb183,7,none⟩ = some (.int .i64 a0_7) ∧ w'.cell? ⟨gb183,8,none⟩ = some (.int .i64 a0_8) ∧ w'.cell? ⟨gb183,9,none⟩ = some (.int .i64 a0_9)) (ds := []) m13_ (by kernel_rfl) rfl rfl ⟨(blk_cell K83.out 0).trans rfl,(blk_cell K83.out 1).trans rfl,(blk_cell K83.out 2).trans rfl,(blk_cell K83.out 3).trans rfl,(blk_cell K83.out 4).trans rfl,(blk_cell K83.out 5).trans rfl,(blk_cell K83.out 6).trans rfl,(blk_cell K83.out 7).trans rfl,(blk_cell K83.out 8).trans rfl,(blk_cell K83.out 9).trans rfl⟩ (fun hHeld => ?_);refine with_tabW DSt.tab11 DSt.bits11 (fun HT_ HW_ => ?_)
               generalize wc.drew = w115 at K83 K84 K91 HB hHeld ⊢
               refine pure_ (i := 0) (N := some 111) (v := ?_) (a' := ?_) m14_ rfl rfl (any_of HT_.out (by kernel_rfl)) (fun _ _ _ h => h) (Or.inl ⟨by rfl,?_⟩) ?_ ?_
               rotate_left
               ·
                intro w'
                go_simp
                with_reducible rfl
               rotate_left
               ·
                simp only [Act.put,LS_,L0_,L1_,i64_w,i32_w]
                rfl
               refine pure_ (i := 1) (N := some 112) (v := ?_) (a' := ?_) m15_ rfl rfl (any_of HT_.out (by kernel_rfl)) (fun _ _ _ h => h) (Or.inl ⟨by rfl,?_⟩) ?_ ?_
               rotate_left
               ·
                intro w'
                go_simp
                with_reducible rfl
               rotate_left
               ·
                simp only [Act.put,LS_,L0_,L1_,i64_w,i32_w]
                rfl
               refine pure_ (i := 2) (N := some 113) (v := ?_) (a' := ?_) m16_ rfl rfl (any_of HT_.out (by kernel_rfl)) (fun _ _ _ h => h) (Or.inl ⟨by rfl,?_⟩) ?_ ?_
               rotate_left
               ·
                intro w'
                go_simp
                with_reducible rfl
               rotate_left
               ·
                simp only [Act.put,LS_,L0_,L1_,i64_w,i32_w]
                rfl
               refine take_ (i := 3) (N := some 114) (v := ?_) (a' := ?_) m17_ rfl rfl (take_ofW HT_.out HW_.out (by kernel_rfl)) (fun _ _ _ h => h) (Or.inl ⟨by rfl,?_⟩) hHeld ?_ ?_
               rotate_left
               ·
                rintro w' ⟨s0,s1,s2,s3,s4,s5,s6,s7,s8,s9⟩
                go_simp
                with_reducible rfl
               rotate_left
               ·
                simp only [Act.put,LS_,L0_,L1_,i64_w,i32_w]
                rfl
               refine pure_ (i := 4) (N := some 115) (v := ?_) (a' := ?_) m18_ rfl rfl (any_of HT_.out (by kernel_rfl)) (fun _ _ _ h => h) (Or.inl ⟨by rfl,?_⟩) ?_ ?_
               rotate_left
               ·
                intro w'
                go_simp
                with_reducible rfl
               rotate_left
               ·
                simp only [Act.put,LS_,L0_,L1_,i64_w,i32_w]
                rfl
               refine pure_ (i := 5) (N := some 116) (v := ?_) (a' := ?_) m19_ rfl rfl (any_of HT_.out (by kernel_rfl)) (fun _ _ _ h => h) (Or.inl ⟨by rfl,?_⟩) ?_ ?_
               rotate_left
               ·
                intro w'
                go_simp
                with_reducible rfl
               rotate_left
               ·
                simp only [Act.put,LS_,L0_,L1_,i64_w,i32_w]
                rfl
               refine pure_ (i := 6) (N := some 117) (v := ?_) (a' := ?_) m20_ rfl rfl (any_of HT_.out (by kernel_rfl)) (fun _ _ _ h => h) (Or.inl ⟨by rfl,?_⟩) ?_ ?_
               rotate_left
               ·
                intro w'
                go_simp
                with_reducible rfl
               rotate_left
               ·
                simp only [Act.put,LS_,L0_,L1_,i64_w,i32_w]
                rfl
               refine pure_ (i := 7) (N := some 118) (v := ?_) (a' := ?_) m21_ rfl rfl (any_of HT_.out (by kernel_rfl)) (fun _ _ _ h => h) (Or.inl ⟨by rfl,?_⟩) ?_ ?_
               rotate_left
               ·
                intro w'
                go_simp
                with_reducible rfl
               rotate_left
               ·
                simp only [Act.put,LS_,L0_,L1_,i64_w,i32_w]
                rfl
               refine pure_ (i := 8) (N := some 119) (v := ?_) (a' := ?_) m22_ rfl rfl (any_of HT_.out (by kernel_rfl)) (fun _ _ _ h => h) (Or.inl ⟨by rfl,?_⟩) ?_ ?_
               rotate_left
               ·
                intro w'
                go_simp
                with_reducible rfl
               rotate_left
               ·
                simp only [Act.put,LS_,L0_,L1_,i64_w,i32_w]
                rfl
               refine pure_ (i := 9) (N := some 120) (v := ?_) (a' := ?_) m23_ rfl rfl (any_of HT_.out (by kernel_rfl)) (fun _ _ _ h => h) (Or.inl ⟨by rfl,?_⟩) ?_ ?_
               rotate_left
               ·
                intro w'
                go_simp
                with_reducible rfl
               rotate_left
               ·
                simp only [Act.put,LS_,L0_,L1_,i64_w,i32_w]
                rfl
               refine take_ (i := 10) (N := some 121) (v := ?_) (a' := ?_) m24_ rfl rfl (take_ofW HT_.out HW_.out (by kernel_rfl)) (fun _ _ _ h => h) (Or.inl ⟨by rfl,?_⟩) hHeld ?_ ?_
               rotate_left
               ·
                rintro w' ⟨s0,s1,s2,s3,s4,s5,s6,s7,s8,s9⟩
                go_simp
                with_reducible rfl
               rotate_left
               ·
                simp only [Act.put,LS_,L0_,L1_,i64_w,i32_w]
                rfl
               refine pure_ (i := 11) (N := some 122) (v := ?_) (a' := ?_) m25_ rfl rfl (any_of HT_.out (by kernel_rfl)) (fun _ _ _ h => h) (Or.inl ⟨by rfl,?_⟩) ?_ ?_
               rotate_left
               ·
                intro w'
                go_simp
                with_reducible rfl
               rotate_left
               ·
                simp only [Act.put,LS_,L0_,L1_,i64_w,i32_w]
                rfl
               refine pure_ (i := 12) (N := some 123) (v := ?_) (a' := ?_) m26_ rfl rfl (any_of HT_.out (by kernel_rfl)) (fun _ _ _ h => h) (Or.inl ⟨by rfl,?_⟩) ?_ ?_
               rotate_left
               ·
                intro w'
                go_simp
                with_reducible rfl
               rotate_left
               ·
                simp only [Act.put,LS_,L0_,L1_,i64_w,i32_w]
                rfl
               refine pure_ (i := 13) (N := some 124) (v := ?_) (a' := ?_) m27_ rfl rfl (any_of HT_.out (by kernel_rfl)) (fun _ _ _ h => h) (Or.inl ⟨by rfl,?_⟩) ?_ ?_
               rotate_left
               ·
                intro w'
                go_simp
                with_reducible rfl
               rotate_left
               ·
                simp only [Act.put,LS_,L0_,L1_,i64_w,i32_w]
                rfl
               refine pure_ (i := 14) (N := some 125) (v := ?_) (a' := ?_) m28_ rfl rfl (any_of HT_.out (by kernel_rfl)) (fun _ _ _ h => h) (Or.inl ⟨by rfl,?_⟩) ?_ ?_
               rotate_left
               ·
                intro w'
                go_simp
                with_reducible rfl
               rotate_left
               ·
                simp only [Act.put,LS_,L0_,L1_,i64_w,i32_w]
                rfl
               refine pure_ (i := 15) (N := some 126) (v := ?_) (a' := ?_) m29_ rfl rfl (any_of HT_.out (by kernel_rfl)) (fun _ _ _ h => h) (Or.inl ⟨by rfl,?_⟩) ?_ ?_
               rotate_left
               ·
                intro w'
                go_simp
                with_reducible rfl
               rotate_left
               ·
                simp only [Act.put,LS_,L0_,L1_,i64_w,i32_w]
                rfl
               refine pure_ (i := 16) (N := some 127) (v := ?_) (a' := ?_) m30_ rfl rfl (any_of HT_.out (by kernel_rfl)) (fun _ _ _ h => h) (Or.inl ⟨by rfl,?_⟩) ?_ ?_
               rotate_left
               ·
                intro w'
                go_simp
                with_reducible rfl
               rotate_left
               ·
                simp only [Act.put,LS_,L0_,L1_,i64_w,i32_w]
                rfl
               refine pure_ (i := 17) (N := some 128) (v := ?_) (a' := ?_) m31_ rfl rfl (any_of HT_.out (by kernel_rfl)) (fun _ _ _ h => h) (Or.inl ⟨by rfl,?_⟩) ?_ ?_
               rotate_left
               ·
                intro w'
                go_simp
                with_reducible rfl
               rotate_left
               ·
                simp only [Act.put,LS_,L0_,L1_,i64_w,i32_w]
                rfl
               refine pure_ (i := 18) (N := some 129) (v := ?_) (a' := ?_) m32_ rfl rfl (any_of HT_.out (by kernel_rfl)) (fun _ _ _ h => h) (Or.inl ⟨by rfl,?_⟩) ?_ ?_
               rotate_left
               ·
                intro w'
                go_simp
                with_reducible rfl
               rotate_left
               ·
                simp only [Act.put,LS_,L0_,L1_,i64_w,i32_w]
                rfl
               refine take_ (i := 19) (N := some 130) (v := ?_) (a' := ?_) m33_ rfl rfl (take_ofW HT_.out HW_.out (by kernel_rfl)) (fun _ _ _ h => h) (Or.inl ⟨by rfl,?_⟩) hHeld ?_ ?_
               rotate_left
               ·
                rintro w' ⟨s0,s1,s2,s3,s4,s5,s6,s7,s8,s9⟩
                go_simp
                with_reducible rfl
               rotate_left
               ·
                simp only [Act.put,LS_,L0_,L1_,i64_w,i32_w]
                rfl
               refine pure_ (i := 20) (N := some 131) (v := ?_) (a' := ?_) m34_ rfl rfl (any_of HT_.out (by kernel_rfl)) (fun _ _ _ h => h) (Or.inl ⟨by rfl,?_⟩) ?_ ?_
               rotate_left
               ·
                intro w'
                go_simp
                with_reducible rfl
               rotate_left
               ·
                simp only [Act.put,LS_,L0_,L1_,i64_w,i32_w]
                rfl
               refine pure_ (i := 21) (N := some 132) (v := ?_) (a' := ?_) m35_ rfl rfl (any_of HT_.out (by kernel_rfl)) (fun _ _ _ h => h) (Or.inl ⟨by rfl,?_⟩) ?_ ?_
               rotate_left
               ·
                intro w'
                go_simp
                with_reducible rfl
               rotate_left
               ·
                simp only [Act.put,LS_,L0_,L1_,i64_w,i32_w]
                rfl
               refine pure_ (i := 22) (N := some 133) (v := ?_) (a' := ?_) m36_ rfl rfl (any_of HT_.out (by kernel_rfl)) (fun _ _ _ h => h) (Or.inl ⟨by rfl,?_⟩) ?_ ?_
               rotate_left
               ·
                intro w'
                go_simp
                with_reducible rfl
               rotate_left
               ·
                simp only [Act.put,LS_,L0_,L1_,i64_w,i32_w]
                rfl
               refine pure_ (i := 23) (N := some 134) (v := ?_) (a' := ?_) m37_ rfl rfl (any_of HT_.out (by kernel_rfl)) (fun _ _ _ h => h) (Or.inl ⟨by rfl,?_⟩) ?_ ?_
               rotate_left
               ·
                intro w'
                go_simp
                with_reducible rfl
               rotate_left
               ·
                simp only [Act.put,LS_,L0_,L1_,i64_w,i32_w]
                rfl
               refine pure_ (i := 24) (N := some 135) (v := undef) (a' := ?_) m38_ rfl rfl (any_of HT_.out (by kernel_rfl)) (fun _ _ _ h => h) (Or.inr ⟨by rfl,rfl⟩) ?_ ?_
               rotate_left
               ·
                simp only [Act.put,LS_,L0_,L1_,i64_w,i32_w]
                rfl
               refine pure_ (i := 25) (N := some 136) (v := undef) (a' := ?_) m39_ rfl rfl (any_of HT_.out (by kernel_rfl)) (fun _ _ _ h => h) (Or.inr ⟨by rfl,rfl⟩) ?_ ?_
               rotate_left
               ·
                simp only [Act.put,LS_,L0_,L1_,i64_w,i32_w]
                rfl
               refine pure_ (i := 26) (N := some 137) (v := undef) (a' := ?_) m40_ rfl rfl (any_of HT_.out (by kernel_rfl)) (fun _ _ _ h => h) (Or.inr ⟨by rfl,rfl⟩) ?_ ?_
               rotate_left
               ·
                simp only [Act.put,LS_,L0_,L1_,i64_w,i32_w]
                rfl
               refine pure_ (i := 27) (N := some 138) (v := undef) (a' := ?_) m41_ rfl rfl (any_of HT_.out (by kernel_rfl)) (fun _ _ _ h => h) (Or.inr ⟨by rfl,rfl⟩) ?_ ?_
               rotate_left
               ·
                simp only [Act.put,LS_,L0_,L1_,i64_w,i32_w]
                rfl
               refine pure_ (i := 28) (N := some 139) (v := undef) (a' := ?_) m42_ rfl rfl (any_of HT_.out (by kernel_rfl)) (fun _ _ _ h => h) (Or.inr ⟨by rfl,rfl⟩) ?_ ?_
               rotate_left
               ·
                simp only [Act.put,LS_,L0_,L1_,i64_w,i32_w]
                rfl
               refine pure_ (i := 29) (N := some 140) (v := undef) (a' := ?_) m43_ rfl rfl (any_of HT_.out (by kernel_rfl)) (fun _ _ _ h => h) (Or.inr ⟨by rfl,rfl⟩) ?_ ?_
               rotate_left
               ·
                simp only [Act.put,LS_,L0_,L1_,i64_w,i32_w]
                rfl
               refine pure_ (i := 30) (N := some 141) (v := undef) (a' := ?_) m44_ rfl rfl (any_of HT_.out (by kernel_rfl)) (fun _ _ _ h => h) (Or.inr ⟨by rfl,rfl⟩) ?_ ?_
               rotate_left
               ·
                simp only [Act.put,LS_,L0_,L1_,i64_w,i32_w]
                rfl
               refine pure_ (i := 31) (N := some 142) (v := ?_) (a' := ?_) m45_ rfl rfl (any_of HT_.out (by kernel_rfl)) (fun _ _ _ h => h) (Or.inl ⟨by rfl,?_⟩) ?_ ?_
               rotate_left
               ·
                intro w'
                go_simp
                with_reducible rfl
               rotate_left
               ·
                simp only [Act.put,LS_,L0_,L1_,i64_w,i32_w]
                rfl
               refine pure_ (i := 32) (N := some 143) (v := ?_) (a' := ?_) m46_ rfl rfl (any_of HT_.out (by kernel_rfl)) (fun _ _ _ h => h) (Or.inl ⟨by rfl,?_⟩) ?_ ?_
               rotate_left
               ·
                intro w'
                go_simp
                with_reducible rfl
               rotate_left
               ·
                simp only [Act.put,LS_,L0_,L1_,i64_w,i32_w]
                rfl
               refine pure_ (i := 33) (N := some 144) (v := undef) (a' := ?_) m47_ rfl rfl (any_of HT_.out (by kernel_rfl)) (fun _ _ _ h => h) (Or.inr ⟨by rfl,rfl⟩) ?_ ?_
               rotate_left
               ·
                simp only [Act.put,LS_,L0_,L1_,i64_w,i32_w]
                rfl
               refine pure_ (i := 34) (N := some 145) (v := undef) (a' := ?_) m48_ rfl rfl (any_of HT_.out (by kernel_rfl)) (fun _ _ _ h => h) (Or.inr ⟨by rfl,rfl⟩) ?_ ?_
               rotate_left
               ·
                simp only [Act.put,LS_,L0_,L1_,i64_w,i32_w]
                rfl
               refine pure_ (i := 35) (N := some 146) (v := undef) (a' := ?_) m49_ rfl rfl (any_of HT_.out (by kernel_rfl)) (fun _ _ _ h => h) (Or.inr ⟨by rfl,rfl⟩) ?_ ?_
               rotate_left
               ·
                simp only [Act.put,LS_,L0_,L1_,i64_w,i32_w]
                rfl
               refine pure_ (i := 36) (N := some 147) (v := undef) (a' := ?_) m50_ rfl rfl (any_of HT_.out (by kernel_rfl)) (fun _ _ _ h => h) (Or.inr ⟨by rfl,rfl⟩) ?_ ?_
               rotate_left
               ·
                simp only [Act.put,LS_,L0_,L1_,i64_w,i32_w]
                rfl
               refine pure_ (i := 37) (N := some 148) (v := undef) (a' := ?_) m51_ rfl rfl (any_of HT_.out (by kernel_rfl)) (fun _ _ _ h => h) (Or.inr ⟨by rfl,rfl⟩) ?_ ?_
               rotate_left
               ·
                simp only [Act.put,LS_,L0_,L1_,i64_w,i32_w]
                rfl
               refine pure_ (i := 38) (N := some 149) (v := undef) (a' := ?_) m52_ rfl rfl (any_of HT_.out (by kernel_rfl)) (fun _ _ _ h => h) (Or.inr ⟨by rfl,rfl⟩) ?_ ?_
               rotate_left
               ·
                simp only [Act.put,LS_,L0_,L1_,i64_w,i32_w]
                rfl
               refine pure_ (i := 39) (N := some 150) (v := undef) (a' := ?_) m53_ rfl rfl (any_of HT_.out (by kernel_rfl)) (fun _ _ _ h => h) (Or.inr ⟨by rfl,rfl⟩) ?_ ?_
               rotate_left
               ·
                simp only [Act.put,LS_,L0_,L1_,i64_w,i32_w]
                rfl
               refine pure_ (i := 40) (N := some 151) (v := undef) (a' := ?_) m54_ rfl rfl (any_of HT_.out (by kernel_rfl)) (fun _ _ _ h => h) (Or.inr ⟨by rfl,rfl⟩) ?_ ?_
               rotate_left
               ·
                simp only [Act.put,LS_,L0_,L1_,i64_w,i32_w]
                rfl
               refine pure_ (i := 41) (N := some 152) (v := undef) (a' := ?_) m55_ rfl rfl (any_of HT_.out (by kernel_rfl)) (fun _ _ _ h => h) (Or.inr ⟨by rfl,rfl⟩) ?_ ?_
               rotate_left
               ·
                simp only [Act.put,LS_,L0_,L1_,i64_w,i32_w]
                rfl
               refine pure_ (i := 42) (N := some 153) (v := ?_) (a' := ?_) m56_ rfl rfl (any_of HT_.out (by kernel_rfl)) (fun _ _ _ h => h) (Or.inl ⟨by rfl,?_⟩) ?_ ?_
               rotate_left
               ·
                intro w'
                go_simp
                with_reducible rfl
               rotate_left
               ·
                simp only [Act.put,LS_,L0_,L1_,i64_w,i32_w]
                rfl
               refine done_ (done_of HT_.out (by kernel_rfl)) ?_
               try go_wp2
               go_meet
               case rel => exact ⟨_,(true),(by first | rfl | (simp;done) | (simp [*];done)),H',⟨by have := HK1.out;have := HJ6.out;have := HJ15.out;first | omega | exact Nat.le_refl _⟩,⟨by (with_reducible repeat (first | refine blk_drewN ?_ _ | refine blk_drew ?_ | refine blk_alloc ?_ _));exact K83.out⟩,⟨by (with_reducible repeat (first | refine blk_drewN ?_ _ | refine blk_drew ?_ | refine blk_alloc ?_ _));exact K84.out⟩,⟨by (with_reducible repeat (first | refine blk_drewN ?_ _ | refine blk_drew ?_ | refine blk_alloc ?_ _));exact K91.out⟩,⟨by repeat (first | (with_reducible first | exact HB.out | apply below_alloc | apply pw_below_drewN | apply below_drew1 | refine below_set ?_ GE183.out | refine below_set ?_ GE184.out | refine below_set ?_ GE191.out) | exact HB.out)⟩⟩
             ·
              rw [if_neg c114] at H
              have c114b0 : decide ((wrap64 (a0_3 + 1)) < (wrap64 (t187 - x185001_1))) = false := decide_eq_false c114
              clear c114
              by_cases c116 : (wrap64 (t187 - x185001_1)) < (wrap64 ((wrap64 (-a0_3)) - 1))
              ·
               as_aux_lemma =>
                rw [if_pos c116] at H
                have c116b0 : decide ((wrap64 (t187 - x185001_1)) < (wrap64 ((wrap64 (-a0_3)) - 1))) = true := decide_eq_true c116
                clear c116
                have H' := Aside0.mk H
                clear H
                try go_wp2
                have n0_ := Aside0.mk (blk_drew K83.out)
                have n1_ := Aside0.mk (blk_drew K84.out)
                have n2_ := Aside0.mk (blk_drew K91.out)
                have n3_ := Aside0.mk (below_drew1 HB.out)
                clear K83
                clear K84
                clear K91
                clear HB
                have K83 := n0_
                have K84 := n1_
                have K91 := n2_
                have HB := n3_
                clear n0_ n1_ n2_ n3_
                refine start_ (n := 43) (S := fun w' => w'.cell? ⟨gb183,0,none⟩ = some (.int .i64 a0_0) ∧ w'.cell? ⟨gb183,1,none⟩ = some (.int .i64 a0_1) ∧ w'.cell? ⟨gb183,2,none⟩ = some (.int .i64 a0_2) ∧ w'.cell? ⟨gb183,3,none⟩ = some (.int .i64 a0_3) ∧ w'.cell? ⟨gb183,4,none⟩ = some (.int .i64 a0_4) ∧ w'.cell? ⟨gb183,5,none⟩ = some (.int .i64 a0_5) ∧ w'.cell? ⟨gb183,6,none⟩ = some (.int .i64 a0_6) ∧ w'.cell? ⟨gb183,7,none⟩ = some (.int .i64 a0_7) ∧ w'.cell? ⟨gb183,8,none⟩ = some (.int .i64 a0_8) ∧ w'.cell? ⟨gb183,9,none⟩ = some (.int .i64 a0_9)) (ds := []) m13_ (by kernel_rfl) rfl rfl ⟨(blk_cell K83.out 0).trans rfl,(blk_cell K83.out 1).trans rfl,(blk_cell K83.out 2).trans rfl,(blk_cell K83.out 3).trans rfl,(blk_cell K83.out 4).trans rfl,(blk_cell K83.out 5).trans rfl,(blk_cell K83.out 6).trans rfl,(blk_cell K83.out 7).trans rfl,(blk_cell K83.out 8).trans rfl,(blk_cell K83.out 9).trans rfl⟩ (fun hHeld => ?_);refine with_tabW DSt.tab11 DSt.bits11 (fun HT_ HW_ => ?_)
                generalize wc.drew = w117 at K83 K84 K91 HB hHeld ⊢
                refine pure_ (i := 0) (N := some 111) (v := ?_) (a' := ?_) m14_ rfl rfl (any_of HT_.out (by kernel_rfl)) (fun _ _ _ h => h) (Or.inl ⟨by rfl,?_⟩) ?_ ?_
                rotate_left
                ·
                 intro w'
                 go_simp
                 with_reducible rfl
                rotate_left
                ·
                 simp only [Act.put,LS_,L0_,L1_,i64_w,i32_w]
                 rfl
                refine pure_ (i := 1) (N := some 112) (v := ?_) (a' := ?_) m15_ rfl rfl (any_of HT_.out (by kernel_rfl)) (fun _ _ _ h => h) (Or.inl ⟨by rfl,?_⟩) ?_ ?_
                rotate_left
                ·
                 intro w'
                 go_simp
                 with_reducible rfl
                rotate_left
                ·
                 simp only [Act.put,LS_,L0_,L1_,i64_w,i32_w]
                 rfl
                refine pure_ (i := 2) (N := some 113) (v := ?_) (a' := ?_) m16_ rfl rfl (any_of HT_.out (by kernel_rfl)) (fun _ _ _ h => h) (Or.inl ⟨by rfl,?_⟩) ?_ ?_
                rotate_left
                ·
                 intro w'
                 go_simp
                 with_reducible rfl
                rotate_left
                ·
                 simp only [Act.put,LS_,L0_,L1_,i64_w,i32_w]
                 rfl
                refine take_ (i := 3) (N := some 114) (v := ?_) (a' := ?_) m17_ rfl rfl (take_ofW HT_.out HW_.out (by kernel_rfl)) (fun _ _ _ h => h) (Or.inl ⟨by rfl,?_⟩) hHeld ?_ ?_
                rotate_left
                ·
                 rintro w' ⟨s0,s1,s2,s3,s4,s5,s6,s7,s8,s9⟩
                 go_simp
                 with_reducible rfl
                rotate_left
                ·
                 simp only [Act.put,LS_,L0_,L1_,i64_w,i32_w]
                 rfl
                refine pure_ (i := 4) (N := some 115) (v := ?_) (a' := ?_) m18_ rfl rfl (any_of HT_.out (by kernel_rfl)) (fun _ _ _ h => h) (Or.inl ⟨by rfl,?_⟩) ?_ ?_
                rotate_left
                ·
                 intro w'
                 go_simp
                 with_reducible rfl
                rotate_left
                ·
                 simp only [Act.put,LS_,L0_,L1_,i64_w,i32_w]
                 rfl
                refine pure_ (i := 5) (N := some 116) (v := ?_) (a' := ?_) m19_ rfl rfl (any_of HT_.out (by kernel_rfl)) (fun _ _ _ h => h) (Or.inl ⟨by rfl,?_⟩) ?_ ?_
                rotate_left
                ·
                 intro w'
                 go_simp
                 with_reducible rfl
                rotate_left
                ·
                 simp only [Act.put,LS_,L0_,L1_,i64_w,i32_w]
                 rfl
                refine pure_ (i := 6) (N := some 117) (v := ?_) (a' := ?_) m20_ rfl rfl (any_of HT_.out (by kernel_rfl)) (fun _ _ _ h => h) (Or.inl ⟨by rfl,?_⟩) ?_ ?_
                rotate_left
                ·
                 intro w'
                 go_simp
                 with_reducible rfl
                rotate_left
                ·
                 simp only [Act.put,LS_,L0_,L1_,i64_w,i32_w]
                 rfl
                refine pure_ (i := 7) (N := some 118) (v := ?_) (a' := ?_) m21_ rfl rfl (any_of HT_.out (by kernel_rfl)) (fun _ _ _ h => h) (Or.inl ⟨by rfl,?_⟩) ?_ ?_
                rotate_left
                ·
                 intro w'
                 go_simp
                 with_reducible rfl
                rotate_left
                ·
                 simp only [Act.put,LS_,L0_,L1_,i64_w,i32_w]
                 rfl
                refine pure_ (i := 8) (N := some 119) (v := ?_) (a' := ?_) m22_ rfl rfl (any_of HT_.out (by kernel_rfl)) (fun _ _ _ h => h) (Or.inl ⟨by rfl,?_⟩) ?_ ?_
                rotate_left
                ·
                 intro w'
                 go_simp
                 with_reducible rfl
                rotate_left
                ·
                 simp only [Act.put,LS_,L0_,L1_,i64_w,i32_w]
                 rfl
                refine pure_ (i := 9) (N := some 120) (v := ?_) (a' := ?_) m23_ rfl rfl (any_of HT_.out (by kernel_rfl)) (fun _ _ _ h => h) (Or.inl ⟨by rfl,?_⟩) ?_ ?_
                rotate_left
                ·
                 intro w'
                 go_simp
                 with_reducible rfl
                rotate_left
                ·
                 simp only [Act.put,LS_,L0_,L1_,i64_w,i32_w]
                 rfl
                refine take_ (i := 10) (N := some 121) (v := ?_) (a' := ?_) m24_ rfl rfl (take_ofW HT_.out HW_.out (by kernel_rfl)) (fun _ _ _ h => h) (Or.inl ⟨by rfl,?_⟩) hHeld ?_ ?_
                rotate_left
                ·
                 rintro w' ⟨s0,s1,s2,s3,s4,s5,s6,s7,s8,s9⟩
                 go_simp
                 with_reducible rfl
                rotate_left
                ·
                 simp only [Act.put,LS_,L0_,L1_,i64_w,i32_w]
                 rfl
                refine pure_ (i := 11) (N := some 122) (v := ?_) (a' := ?_) m25_ rfl rfl (any_of HT_.out (by kernel_rfl)) (fun _ _ _ h => h) (Or.inl ⟨by rfl,?_⟩) ?_ ?_
                rotate_left
                ·
                 intro w'
                 go_simp
                 with_reducible rfl
                rotate_left
                ·
                 simp only [Act.put,LS_,L0_,L1_,i64_w,i32_w]
                 rfl
                refine pure_ (i := 12) (N := some 123) (v := ?_) (a' := ?_) m26_ rfl rfl (any_of HT_.out (by kernel_rfl)) (fun _ _ _ h => h) (Or.inl ⟨by rfl,?_⟩) ?_ ?_
                rotate_left
                ·
                 intro w'
                 go_simp
                 with_reducible rfl
                rotate_left
                ·
                 simp only [Act.put,LS_,L0_,L1_,i64_w,i32_w]
                 rfl
                refine pure_ (i := 13) (N := some 124) (v := ?_) (a' := ?_) m27_ rfl rfl (any_of HT_.out (by kernel_rfl)) (fun _ _ _ h => h) (Or.inl ⟨by rfl,?_⟩) ?_ ?_
                rotate_left
                ·
                 intro w'
                 go_simp
                 with_reducible rfl
                rotate_left
                ·
                 simp only [Act.put,LS_,L0_,L1_,i64_w,i32_w]
                 rfl
                refine pure_ (i := 14) (N := some 125) (v := ?_) (a' := ?_) m28_ rfl rfl (any_of HT_.out (by kernel_rfl)) (fun _ _ _ h => h) (Or.inl ⟨by rfl,?_⟩) ?_ ?_
                rotate_left
                ·
                 intro w'
                 go_simp
                 with_reducible rfl
                rotate_left
                ·
                 simp only [Act.put,LS_,L0_,L1_,i64_w,i32_w]
                 rfl
                refine pure_ (i := 15) (N := some 126) (v := ?_) (a' := ?_) m29_ rfl rfl (any_of HT_.out (by kernel_rfl)) (fun _ _ _ h => h) (Or.inl ⟨by rfl,?_⟩) ?_ ?_
                rotate_left
                ·
                 intro w'
                 go_simp
                 with_reducible rfl
                rotate_left
                ·
                 simp only [Act.put,LS_,L0_,L1_,i64_w,i32_w]
                 rfl
                refine pure_ (i := 16) (N := some 127) (v := ?_) (a' := ?_) m30_ rfl rfl (any_of HT_.out (by kernel_rfl)) (fun _ _ _ h => h) (Or.inl ⟨by rfl,?_⟩) ?_ ?_
                rotate_left
                ·
                 intro w'
                 go_simp
                 with_reducible rfl
                rotate_left
                ·
                 simp only [Act.put,LS_,L0_,L1_,i64_w,i32_w]
                 rfl
                refine pure_ (i := 17) (N := some 128) (v := ?_) (a' := ?_) m31_ rfl rfl (any_of HT_.out (by kernel_rfl)) (fun _ _ _ h => h) (Or.inl ⟨by rfl,?_⟩) ?_ ?_
                rotate_left
                ·
                 intro w'
                 go_simp
                 with_reducible rfl
                rotate_left
                ·
                 simp only [Act.put,LS_,L0_,L1_,i64_w,i32_w]
                 rfl
                refine pure_ (i := 18) (N := some 129) (v := ?_) (a' := ?_) m32_ rfl rfl (any_of HT_.out (by kernel_rfl)) (fun _ _ _ h => h) (Or.inl ⟨by rfl,?_⟩) ?_ ?_
                rotate_left
                ·
                 intro w'
                 go_simp
                 with_reducible rfl
                rotate_left
                ·
                 simp only [Act.put,LS_,L0_,L1_,i64_w,i32_w]
                 rfl
                refine take_ (i := 19) (N := some 130) (v := ?_) (a' := ?_) m33_ rfl rfl (take_ofW HT_.out HW_.out (by kernel_rfl)) (fun _ _ _ h => h) (Or.inl ⟨by rfl,?_⟩) hHeld ?_ ?_
                rotate_left
                ·
                 rintro w' ⟨s0,s1,s2,s3,s4,s5,s6,s7,s8,s9⟩
                 go_simp
                 with_reducible rfl
                rotate_left
                ·
                 simp only [Act.put,LS_,L0_,L1_,i64_w,i32_w]
                 rfl
                refine pure_ (i := 20) (N := some 131) (v := ?_) (a' := ?_) m34_ rfl rfl (any_of HT_.out (by kernel_rfl)) (fun _ _ _ h => h) (Or.inl ⟨by rfl,?_⟩) ?_ ?_
                rotate_left
                ·
                 intro w'
                 go_simp
                 with_reducible rfl
                rotate_left
                ·
                 simp only [Act.put,LS_,L0_,L1_,i64_w,i32_w]
                 rfl
                refine pure_ (i := 21) (N := some 132) (v := ?_) (a' := ?_) m35_ rfl rfl (any_of HT_.out (by kernel_rfl)) (fun _ _ _ h => h) (Or.inl ⟨by rfl,?_⟩) ?_ ?_
                rotate_left
                ·
                 intro w'
                 go_simp
                 with_reducible rfl
                rotate_left
                ·
                 simp only [Act.put,LS_,L0_,L1_,i64_w,i32_w]
                 rfl
                refine pure_ (i := 22) (N := some 133) (v := ?_) (a' := ?_) m36_ rfl rfl (any_of HT_.out (by kernel_rfl)) (fun _ _ _ h => h) (Or.inl ⟨by rfl,?_⟩) ?_ ?_
                rotate_left
                ·
                 intro w'
                 go_simp
                 with_reducible rfl
                rotate_left
                ·
                 simp only [Act.put,LS_,L0_,L1_,i64_w,i32_w]
                 rfl
                refine pure_ (i := 23) (N := some 134) (v := ?_) (a' := ?_) m37_ rfl rfl (any_of HT_.out (by kernel_rfl)) (fun _ _ _ h => h) (Or.inl ⟨by rfl,?_⟩) ?_ ?_
                rotate_left
                ·
                 intro w'
                 go_simp
                 with_reducible rfl
                rotate_left
                ·
                 simp only [Act.put,LS_,L0_,L1_,i64_w,i32_w]
                 rfl
                refine pure_ (i := 24) (N := some 135) (v := ?_) (a' := ?_) m38_ rfl rfl (any_of HT_.out (by kernel_rfl)) (fun _ _ _ h => h) (Or.inl ⟨by rfl,?_⟩) ?_ ?_
                rotate_left
                ·
                 intro w'
                 go_simp
                 with_reducible rfl
                rotate_left
                ·
                 simp only [Act.put,LS_,L0_,L1_,i64_w,i32_w]
                 rfl
                refine pure_ (i := 25) (N := some 136) (v := ?_) (a' := ?_) m39_ rfl rfl (any_of HT_.out (by kernel_rfl)) (fun _ _ _ h => h) (Or.inl ⟨by rfl,?_⟩) ?_ ?_
                rotate_left
                ·
                 intro w'
                 go_simp
                 with_reducible rfl
                rotate_left
                ·
                 simp only [Act.put,LS_,L0_,L1_,i64_w,i32_w]
                 rfl
                refine pure_ (i := 26) (N := some 137) (v := ?_) (a' := ?_) m40_ rfl rfl (any_of HT_.out (by kernel_rfl)) (fun _ _ _ h => h) (Or.inl ⟨by rfl,?_⟩) ?_ ?_
                rotate_left
                ·
                 intro w'
                 go_simp
                 with_reducible rfl
                rotate_left
                ·
                 simp only [Act.put,LS_,L0_,L1_,i64_w,i32_w]
                 rfl
                refine take_ (i := 27) (N := some 138) (v := ?_) (a' := ?_) m41_ rfl rfl (take_ofW HT_.out HW_.out (by kernel_rfl)) (fun _ _ _ h => h) (Or.inl ⟨by rfl,?_⟩) hHeld ?_ ?_
                rotate_left
                ·
                 rintro w' ⟨s0,s1,s2,s3,s4,s5,s6,s7,s8,s9⟩
                 go_simp
                 with_reducible rfl
                rotate_left
                ·
                 simp only [Act.put,LS_,L0_,L1_,i64_w,i32_w]
                 rfl
                refine pure_ (i := 28) (N := some 139) (v := ?_) (a' := ?_) m42_ rfl rfl (any_of HT_.out (by kernel_rfl)) (fun _ _ _ h => h) (Or.inl ⟨by rfl,?_⟩) ?_ ?_
                rotate_left
                ·
                 intro w'
                 go_simp
                 with_reducible rfl
                rotate_left
                ·
                 simp only [Act.put,LS_,L0_,L1_,i64_w,i32_w]
                 rfl
                refine pure_ (i := 29) (N := some 140) (v := ?_) (a' := ?_) m43_ rfl rfl (any_of HT_.out (by kernel_rfl)) (fun _ _ _ h => h) (Or.inl ⟨by rfl,?_⟩) ?_ ?_
                rotate_left
                ·
                 intro w'
                 go_simp
                 with_reducible rfl
                rotate_left
                ·
                 simp only [Act.put,LS_,L0_,L1_,i64_w,i32_w]
                 rfl
                refine pure_ (i := 30) (N := some 141) (v := ?_) (a' := ?_) m44_ rfl rfl (any_of HT_.out (by kernel_rfl)) (fun _ _ _ h => h) (Or.inl ⟨by rfl,?_⟩) ?_ ?_
                rotate_left
                ·
                 intro w'
                 go_simp
                 with_reducible rfl
                rotate_left
                ·
                 simp only [Act.put,LS_,L0_,L1_,i64_w,i32_w]
                 rfl
                refine pure_ (i := 31) (N := some 142) (v := ?_) (a' := ?_) m45_ rfl rfl (any_of HT_.out (by kernel_rfl)) (fun _ _ _ h => h) (Or.inl ⟨by rfl,?_⟩) ?_ ?_
                rotate_left
                ·
                 intro w'
                 go_simp
                 with_reducible rfl
                rotate_left
                ·
                 simp only [Act.put,LS_,L0_,L1_,i64_w,i32_w]
                 rfl
                refine pure_ (i := 32) (N := some 143) (v := ?_) (a' := ?_) m46_ rfl rfl (any_of HT_.out (by kernel_rfl)) (fun _ _ _ h => h) (Or.inl ⟨by rfl,?_⟩) ?_ ?_
                rotate_left
                ·
                 intro w'
                 go_simp
                 with_reducible rfl
                rotate_left
                ·
                 simp only [Act.put,LS_,L0_,L1_,i64_w,i32_w]
                 rfl
                refine pure_ (i := 33) (N := some 144) (v := undef) (a' := ?_) m47_ rfl rfl (any_of HT_.out (by kernel_rfl)) (fun _ _ _ h => h) (Or.inr ⟨by rfl,rfl⟩) ?_ ?_
                rotate_left
                ·
                 simp only [Act.put,LS_,L0_,L1_,i64_w,i32_w]
                 rfl
                refine pure_ (i := 34) (N := some 145) (v := undef) (a' := ?_) m48_ rfl rfl (any_of HT_.out (by kernel_rfl)) (fun _ _ _ h => h) (Or.inr ⟨by rfl,rfl⟩) ?_ ?_
                rotate_left
                ·
                 simp only [Act.put,LS_,L0_,L1_,i64_w,i32_w]
                 rfl
                refine pure_ (i := 35) (N := some 146) (v := undef) (a' := ?_) m49_ rfl rfl (any_of HT_.out (by kernel_rfl)) (fun _ _ _ h => h) (Or.inr ⟨by rfl,rfl⟩) ?_ ?_
                rotate_left
                ·
                 simp only [Act.put,LS_,L0_,L1_,i64_w,i32_w]
                 rfl
                refine pure_ (i := 36) (N := some 147) (v := undef) (a' := ?_) m50_ rfl rfl (any_of HT_.out (by kernel_rfl)) (fun _ _ _ h => h) (Or.inr ⟨by rfl,rfl⟩) ?_ ?_
                rotate_left
                ·
                 simp only [Act.put,LS_,L0_,L1_,i64_w,i32_w]
                 rfl
                refine pure_ (i := 37) (N := some 148) (v := undef) (a' := ?_) m51_ rfl rfl (any_of HT_.out (by kernel_rfl)) (fun _ _ _ h => h) (Or.inr ⟨by rfl,rfl⟩) ?_ ?_
                rotate_left
                ·
                 simp only [Act.put,LS_,L0_,L1_,i64_w,i32_w]
                 rfl
                refine pure_ (i := 38) (N := some 149) (v := undef) (a' := ?_) m52_ rfl rfl (any_of HT_.out (by kernel_rfl)) (fun _ _ _ h => h) (Or.inr ⟨by rfl,rfl⟩) ?_ ?_
                rotate_left
                ·
                 simp only [Act.put,LS_,L0_,L1_,i64_w,i32_w]
                 rfl
                refine pure_ (i := 39) (N := some 150) (v := undef) (a' := ?_) m53_ rfl rfl (any_of HT_.out (by kernel_rfl)) (fun _ _ _ h => h) (Or.inr ⟨by rfl,rfl⟩) ?_ ?_
                rotate_left
                ·
                 simp only [Act.put,LS_,L0_,L1_,i64_w,i32_w]
                 rfl
                refine pure_ (i := 40) (N := some 151) (v := undef) (a' := ?_) m54_ rfl rfl (any_of HT_.out (by kernel_rfl)) (fun _ _ _ h => h) (Or.inr ⟨by rfl,rfl⟩) ?_ ?_
                rotate_left
                ·
                 simp only [Act.put,LS_,L0_,L1_,i64_w,i32_w]
                 rfl
                refine pure_ (i := 41) (N := some 152) (v := undef) (a' := ?_) m55_ rfl rfl (any_of HT_.out (by kernel_rfl)) (fun _ _ _ h => h) (Or.inr ⟨by rfl,rfl⟩) ?_ ?_
                rotate_left
                ·
                 simp only [Act.put,LS_,L0_,L1_,i64_w,i32_w]
                 rfl
                refine pure_ (i := 42) (N := some 153) (v := ?_) (a' := ?_) m56_ rfl rfl (any_of HT_.out (by kernel_rfl)) (fun _ _ _ h => h) (Or.inl ⟨by rfl,?_⟩) ?_ ?_
                rotate_left
                ·
                 intro w'
                 go_simp
                 with_reducible rfl
                rotate_left
                ·
                 simp only [Act.put,LS_,L0_,L1_,i64_w,i32_w]
                 rfl
                refine done_ (done_of HT_.out (by kernel_rfl)) ?_
                try go_wp2
                go_meet
                case rel => exact ⟨_,(true),(by first | rfl | (simp;done) | (simp [*];done)),H',⟨by have := HK1.out;have := HJ6.out;have := HJ15.out;first | omega | exact Nat.le_refl _⟩,⟨by (with_reducible repeat (first | refine blk_drewN ?_ _ | refine blk_drew ?_ | refine blk_alloc ?_ _));exact K83.out⟩,⟨by (with_reducible repeat (first | refine blk_drewN ?_ _ | refine blk_drew ?_ | refine blk_alloc ?_ _));exact K84.out⟩,⟨by (with_reducible repeat (first | refine blk_drewN ?_ _ | refine blk_drew ?_ | refine blk_alloc ?_ _));exact K91.out⟩,⟨by repeat (first | (with_reducible first | exact HB.out | apply below_alloc | apply pw_below_drewN | apply below_drew1 | refine below_set ?_ GE183.out | refine below_set ?_ GE184.out | refine below_set ?_ GE191.out) | exact HB.out)⟩⟩
              ·
               as_aux_lemma =>
                rw [if_neg c116] at H
                have c116b0 : decide ((wrap64 (t187 - x185001_1)) < (wrap64 ((wrap64 (-a0_3)) - 1))) = false := decide_eq_false c116
                clear c116
                replace H := Option.bind_eq_some_iff.mp H
                obtain ⟨t193,A1180,H⟩ := H
                replace H : (DSt.j3 kj15 x4_1 t189 (decide (t193 > a0_4)) a0_0 a0_1 a0_2 a0_3 a0_4 a0_5 a0_6 a0_7 a0_8 a0_9 t186 t187 t188) = some r := H
                have A118 := Aside0.mk A1180
                clear A1180
                have H' := Aside0.mk H
                clear H
                try go_wp2
                have n0_ := Aside0.mk (blk_drew K83.out)
                have n1_ := Aside0.mk (blk_drew K84.out)
                have n2_ := Aside0.mk (blk_drew K91.out)
                have n3_ := Aside0.mk (below_drew1 HB.out)
                clear K83
                clear K84
                clear K91
                clear HB
                have K83 := n0_
                have K84 := n1_
                have K91 := n2_
                have HB := n3_
                clear n0_ n1_ n2_ n3_
                refine start_ (n := 43) (S := fun w' => w'.cell? ⟨gb183,0,none⟩ = some (.int .i64 a0_0) ∧ w'.cell? ⟨gb183,1,none⟩ = some (.int .i64 a0_1) ∧ w'.cell? ⟨gb183,2,none⟩ = some (.int .i64 a0_2) ∧ w'.cell? ⟨gb183,3,none⟩ = some (.int .i64 a0_3) ∧ w'.cell? ⟨gb183,4,none⟩ = some (.int .i64 a0_4) ∧ w'.cell? ⟨gb183,5,none⟩ = some (.int .i64 a0_5) ∧ w'.cell? ⟨gb183,6,none⟩ = some (.int .i64 a0_6) ∧ w'.cell? ⟨gb183,7,none⟩ = some (.int .i64 a0_7) ∧ w'.cell? ⟨gb183,8,none⟩ = some (.int .i64 a0_8) ∧ w'.cell? ⟨gb183,9,none⟩ = some (.int .i64 a0_9) ∧ w'.cell? ⟨gb191,0,none⟩ = some (.int .i64 t186) ∧ w'.cell? ⟨gb191,1,none⟩ = some (.int .i64 t187) ∧ w'.cell? ⟨gb191,2,none⟩ = some (.int .i64 t188) ∧ w'.cell? ⟨gb184,0,none⟩ = some (.int .i64 x185000_1) ∧ w'.cell? ⟨gb184,1,none⟩ = some (.int .i64 x185001_1) ∧ w'.cell? ⟨gb184,2,none⟩ = some (.int .i64 x185002_1)) (ds := []) m13_ (by kernel_rfl) rfl rfl ⟨(blk_cell K83.out 0).trans rfl,(blk_cell K83.out 1).trans rfl,(blk_cell K83.out 2).trans rfl,(blk_cell K83.out 3).trans rfl,(blk_cell K83.out 4).trans rfl,(blk_cell K83.out 5).trans rfl,(blk_cell K83.out 6).trans rfl,(blk_cell K83.out 7).trans rfl,(blk_cell K83.out 8).trans rfl,(blk_cell K83.out 9).trans rfl,(blk_cell K91.out 0).trans rfl,(blk_cell K91.out 1).trans rfl,(blk_cell K91.out 2).trans rfl,(blk_cell K84.out 0).trans rfl,(blk_cell K84.out 1).trans rfl,(blk_cell K84.out 2).trans rfl⟩ (fun hHeld => ?_);refine with_tabW DSt.tab11 DSt.bits11 (fun HT_ HW_ => ?_)
                generalize wc.drew = w119 at K83 K84 K91 HB hHeld ⊢
                refine pure_ (i := 0) (N := some 111) (v := ?_) (a' := ?_) m14_ rfl rfl (any_of HT_.out (by kernel_rfl)) (fun _ _ _ h => h) (Or.inl ⟨by rfl,?_⟩) ?_ ?_
                rotate_left
                ·
                 intro w'
                 go_simp
                 with_reducible rfl
                rotate_left
                ·
                 simp only [Act.put,LS_,L0_,L1_,i64_w,i32_w]
                 rfl
                refine pure_ (i := 1) (N := some 112) (v := ?_) (a' := ?_) m15_ rfl rfl (any_of HT_.out (by kernel_rfl)) (fun _ _ _ h => h) (Or.inl ⟨by rfl,?_⟩) ?_ ?_
                rotate_left
                ·
                 intro w'
                 go_simp
                 with_reducible rfl
                rotate_left
                ·
                 simp only [Act.put,LS_,L0_,L1_,i64_w,i32_w]
                 rfl
                refine pure_ (i := 2) (N := some 113) (v := ?_) (a' := ?_) m16_ rfl rfl (any_of HT_.out (by kernel_rfl)) (fun _ _ _ h => h) (Or.inl ⟨by rfl,?_⟩) ?_ ?_
                rotate_left
                ·
                 intro w'
                 go_simp
                 with_reducible rfl
                rotate_left
                ·
                 simp only [Act.put,LS_,L0_,L1_,i64_w,i32_w]
                 rfl
                refine take_ (i := 3) (N := some 114) (v := ?_) (a' := ?_) m17_ rfl rfl (take_ofW HT_.out HW_.out (by kernel_rfl)) (fun _ _ _ h => h) (Or.inl ⟨by rfl,?_⟩) hHeld ?_ ?_
                rotate_left
                ·
                 rintro w' ⟨s0,s1,s2,s3,s4,s5,s6,s7,s8,s9,s10,s11,s12,s13,s14,s15⟩
                 go_simp
                 with_reducible rfl
                rotate_left
                ·
                 simp only [Act.put,LS_,L0_,L1_,i64_w,i32_w]
                 rfl
                refine pure_ (i := 4) (N := some 115) (v := ?_) (a' := ?_) m18_ rfl rfl (any_of HT_.out (by kernel_rfl)) (fun _ _ _ h => h) (Or.inl ⟨by rfl,?_⟩) ?_ ?_
                rotate_left
                ·
                 intro w'
                 go_simp
                 with_reducible rfl
                rotate_left
                ·
                 simp only [Act.put,LS_,L0_,L1_,i64_w,i32_w]
                 rfl
                refine pure_ (i := 5) (N := some 116) (v := ?_) (a' := ?_) m19_ rfl rfl (any_of HT_.out (by kernel_rfl)) (fun _ _ _ h => h) (Or.inl ⟨by rfl,?_⟩) ?_ ?_
                rotate_left
                ·
                 intro w'
                 go_simp
                 with_reducible rfl
                rotate_left
                ·
                 simp only [Act.put,LS_,L0_,L1_,i64_w,i32_w]
                 rfl
                refine pure_ (i := 6) (N := some 117) (v := ?_) (a' := ?_) m20_ rfl rfl (any_of HT_.out (by kernel_rfl)) (fun _ _ _ h => h) (Or.inl ⟨by rfl,?_⟩) ?_ ?_
                rotate_left
                ·
                 intro w'
                 go_simp
                 with_reducible rfl
                rotate_left
                ·
                 simp only [Act.put,LS_,L0_,L1_,i64_w,i32_w]
                 rfl
                refine pure_ (i := 7) (N := some 118) (v := ?_) (a' := ?_) m21_ rfl rfl (any_of HT_.out (by kernel_rfl)) (fun _ _ _ h => h) (Or.inl ⟨by rfl,?_⟩) ?_ ?_
                rotate_left
                ·
                 intro w'
                 go_simp
                 with_reducible rfl
                rotate_left
                ·
                 simp only [Act.put,LS_,L0_,L1_,i64_w,i32_w]
                 rfl
                refine pure_ (i := 8) (N := some 119) (v := ?_) (a' := ?_) m22_ rfl rfl (any_of HT_.out (by kernel_rfl)) (fun _ _ _ h => h) (Or.inl ⟨by rfl,?_⟩) ?_ ?_
                rotate_left
                ·
                 intro w'
                 go_simp
                 with_reducible rfl
                rotate_left
                ·
                 simp only [Act.put,LS_,L0_,L1_,i64_w,i32_w]
                 rfl
                refine pure_ (i := 9) (N := some 120) (v := ?_) (a' := ?_) m23_ rfl rfl (any_of HT_.out (by kernel_rfl)) (fun _ _ _ h => h) (Or.inl ⟨by rfl,?_⟩) ?_ ?_
                rotate_left
                ·
                 intro w'
                 go_simp
                 with_reducible rfl
                rotate_left
                ·
                 simp only [Act.put,LS_,L0_,L1_,i64_w,i32_w]
                 rfl
                refine take_ (i := 10) (N := some 121) (v := ?_) (a' := ?_) m24_ rfl rfl (take_ofW HT_.out HW_.out (by kernel_rfl)) (fun _ _ _ h => h) (Or.inl ⟨by rfl,?_⟩) hHeld ?_ ?_
                rotate_left
                ·
                 rintro w' ⟨s0,s1,s2,s3,s4,s5,s6,s7,s8,s9,s10,s11,s12,s13,s14,s15⟩
                 go_simp
                 with_reducible rfl
                rotate_left
                ·
                 simp only [Act.put,LS_,L0_,L1_,i64_w,i32_w]
                 rfl
                refine pure_ (i := 11) (N := some 122) (v := ?_) (a' := ?_) m25_ rfl rfl (any_of HT_.out (by kernel_rfl)) (fun _ _ _ h => h) (Or.inl ⟨by rfl,?_⟩) ?_ ?_
                rotate_left
                ·
                 intro w'
                 go_simp
                 with_reducible rfl
                rotate_left
                ·
                 simp only [Act.put,LS_,L0_,L1_,i64_w,i32_w]
                 rfl
                refine pure_ (i := 12) (N := some 123) (v := ?_) (a' := ?_) m26_ rfl rfl (any_of HT_.out (by kernel_rfl)) (fun _ _ _ h => h) (Or.inl ⟨by rfl,?_⟩) ?_ ?_
                rotate_left
                ·
                 intro w'
                 go_simp
                 with_reducible rfl
                rotate_left
                ·
                 simp only [Act.put,LS_,L0_,L1_,i64_w,i32_w]
                 rfl
                refine pure_ (i := 13) (N := some 124) (v := ?_) (a' := ?_) m27_ rfl rfl (any_of HT_.out (by kernel_rfl)) (fun _ _ _ h => h) (Or.inl ⟨by rfl,?_⟩) ?_ ?_
                rotate_left
                ·
                 intro w'
                 go_simp
                 with_reducible rfl
                rotate_left
                ·
                 simp only [Act.put,LS_,L0_,L1_,i64_w,i32_w]
                 rfl
                refine pure_ (i := 14) (N := some 125) (v := ?_) (a' := ?_) m28_ rfl rfl (any_of HT_.out (by kernel_rfl)) (fun _ _ _ h => h) (Or.inl ⟨by rfl,?_⟩) ?_ ?_
                rotate_left
                ·
                 intro w'
                 go_simp
                 with_reducible rfl
                rotate_left
                ·
                 simp only [Act.put,LS_,L0_,L1_,i64_w,i32_w]
                 rfl
                refine pure_ (i := 15) (N := some 126) (v := ?_) (a' := ?_) m29_ rfl rfl (any_of HT_.out (by kernel_rfl)) (fun _ _ _ h => h) (Or.inl ⟨by rfl,?_⟩) ?_ ?_
                rotate_left
                ·
                 intro w'
                 go_simp
                 with_reducible rfl
                rotate_left
                ·
                 simp only [Act.put,LS_,L0_,L1_,i64_w,i32_w]
                 rfl
                refine pure_ (i := 16) (N := some 127) (v := ?_) (a' := ?_) m30_ rfl rfl (any_of HT_.out (by kernel_rfl)) (fun _ _ _ h => h) (Or.inl ⟨by rfl,?_⟩) ?_ ?_
                rotate_left
                ·
                 intro w'
                 go_simp
                 with_reducible rfl
                rotate_left
                ·
                 simp only [Act.put,LS_,L0_,L1_,i64_w,i32_w]
                 rfl
                refine pure_ (i := 17) (N := some 128) (v := ?_) (a' := ?_) m31_ rfl rfl (any_of HT_.out (by kernel_rfl)) (fun _ _ _ h => h) (Or.inl ⟨by rfl,?_⟩) ?_ ?_
                rotate_left
                ·
                 intro w'
                 go_simp
                 with_reducible rfl
                rotate_left
                ·
                 simp only [Act.put,LS_,L0_,L1_,i64_w,i32_w]
                 rfl
                refine pure_ (i := 18) (N := some 129) (v := ?_) (a' := ?_) m32_ rfl rfl (any_of HT_.out (by kernel_rfl)) (fun _ _ _ h => h) (Or.inl ⟨by rfl,?_⟩) ?_ ?_
                rotate_left
                ·
                 intro w'
                 go_simp
                 with_reducible rfl
                rotate_left
                ·
                 simp only [Act.put,LS_,L0_,L1_,i64_w,i32_w]
                 rfl
                refine take_ (i := 19) (N := some 130) (v := ?_) (a' := ?_) m33_ rfl rfl (take_ofW HT_.out HW_.out (by kernel_rfl)) (fun _ _ _ h => h) (Or.inl ⟨by rfl,?_⟩) hHeld ?_ ?_
                rotate_left
                ·
                 rintro w' ⟨s0,s1,s2,s3,s4,s5,s6,s7,s8,s9,s10,s11,s12,s13,s14,s15⟩
                 go_simp
                 with_reducible rfl
                rotate_left
                ·
                 simp only [Act.put,LS_,L0_,L1_,i64_w,i32_w]
                 rfl
                refine pure_ (i := 20) (N := some 131) (v := ?_) (a' := ?_) m34_ rfl rfl (any_of HT_.out (by kernel_rfl)) (fun _ _ _ h => h) (Or.inl ⟨by rfl,?_⟩) ?_ ?_
                rotate_left
                ·
                 intro w'
                 go_simp
                 with_reducible rfl
                rotate_left
                ·
                 simp only [Act.put,LS_,L0_,L1_,i64_w,i32_w]
                 rfl
                refine pure_ (i := 21) (N := some 132) (v := ?_) (a' := ?_) m35_ rfl rfl (any_of HT_.out (by kernel_rfl)) (fun _ _ _ h => h) (Or.inl ⟨by rfl,?_⟩) ?_ ?_
                rotate_left
                ·
                 intro w'
                 go_simp
                 with_reducible rfl
                rotate_left
                ·
                 simp only [Act.put,LS_,L0_,L1_,i64_w,i32_w]
                 rfl
                refine pure_ (i := 22) (N := some 133) (v := ?_) (a' := ?_) m36_ rfl rfl (any_of HT_.out (by kernel_rfl)) (fun _ _ _ h => h) (Or.inl ⟨by rfl,?_⟩) ?_ ?_
                rotate_left
                ·
                 intro w'
                 go_simp
                 with_reducible rfl
                rotate_left
                ·
                 simp only [Act.put,LS_,L0_,L1_,i64_w,i32_w]
                 rfl
                refine pure_ (i := 23) (N := some 134) (v := ?_) (a' := ?_) m37_ rfl rfl (any_of HT_.out (by kernel_rfl)) (fun _ _ _ h => h) (Or.inl ⟨by rfl,?_⟩) ?_ ?_
                rotate_left
                ·
                 intro w'
                 go_simp
                 with_reducible rfl
                rotate_left
                ·
                 simp only [Act.put,LS_,L0_,L1_,i64_w,i32_w]
                 rfl
                refine pure_ (i := 24) (N := some 135) (v := ?_) (a' := ?_) m38_ rfl rfl (any_of HT_.out (by kernel_rfl)) (fun _ _ _ h => h) (Or.inl ⟨by rfl,?_⟩) ?_ ?_
                rotate_left
                ·
                 intro w'
                 go_simp
                 with_reducible rfl
                rotate_left
                ·
                 simp only [Act.put,LS_,L0_,L1_,i64_w,i32_w]
                 rfl
                refine pure_ (i := 25) (N := some 136) (v := ?_) (a' := ?_) m39_ rfl rfl (any_of HT_.out (by kernel_rfl)) (fun _ _ _ h => h) (Or.inl ⟨by rfl,?_⟩) ?_ ?_
                rotate_left
                ·
                 intro w'
                 go_simp
                 with_reducible rfl
                rotate_left
                ·
                 simp only [Act.put,LS_,L0_,L1_,i64_w,i32_w]
                 rfl
                refine pure_ (i := 26) (N := some 137) (v := ?_) (a' := ?_) m40_ rfl rfl (any_of HT_.out (by kernel_rfl)) (fun _ _ _ h => h) (Or.inl ⟨by rfl,?_⟩) ?_ ?_
                rotate_left
                ·
                 intro w'
                 go_simp
                 with_reducible rfl
                rotate_left
                ·
                 simp only [Act.put,LS_,L0_,L1_,i64_w,i32_w]
                 rfl
                refine take_ (i := 27) (N := some 138) (v := ?_) (a' := ?_) m41_ rfl rfl (take_ofW HT_.out HW_.out (by kernel_rfl)) (fun _ _ _ h => h) (Or.inl ⟨by rfl,?_⟩) hHeld ?_ ?_
                rotate_left
                ·
                 rintro w' ⟨s0,s1,s2,s3,s4,s5,s6,s7,s8,s9,s10,s11,s12,s13,s14,s15⟩
                 go_simp
                 with_reducible rfl
                rotate_left
                ·
                 simp only [Act.put,LS_,L0_,L1_,i64_w,i32_w]
                 rfl
                refine pure_ (i := 28) (N := some 139) (v := ?_) (a' := ?_) m42_ rfl rfl (any_of HT_.out (by kernel_rfl)) (fun _ _ _ h => h) (Or.inl ⟨by rfl,?_⟩) ?_ ?_
                rotate_left
                ·
                 intro w'
                 go_simp
                 with_reducible rfl
                rotate_left
                ·
                 simp only [Act.put,LS_,L0_,L1_,i64_w,i32_w]
                 rfl
                refine pure_ (i := 29) (N := some 140) (v := ?_) (a' := ?_) m43_ rfl rfl (any_of HT_.out (by kernel_rfl)) (fun _ _ _ h => h) (Or.inl ⟨by rfl,?_⟩) ?_ ?_
                rotate_left
                ·
                 intro w'
                 go_simp
                 with_reducible rfl
                rotate_left
                ·
                 simp only [Act.put,LS_,L0_,L1_,i64_w,i32_w]
                 rfl
                refine pure_ (i := 30) (N := some 141) (v := ?_) (a' := ?_) m44_ rfl rfl (any_of HT_.out (by kernel_rfl)) (fun _ _ _ h => h) (Or.inl ⟨by rfl,?_⟩) ?_ ?_
                rotate_left
                ·
                 intro w'
                 go_simp
                 with_reducible rfl
                rotate_left
                ·
                 simp only [Act.put,LS_,L0_,L1_,i64_w,i32_w]
                 rfl
                refine pure_ (i := 31) (N := some 142) (v := ?_) (a' := ?_) m45_ rfl rfl (any_of HT_.out (by kernel_rfl)) (fun _ _ _ h => h) (Or.inl ⟨by rfl,?_⟩) ?_ ?_
                rotate_left
                ·
                 intro w'
                 go_simp
                 with_reducible rfl
                rotate_left
                ·
                 simp only [Act.put,LS_,L0_,L1_,i64_w,i32_w]
                 rfl
                refine pure_ (i := 32) (N := some 143) (v := ?_) (a' := ?_) m46_ rfl rfl (any_of HT_.out (by kernel_rfl)) (fun _ _ _ h => h) (Or.inl ⟨by rfl,?_⟩) ?_ ?_
                rotate_left
                ·
                 intro w'
                 go_simp
                 with_reducible rfl
                rotate_left
                ·
                 simp only [Act.put,LS_,L0_,L1_,i64_w,i32_w]
                 rfl
                refine pure_ (i := 33) (N := some 144) (v := ?_) (a' := ?_) m47_ rfl rfl (any_of HT_.out (by kernel_rfl)) (fun _ _ _ h => h) (Or.inl ⟨by rfl,?_⟩) ?_ ?_
                rotate_left
                ·
                 intro w'
                 go_simp
                 with_reducible rfl
                rotate_left
                ·
                 simp only [Act.put,LS_,L0_,L1_,i64_w,i32_w]
                 rfl
                refine pure_ (i := 35) (N := some 146) (v := ?_) (a' := ?_) m57_ rfl rfl (any_of HT_.out (by kernel_rfl)) (fun _ _ _ h => h) (Or.inl ⟨by rfl,?_⟩) ?_ ?_
                rotate_left
                ·
                 intro w'
                 go_simp
                 with_reducible rfl
                rotate_left
                ·
                 simp only [Act.put,LS_,L0_,L1_,i64_w,i32_w]
                 rfl
                refine pure_ (i := 38) (N := some 149) (v := ?_) (a' := ?_) m58_ rfl rfl (any_of HT_.out (by kernel_rfl)) (fun _ _ _ h => h) (Or.inl ⟨by rfl,?_⟩) ?_ ?_
                rotate_left
                ·
                 intro w'
                 go_simp
                 with_reducible rfl
                rotate_left
                ·
                 simp only [Act.put,LS_,L0_,L1_,i64_w,i32_w]
                 rfl
                refine pure_ (i := 39) (N := some 150) (v := ?_) (a' := ?_) m59_ rfl rfl (any_of HT_.out (by kernel_rfl)) (fun _ _ _ h => h) (Or.inl ⟨by rfl,?_⟩) ?_ ?_
                rotate_left
                ·
                 intro w'
                 go_simp
                 with_reducible rfl
                rotate_left
                ·
                 simp only [Act.put,LS_,L0_,L1_,i64_w,i32_w]
                 rfl
                refine take_ (i := 34) (N := some 145) (v := ?_) (a' := ?_) m60_ rfl rfl (take_ofW HT_.out HW_.out (by kernel_rfl)) (fun _ _ _ h => h) (Or.inl ⟨by rfl,?_⟩) hHeld ?_ ?_
                rotate_left
                ·
                 rintro w' ⟨s0,s1,s2,s3,s4,s5,s6,s7,s8,s9,s10,s11,s12,s13,s14,s15⟩
                 go_simp
                 with_reducible rfl
                rotate_left
                ·
                 simp only [Act.put,LS_,L0_,L1_,i64_w,i32_w]
                 rfl
                refine take_ (i := 36) (N := some 147) (v := ?_) (a' := ?_) m61_ rfl rfl (take_ofW HT_.out HW_.out (by kernel_rfl)) (fun _ _ _ h => h) (Or.inl ⟨by rfl,?_⟩) hHeld ?_ ?_
                rotate_left
                ·
                 rintro w' ⟨s0,s1,s2,s3,s4,s5,s6,s7,s8,s9,s10,s11,s12,s13,s14,s15⟩
                 go_simp
                 with_reducible rfl
                rotate_left
                ·
                 simp only [Act.put,LS_,L0_,L1_,i64_w,i32_w]
                 rfl
                refine take_ (i := 40) (N := some 151) (v := ?_) (a' := ?_) m62_ rfl rfl (take_ofW HT_.out HW_.out (by kernel_rfl)) (fun _ _ _ h => h) (Or.inl ⟨by rfl,?_⟩) hHeld ?_ ?_
                rotate_left
                ·
                 rintro w' ⟨s0,s1,s2,s3,s4,s5,s6,s7,s8,s9,s10,s11,s12,s13,s14,s15⟩
                 go_simp
                 with_reducible rfl
                rotate_left
                ·
                 simp only [Act.put,LS_,L0_,L1_,i64_w,i32_w]
                 rfl
                refine one_ (i := 37) (N := some 148) m54_ rfl rfl (one_of HT_.out (by kernel_rfl)) (by decide) (fun K hK => ?_)
                refine goes_ Tryd.func12 (by kernel_rfl) rfl #[.int .i64 t188,.int .i64 x185002_1] (by rfl) rfl rfl (by (try simp only [List.map_toArray,List.map_cons,List.map_nil]);first | done | rfl | (simp only [List.length_drop,List.length_take];rfl)) ?_
                with_reducible refine (drive_Off.calls t188 x185002_1 t193 _ A118.out).mono ?_
                rintro e w120 ⟨rfl,hb⟩
                refine ⟨_,rfl,?_⟩
                have n0_ := Aside0.mk (blk_below (g := gb183) (o := .cells #[.int .i64 a0_0,.int .i64 a0_1,.int .i64 a0_2,.int .i64 a0_3,.int .i64 a0_4,.int .i64 a0_5,.int .i64 a0_6,.int .i64 a0_7,.int .i64 a0_8,.int .i64 a0_9] 30 (0,0)) (by (with_reducible repeat (first | refine blk_drewN ?_ _ | refine blk_drew ?_ | refine blk_alloc ?_ _));exact K83.out) hb)
                have n1_ := Aside0.mk (blk_below (g := gb184) (o := .cells #[.int .i64 x185000_1,.int .i64 x185001_1,.int .i64 x185002_1] 26 (0,0)) (by (with_reducible repeat (first | refine blk_drewN ?_ _ | refine blk_drew ?_ | refine blk_alloc ?_ _));exact K84.out) hb)
                have n2_ := Aside0.mk (blk_below (g := gb191) (o := .cells #[.int .i64 t186,.int .i64 t187,.int .i64 t188] 26 (0,0)) (by (with_reducible repeat (first | refine blk_drewN ?_ _ | refine blk_drew ?_ | refine blk_alloc ?_ _));exact K91.out) hb)
                have n3_ := Aside0.mk (below_step (by repeat (first | (with_reducible first | exact HB.out | apply below_alloc | apply pw_below_drewN | apply below_drew1 | refine below_set ?_ GE183.out | refine below_set ?_ GE184.out | refine below_set ?_ GE191.out) | exact HB.out)) hb)
                clear K83
                clear K84
                clear K91
                clear HB
                have K83 := n0_
                have K84 := n1_
                have K91 := n2_
                have HB := n3_
                clear n0_ n1_ n2_ n3_
                (try clear hb)
                (try clear hb2)
                (try clear hk)
                (try clear hi)
                refine hK.out _ _ ⟨(blk_cell K83.out 0).trans rfl,(blk_cell K83.out 1).trans rfl,(blk_cell K83.out 2).trans rfl,(blk_cell K83.out 3).trans rfl,(blk_cell K83.out 4).trans rfl,(blk_cell K83.out 5).trans rfl,(blk_cell K83.out 6).trans rfl,(blk_cell K83.out 7).trans rfl,(blk_cell K83.out 8).trans rfl,(blk_cell K83.out 9).trans rfl,(blk_cell K91.out 0).trans rfl,(blk_cell K91.out 1).trans rfl,(blk_cell K91.out 2).trans rfl,(blk_cell K84.out 0).trans rfl,(blk_cell K84.out 1).trans rfl,(blk_cell K84.out 2).trans rfl⟩ (fun hHeld => ?_)
                clear hK K
                refine norm_ (a' := ?_) ?_ ?_
                rotate_left
                ·
                 show Act.put _ (some 148) _ = _
                 simp only [Act.put,LS_,L0_,L1_,i64_w,i32_w]
                 rfl
                refine pure_ (i := 41) (N := some 152) (v := ?_) (a' := ?_) m55_ rfl rfl (any_of HT_.out (by kernel_rfl)) (fun _ _ _ h => h) (Or.inl ⟨by rfl,?_⟩) ?_ ?_
                rotate_left
                ·
                 intro w'
                 go_simp
                 with_reducible rfl
                rotate_left
                ·
                 simp only [Act.put,LS_,L0_,L1_,i64_w,i32_w]
                 rfl
                refine pure_ (i := 42) (N := some 153) (v := ?_) (a' := ?_) m56_ rfl rfl (any_of HT_.out (by kernel_rfl)) (fun _ _ _ h => h) (Or.inl ⟨by rfl,?_⟩) ?_ ?_
                rotate_left
                ·
                 intro w'
                 go_simp
                 with_reducible rfl
                rotate_left
                ·
                 simp only [Act.put,LS_,L0_,L1_,i64_w,i32_w]
                 rfl
                refine done_ (done_of HT_.out (by kernel_rfl)) ?_
                try go_wp2
                go_meet
                case rel => exact ⟨_,(decide (t193 > a0_4)),(by first | rfl | (simp;done) | (simp [*];done)),H',⟨by have := HK1.out;have := HJ6.out;have := HJ15.out;first | omega | exact Nat.le_refl _⟩,⟨by (with_reducible repeat (first | refine blk_drewN ?_ _ | refine blk_drew ?_ | refine blk_alloc ?_ _));exact K83.out⟩,⟨by (with_reducible repeat (first | refine blk_drewN ?_ _ | refine blk_drew ?_ | refine blk_alloc ?_ _));exact K84.out⟩,⟨by (with_reducible repeat (first | refine blk_drewN ?_ _ | refine blk_drew ?_ | refine blk_alloc ?_ _));exact K91.out⟩,⟨by repeat (first | (with_reducible first | exact HB.out | apply below_alloc | apply pw_below_drewN | apply below_drew1 | refine below_set ?_ GE183.out | refine below_set ?_ GE184.out | refine below_set ?_ GE191.out) | exact HB.out)⟩⟩
          case rest =>
           clear HC109
           try clear c1
           try clear p2
           try clear p6
           try clear c11
           try clear c12
           try clear p64
           try clear c116
           try clear c116b0
           obtain ⟨kq,x153_108,rfl,HA,HJ108,K83,K84,K91,HB⟩ := hcut
           cases kq with
           | zero => exact absurd HA.out (by simp [DSt.j3])
           | succ kj108 =>
            have H := HA.out
            clear HA
            simp only [DSt.j3] at H
            by_cases c121 : x153_108 = true
            ·
             subst c121
             have H1 : (some false) = some r := by rw [if_pos rfl] at H;exact H
             clear H
             have H := H1
             clear H1
             obtain rfl := Option.some.inj H
             go_wp2
             go_ret
             exact ⟨by first | rfl | (simp [errW_none,errW_some] <;> rfl) | (simp [*,errW_none,errW_some] <;> rfl),by repeat (first | (with_reducible first | exact HB.out | apply below_alloc | apply pw_below_drewN | apply below_drew1 | refine below_set ?_ GE183.out | refine below_set ?_ GE184.out | refine below_set ?_ GE191.out) | exact HB.out)⟩
            ·
             as_aux_lemma =>
              replace c121 := Bool.eq_false_iff.mpr c121
              subst c121
              have H1 : (if t189 = true then ((drive_Step.f kj108 t186 t187 t188 a0_3 a0_4 a0_5 a0_6 a0_7 a0_8).bind fun bt194 => (if (bt194.1 == t186 && (bt194.2.1 == t187 && (bt194.2.2.1 == t188))) = true then (if bt194.2.2.2.1 = true then (if bt194.2.2.2.2 = 0 then ((bivouaclaw14_awake.f kj108).bind fun t200 => (some t200)) else (some false)) else (some false)) else (some false))) else (DSt.l0 kj108 (wrap64 (x4_1 + 1)) a0_0 a0_1 a0_2 a0_3 a0_4 a0_5 a0_6 a0_7 a0_8 a0_9 t186 t187 t188)) = some r := by rw [if_neg (show ¬ (false = true) by decide)] at H;exact H
              clear H
              have H := H1
              clear H1
              by_cases c122 : t189 = true
              ·
               subst c122
               have H1 : ((drive_Step.f kj108 t186 t187 t188 a0_3 a0_4 a0_5 a0_6 a0_7 a0_8).bind fun bt194 => (if (bt194.1 == t186 && (bt194.2.1 == t187 && (bt194.2.2.1 == t188))) = true then (if bt194.2.2.2.1 = true then (if bt194.2.2.2.2 = 0 then ((bivouaclaw14_awake.f kj108).bind fun t200 => (some t200)) else (some false)) else (some false)) else (some false))) = some r := by rw [if_pos rfl] at H;exact H
               clear H
               have H := H1
               clear H1
               replace H := Option.bind_eq_some_iff.mp H
               obtain ⟨⟨t194,t195,t196,t197,t198⟩,A1230,H⟩ := H
               replace H : (if (t194 == t186 && (t195 == t187 && (t196 == t188))) = true then (if t197 = true then (if t198 = 0 then ((bivouaclaw14_awake.f kj108).bind fun t200 => (some t200)) else (some false)) else (some false)) else (some false)) = some r := H
               have A123 := Aside0.mk A1230
               clear A1230
               by_cases c124 : (t194 == t186 && (t195 == t187 && (t196 == t188))) = true
               ·
                rw [if_pos c124] at H
                have c124b0 : (t194 == t186 && (t195 == t187 && (t196 == t188))) = true := c124
                (try (have c124b1 : decide (t194 = t186 && (t195 == t187 && (t196 == t188))) = true := by simpa using c124))
                (try (have c124b2 : (t194 == t186 && (t195 == t187 && (t196 == t188))) = true := by simpa using c124))
                clear c124
                by_cases c125 : t197 = true
                ·
                 subst c125
                 have H1 : (if t198 = 0 then ((bivouaclaw14_awake.f kj108).bind fun t200 => (some t200)) else (some false)) = some r := by rw [if_pos rfl] at H;exact H
                 clear H
                 have H := H1
                 clear H1
                 by_cases c126 : t198 = 0
                 ·
                  rw [if_pos c126] at H
                  have c126b0 : (t198 == 0) = true := beq_iff_eq.mpr c126
                  have c126b1 : (t198 != 0) = false := bne_eq_false_iff_eq.mpr c126
                  clear c126
                  replace H := Option.bind_eq_some_iff.mp H
                  obtain ⟨t200,A1270,H⟩ := H
                  replace H : (some t200) = some r := H
                  have A127 := Aside0.mk A1270
                  clear A1270
                  obtain rfl := Option.some.inj H
                  have hnb128 := NB191_183.out
                  have hnc128 := NB183_191.out
                  have hnb129 := NB191_184.out
                  have hnc129 := NB184_191.out
                  have hcz130_0 : wc.cell? ⟨gb191,0,none⟩ = some (.int .i64 t186) := (blk_cell K91.out 0).trans rfl
                  have hcz130_1 : wc.cell? ⟨gb191,1,none⟩ = some (.int .i64 t187) := (blk_cell K91.out 1).trans rfl
                  have hcz130_2 : wc.cell? ⟨gb191,2,none⟩ = some (.int .i64 t188) := (blk_cell K91.out 2).trans rfl
                  have hfz130_0 := blk_frozen K91.out 0
                  have hfz130_1 := blk_frozen K91.out 1
                  have hfz130_2 := blk_frozen K91.out 2
                  have hnb131 := NB183_184.out
                  have hnc131 := NB184_183.out
                  have hcz132_0 : wc.cell? ⟨gb183,0,none⟩ = some (.int .i64 a0_0) := (blk_cell K83.out 0).trans rfl
                  have hcz132_1 : wc.cell? ⟨gb183,1,none⟩ = some (.int .i64 a0_1) := (blk_cell K83.out 1).trans rfl
                  have hcz132_2 : wc.cell? ⟨gb183,2,none⟩ = some (.int .i64 a0_2) := (blk_cell K83.out 2).trans rfl
                  have hcz132_3 : wc.cell? ⟨gb183,3,none⟩ = some (.int .i64 a0_3) := (blk_cell K83.out 3).trans rfl
                  have hcz132_4 : wc.cell? ⟨gb183,4,none⟩ = some (.int .i64 a0_4) := (blk_cell K83.out 4).trans rfl
                  have hcz132_5 : wc.cell? ⟨gb183,5,none⟩ = some (.int .i64 a0_5) := (blk_cell K83.out 5).trans rfl
                  have hcz132_6 : wc.cell? ⟨gb183,6,none⟩ = some (.int .i64 a0_6) := (blk_cell K83.out 6).trans rfl
                  have hcz132_7 : wc.cell? ⟨gb183,7,none⟩ = some (.int .i64 a0_7) := (blk_cell K83.out 7).trans rfl
                  have hcz132_8 : wc.cell? ⟨gb183,8,none⟩ = some (.int .i64 a0_8) := (blk_cell K83.out 8).trans rfl
                  have hcz132_9 : wc.cell? ⟨gb183,9,none⟩ = some (.int .i64 a0_9) := (blk_cell K83.out 9).trans rfl
                  have hfz132_0 := blk_frozen K83.out 0
                  have hfz132_1 := blk_frozen K83.out 1
                  have hfz132_2 := blk_frozen K83.out 2
                  have hfz132_3 := blk_frozen K83.out 3
                  have hfz132_4 := blk_frozen K83.out 4
                  have hfz132_5 := blk_frozen K83.out 5
                  have hfz132_6 := blk_frozen K83.out 6
                  have hfz132_7 := blk_frozen K83.out 7
                  have hfz132_8 := blk_frozen K83.out 8
                  have hfz132_9 := blk_frozen K83.out 9
                  go_wp2_with (first | ((with_reducible refine gate_callee (f := 15) rfl ?_);refine goesL_ (some 163) rfl rfl Tryd.func15 (by kernel_rfl) rfl #[.agg #[.int .i64 t186,.int .i64 t187,.int .i64 t188],.agg #[.int .i64 a0_3,.int .i64 a0_4,.int .i64 a0_5,.int .i64 a0_6],.int .i64 a0_7,.int .i64 a0_8] rfl (by (try simp only [List.map_toArray,List.map_cons,List.map_nil]);first | done | rfl | (simp only [List.length_drop,List.length_take];rfl)) ?_;(with_reducible refine (drive_Step.calls kj108 t186 t187 t188 a0_3 a0_4 a0_5 a0_6 a0_7 a0_8 t194 t195 t196 true t198 _ ?side1 A123.out).mono ?_);(case side1 => exact Tg.Tab.below HTAB.out (by repeat (first | (with_reducible first | exact HB.out | apply below_alloc | apply pw_below_drewN | apply below_drew1 | refine below_set ?_ GE183.out | refine below_set ?_ GE184.out | refine below_set ?_ GE191.out) | exact HB.out)));rintro e w133 ⟨rfl,hb⟩;refine ⟨_,rfl,?_⟩;have n0_ := Aside0.mk (blk_below (g := gb183) (o := .cells #[.int .i64 a0_0,.int .i64 a0_1,.int .i64 a0_2,.int .i64 a0_3,.int .i64 a0_4,.int .i64 a0_5,.int .i64 a0_6,.int .i64 a0_7,.int .i64 a0_8,.int .i64 a0_9] 30 (0,0)) (by (with_reducible repeat (first | refine blk_drewN ?_ _ | refine blk_drew ?_ | refine blk_alloc ?_ _));exact K83.out) hb);have n1_ := Aside0.mk (blk_below (g := gb184) (o := .cells #[.int .i64 x185000_1,.int .i64 x185001_1,.int .i64 x185002_1] 26 (0,0)) (by (with_reducible repeat (first | refine blk_drewN ?_ _ | refine blk_drew ?_ | refine blk_alloc ?_ _));exact K84.out) hb);have n2_ := Aside0.mk (blk_below (g := gb191) (o := .cells #[.int .i64 t186,.int .i64 t187,.int .i64 t188] 26 (0,0)) (by (with_reducible repeat (first | refine blk_drewN ?_ _ | refine blk_drew ?_ | refine blk_alloc ?_ _));exact K91.out) hb);have n3_ := Aside0.mk (below_step (by repeat (first | (with_reducible first | exact HB.out | apply below_alloc | apply pw_below_drewN | apply below_drew1 | refine below_set ?_ GE183.out | refine below_set ?_ GE184.out | refine below_set ?_ GE191.out) | exact HB.out)) hb);clear K83;clear K84;clear K91;clear HB;have K83 := n0_;have K84 := n1_;have K91 := n2_;have HB := n3_;clear n0_ n1_ n2_ n3_;(try clear hb);(try clear hb2);(try clear hk);(try clear hi)) | ((with_reducible refine gate_dst (N := 10) rfl ?_);refine box_event ?hg (N := 10) ?hd (cs := #[.int .i64 0,.int .i64 0,.int .i64 0]) (t := 26) ?hr ?_;(case hd => rfl);(case hg => rfl);(case hr => first | (go_simp;done) | (go_simp;rfl));intro gb199 hg w134 hbox hb;have n0_ := Aside0.mk (blk_below (g := gb183) (o := .cells #[.int .i64 a0_0,.int .i64 a0_1,.int .i64 a0_2,.int .i64 a0_3,.int .i64 a0_4,.int .i64 a0_5,.int .i64 a0_6,.int .i64 a0_7,.int .i64 a0_8,.int .i64 a0_9] 30 (0,0)) (by (with_reducible repeat (first | refine blk_drewN ?_ _ | refine blk_drew ?_ | refine blk_alloc ?_ _));exact K83.out) hb);have n1_ := Aside0.mk (blk_below (g := gb184) (o := .cells #[.int .i64 x185000_1,.int .i64 x185001_1,.int .i64 x185002_1] 26 (0,0)) (by (with_reducible repeat (first | refine blk_drewN ?_ _ | refine blk_drew ?_ | refine blk_alloc ?_ _));exact K84.out) hb);have n2_ := Aside0.mk (blk_below (g := gb191) (o := .cells #[.int .i64 t186,.int .i64 t187,.int .i64 t188] 26 (0,0)) (by (with_reducible repeat (first | refine blk_drewN ?_ _ | refine blk_drew ?_ | refine blk_alloc ?_ _));exact K91.out) hb);have n3_ := Aside0.mk (below_step (by repeat (first | (with_reducible first | exact HB.out | apply below_alloc | apply pw_below_drewN | apply below_drew1 | refine below_set ?_ GE183.out | refine below_set ?_ GE184.out | refine below_set ?_ GE191.out) | exact HB.out)) hb);have n4_ := Aside0.mk (hbox);have n5_ := Aside0.mk ((by rw [hg];exact (below_size (by repeat (first | (with_reducible first | exact HB.out | apply below_alloc | apply pw_below_drewN | apply below_drew1 | refine below_set ?_ GE183.out | refine below_set ?_ GE184.out | refine below_set ?_ GE191.out) | exact HB.out))) : w.heap.size ≤ gb199));have n6_ := Aside0.mk ((by rw [hg];exact (below_size (by repeat (first | (with_reducible first | exact HB.out | apply below_alloc | apply pw_below_drewN | apply below_drew1 | refine below_set ?_ GE183.out | refine below_set ?_ GE184.out | refine below_set ?_ GE191.out) | exact HB.out))) : w.heap.size ≤ gb199));have n7_ := Aside0.mk ((by rw [hg];exact Nat.ne_of_lt (blk_lt (g := gb183) (o := .cells #[.int .i64 a0_0,.int .i64 a0_1,.int .i64 a0_2,.int .i64 a0_3,.int .i64 a0_4,.int .i64 a0_5,.int .i64 a0_6,.int .i64 a0_7,.int .i64 a0_8,.int .i64 a0_9] 30 (0,0)) (by (with_reducible repeat (first | refine blk_drewN ?_ _ | refine blk_drew ?_ | refine blk_alloc ?_ _));exact K83.out)) : gb183 ≠ gb199));have n8_ := Aside0.mk ((by rw [hg];exact Nat.ne_of_gt (blk_lt (g := gb183) (o := .cells #[.int .i64 a0_0,.int .i64 a0_1,.int .i64 a0_2,.int .i64 a0_3,.int .i64 a0_4,.int .i64 a0_5,.int .i64 a0_6,.int .i64 a0_7,.int .i64 a0_8,.int .i64 a0_9] 30 (0,0)) (by (with_reducible repeat (first | refine blk_drewN ?_ _ | refine blk_drew ?_ | refine blk_alloc ?_ _));exact K83.out)) : gb199 ≠ gb183));have n9_ := Aside0.mk ((by rw [hg];exact Nat.ne_of_lt (blk_lt (g := gb184) (o := .cells #[.int .i64 x185000_1,.int .i64 x185001_1,.int .i64 x185002_1] 26 (0,0)) (by (with_reducible repeat (first | refine blk_drewN ?_ _ | refine blk_drew ?_ | refine blk_alloc ?_ _));exact K84.out)) : gb184 ≠ gb199));have n10_ := Aside0.mk ((by rw [hg];exact Nat.ne_of_gt (blk_lt (g := gb184) (o := .cells #[.int .i64 x185000_1,.int .i64 x185001_1,.int .i64 x185002_1] 26 (0,0)) (by (with_reducible repeat (first | refine blk_drewN ?_ _ | refine blk_drew ?_ | refine blk_alloc ?_ _));exact K84.out)) : gb199 ≠ gb184));have n11_ := Aside0.mk ((by rw [hg];exact Nat.ne_of_lt (blk_lt (g := gb191) (o := .cells #[.int .i64 t186,.int .i64 t187,.int .i64 t188] 26 (0,0)) (by (with_reducible repeat (first | refine blk_drewN ?_ _ | refine blk_drew ?_ | refine blk_alloc ?_ _));exact K91.out)) : gb191 ≠ gb199));have n12_ := Aside0.mk ((by rw [hg];exact Nat.ne_of_gt (blk_lt (g := gb191) (o := .cells #[.int .i64 t186,.int .i64 t187,.int .i64 t188] 26 (0,0)) (by (with_reducible repeat (first | refine blk_drewN ?_ _ | refine blk_drew ?_ | refine blk_alloc ?_ _));exact K91.out)) : gb199 ≠ gb191));clear K83;clear K84;clear K91;clear HB;have K83 := n0_;have K84 := n1_;have K91 := n2_;have HB := n3_;have K99 := n4_;have GW199 := n5_;have GE199 := n6_;have NB183_199 := n7_;have NB199_183 := n8_;have NB184_199 := n9_;have NB199_184 := n10_;have NB191_199 := n11_;have NB199_191 := n12_;clear n0_ n1_ n2_ n3_ n4_ n5_ n6_ n7_ n8_ n9_ n10_ n11_ n12_;clear hb hbox hg;have hnb135 := NB199_183.out;have hnc135 := NB183_199.out;have hnb136 := NB199_184.out;have hnc136 := NB184_199.out;have hnb137 := NB199_191.out;have hnc137 := NB191_199.out;have hcz138_0 : w134.cell? ⟨gb199,0,none⟩ = some (.int .i64 0) := (blk_cell K99.out 0).trans rfl;have hcz138_1 : w134.cell? ⟨gb199,1,none⟩ = some (.int .i64 0) := (blk_cell K99.out 1).trans rfl;have hcz138_2 : w134.cell? ⟨gb199,2,none⟩ = some (.int .i64 0) := (blk_cell K99.out 2).trans rfl;have hfz138_0 := blk_frozen K99.out 0;have hfz138_1 := blk_frozen K99.out 1;have hfz138_2 := blk_frozen K99.out 2;have hcz139_0 : w134.cell? ⟨gb191,0,none⟩ = some (.int .i64 t186) := (blk_cell K91.out 0).trans rfl;have hcz139_1 : w134.cell? ⟨gb191,1,none⟩ = some (.int .i64 t187) := (blk_cell K91.out 1).trans rfl;have hcz139_2 : w134.cell? ⟨gb191,2,none⟩ = some (.int .i64 t188) := (blk_cell K91.out 2).trans rfl;have hfz139_0 := blk_frozen K91.out 0;have hfz139_1 := blk_frozen K91.out 1;have hfz139_2 := blk_frozen K91.out 2) | (go_at_call 14;(with_reducible refine (bivouaclaw14_awake.calls kj108  t200 _ ?side1 A127.out).mono ?_);(case side1 => exact Tg.Tab.below HTAB.out (by repeat (first | (with_reducible first | exact HB.out | apply below_alloc | apply pw_below_drewN | apply below_drew1 | refine below_set ?_ GE183.out | refine below_set ?_ GE184.out | refine below_set ?_ GE191.out | refine below_set ?_ GE199.out) | exact HB.out)));rintro e w140 ⟨rfl,hb⟩;have n0_ := Aside0.mk (blk_below (g := gb183) (o := .cells #[.int .i64 a0_0,.int .i64 a0_1,.int .i64 a0_2,.int .i64 a0_3,.int .i64 a0_4,.int .i64 a0_5,.int .i64 a0_6,.int .i64 a0_7,.int .i64 a0_8,.int .i64 a0_9] 30 (0,0)) (by (with_reducible repeat (first | refine blk_drewN ?_ _ | refine blk_drew ?_ | refine blk_alloc ?_ _));refine blk_far ?_ NB183_199.out _;(with_reducible repeat (first | refine blk_drewN ?_ _ | refine blk_drew ?_ | refine blk_alloc ?_ _));refine blk_far ?_ NB183_199.out _;(with_reducible repeat (first | refine blk_drewN ?_ _ | refine blk_drew ?_ | refine blk_alloc ?_ _));refine blk_far ?_ NB183_199.out _;(with_reducible repeat (first | refine blk_drewN ?_ _ | refine blk_drew ?_ | refine blk_alloc ?_ _));exact K83.out) hb);have n1_ := Aside0.mk (blk_below (g := gb184) (o := .cells #[.int .i64 x185000_1,.int .i64 x185001_1,.int .i64 x185002_1] 26 (0,0)) (by (with_reducible repeat (first | refine blk_drewN ?_ _ | refine blk_drew ?_ | refine blk_alloc ?_ _));refine blk_far ?_ NB184_199.out _;(with_reducible repeat (first | refine blk_drewN ?_ _ | refine blk_drew ?_ | refine blk_alloc ?_ _));refine blk_far ?_ NB184_199.out _;(with_reducible repeat (first | refine blk_drewN ?_ _ | refine blk_drew ?_ | refine blk_alloc ?_ _));refine blk_far ?_ NB184_199.out _;(with_reducible repeat (first | refine blk_drewN ?_ _ | refine blk_drew ?_ | refine blk_alloc ?_ _));exact K84.out) hb);have n2_ := Aside0.mk (blk_below (g := gb191) (o := .cells #[.int .i64 t186,.int .i64 t187,.int .i64 t188] 26 (0,0)) (by (with_reducible repeat (first | refine blk_drewN ?_ _ | refine blk_drew ?_ | refine blk_alloc ?_ _));refine blk_far ?_ NB191_199.out _;(with_reducible repeat (first | refine blk_drewN ?_ _ | refine blk_drew ?_ | refine blk_alloc ?_ _));refine blk_far ?_ NB191_199.out _;(with_reducible repeat (first | refine blk_drewN ?_ _ | refine blk_drew ?_ | refine blk_alloc ?_ _));refine blk_far ?_ NB191_199.out _;(with_reducible repeat (first | refine blk_drewN ?_ _ | refine blk_drew ?_ | refine blk_alloc ?_ _));exact K91.out) hb);have n3_ := Aside0.mk (blk_below (g := gb199) (o := .cells #[.int .i64 t194,.int .i64 t195,.int .i64 t196] 26 (0,0)) (by (with_reducible repeat (first | refine blk_drewN ?_ _ | refine blk_drew ?_ | refine blk_alloc ?_ _));refine blk_put (cs := #[.int .i64 t194,.int .i64 t195,.int .i64 0]) ?_ 2 _ rfl;(with_reducible repeat (first | refine blk_drewN ?_ _ | refine blk_drew ?_ | refine blk_alloc ?_ _));refine blk_put (cs := #[.int .i64 t194,.int .i64 0,.int .i64 0]) ?_ 1 _ rfl;(with_reducible repeat (first | refine blk_drewN ?_ _ | refine blk_drew ?_ | refine blk_alloc ?_ _));refine blk_put (cs := #[.int .i64 0,.int .i64 0,.int .i64 0]) ?_ 0 _ rfl;(with_reducible repeat (first | refine blk_drewN ?_ _ | refine blk_drew ?_ | refine blk_alloc ?_ _));exact K99.out) hb);have n4_ := Aside0.mk (below_step (by repeat (first | (with_reducible first | exact HB.out | apply below_alloc | apply pw_below_drewN | apply below_drew1 | refine below_set ?_ GE183.out | refine below_set ?_ GE184.out | refine below_set ?_ GE191.out | refine below_set ?_ GE199.out) | exact HB.out)) hb);clear K83;clear K84;clear K91;clear K99;clear HB;have K83 := n0_;have K84 := n1_;have K91 := n2_;have K99 := n3_;have HB := n4_;clear n0_ n1_ n2_ n3_ n4_;(try clear hb);(try clear hb2);(try clear hk);(try clear hi)))
                  go_ret
                  exact ⟨by first | rfl | (simp [errW_none,errW_some] <;> rfl) | (simp [*,errW_none,errW_some] <;> rfl),by repeat (first | (with_reducible first | exact HB.out | apply below_alloc | apply pw_below_drewN | apply below_drew1 | refine below_set ?_ GE183.out | refine below_set ?_ GE184.out | refine below_set ?_ GE191.out | refine below_set ?_ GE199.out) | exact HB.out)⟩
                 ·
                  rw [if_neg c126] at H
                  have c126b0 : (t198 == 0) = false := beq_eq_false_iff_ne.mpr c126
                  have c126b1 : (t198 != 0) = true := bne_iff_ne.mpr c126
                  obtain rfl := Option.some.inj H
                  have hnb141 := NB191_183.out
                  have hnc141 := NB183_191.out
                  have hnb142 := NB191_184.out
                  have hnc142 := NB184_191.out
                  have hcz143_0 : wc.cell? ⟨gb191,0,none⟩ = some (.int .i64 t186) := (blk_cell K91.out 0).trans rfl
                  have hcz143_1 : wc.cell? ⟨gb191,1,none⟩ = some (.int .i64 t187) := (blk_cell K91.out 1).trans rfl
                  have hcz143_2 : wc.cell? ⟨gb191,2,none⟩ = some (.int .i64 t188) := (blk_cell K91.out 2).trans rfl
                  have hfz143_0 := blk_frozen K91.out 0
                  have hfz143_1 := blk_frozen K91.out 1
                  have hfz143_2 := blk_frozen K91.out 2
                  have hnb144 := NB183_184.out
                  have hnc144 := NB184_183.out
                  have hcz145_0 : wc.cell? ⟨gb183,0,none⟩ = some (.int .i64 a0_0) := (blk_cell K83.out 0).trans rfl
                  have hcz145_1 : wc.cell? ⟨gb183,1,none⟩ = some (.int .i64 a0_1) := (blk_cell K83.out 1).trans rfl
                  have hcz145_2 : wc.cell? ⟨gb183,2,none⟩ = some (.int .i64 a0_2) := (blk_cell K83.out 2).trans rfl
                  have hcz145_3 : wc.cell? ⟨gb183,3,none⟩ = some (.int .i64 a0_3) := (blk_cell K83.out 3).trans rfl
                  have hcz145_4 : wc.cell? ⟨gb183,4,none⟩ = some (.int .i64 a0_4) := (blk_cell K83.out 4).trans rfl
                  have hcz145_5 : wc.cell? ⟨gb183,5,none⟩ = some (.int .i64 a0_5) := (blk_cell K83.out 5).trans rfl
                  have hcz145_6 : wc.cell? ⟨gb183,6,none⟩ = some (.int .i64 a0_6) := (blk_cell K83.out 6).trans rfl
                  have hcz145_7 : wc.cell? ⟨gb183,7,none⟩ = some (.int .i64 a0_7) := (blk_cell K83.out 7).trans rfl
                  have hcz145_8 : wc.cell? ⟨gb183,8,none⟩ = some (.int .i64 a0_8) := (blk_cell K83.out 8).trans rfl
                  have hcz145_9 : wc.cell? ⟨gb183,9,none⟩ = some (.int .i64 a0_9) := (blk_cell K83.out 9).trans rfl
                  have hfz145_0 := blk_frozen K83.out 0
                  have hfz145_1 := blk_frozen K83.out 1
                  have hfz145_2 := blk_frozen K83.out 2
                  have hfz145_3 := blk_frozen K83.out 3
                  have hfz145_4 := blk_frozen K83.out 4
                  have hfz145_5 := blk_frozen K83.out 5
                  have hfz145_6 := blk_frozen K83.out 6
                  have hfz145_7 := blk_frozen K83.out 7
                  have hfz145_8 := blk_frozen K83.out 8
                  have hfz145_9 := blk_frozen K83.out 9
                  go_wp2_with (first | ((with_reducible refine gate_callee (f := 15) rfl ?_);refine goesL_ (some 163) rfl rfl Tryd.func15 (by kernel_rfl) rfl #[.agg #[.int .i64 t186,.int .i64 t187,.int .i64 t188],.agg #[.int .i64 a0_3,.int .i64 a0_4,.int .i64 a0_5,.int .i64 a0_6],.int .i64 a0_7,.int .i64 a0_8] rfl (by (try simp only [List.map_toArray,List.map_cons,List.map_nil]);first | done | rfl | (simp only [List.length_drop,List.length_take];rfl)) ?_;(with_reducible refine (drive_Step.calls kj108 t186 t187 t188 a0_3 a0_4 a0_5 a0_6 a0_7 a0_8 t194 t195 t196 true t198 _ ?side1 A123.out).mono ?_);(case side1 => exact Tg.Tab.below HTAB.out (by repeat (first | (with_reducible first | exact HB.out | apply below_alloc | apply pw_below_drewN | apply below_drew1 | refine below_set ?_ GE183.out | refine below_set ?_ GE184.out | refine below_set ?_ GE191.out) | exact HB.out)));rintro e w146 ⟨rfl,hb⟩;refine ⟨_,rfl,?_⟩;have n0_ := Aside0.mk (blk_below (g := gb183) (o := .cells #[.int .i64 a0_0,.int .i64 a0_1,.int .i64 a0_2,.int .i64 a0_3,.int .i64 a0_4,.int .i64 a0_5,.int .i64 a0_6,.int .i64 a0_7,.int .i64 a0_8,.int .i64 a0_9] 30 (0,0)) (by (with_reducible repeat (first | refine blk_drewN ?_ _ | refine blk_drew ?_ | refine blk_alloc ?_ _));exact K83.out) hb);have n1_ := Aside0.mk (blk_below (g := gb184) (o := .cells #[.int .i64 x185000_1,.int .i64 x185001_1,.int .i64 x185002_1] 26 (0,0)) (by (with_reducible repeat (first | refine blk_drewN ?_ _ | refine blk_drew ?_ | refine blk_alloc ?_ _));exact K84.out) hb);have n2_ := Aside0.mk (blk_below (g := gb191) (o := .cells #[.int .i64 t186,.int .i64 t187,.int .i64 t188] 26 (0,0)) (by (with_reducible repeat (first | refine blk_drewN ?_ _ | refine blk_drew ?_ | refine blk_alloc ?_ _));exact K91.out) hb);have n3_ := Aside0.mk (below_step (by repeat (first | (with_reducible first | exact HB.out | apply below_alloc | apply pw_below_drewN | apply below_drew1 | refine below_set ?_ GE183.out | refine below_set ?_ GE184.out | refine below_set ?_ GE191.out) | exact HB.out)) hb);clear K83;clear K84;clear K91;clear HB;have K83 := n0_;have K84 := n1_;have K91 := n2_;have HB := n3_;clear n0_ n1_ n2_ n3_;(try clear hb);(try clear hb2);(try clear hk);(try clear hi)) | ((with_reducible refine gate_dst (N := 10) rfl ?_);refine box_event ?hg (N := 10) ?hd (cs := #[.int .i64 0,.int .i64 0,.int .i64 0]) (t := 26) ?hr ?_;(case hd => rfl);(case hg => rfl);(case hr => first | (go_simp;done) | (go_simp;rfl));intro gb199 hg w147 hbox hb;have n0_ := Aside0.mk (blk_below (g := gb183) (o := .cells #[.int .i64 a0_0,.int .i64 a0_1,.int .i64 a0_2,.int .i64 a0_3,.int .i64 a0_4,.int .i64 a0_5,.int .i64 a0_6,.int .i64 a0_7,.int .i64 a0_8,.int .i64 a0_9] 30 (0,0)) (by (with_reducible repeat (first | refine blk_drewN ?_ _ | refine blk_drew ?_ | refine blk_alloc ?_ _));exact K83.out) hb);have n1_ := Aside0.mk (blk_below (g := gb184) (o := .cells #[.int .i64 x185000_1,.int .i64 x185001_1,.int .i64 x185002_1] 26 (0,0)) (by (with_reducible repeat (first | refine blk_drewN ?_ _ | refine blk_drew ?_ | refine blk_alloc ?_ _));exact K84.out) hb);have n2_ := Aside0.mk (blk_below (g := gb191) (o := .cells #[.int .i64 t186,.int .i64 t187,.int .i64 t188] 26 (0,0)) (by (with_reducible repeat (first | refine blk_drewN ?_ _ | refine blk_drew ?_ | refine blk_alloc ?_ _));exact K91.out) hb);have n3_ := Aside0.mk (below_step (by repeat (first | (with_reducible first | exact HB.out | apply below_alloc | apply pw_below_drewN | apply below_drew1 | refine below_set ?_ GE183.out | refine below_set ?_ GE184.out | refine below_set ?_ GE191.out) | exact HB.out)) hb);have n4_ := Aside0.mk (hbox);have n5_ := Aside0.mk ((by rw [hg];exact (below_size (by repeat (first | (with_reducible first | exact HB.out | apply below_alloc | apply pw_below_drewN | apply below_drew1 | refine below_set ?_ GE183.out | refine below_set ?_ GE184.out | refine below_set ?_ GE191.out) | exact HB.out))) : w.heap.size ≤ gb199));have n6_ := Aside0.mk ((by rw [hg];exact (below_size (by repeat (first | (with_reducible first | exact HB.out | apply below_alloc | apply pw_below_drewN | apply below_drew1 | refine below_set ?_ GE183.out | refine below_set ?_ GE184.out | refine below_set ?_ GE191.out) | exact HB.out))) : w.heap.size ≤ gb199));have n7_ := Aside0.mk ((by rw [hg];exact Nat.ne_of_lt (blk_lt (g := gb183) (o := .cells #[.int .i64 a0_0,.int .i64 a0_1,.int .i64 a0_2,.int .i64 a0_3,.int .i64 a0_4,.int .i64 a0_5,.int .i64 a0_6,.int .i64 a0_7,.int .i64 a0_8,.int .i64 a0_9] 30 (0,0)) (by (with_reducible repeat (first | refine blk_drewN ?_ _ | refine blk_drew ?_ | refine blk_alloc ?_ _));exact K83.out)) : gb183 ≠ gb199));have n8_ := Aside0.mk ((by rw [hg];exact Nat.ne_of_gt (blk_lt (g := gb183) (o := .cells #[.int .i64 a0_0,.int .i64 a0_1,.int .i64 a0_2,.int .i64 a0_3,.int .i64 a0_4,.int .i64 a0_5,.int .i64 a0_6,.int .i64 a0_7,.int .i64 a0_8,.int .i64 a0_9] 30 (0,0)) (by (with_reducible repeat (first | refine blk_drewN ?_ _ | refine blk_drew ?_ | refine blk_alloc ?_ _));exact K83.out)) : gb199 ≠ gb183));have n9_ := Aside0.mk ((by rw [hg];exact Nat.ne_of_lt (blk_lt (g := gb184) (o := .cells #[.int .i64 x185000_1,.int .i64 x185001_1,.int .i64 x185002_1] 26 (0,0)) (by (with_reducible repeat (first | refine blk_drewN ?_ _ | refine blk_drew ?_ | refine blk_alloc ?_ _));exact K84.out)) : gb184 ≠ gb199));have n10_ := Aside0.mk ((by rw [hg];exact Nat.ne_of_gt (blk_lt (g := gb184) (o := .cells #[.int .i64 x185000_1,.int .i64 x185001_1,.int .i64 x185002_1] 26 (0,0)) (by (with_reducible repeat (first | refine blk_drewN ?_ _ | refine blk_drew ?_ | refine blk_alloc ?_ _));exact K84.out)) : gb199 ≠ gb184));have n11_ := Aside0.mk ((by rw [hg];exact Nat.ne_of_lt (blk_lt (g := gb191) (o := .cells #[.int .i64 t186,.int .i64 t187,.int .i64 t188] 26 (0,0)) (by (with_reducible repeat (first | refine blk_drewN ?_ _ | refine blk_drew ?_ | refine blk_alloc ?_ _));exact K91.out)) : gb191 ≠ gb199));have n12_ := Aside0.mk ((by rw [hg];exact Nat.ne_of_gt (blk_lt (g := gb191) (o := .cells #[.int .i64 t186,.int .i64 t187,.int .i64 t188] 26 (0,0)) (by (with_reducible repeat (first | refine blk_drewN ?_ _ | refine blk_drew ?_ | refine blk_alloc ?_ _));exact K91.out)) : gb199 ≠ gb191));clear K83;clear K84;clear K91;clear HB;have K83 := n0_;have K84 := n1_;have K91 := n2_;have HB := n3_;have K99 := n4_;have GW199 := n5_;have GE199 := n6_;have NB183_199 := n7_;have NB199_183 := n8_;have NB184_199 := n9_;have NB199_184 := n10_;have NB191_199 := n11_;have NB199_191 := n12_;clear n0_ n1_ n2_ n3_ n4_ n5_ n6_ n7_ n8_ n9_ n10_ n11_ n12_;clear hb hbox hg;have hnb148 := NB199_183.out;have hnc148 := NB183_199.out;have hnb149 := NB199_184.out;have hnc149 := NB184_199.out;have hnb150 := NB199_191.out;have hnc150 := NB191_199.out;have hcz151_0 : w147.cell? ⟨gb199,0,none⟩ = some (.int .i64 0) := (blk_cell K99.out 0).trans rfl;have hcz151_1 : w147.cell? ⟨gb199,1,none⟩ = some (.int .i64 0) := (blk_cell K99.out 1).trans rfl;have hcz151_2 : w147.cell? ⟨gb199,2,none⟩ = some (.int .i64 0) := (blk_cell K99.out 2).trans rfl;have hfz151_0 := blk_frozen K99.out 0;have hfz151_1 := blk_frozen K99.out 1;have hfz151_2 := blk_frozen K99.out 2;have hcz152_0 : w147.cell? ⟨gb191,0,none⟩ = some (.int .i64 t186) := (blk_cell K91.out 0).trans rfl;have hcz152_1 : w147.cell? ⟨gb191,1,none⟩ = some (.int .i64 t187) := (blk_cell K91.out 1).trans rfl;have hcz152_2 : w147.cell? ⟨gb191,2,none⟩ = some (.int .i64 t188) := (blk_cell K91.out 2).trans rfl;have hfz152_0 := blk_frozen K91.out 0;have hfz152_1 := blk_frozen K91.out 1;have hfz152_2 := blk_frozen K91.out 2))
                  go_ret
                  exact ⟨by first | rfl | (simp [errW_none,errW_some] <;> rfl) | (simp [*,errW_none,errW_some] <;> rfl),by repeat (first | (with_reducible first | exact HB.out | apply below_alloc | apply pw_below_drewN | apply below_drew1 | refine below_set ?_ GE183.out | refine below_set ?_ GE184.out | refine below_set ?_ GE191.out | refine below_set ?_ GE199.out) | exact HB.out)⟩
                ·
                 replace c125 := Bool.eq_false_iff.mpr c125
                 subst c125
                 have H1 : (some false) = some r := by rw [if_neg (show ¬ (false = true) by decide)] at H;exact H
                 clear H
                 have H := H1
                 clear H1
                 obtain rfl := Option.some.inj H
                 have hnb153 := NB191_183.out
                 have hnc153 := NB183_191.out
                 have hnb154 := NB191_184.out
                 have hnc154 := NB184_191.out
                 have hcz155_0 : wc.cell? ⟨gb191,0,none⟩ = some (.int .i64 t186) := (blk_cell K91.out 0).trans rfl
                 have hcz155_1 : wc.cell? ⟨gb191,1,none⟩ = some (.int .i64 t187) := (blk_cell K91.out 1).trans rfl
                 have hcz155_2 : wc.cell? ⟨gb191,2,none⟩ = some (.int .i64 t188) := (blk_cell K91.out 2).trans rfl
                 have hfz155_0 := blk_frozen K91.out 0
                 have hfz155_1 := blk_frozen K91.out 1
                 have hfz155_2 := blk_frozen K91.out 2
                 have hnb156 := NB183_184.out
                 have hnc156 := NB184_183.out
                 have hcz157_0 : wc.cell? ⟨gb183,0,none⟩ = some (.int .i64 a0_0) := (blk_cell K83.out 0).trans rfl
                 have hcz157_1 : wc.cell? ⟨gb183,1,none⟩ = some (.int .i64 a0_1) := (blk_cell K83.out 1).trans rfl
                 have hcz157_2 : wc.cell? ⟨gb183,2,none⟩ = some (.int .i64 a0_2) := (blk_cell K83.out 2).trans rfl
                 have hcz157_3 : wc.cell? ⟨gb183,3,none⟩ = some (.int .i64 a0_3) := (blk_cell K83.out 3).trans rfl
                 have hcz157_4 : wc.cell? ⟨gb183,4,none⟩ = some (.int .i64 a0_4) := (blk_cell K83.out 4).trans rfl
                 have hcz157_5 : wc.cell? ⟨gb183,5,none⟩ = some (.int .i64 a0_5) := (blk_cell K83.out 5).trans rfl
                 have hcz157_6 : wc.cell? ⟨gb183,6,none⟩ = some (.int .i64 a0_6) := (blk_cell K83.out 6).trans rfl
                 have hcz157_7 : wc.cell? ⟨gb183,7,none⟩ = some (.int .i64 a0_7) := (blk_cell K83.out 7).trans rfl
                 have hcz157_8 : wc.cell? ⟨gb183,8,none⟩ = some (.int .i64 a0_8) := (blk_cell K83.out 8).trans rfl
                 have hcz157_9 : wc.cell? ⟨gb183,9,none⟩ = some (.int .i64 a0_9) := (blk_cell K83.out 9).trans rfl
                 have hfz157_0 := blk_frozen K83.out 0
                 have hfz157_1 := blk_frozen K83.out 1
                 have hfz157_2 := blk_frozen K83.out 2
                 have hfz157_3 := blk_frozen K83.out 3
                 have hfz157_4 := blk_frozen K83.out 4
                 have hfz157_5 := blk_frozen K83.out 5
                 have hfz157_6 := blk_frozen K83.out 6
                 have hfz157_7 := blk_frozen K83.out 7
                 have hfz157_8 := blk_frozen K83.out 8
                 have hfz157_9 := blk_frozen K83.out 9
                 go_wp2_with (first | ((with_reducible refine gate_callee (f := 15) rfl ?_);refine goesL_ (some 163) rfl rfl Tryd.func15 (by kernel_rfl) rfl #[.agg #[.int .i64 t186,.int .i64 t187,.int .i64 t188],.agg #[.int .i64 a0_3,.int .i64 a0_4,.int .i64 a0_5,.int .i64 a0_6],.int .i64 a0_7,.int .i64 a0_8] rfl (by (try simp only [List.map_toArray,List.map_cons,List.map_nil]);first | done | rfl | (simp only [List.length_drop,List.length_take];rfl)) ?_;(with_reducible refine (drive_Step.calls kj108 t186 t187 t188 a0_3 a0_4 a0_5 a0_6 a0_7 a0_8 t194 t195 t196 false t198 _ ?side1 A123.out).mono ?_);(case side1 => exact Tg.Tab.below HTAB.out (by repeat (first | (with_reducible first | exact HB.out | apply below_alloc | apply pw_below_drewN | apply below_drew1 | refine below_set ?_ GE183.out | refine below_set ?_ GE184.out | refine below_set ?_ GE191.out) | exact HB.out)));rintro e w158 ⟨rfl,hb⟩;refine ⟨_,rfl,?_⟩;have n0_ := Aside0.mk (blk_below (g := gb183) (o := .cells #[.int .i64 a0_0,.int .i64 a0_1,.int .i64 a0_2,.int .i64 a0_3,.int .i64 a0_4,.int .i64 a0_5,.int .i64 a0_6,.int .i64 a0_7,.int .i64 a0_8,.int .i64 a0_9] 30 (0,0)) (by (with_reducible repeat (first | refine blk_drewN ?_ _ | refine blk_drew ?_ | refine blk_alloc ?_ _));exact K83.out) hb);have n1_ := Aside0.mk (blk_below (g := gb184) (o := .cells #[.int .i64 x185000_1,.int .i64 x185001_1,.int .i64 x185002_1] 26 (0,0)) (by (with_reducible repeat (first | refine blk_drewN ?_ _ | refine blk_drew ?_ | refine blk_alloc ?_ _));exact K84.out) hb);have n2_ := Aside0.mk (blk_below (g := gb191) (o := .cells #[.int .i64 t186,.int .i64 t187,.int .i64 t188] 26 (0,0)) (by (with_reducible repeat (first | refine blk_drewN ?_ _ | refine blk_drew ?_ | refine blk_alloc ?_ _));exact K91.out) hb);have n3_ := Aside0.mk (below_step (by repeat (first | (with_reducible first | exact HB.out | apply below_alloc | apply pw_below_drewN | apply below_drew1 | refine below_set ?_ GE183.out | refine below_set ?_ GE184.out | refine below_set ?_ GE191.out) | exact HB.out)) hb);clear K83;clear K84;clear K91;clear HB;have K83 := n0_;have K84 := n1_;have K91 := n2_;have HB := n3_;clear n0_ n1_ n2_ n3_;(try clear hb);(try clear hb2);(try clear hk);(try clear hi)) | ((with_reducible refine gate_dst (N := 10) rfl ?_);refine box_event ?hg (N := 10) ?hd (cs := #[.int .i64 0,.int .i64 0,.int .i64 0]) (t := 26) ?hr ?_;(case hd => rfl);(case hg => rfl);(case hr => first | (go_simp;done) | (go_simp;rfl));intro gb199 hg w159 hbox hb;have n0_ := Aside0.mk (blk_below (g := gb183) (o := .cells #[.int .i64 a0_0,.int .i64 a0_1,.int .i64 a0_2,.int .i64 a0_3,.int .i64 a0_4,.int .i64 a0_5,.int .i64 a0_6,.int .i64 a0_7,.int .i64 a0_8,.int .i64 a0_9] 30 (0,0)) (by (with_reducible repeat (first | refine blk_drewN ?_ _ | refine blk_drew ?_ | refine blk_alloc ?_ _));exact K83.out) hb);have n1_ := Aside0.mk (blk_below (g := gb184) (o := .cells #[.int .i64 x185000_1,.int .i64 x185001_1,.int .i64 x185002_1] 26 (0,0)) (by (with_reducible repeat (first | refine blk_drewN ?_ _ | refine blk_drew ?_ | refine blk_alloc ?_ _));exact K84.out) hb);have n2_ := Aside0.mk (blk_below (g := gb191) (o := .cells #[.int .i64 t186,.int .i64 t187,.int .i64 t188] 26 (0,0)) (by (with_reducible repeat (first | refine blk_drewN ?_ _ | refine blk_drew ?_ | refine blk_alloc ?_ _));exact K91.out) hb);have n3_ := Aside0.mk (below_step (by repeat (first | (with_reducible first | exact HB.out | apply below_alloc | apply pw_below_drewN | apply below_drew1 | refine below_set ?_ GE183.out | refine below_set ?_ GE184.out | refine below_set ?_ GE191.out) | exact HB.out)) hb);have n4_ := Aside0.mk (hbox);have n5_ := Aside0.mk ((by rw [hg];exact (below_size (by repeat (first | (with_reducible first | exact HB.out | apply below_alloc | apply pw_below_drewN | apply below_drew1 | refine below_set ?_ GE183.out | refine below_set ?_ GE184.out | refine below_set ?_ GE191.out) | exact HB.out))) : w.heap.size ≤ gb199));have n6_ := Aside0.mk ((by rw [hg];exact (below_size (by repeat (first | (with_reducible first | exact HB.out | apply below_alloc | apply pw_below_drewN | apply below_drew1 | refine below_set ?_ GE183.out | refine below_set ?_ GE184.out | refine below_set ?_ GE191.out) | exact HB.out))) : w.heap.size ≤ gb199));have n7_ := Aside0.mk ((by rw [hg];exact Nat.ne_of_lt (blk_lt (g := gb183) (o := .cells #[.int .i64 a0_0,.int .i64 a0_1,.int .i64 a0_2,.int .i64 a0_3,.int .i64 a0_4,.int .i64 a0_5,.int .i64 a0_6,.int .i64 a0_7,.int .i64 a0_8,.int .i64 a0_9] 30 (0,0)) (by (with_reducible repeat (first | refine blk_drewN ?_ _ | refine blk_drew ?_ | refine blk_alloc ?_ _));exact K83.out)) : gb183 ≠ gb199));have n8_ := Aside0.mk ((by rw [hg];exact Nat.ne_of_gt (blk_lt (g := gb183) (o := .cells #[.int .i64 a0_0,.int .i64 a0_1,.int .i64 a0_2,.int .i64 a0_3,.int .i64 a0_4,.int .i64 a0_5,.int .i64 a0_6,.int .i64 a0_7,.int .i64 a0_8,.int .i64 a0_9] 30 (0,0)) (by (with_reducible repeat (first | refine blk_drewN ?_ _ | refine blk_drew ?_ | refine blk_alloc ?_ _));exact K83.out)) : gb199 ≠ gb183));have n9_ := Aside0.mk ((by rw [hg];exact Nat.ne_of_lt (blk_lt (g := gb184) (o := .cells #[.int .i64 x185000_1,.int .i64 x185001_1,.int .i64 x185002_1] 26 (0,0)) (by (with_reducible repeat (first | refine blk_drewN ?_ _ | refine blk_drew ?_ | refine blk_alloc ?_ _));exact K84.out)) : gb184 ≠ gb199));have n10_ := Aside0.mk ((by rw [hg];exact Nat.ne_of_gt (blk_lt (g := gb184) (o := .cells #[.int .i64 x185000_1,.int .i64 x185001_1,.int .i64 x185002_1] 26 (0,0)) (by (with_reducible repeat (first | refine blk_drewN ?_ _ | refine blk_drew ?_ | refine blk_alloc ?_ _));exact K84.out)) : gb199 ≠ gb184));have n11_ := Aside0.mk ((by rw [hg];exact Nat.ne_of_lt (blk_lt (g := gb191) (o := .cells #[.int .i64 t186,.int .i64 t187,.int .i64 t188] 26 (0,0)) (by (with_reducible repeat (first | refine blk_drewN ?_ _ | refine blk_drew ?_ | refine blk_alloc ?_ _));exact K91.out)) : gb191 ≠ gb199));have n12_ := Aside0.mk ((by rw [hg];exact Nat.ne_of_gt (blk_lt (g := gb191) (o := .cells #[.int .i64 t186,.int .i64 t187,.int .i64 t188] 26 (0,0)) (by (with_reducible repeat (first | refine blk_drewN ?_ _ | refine blk_drew ?_ | refine blk_alloc ?_ _));exact K91.out)) : gb199 ≠ gb191));clear K83;clear K84;clear K91;clear HB;have K83 := n0_;have K84 := n1_;have K91 := n2_;have HB := n3_;have K99 := n4_;have GW199 := n5_;have GE199 := n6_;have NB183_199 := n7_;have NB199_183 := n8_;have NB184_199 := n9_;have NB199_184 := n10_;have NB191_199 := n11_;have NB199_191 := n12_;clear n0_ n1_ n2_ n3_ n4_ n5_ n6_ n7_ n8_ n9_ n10_ n11_ n12_;clear hb hbox hg;have hnb160 := NB199_183.out;have hnc160 := NB183_199.out;have hnb161 := NB199_184.out;have hnc161 := NB184_199.out;have hnb162 := NB199_191.out;have hnc162 := NB191_199.out;have hcz163_0 : w159.cell? ⟨gb199,0,none⟩ = some (.int .i64 0) := (blk_cell K99.out 0).trans rfl;have hcz163_1 : w159.cell? ⟨gb199,1,none⟩ = some (.int .i64 0) := (blk_cell K99.out 1).trans rfl;have hcz163_2 : w159.cell? ⟨gb199,2,none⟩ = some (.int .i64 0) := (blk_cell K99.out 2).trans rfl;have hfz163_0 := blk_frozen K99.out 0;have hfz163_1 := blk_frozen K99.out 1;have hfz163_2 := blk_frozen K99.out 2;have hcz164_0 : w159.cell? ⟨gb191,0,none⟩ = some (.int .i64 t186) := (blk_cell K91.out 0).trans rfl;have hcz164_1 : w159.cell? ⟨gb191,1,none⟩ = some (.int .i64 t187) := (blk_cell K91.out 1).trans rfl;have hcz164_2 : w159.cell? ⟨gb191,2,none⟩ = some (.int .i64 t188) := (blk_cell K91.out 2).trans rfl;have hfz164_0 := blk_frozen K91.out 0;have hfz164_1 := blk_frozen K91.out 1;have hfz164_2 := blk_frozen K91.out 2))
                 go_ret
                 exact ⟨by first | rfl | (simp [errW_none,errW_some] <;> rfl) | (simp [*,errW_none,errW_some] <;> rfl),by repeat (first | (with_reducible first | exact HB.out | apply below_alloc | apply pw_below_drewN | apply below_drew1 | refine below_set ?_ GE183.out | refine below_set ?_ GE184.out | refine below_set ?_ GE191.out | refine below_set ?_ GE199.out) | exact HB.out)⟩
               ·
                rw [if_neg c124] at H
                have c124b0 : (t194 == t186 && (t195 == t187 && (t196 == t188))) = false := by simpa using c124
                (try (have c124b1 : decide (t194 = t186 && (t195 == t187 && (t196 == t188))) = false := by simpa using c124))
                (try (have c124b2 : (t194 == t186 && (t195 == t187 && (t196 == t188))) = false := by simpa using c124))
                (try (have c124b3 : ¬ (t194 = t186 && (t195 == t187 && (t196 == t188))) := by simpa using c124))
                clear c124
                obtain rfl := Option.some.inj H
                have hnb165 := NB191_183.out
                have hnc165 := NB183_191.out
                have hnb166 := NB191_184.out
                have hnc166 := NB184_191.out
                have hcz167_0 : wc.cell? ⟨gb191,0,none⟩ = some (.int .i64 t186) := (blk_cell K91.out 0).trans rfl
                have hcz167_1 : wc.cell? ⟨gb191,1,none⟩ = some (.int .i64 t187) := (blk_cell K91.out 1).trans rfl
                have hcz167_2 : wc.cell? ⟨gb191,2,none⟩ = some (.int .i64 t188) := (blk_cell K91.out 2).trans rfl
                have hfz167_0 := blk_frozen K91.out 0
                have hfz167_1 := blk_frozen K91.out 1
                have hfz167_2 := blk_frozen K91.out 2
                have hnb168 := NB183_184.out
                have hnc168 := NB184_183.out
                have hcz169_0 : wc.cell? ⟨gb183,0,none⟩ = some (.int .i64 a0_0) := (blk_cell K83.out 0).trans rfl
                have hcz169_1 : wc.cell? ⟨gb183,1,none⟩ = some (.int .i64 a0_1) := (blk_cell K83.out 1).trans rfl
                have hcz169_2 : wc.cell? ⟨gb183,2,none⟩ = some (.int .i64 a0_2) := (blk_cell K83.out 2).trans rfl
                have hcz169_3 : wc.cell? ⟨gb183,3,none⟩ = some (.int .i64 a0_3) := (blk_cell K83.out 3).trans rfl
                have hcz169_4 : wc.cell? ⟨gb183,4,none⟩ = some (.int .i64 a0_4) := (blk_cell K83.out 4).trans rfl
                have hcz169_5 : wc.cell? ⟨gb183,5,none⟩ = some (.int .i64 a0_5) := (blk_cell K83.out 5).trans rfl
                have hcz169_6 : wc.cell? ⟨gb183,6,none⟩ = some (.int .i64 a0_6) := (blk_cell K83.out 6).trans rfl
                have hcz169_7 : wc.cell? ⟨gb183,7,none⟩ = some (.int .i64 a0_7) := (blk_cell K83.out 7).trans rfl
                have hcz169_8 : wc.cell? ⟨gb183,8,none⟩ = some (.int .i64 a0_8) := (blk_cell K83.out 8).trans rfl
                have hcz169_9 : wc.cell? ⟨gb183,9,none⟩ = some (.int .i64 a0_9) := (blk_cell K83.out 9).trans rfl
                have hfz169_0 := blk_frozen K83.out 0
                have hfz169_1 := blk_frozen K83.out 1
                have hfz169_2 := blk_frozen K83.out 2
                have hfz169_3 := blk_frozen K83.out 3
                have hfz169_4 := blk_frozen K83.out 4
                have hfz169_5 := blk_frozen K83.out 5
                have hfz169_6 := blk_frozen K83.out 6
                have hfz169_7 := blk_frozen K83.out 7
                have hfz169_8 := blk_frozen K83.out 8
                have hfz169_9 := blk_frozen K83.out 9
                go_wp2_with (first | ((with_reducible refine gate_callee (f := 15) rfl ?_);refine goesL_ (some 163) rfl rfl Tryd.func15 (by kernel_rfl) rfl #[.agg #[.int .i64 t186,.int .i64 t187,.int .i64 t188],.agg #[.int .i64 a0_3,.int .i64 a0_4,.int .i64 a0_5,.int .i64 a0_6],.int .i64 a0_7,.int .i64 a0_8] rfl (by (try simp only [List.map_toArray,List.map_cons,List.map_nil]);first | done | rfl | (simp only [List.length_drop,List.length_take];rfl)) ?_;(with_reducible refine (drive_Step.calls kj108 t186 t187 t188 a0_3 a0_4 a0_5 a0_6 a0_7 a0_8 t194 t195 t196 t197 t198 _ ?side1 A123.out).mono ?_);(case side1 => exact Tg.Tab.below HTAB.out (by repeat (first | (with_reducible first | exact HB.out | apply below_alloc | apply pw_below_drewN | apply below_drew1 | refine below_set ?_ GE183.out | refine below_set ?_ GE184.out | refine below_set ?_ GE191.out) | exact HB.out)));rintro e w170 ⟨rfl,hb⟩;refine ⟨_,rfl,?_⟩;have n0_ := Aside0.mk (blk_below (g := gb183) (o := .cells #[.int .i64 a0_0,.int .i64 a0_1,.int .i64 a0_2,.int .i64 a0_3,.int .i64 a0_4,.int .i64 a0_5,.int .i64 a0_6,.int .i64 a0_7,.int .i64 a0_8,.int .i64 a0_9] 30 (0,0)) (by (with_reducible repeat (first | refine blk_drewN ?_ _ | refine blk_drew ?_ | refine blk_alloc ?_ _));exact K83.out) hb);have n1_ := Aside0.mk (blk_below (g := gb184) (o := .cells #[.int .i64 x185000_1,.int .i64 x185001_1,.int .i64 x185002_1] 26 (0,0)) (by (with_reducible repeat (first | refine blk_drewN ?_ _ | refine blk_drew ?_ | refine blk_alloc ?_ _));exact K84.out) hb);have n2_ := Aside0.mk (blk_below (g := gb191) (o := .cells #[.int .i64 t186,.int .i64 t187,.int .i64 t188] 26 (0,0)) (by (with_reducible repeat (first | refine blk_drewN ?_ _ | refine blk_drew ?_ | refine blk_alloc ?_ _));exact K91.out) hb);have n3_ := Aside0.mk (below_step (by repeat (first | (with_reducible first | exact HB.out | apply below_alloc | apply pw_below_drewN | apply below_drew1 | refine below_set ?_ GE183.out | refine below_set ?_ GE184.out | refine below_set ?_ GE191.out) | exact HB.out)) hb);clear K83;clear K84;clear K91;clear HB;have K83 := n0_;have K84 := n1_;have K91 := n2_;have HB := n3_;clear n0_ n1_ n2_ n3_;(try clear hb);(try clear hb2);(try clear hk);(try clear hi)) | ((with_reducible refine gate_dst (N := 10) rfl ?_);refine box_event ?hg (N := 10) ?hd (cs := #[.int .i64 0,.int .i64 0,.int .i64 0]) (t := 26) ?hr ?_;(case hd => rfl);(case hg => rfl);(case hr => first | (go_simp;done) | (go_simp;rfl));intro gb199 hg w171 hbox hb;have n0_ := Aside0.mk (blk_below (g := gb183) (o := .cells #[.int .i64 a0_0,.int .i64 a0_1,.int .i64 a0_2,.int .i64 a0_3,.int .i64 a0_4,.int .i64 a0_5,.int .i64 a0_6,.int .i64 a0_7,.int .i64 a0_8,.int .i64 a0_9] 30 (0,0)) (by (with_reducible repeat (first | refine blk_drewN ?_ _ | refine blk_drew ?_ | refine blk_alloc ?_ _));exact K83.out) hb);have n1_ := Aside0.mk (blk_below (g := gb184) (o := .cells #[.int .i64 x185000_1,.int .i64 x185001_1,.int .i64 x185002_1] 26 (0,0)) (by (with_reducible repeat (first | refine blk_drewN ?_ _ | refine blk_drew ?_ | refine blk_alloc ?_ _));exact K84.out) hb);have n2_ := Aside0.mk (blk_below (g := gb191) (o := .cells #[.int .i64 t186,.int .i64 t187,.int .i64 t188] 26 (0,0)) (by (with_reducible repeat (first | refine blk_drewN ?_ _ | refine blk_drew ?_ | refine blk_alloc ?_ _));exact K91.out) hb);have n3_ := Aside0.mk (below_step (by repeat (first | (with_reducible first | exact HB.out | apply below_alloc | apply pw_below_drewN | apply below_drew1 | refine below_set ?_ GE183.out | refine below_set ?_ GE184.out | refine below_set ?_ GE191.out) | exact HB.out)) hb);have n4_ := Aside0.mk (hbox);have n5_ := Aside0.mk ((by rw [hg];exact (below_size (by repeat (first | (with_reducible first | exact HB.out | apply below_alloc | apply pw_below_drewN | apply below_drew1 | refine below_set ?_ GE183.out | refine below_set ?_ GE184.out | refine below_set ?_ GE191.out) | exact HB.out))) : w.heap.size ≤ gb199));have n6_ := Aside0.mk ((by rw [hg];exact (below_size (by repeat (first | (with_reducible first | exact HB.out | apply below_alloc | apply pw_below_drewN | apply below_drew1 | refine below_set ?_ GE183.out | refine below_set ?_ GE184.out | refine below_set ?_ GE191.out) | exact HB.out))) : w.heap.size ≤ gb199));have n7_ := Aside0.mk ((by rw [hg];exact Nat.ne_of_lt (blk_lt (g := gb183) (o := .cells #[.int .i64 a0_0,.int .i64 a0_1,.int .i64 a0_2,.int .i64 a0_3,.int .i64 a0_4,.int .i64 a0_5,.int .i64 a0_6,.int .i64 a0_7,.int .i64 a0_8,.int .i64 a0_9] 30 (0,0)) (by (with_reducible repeat (first | refine blk_drewN ?_ _ | refine blk_drew ?_ | refine blk_alloc ?_ _));exact K83.out)) : gb183 ≠ gb199));have n8_ := Aside0.mk ((by rw [hg];exact Nat.ne_of_gt (blk_lt (g := gb183) (o := .cells #[.int .i64 a0_0,.int .i64 a0_1,.int .i64 a0_2,.int .i64 a0_3,.int .i64 a0_4,.int .i64 a0_5,.int .i64 a0_6,.int .i64 a0_7,.int .i64 a0_8,.int .i64 a0_9] 30 (0,0)) (by (with_reducible repeat (first | refine blk_drewN ?_ _ | refine blk_drew ?_ | refine blk_alloc ?_ _));exact K83.out)) : gb199 ≠ gb183));have n9_ := Aside0.mk ((by rw [hg];exact Nat.ne_of_lt (blk_lt (g := gb184) (o := .cells #[.int .i64 x185000_1,.int .i64 x185001_1,.int .i64 x185002_1] 26 (0,0)) (by (with_reducible repeat (first | refine blk_drewN ?_ _ | refine blk_drew ?_ | refine blk_alloc ?_ _));exact K84.out)) : gb184 ≠ gb199));have n10_ := Aside0.mk ((by rw [hg];exact Nat.ne_of_gt (blk_lt (g := gb184) (o := .cells #[.int .i64 x185000_1,.int .i64 x185001_1,.int .i64 x185002_1] 26 (0,0)) (by (with_reducible repeat (first | refine blk_drewN ?_ _ | refine blk_drew ?_ | refine blk_alloc ?_ _));exact K84.out)) : gb199 ≠ gb184));have n11_ := Aside0.mk ((by rw [hg];exact Nat.ne_of_lt (blk_lt (g := gb191) (o := .cells #[.int .i64 t186,.int .i64 t187,.int .i64 t188] 26 (0,0)) (by (with_reducible repeat (first | refine blk_drewN ?_ _ | refine blk_drew ?_ | refine blk_alloc ?_ _));exact K91.out)) : gb191 ≠ gb199));have n12_ := Aside0.mk ((by rw [hg];exact Nat.ne_of_gt (blk_lt (g := gb191) (o := .cells #[.int .i64 t186,.int .i64 t187,.int .i64 t188] 26 (0,0)) (by (with_reducible repeat (first | refine blk_drewN ?_ _ | refine blk_drew ?_ | refine blk_alloc ?_ _));exact K91.out)) : gb199 ≠ gb191));clear K83;clear K84;clear K91;clear HB;have K83 := n0_;have K84 := n1_;have K91 := n2_;have HB := n3_;have K99 := n4_;have GW199 := n5_;have GE199 := n6_;have NB183_199 := n7_;have NB199_183 := n8_;have NB184_199 := n9_;have NB199_184 := n10_;have NB191_199 := n11_;have NB199_191 := n12_;clear n0_ n1_ n2_ n3_ n4_ n5_ n6_ n7_ n8_ n9_ n10_ n11_ n12_;clear hb hbox hg;have hnb172 := NB199_183.out;have hnc172 := NB183_199.out;have hnb173 := NB199_184.out;have hnc173 := NB184_199.out;have hnb174 := NB199_191.out;have hnc174 := NB191_199.out;have hcz175_0 : w171.cell? ⟨gb199,0,none⟩ = some (.int .i64 0) := (blk_cell K99.out 0).trans rfl;have hcz175_1 : w171.cell? ⟨gb199,1,none⟩ = some (.int .i64 0) := (blk_cell K99.out 1).trans rfl;have hcz175_2 : w171.cell? ⟨gb199,2,none⟩ = some (.int .i64 0) := (blk_cell K99.out 2).trans rfl;have hfz175_0 := blk_frozen K99.out 0;have hfz175_1 := blk_frozen K99.out 1;have hfz175_2 := blk_frozen K99.out 2;have hcz176_0 : w171.cell? ⟨gb191,0,none⟩ = some (.int .i64 t186) := (blk_cell K91.out 0).trans rfl;have hcz176_1 : w171.cell? ⟨gb191,1,none⟩ = some (.int .i64 t187) := (blk_cell K91.out 1).trans rfl;have hcz176_2 : w171.cell? ⟨gb191,2,none⟩ = some (.int .i64 t188) := (blk_cell K91.out 2).trans rfl;have hfz176_0 := blk_frozen K91.out 0;have hfz176_1 := blk_frozen K91.out 1;have hfz176_2 := blk_frozen K91.out 2))
                go_ret
                exact ⟨by first | rfl | (simp [errW_none,errW_some] <;> rfl) | (simp [*,errW_none,errW_some] <;> rfl),by repeat (first | (with_reducible first | exact HB.out | apply below_alloc | apply pw_below_drewN | apply below_drew1 | refine below_set ?_ GE183.out | refine below_set ?_ GE184.out | refine below_set ?_ GE191.out | refine below_set ?_ GE199.out) | exact HB.out)⟩
              ·
               replace c122 := Bool.eq_false_iff.mpr c122
               subst c122
               have H1 : (DSt.l0 kj108 (wrap64 (x4_1 + 1)) a0_0 a0_1 a0_2 a0_3 a0_4 a0_5 a0_6 a0_7 a0_8 a0_9 t186 t187 t188) = some r := by rw [if_neg (show ¬ (false = true) by decide)] at H;exact H
               clear H
               have H := H1
               clear H1
               have H' := Aside0.mk H
               clear H
               have hnb177 := NB191_183.out
               have hnc177 := NB183_191.out
               have hnb178 := NB191_184.out
               have hnc178 := NB184_191.out
               have hcz179_0 : wc.cell? ⟨gb191,0,none⟩ = some (.int .i64 t186) := (blk_cell K91.out 0).trans rfl
               have hcz179_1 : wc.cell? ⟨gb191,1,none⟩ = some (.int .i64 t187) := (blk_cell K91.out 1).trans rfl
               have hcz179_2 : wc.cell? ⟨gb191,2,none⟩ = some (.int .i64 t188) := (blk_cell K91.out 2).trans rfl
               have hfz179_0 := blk_frozen K91.out 0
               have hfz179_1 := blk_frozen K91.out 1
               have hfz179_2 := blk_frozen K91.out 2
               have hnb180 := NB184_183.out
               have hnc180 := NB183_184.out
               have hcz181_0 : wc.cell? ⟨gb184,0,none⟩ = some (.int .i64 x185000_1) := (blk_cell K84.out 0).trans rfl
               have hcz181_1 : wc.cell? ⟨gb184,1,none⟩ = some (.int .i64 x185001_1) := (blk_cell K84.out 1).trans rfl
               have hcz181_2 : wc.cell? ⟨gb184,2,none⟩ = some (.int .i64 x185002_1) := (blk_cell K84.out 2).trans rfl
               have hfz181_0 := blk_frozen K84.out 0
               have hfz181_1 := blk_frozen K84.out 1
               have hfz181_2 := blk_frozen K84.out 2
               go_wp2
               go_roundg kj108
               case measure => have := HK1.out;have := HJ6.out;have := HJ15.out;have := HJ108.out;omega
               case rel => exact ⟨(wrap64 (x4_1 + 1)),(t186),(t187),(t188),(by first | rfl | (simp;done) | (simp [*];done)),H',⟨by have := HK1.out;have := HJ6.out;have := HJ15.out;have := HJ108.out;omega⟩,⟨by (with_reducible repeat (first | refine blk_drewN ?_ _ | refine blk_drew ?_ | refine blk_alloc ?_ _));refine blk_far ?_ NB183_184.out _;(with_reducible repeat (first | refine blk_drewN ?_ _ | refine blk_drew ?_ | refine blk_alloc ?_ _));refine blk_far ?_ NB183_184.out _;(with_reducible repeat (first | refine blk_drewN ?_ _ | refine blk_drew ?_ | refine blk_alloc ?_ _));refine blk_far ?_ NB183_184.out _;(with_reducible repeat (first | refine blk_drewN ?_ _ | refine blk_drew ?_ | refine blk_alloc ?_ _));exact K83.out⟩,⟨by (with_reducible repeat (first | refine blk_drewN ?_ _ | refine blk_drew ?_ | refine blk_alloc ?_ _));refine blk_put (cs := #[.int .i64 t186,.int .i64 t187,.int .i64 x185002_1]) ?_ 2 _ rfl;(with_reducible repeat (first | refine blk_drewN ?_ _ | refine blk_drew ?_ | refine blk_alloc ?_ _));refine blk_put (cs := #[.int .i64 t186,.int .i64 x185001_1,.int .i64 x185002_1]) ?_ 1 _ rfl;(with_reducible repeat (first | refine blk_drewN ?_ _ | refine blk_drew ?_ | refine blk_alloc ?_ _));refine blk_put (cs := #[.int .i64 x185000_1,.int .i64 x185001_1,.int .i64 x185002_1]) ?_ 0 _ rfl;(with_reducible repeat (first | refine blk_drewN ?_ _ | refine blk_drew ?_ | refine blk_alloc ?_ _));exact K84.out⟩,⟨by repeat (first | (with_reducible first | exact HB.out | apply below_alloc | apply pw_below_drewN | apply below_drew1 | refine below_set ?_ GE183.out | refine below_set ?_ GE184.out | refine below_set ?_ GE191.out) | exact HB.out)⟩⟩
      ·
       as_aux_lemma =>
        rw [if_neg c15] at H
        have c15b0 : (t190 == 0) = false := beq_eq_false_iff_ne.mpr c15
        have c15b1 : (t190 != 0) = true := bne_iff_ne.mpr c15
        by_cases c182 : x4_1 = 0
        ·
         rw [if_pos c182] at H
         have c182b0 : (x4_1 == 0) = true := beq_iff_eq.mpr c182
         have c182b1 : (x4_1 != 0) = false := bne_eq_false_iff_eq.mpr c182
         clear c182
         by_cases c183 : t189 = true
         ·
          subst c183
          have H1 : (some false) = some r := by rw [if_pos rfl] at H;exact H
          clear H
          have H := H1
          clear H1
          obtain rfl := Option.some.inj H
          have hnb184 := NB184_183.out
          have hnc184 := NB183_184.out
          have hcz185_0 : wc.cell? ⟨gb184,0,none⟩ = some (.int .i64 x185000_1) := (blk_cell K84.out 0).trans rfl
          have hcz185_1 : wc.cell? ⟨gb184,1,none⟩ = some (.int .i64 x185001_1) := (blk_cell K84.out 1).trans rfl
          have hcz185_2 : wc.cell? ⟨gb184,2,none⟩ = some (.int .i64 x185002_1) := (blk_cell K84.out 2).trans rfl
          have hfz185_0 := blk_frozen K84.out 0
          have hfz185_1 := blk_frozen K84.out 1
          have hfz185_2 := blk_frozen K84.out 2
          have hcz186_0 : wc.cell? ⟨gb183,0,none⟩ = some (.int .i64 a0_0) := (blk_cell K83.out 0).trans rfl
          have hcz186_1 : wc.cell? ⟨gb183,1,none⟩ = some (.int .i64 a0_1) := (blk_cell K83.out 1).trans rfl
          have hcz186_2 : wc.cell? ⟨gb183,2,none⟩ = some (.int .i64 a0_2) := (blk_cell K83.out 2).trans rfl
          have hcz186_3 : wc.cell? ⟨gb183,3,none⟩ = some (.int .i64 a0_3) := (blk_cell K83.out 3).trans rfl
          have hcz186_4 : wc.cell? ⟨gb183,4,none⟩ = some (.int .i64 a0_4) := (blk_cell K83.out 4).trans rfl
          have hcz186_5 : wc.cell? ⟨gb183,5,none⟩ = some (.int .i64 a0_5) := (blk_cell K83.out 5).trans rfl
          have hcz186_6 : wc.cell? ⟨gb183,6,none⟩ = some (.int .i64 a0_6) := (blk_cell K83.out 6).trans rfl
          have hcz186_7 : wc.cell? ⟨gb183,7,none⟩ = some (.int .i64 a0_7) := (blk_cell K83.out 7).trans rfl
          have hcz186_8 : wc.cell? ⟨gb183,8,none⟩ = some (.int .i64 a0_8) := (blk_cell K83.out 8).trans rfl
          have hcz186_9 : wc.cell? ⟨gb183,9,none⟩ = some (.int .i64 a0_9) := (blk_cell K83.out 9).trans rfl
          have hfz186_0 := blk_frozen K83.out 0
          have hfz186_1 := blk_frozen K83.out 1
          have hfz186_2 := blk_frozen K83.out 2
          have hfz186_3 := blk_frozen K83.out 3
          have hfz186_4 := blk_frozen K83.out 4
          have hfz186_5 := blk_frozen K83.out 5
          have hfz186_6 := blk_frozen K83.out 6
          have hfz186_7 := blk_frozen K83.out 7
          have hfz186_8 := blk_frozen K83.out 8
          have hfz186_9 := blk_frozen K83.out 9
          go_wp2_with (first | ((with_reducible refine gate_callee (f := 15) rfl ?_);refine goesL_ (some 33) rfl rfl Tryd.func15 (by kernel_rfl) rfl #[.agg #[.int .i64 x185000_1,.int .i64 x185001_1,.int .i64 x185002_1],.agg #[.int .i64 a0_3,.int .i64 a0_4,.int .i64 a0_5,.int .i64 a0_6],.int .i64 a0_7,.int .i64 a0_8] rfl (by (try simp only [List.map_toArray,List.map_cons,List.map_nil]);first | done | rfl | (simp only [List.length_drop,List.length_take];rfl)) ?_;(with_reducible refine (drive_Step.calls kj6 x185000_1 x185001_1 x185002_1 a0_3 a0_4 a0_5 a0_6 a0_7 a0_8 t186 t187 t188 true t190 _ ?side1 A14.out).mono ?_);(case side1 => exact Tg.Tab.below HTAB.out (by repeat (first | (with_reducible first | exact HB.out | apply below_alloc | apply pw_below_drewN | apply below_drew1 | refine below_set ?_ GE183.out | refine below_set ?_ GE184.out) | exact HB.out)));rintro e w187 ⟨rfl,hb⟩;refine ⟨_,rfl,?_⟩;have n0_ := Aside0.mk (blk_below (g := gb183) (o := .cells #[.int .i64 a0_0,.int .i64 a0_1,.int .i64 a0_2,.int .i64 a0_3,.int .i64 a0_4,.int .i64 a0_5,.int .i64 a0_6,.int .i64 a0_7,.int .i64 a0_8,.int .i64 a0_9] 30 (0,0)) (by (with_reducible repeat (first | refine blk_drewN ?_ _ | refine blk_drew ?_ | refine blk_alloc ?_ _));exact K83.out) hb);have n1_ := Aside0.mk (blk_below (g := gb184) (o := .cells #[.int .i64 x185000_1,.int .i64 x185001_1,.int .i64 x185002_1] 26 (0,0)) (by (with_reducible repeat (first | refine blk_drewN ?_ _ | refine blk_drew ?_ | refine blk_alloc ?_ _));exact K84.out) hb);have n2_ := Aside0.mk (below_step (by repeat (first | (with_reducible first | exact HB.out | apply below_alloc | apply pw_below_drewN | apply below_drew1 | refine below_set ?_ GE183.out | refine below_set ?_ GE184.out) | exact HB.out)) hb);clear K83;clear K84;clear HB;have K83 := n0_;have K84 := n1_;have HB := n2_;clear n0_ n1_ n2_;(try clear hb);(try clear hb2);(try clear hk);(try clear hi)) | ((with_reducible refine gate_dst (N := 5) rfl ?_);refine box_event ?hg (N := 5) ?hd (cs := #[.int .i64 0,.int .i64 0,.int .i64 0]) (t := 26) ?hr ?_;(case hd => rfl);(case hg => rfl);(case hr => first | (go_simp;done) | (go_simp;rfl));intro gb191 hg w188 hbox hb;have n0_ := Aside0.mk (blk_below (g := gb183) (o := .cells #[.int .i64 a0_0,.int .i64 a0_1,.int .i64 a0_2,.int .i64 a0_3,.int .i64 a0_4,.int .i64 a0_5,.int .i64 a0_6,.int .i64 a0_7,.int .i64 a0_8,.int .i64 a0_9] 30 (0,0)) (by (with_reducible repeat (first | refine blk_drewN ?_ _ | refine blk_drew ?_ | refine blk_alloc ?_ _));exact K83.out) hb);have n1_ := Aside0.mk (blk_below (g := gb184) (o := .cells #[.int .i64 x185000_1,.int .i64 x185001_1,.int .i64 x185002_1] 26 (0,0)) (by (with_reducible repeat (first | refine blk_drewN ?_ _ | refine blk_drew ?_ | refine blk_alloc ?_ _));exact K84.out) hb);have n2_ := Aside0.mk (below_step (by repeat (first | (with_reducible first | exact HB.out | apply below_alloc | apply pw_below_drewN | apply below_drew1 | refine below_set ?_ GE183.out | refine below_set ?_ GE184.out) | exact HB.out)) hb);have n3_ := Aside0.mk (hbox);have n4_ := Aside0.mk ((by rw [hg];exact (below_size (by repeat (first | (with_reducible first | exact HB.out | apply below_alloc | apply pw_below_drewN | apply below_drew1 | refine below_set ?_ GE183.out | refine below_set ?_ GE184.out) | exact HB.out))) : w.heap.size ≤ gb191));have n5_ := Aside0.mk ((by rw [hg];exact (below_size (by repeat (first | (with_reducible first | exact HB.out | apply below_alloc | apply pw_below_drewN | apply below_drew1 | refine below_set ?_ GE183.out | refine below_set ?_ GE184.out) | exact HB.out))) : w.heap.size ≤ gb191));have n6_ := Aside0.mk ((by rw [hg];exact Nat.ne_of_lt (blk_lt (g := gb183) (o := .cells #[.int .i64 a0_0,.int .i64 a0_1,.int .i64 a0_2,.int .i64 a0_3,.int .i64 a0_4,.int .i64 a0_5,.int .i64 a0_6,.int .i64 a0_7,.int .i64 a0_8,.int .i64 a0_9] 30 (0,0)) (by (with_reducible repeat (first | refine blk_drewN ?_ _ | refine blk_drew ?_ | refine blk_alloc ?_ _));exact K83.out)) : gb183 ≠ gb191));have n7_ := Aside0.mk ((by rw [hg];exact Nat.ne_of_gt (blk_lt (g := gb183) (o := .cells #[.int .i64 a0_0,.int .i64 a0_1,.int .i64 a0_2,.int .i64 a0_3,.int .i64 a0_4,.int .i64 a0_5,.int .i64 a0_6,.int .i64 a0_7,.int .i64 a0_8,.int .i64 a0_9] 30 (0,0)) (by (with_reducible repeat (first | refine blk_drewN ?_ _ | refine blk_drew ?_ | refine blk_alloc ?_ _));exact K83.out)) : gb191 ≠ gb183));have n8_ := Aside0.mk ((by rw [hg];exact Nat.ne_of_lt (blk_lt (g := gb184) (o := .cells #[.int .i64 x185000_1,.int .i64 x185001_1,.int .i64 x185002_1] 26 (0,0)) (by (with_reducible repeat (first | refine blk_drewN ?_ _ | refine blk_drew ?_ | refine blk_alloc ?_ _));exact K84.out)) : gb184 ≠ gb191));have n9_ := Aside0.mk ((by rw [hg];exact Nat.ne_of_gt (blk_lt (g := gb184) (o := .cells #[.int .i64 x185000_1,.int .i64 x185001_1,.int .i64 x185002_1] 26 (0,0)) (by (with_reducible repeat (first | refine blk_drewN ?_ _ | refine blk_drew ?_ | refine blk_alloc ?_ _));exact K84.out)) : gb191 ≠ gb184));clear K83;clear K84;clear HB;have K83 := n0_;have K84 := n1_;have HB := n2_;have K91 := n3_;have GW191 := n4_;have GE191 := n5_;have NB183_191 := n6_;have NB191_183 := n7_;have NB184_191 := n8_;have NB191_184 := n9_;clear n0_ n1_ n2_ n3_ n4_ n5_ n6_ n7_ n8_ n9_;clear hb hbox hg;have hnb189 := NB191_183.out;have hnc189 := NB183_191.out;have hnb190 := NB191_184.out;have hnc190 := NB184_191.out;have hcz191_0 : w188.cell? ⟨gb191,0,none⟩ = some (.int .i64 0) := (blk_cell K91.out 0).trans rfl;have hcz191_1 : w188.cell? ⟨gb191,1,none⟩ = some (.int .i64 0) := (blk_cell K91.out 1).trans rfl;have hcz191_2 : w188.cell? ⟨gb191,2,none⟩ = some (.int .i64 0) := (blk_cell K91.out 2).trans rfl;have hfz191_0 := blk_frozen K91.out 0;have hfz191_1 := blk_frozen K91.out 1;have hfz191_2 := blk_frozen K91.out 2))
          go_ret
          exact ⟨by first | rfl | (simp [errW_none,errW_some] <;> rfl) | (simp [*,errW_none,errW_some] <;> rfl),by repeat (first | (with_reducible first | exact HB.out | apply below_alloc | apply pw_below_drewN | apply below_drew1 | refine below_set ?_ GE183.out | refine below_set ?_ GE184.out | refine below_set ?_ GE191.out) | exact HB.out)⟩
         ·
          replace c183 := Bool.eq_false_iff.mpr c183
          subst c183
          have H1 : ((bivouaclaw14_awake.f kj6).bind fun t192 => (some t192)) = some r := by rw [if_neg (show ¬ (false = true) by decide)] at H;exact H
          clear H
          have H := H1
          clear H1
          replace H := Option.bind_eq_some_iff.mp H
          obtain ⟨t192,A1920,H⟩ := H
          replace H : (some t192) = some r := H
          have A192 := Aside0.mk A1920
          clear A1920
          obtain rfl := Option.some.inj H
          have hnb193 := NB184_183.out
          have hnc193 := NB183_184.out
          have hcz194_0 : wc.cell? ⟨gb184,0,none⟩ = some (.int .i64 x185000_1) := (blk_cell K84.out 0).trans rfl
          have hcz194_1 : wc.cell? ⟨gb184,1,none⟩ = some (.int .i64 x185001_1) := (blk_cell K84.out 1).trans rfl
          have hcz194_2 : wc.cell? ⟨gb184,2,none⟩ = some (.int .i64 x185002_1) := (blk_cell K84.out 2).trans rfl
          have hfz194_0 := blk_frozen K84.out 0
          have hfz194_1 := blk_frozen K84.out 1
          have hfz194_2 := blk_frozen K84.out 2
          have hcz195_0 : wc.cell? ⟨gb183,0,none⟩ = some (.int .i64 a0_0) := (blk_cell K83.out 0).trans rfl
          have hcz195_1 : wc.cell? ⟨gb183,1,none⟩ = some (.int .i64 a0_1) := (blk_cell K83.out 1).trans rfl
          have hcz195_2 : wc.cell? ⟨gb183,2,none⟩ = some (.int .i64 a0_2) := (blk_cell K83.out 2).trans rfl
          have hcz195_3 : wc.cell? ⟨gb183,3,none⟩ = some (.int .i64 a0_3) := (blk_cell K83.out 3).trans rfl
          have hcz195_4 : wc.cell? ⟨gb183,4,none⟩ = some (.int .i64 a0_4) := (blk_cell K83.out 4).trans rfl
          have hcz195_5 : wc.cell? ⟨gb183,5,none⟩ = some (.int .i64 a0_5) := (blk_cell K83.out 5).trans rfl
          have hcz195_6 : wc.cell? ⟨gb183,6,none⟩ = some (.int .i64 a0_6) := (blk_cell K83.out 6).trans rfl
          have hcz195_7 : wc.cell? ⟨gb183,7,none⟩ = some (.int .i64 a0_7) := (blk_cell K83.out 7).trans rfl
          have hcz195_8 : wc.cell? ⟨gb183,8,none⟩ = some (.int .i64 a0_8) := (blk_cell K83.out 8).trans rfl
          have hcz195_9 : wc.cell? ⟨gb183,9,none⟩ = some (.int .i64 a0_9) := (blk_cell K83.out 9).trans rfl
          have hfz195_0 := blk_frozen K83.out 0
          have hfz195_1 := blk_frozen K83.out 1
          have hfz195_2 := blk_frozen K83.out 2
          have hfz195_3 := blk_frozen K83.out 3
          have hfz195_4 := blk_frozen K83.out 4
          have hfz195_5 := blk_frozen K83.out 5
          have hfz195_6 := blk_frozen K83.out 6
          have hfz195_7 := blk_frozen K83.out 7
          have hfz195_8 := blk_frozen K83.out 8
          have hfz195_9 := blk_frozen K83.out 9
          go_wp2_with (first | ((with_reducible refine gate_callee (f := 15) rfl ?_);refine goesL_ (some 33) rfl rfl Tryd.func15 (by kernel_rfl) rfl #[.agg #[.int .i64 x185000_1,.int .i64 x185001_1,.int .i64 x185002_1],.agg #[.int .i64 a0_3,.int .i64 a0_4,.int .i64 a0_5,.int .i64 a0_6],.int .i64 a0_7,.int .i64 a0_8] rfl (by (try simp only [List.map_toArray,List.map_cons,List.map_nil]);first | done | rfl | (simp only [List.length_drop,List.length_take];rfl)) ?_;(with_reducible refine (drive_Step.calls kj6 x185000_1 x185001_1 x185002_1 a0_3 a0_4 a0_5 a0_6 a0_7 a0_8 t186 t187 t188 false t190 _ ?side1 A14.out).mono ?_);(case side1 => exact Tg.Tab.below HTAB.out (by repeat (first | (with_reducible first | exact HB.out | apply below_alloc | apply pw_below_drewN | apply below_drew1 | refine below_set ?_ GE183.out | refine below_set ?_ GE184.out) | exact HB.out)));rintro e w196 ⟨rfl,hb⟩;refine ⟨_,rfl,?_⟩;have n0_ := Aside0.mk (blk_below (g := gb183) (o := .cells #[.int .i64 a0_0,.int .i64 a0_1,.int .i64 a0_2,.int .i64 a0_3,.int .i64 a0_4,.int .i64 a0_5,.int .i64 a0_6,.int .i64 a0_7,.int .i64 a0_8,.int .i64 a0_9] 30 (0,0)) (by (with_reducible repeat (first | refine blk_drewN ?_ _ | refine blk_drew ?_ | refine blk_alloc ?_ _));exact K83.out) hb);have n1_ := Aside0.mk (blk_below (g := gb184) (o := .cells #[.int .i64 x185000_1,.int .i64 x185001_1,.int .i64 x185002_1] 26 (0,0)) (by (with_reducible repeat (first | refine blk_drewN ?_ _ | refine blk_drew ?_ | refine blk_alloc ?_ _));exact K84.out) hb);have n2_ := Aside0.mk (below_step (by repeat (first | (with_reducible first | exact HB.out | apply below_alloc | apply pw_below_drewN | apply below_drew1 | refine below_set ?_ GE183.out | refine below_set ?_ GE184.out) | exact HB.out)) hb);clear K83;clear K84;clear HB;have K83 := n0_;have K84 := n1_;have HB := n2_;clear n0_ n1_ n2_;(try clear hb);(try clear hb2);(try clear hk);(try clear hi)) | ((with_reducible refine gate_dst (N := 5) rfl ?_);refine box_event ?hg (N := 5) ?hd (cs := #[.int .i64 0,.int .i64 0,.int .i64 0]) (t := 26) ?hr ?_;(case hd => rfl);(case hg => rfl);(case hr => first | (go_simp;done) | (go_simp;rfl));intro gb191 hg w197 hbox hb;have n0_ := Aside0.mk (blk_below (g := gb183) (o := .cells #[.int .i64 a0_0,.int .i64 a0_1,.int .i64 a0_2,.int .i64 a0_3,.int .i64 a0_4,.int .i64 a0_5,.int .i64 a0_6,.int .i64 a0_7,.int .i64 a0_8,.int .i64 a0_9] 30 (0,0)) (by (with_reducible repeat (first | refine blk_drewN ?_ _ | refine blk_drew ?_ | refine blk_alloc ?_ _));exact K83.out) hb);have n1_ := Aside0.mk (blk_below (g := gb184) (o := .cells #[.int .i64 x185000_1,.int .i64 x185001_1,.int .i64 x185002_1] 26 (0,0)) (by (with_reducible repeat (first | refine blk_drewN ?_ _ | refine blk_drew ?_ | refine blk_alloc ?_ _));exact K84.out) hb);have n2_ := Aside0.mk (below_step (by repeat (first | (with_reducible first | exact HB.out | apply below_alloc | apply pw_below_drewN | apply below_drew1 | refine below_set ?_ GE183.out | refine below_set ?_ GE184.out) | exact HB.out)) hb);have n3_ := Aside0.mk (hbox);have n4_ := Aside0.mk ((by rw [hg];exact (below_size (by repeat (first | (with_reducible first | exact HB.out | apply below_alloc | apply pw_below_drewN | apply below_drew1 | refine below_set ?_ GE183.out | refine below_set ?_ GE184.out) | exact HB.out))) : w.heap.size ≤ gb191));have n5_ := Aside0.mk ((by rw [hg];exact (below_size (by repeat (first | (with_reducible first | exact HB.out | apply below_alloc | apply pw_below_drewN | apply below_drew1 | refine below_set ?_ GE183.out | refine below_set ?_ GE184.out) | exact HB.out))) : w.heap.size ≤ gb191));have n6_ := Aside0.mk ((by rw [hg];exact Nat.ne_of_lt (blk_lt (g := gb183) (o := .cells #[.int .i64 a0_0,.int .i64 a0_1,.int .i64 a0_2,.int .i64 a0_3,.int .i64 a0_4,.int .i64 a0_5,.int .i64 a0_6,.int .i64 a0_7,.int .i64 a0_8,.int .i64 a0_9] 30 (0,0)) (by (with_reducible repeat (first | refine blk_drewN ?_ _ | refine blk_drew ?_ | refine blk_alloc ?_ _));exact K83.out)) : gb183 ≠ gb191));have n7_ := Aside0.mk ((by rw [hg];exact Nat.ne_of_gt (blk_lt (g := gb183) (o := .cells #[.int .i64 a0_0,.int .i64 a0_1,.int .i64 a0_2,.int .i64 a0_3,.int .i64 a0_4,.int .i64 a0_5,.int .i64 a0_6,.int .i64 a0_7,.int .i64 a0_8,.int .i64 a0_9] 30 (0,0)) (by (with_reducible repeat (first | refine blk_drewN ?_ _ | refine blk_drew ?_ | refine blk_alloc ?_ _));exact K83.out)) : gb191 ≠ gb183));have n8_ := Aside0.mk ((by rw [hg];exact Nat.ne_of_lt (blk_lt (g := gb184) (o := .cells #[.int .i64 x185000_1,.int .i64 x185001_1,.int .i64 x185002_1] 26 (0,0)) (by (with_reducible repeat (first | refine blk_drewN ?_ _ | refine blk_drew ?_ | refine blk_alloc ?_ _));exact K84.out)) : gb184 ≠ gb191));have n9_ := Aside0.mk ((by rw [hg];exact Nat.ne_of_gt (blk_lt (g := gb184) (o := .cells #[.int .i64 x185000_1,.int .i64 x185001_1,.int .i64 x185002_1] 26 (0,0)) (by (with_reducible repeat (first | refine blk_drewN ?_ _ | refine blk_drew ?_ | refine blk_alloc ?_ _));exact K84.out)) : gb191 ≠ gb184));clear K83;clear K84;clear HB;have K83 := n0_;have K84 := n1_;have HB := n2_;have K91 := n3_;have GW191 := n4_;have GE191 := n5_;have NB183_191 := n6_;have NB191_183 := n7_;have NB184_191 := n8_;have NB191_184 := n9_;clear n0_ n1_ n2_ n3_ n4_ n5_ n6_ n7_ n8_ n9_;clear hb hbox hg;have hnb198 := NB191_183.out;have hnc198 := NB183_191.out;have hnb199 := NB191_184.out;have hnc199 := NB184_191.out;have hcz200_0 : w197.cell? ⟨gb191,0,none⟩ = some (.int .i64 0) := (blk_cell K91.out 0).trans rfl;have hcz200_1 : w197.cell? ⟨gb191,1,none⟩ = some (.int .i64 0) := (blk_cell K91.out 1).trans rfl;have hcz200_2 : w197.cell? ⟨gb191,2,none⟩ = some (.int .i64 0) := (blk_cell K91.out 2).trans rfl;have hfz200_0 := blk_frozen K91.out 0;have hfz200_1 := blk_frozen K91.out 1;have hfz200_2 := blk_frozen K91.out 2) | (go_at_call 14;(with_reducible refine (bivouaclaw14_awake.calls kj6  t192 _ ?side1 A192.out).mono ?_);(case side1 => exact Tg.Tab.below HTAB.out (by repeat (first | (with_reducible first | exact HB.out | apply below_alloc | apply pw_below_drewN | apply below_drew1 | refine below_set ?_ GE183.out | refine below_set ?_ GE184.out | refine below_set ?_ GE191.out) | exact HB.out)));rintro e w201 ⟨rfl,hb⟩;have n0_ := Aside0.mk (blk_below (g := gb183) (o := .cells #[.int .i64 a0_0,.int .i64 a0_1,.int .i64 a0_2,.int .i64 a0_3,.int .i64 a0_4,.int .i64 a0_5,.int .i64 a0_6,.int .i64 a0_7,.int .i64 a0_8,.int .i64 a0_9] 30 (0,0)) (by (with_reducible repeat (first | refine blk_drewN ?_ _ | refine blk_drew ?_ | refine blk_alloc ?_ _));refine blk_far ?_ NB183_191.out _;(with_reducible repeat (first | refine blk_drewN ?_ _ | refine blk_drew ?_ | refine blk_alloc ?_ _));refine blk_far ?_ NB183_191.out _;(with_reducible repeat (first | refine blk_drewN ?_ _ | refine blk_drew ?_ | refine blk_alloc ?_ _));refine blk_far ?_ NB183_191.out _;(with_reducible repeat (first | refine blk_drewN ?_ _ | refine blk_drew ?_ | refine blk_alloc ?_ _));exact K83.out) hb);have n1_ := Aside0.mk (blk_below (g := gb184) (o := .cells #[.int .i64 x185000_1,.int .i64 x185001_1,.int .i64 x185002_1] 26 (0,0)) (by (with_reducible repeat (first | refine blk_drewN ?_ _ | refine blk_drew ?_ | refine blk_alloc ?_ _));refine blk_far ?_ NB184_191.out _;(with_reducible repeat (first | refine blk_drewN ?_ _ | refine blk_drew ?_ | refine blk_alloc ?_ _));refine blk_far ?_ NB184_191.out _;(with_reducible repeat (first | refine blk_drewN ?_ _ | refine blk_drew ?_ | refine blk_alloc ?_ _));refine blk_far ?_ NB184_191.out _;(with_reducible repeat (first | refine blk_drewN ?_ _ | refine blk_drew ?_ | refine blk_alloc ?_ _));exact K84.out) hb);have n2_ := Aside0.mk (blk_below (g := gb191) (o := .cells #[.int .i64 t186,.int .i64 t187,.int .i64 t188] 26 (0,0)) (by (with_reducible repeat (first | refine blk_drewN ?_ _ | refine blk_drew ?_ | refine blk_alloc ?_ _));refine blk_put (cs := #[.int .i64 t186,.int .i64 t187,.int .i64 0]) ?_ 2 _ rfl;(with_reducible repeat (first | refine blk_drewN ?_ _ | refine blk_drew ?_ | refine blk_alloc ?_ _));refine blk_put (cs := #[.int .i64 t186,.int .i64 0,.int .i64 0]) ?_ 1 _ rfl;(with_reducible repeat (first | refine blk_drewN ?_ _ | refine blk_drew ?_ | refine blk_alloc ?_ _));refine blk_put (cs := #[.int .i64 0,.int .i64 0,.int .i64 0]) ?_ 0 _ rfl;(with_reducible repeat (first | refine blk_drewN ?_ _ | refine blk_drew ?_ | refine blk_alloc ?_ _));exact K91.out) hb);have n3_ := Aside0.mk (below_step (by repeat (first | (with_reducible first | exact HB.out | apply below_alloc | apply pw_below_drewN | apply below_drew1 | refine below_set ?_ GE183.out | refine below_set ?_ GE184.out | refine below_set ?_ GE191.out) | exact HB.out)) hb);clear K83;clear K84;clear K91;clear HB;have K83 := n0_;have K84 := n1_;have K91 := n2_;have HB := n3_;clear n0_ n1_ n2_ n3_;(try clear hb);(try clear hb2);(try clear hk);(try clear hi)))
          go_ret
          exact ⟨by first | rfl | (simp [errW_none,errW_some] <;> rfl) | (simp [*,errW_none,errW_some] <;> rfl),by repeat (first | (with_reducible first | exact HB.out | apply below_alloc | apply pw_below_drewN | apply below_drew1 | refine below_set ?_ GE183.out | refine below_set ?_ GE184.out | refine below_set ?_ GE191.out) | exact HB.out)⟩
        ·
         rw [if_neg c182] at H
         have c182b0 : (x4_1 == 0) = false := beq_eq_false_iff_ne.mpr c182
         have c182b1 : (x4_1 != 0) = true := bne_iff_ne.mpr c182
         obtain rfl := Option.some.inj H
         have hnb202 := NB184_183.out
         have hnc202 := NB183_184.out
         have hcz203_0 : wc.cell? ⟨gb184,0,none⟩ = some (.int .i64 x185000_1) := (blk_cell K84.out 0).trans rfl
         have hcz203_1 : wc.cell? ⟨gb184,1,none⟩ = some (.int .i64 x185001_1) := (blk_cell K84.out 1).trans rfl
         have hcz203_2 : wc.cell? ⟨gb184,2,none⟩ = some (.int .i64 x185002_1) := (blk_cell K84.out 2).trans rfl
         have hfz203_0 := blk_frozen K84.out 0
         have hfz203_1 := blk_frozen K84.out 1
         have hfz203_2 := blk_frozen K84.out 2
         have hcz204_0 : wc.cell? ⟨gb183,0,none⟩ = some (.int .i64 a0_0) := (blk_cell K83.out 0).trans rfl
         have hcz204_1 : wc.cell? ⟨gb183,1,none⟩ = some (.int .i64 a0_1) := (blk_cell K83.out 1).trans rfl
         have hcz204_2 : wc.cell? ⟨gb183,2,none⟩ = some (.int .i64 a0_2) := (blk_cell K83.out 2).trans rfl
         have hcz204_3 : wc.cell? ⟨gb183,3,none⟩ = some (.int .i64 a0_3) := (blk_cell K83.out 3).trans rfl
         have hcz204_4 : wc.cell? ⟨gb183,4,none⟩ = some (.int .i64 a0_4) := (blk_cell K83.out 4).trans rfl
         have hcz204_5 : wc.cell? ⟨gb183,5,none⟩ = some (.int .i64 a0_5) := (blk_cell K83.out 5).trans rfl
         have hcz204_6 : wc.cell? ⟨gb183,6,none⟩ = some (.int .i64 a0_6) := (blk_cell K83.out 6).trans rfl
         have hcz204_7 : wc.cell? ⟨gb183,7,none⟩ = some (.int .i64 a0_7) := (blk_cell K83.out 7).trans rfl
         have hcz204_8 : wc.cell? ⟨gb183,8,none⟩ = some (.int .i64 a0_8) := (blk_cell K83.out 8).trans rfl
         have hcz204_9 : wc.cell? ⟨gb183,9,none⟩ = some (.int .i64 a0_9) := (blk_cell K83.out 9).trans rfl
         have hfz204_0 := blk_frozen K83.out 0
         have hfz204_1 := blk_frozen K83.out 1
         have hfz204_2 := blk_frozen K83.out 2
         have hfz204_3 := blk_frozen K83.out 3
         have hfz204_4 := blk_frozen K83.out 4
         have hfz204_5 := blk_frozen K83.out 5
         have hfz204_6 := blk_frozen K83.out 6
         have hfz204_7 := blk_frozen K83.out 7
         have hfz204_8 := blk_frozen K83.out 8
         have hfz204_9 := blk_frozen K83.out 9
         go_wp2_with (first | ((with_reducible refine gate_callee (f := 15) rfl ?_);refine goesL_ (some 33) rfl rfl Tryd.func15 (by kernel_rfl) rfl #[.agg #[.int .i64 x185000_1,.int .i64 x185001_1,.int .i64 x185002_1],.agg #[.int .i64 a0_3,.int .i64 a0_4,.int .i64 a0_5,.int .i64 a0_6],.int .i64 a0_7,.int .i64 a0_8] rfl (by (try simp only [List.map_toArray,List.map_cons,List.map_nil]);first | done | rfl | (simp only [List.length_drop,List.length_take];rfl)) ?_;(with_reducible refine (drive_Step.calls kj6 x185000_1 x185001_1 x185002_1 a0_3 a0_4 a0_5 a0_6 a0_7 a0_8 t186 t187 t188 t189 t190 _ ?side1 A14.out).mono ?_);(case side1 => exact Tg.Tab.below HTAB.out (by repeat (first | (with_reducible first | exact HB.out | apply below_alloc | apply pw_below_drewN | apply below_drew1 | refine below_set ?_ GE183.out | refine below_set ?_ GE184.out) | exact HB.out)));rintro e w205 ⟨rfl,hb⟩;refine ⟨_,rfl,?_⟩;have n0_ := Aside0.mk (blk_below (g := gb183) (o := .cells #[.int .i64 a0_0,.int .i64 a0_1,.int .i64 a0_2,.int .i64 a0_3,.int .i64 a0_4,.int .i64 a0_5,.int .i64 a0_6,.int .i64 a0_7,.int .i64 a0_8,.int .i64 a0_9] 30 (0,0)) (by (with_reducible repeat (first | refine blk_drewN ?_ _ | refine blk_drew ?_ | refine blk_alloc ?_ _));exact K83.out) hb);have n1_ := Aside0.mk (blk_below (g := gb184) (o := .cells #[.int .i64 x185000_1,.int .i64 x185001_1,.int .i64 x185002_1] 26 (0,0)) (by (with_reducible repeat (first | refine blk_drewN ?_ _ | refine blk_drew ?_ | refine blk_alloc ?_ _));exact K84.out) hb);have n2_ := Aside0.mk (below_step (by repeat (first | (with_reducible first | exact HB.out | apply below_alloc | apply pw_below_drewN | apply below_drew1 | refine below_set ?_ GE183.out | refine below_set ?_ GE184.out) | exact HB.out)) hb);clear K83;clear K84;clear HB;have K83 := n0_;have K84 := n1_;have HB := n2_;clear n0_ n1_ n2_;(try clear hb);(try clear hb2);(try clear hk);(try clear hi)) | ((with_reducible refine gate_dst (N := 5) rfl ?_);refine box_event ?hg (N := 5) ?hd (cs := #[.int .i64 0,.int .i64 0,.int .i64 0]) (t := 26) ?hr ?_;(case hd => rfl);(case hg => rfl);(case hr => first | (go_simp;done) | (go_simp;rfl));intro gb191 hg w206 hbox hb;have n0_ := Aside0.mk (blk_below (g := gb183) (o := .cells #[.int .i64 a0_0,.int .i64 a0_1,.int .i64 a0_2,.int .i64 a0_3,.int .i64 a0_4,.int .i64 a0_5,.int .i64 a0_6,.int .i64 a0_7,.int .i64 a0_8,.int .i64 a0_9] 30 (0,0)) (by (with_reducible repeat (first | refine blk_drewN ?_ _ | refine blk_drew ?_ | refine blk_alloc ?_ _));exact K83.out) hb);have n1_ := Aside0.mk (blk_below (g := gb184) (o := .cells #[.int .i64 x185000_1,.int .i64 x185001_1,.int .i64 x185002_1] 26 (0,0)) (by (with_reducible repeat (first | refine blk_drewN ?_ _ | refine blk_drew ?_ | refine blk_alloc ?_ _));exact K84.out) hb);have n2_ := Aside0.mk (below_step (by repeat (first | (with_reducible first | exact HB.out | apply below_alloc | apply pw_below_drewN | apply below_drew1 | refine below_set ?_ GE183.out | refine below_set ?_ GE184.out) | exact HB.out)) hb);have n3_ := Aside0.mk (hbox);have n4_ := Aside0.mk ((by rw [hg];exact (below_size (by repeat (first | (with_reducible first | exact HB.out | apply below_alloc | apply pw_below_drewN | apply below_drew1 | refine below_set ?_ GE183.out | refine below_set ?_ GE184.out) | exact HB.out))) : w.heap.size ≤ gb191));have n5_ := Aside0.mk ((by rw [hg];exact (below_size (by repeat (first | (with_reducible first | exact HB.out | apply below_alloc | apply pw_below_drewN | apply below_drew1 | refine below_set ?_ GE183.out | refine below_set ?_ GE184.out) | exact HB.out))) : w.heap.size ≤ gb191));have n6_ := Aside0.mk ((by rw [hg];exact Nat.ne_of_lt (blk_lt (g := gb183) (o := .cells #[.int .i64 a0_0,.int .i64 a0_1,.int .i64 a0_2,.int .i64 a0_3,.int .i64 a0_4,.int .i64 a0_5,.int .i64 a0_6,.int .i64 a0_7,.int .i64 a0_8,.int .i64 a0_9] 30 (0,0)) (by (with_reducible repeat (first | refine blk_drewN ?_ _ | refine blk_drew ?_ | refine blk_alloc ?_ _));exact K83.out)) : gb183 ≠ gb191));have n7_ := Aside0.mk ((by rw [hg];exact Nat.ne_of_gt (blk_lt (g := gb183) (o := .cells #[.int .i64 a0_0,.int .i64 a0_1,.int .i64 a0_2,.int .i64 a0_3,.int .i64 a0_4,.int .i64 a0_5,.int .i64 a0_6,.int .i64 a0_7,.int .i64 a0_8,.int .i64 a0_9] 30 (0,0)) (by (with_reducible repeat (first | refine blk_drewN ?_ _ | refine blk_drew ?_ | refine blk_alloc ?_ _));exact K83.out)) : gb191 ≠ gb183));have n8_ := Aside0.mk ((by rw [hg];exact Nat.ne_of_lt (blk_lt (g := gb184) (o := .cells #[.int .i64 x185000_1,.int .i64 x185001_1,.int .i64 x185002_1] 26 (0,0)) (by (with_reducible repeat (first | refine blk_drewN ?_ _ | refine blk_drew ?_ | refine blk_alloc ?_ _));exact K84.out)) : gb184 ≠ gb191));have n9_ := Aside0.mk ((by rw [hg];exact Nat.ne_of_gt (blk_lt (g := gb184) (o := .cells #[.int .i64 x185000_1,.int .i64 x185001_1,.int .i64 x185002_1] 26 (0,0)) (by (with_reducible repeat (first | refine blk_drewN ?_ _ | refine blk_drew ?_ | refine blk_alloc ?_ _));exact K84.out)) : gb191 ≠ gb184));clear K83;clear K84;clear HB;have K83 := n0_;have K84 := n1_;have HB := n2_;have K91 := n3_;have GW191 := n4_;have GE191 := n5_;have NB183_191 := n6_;have NB191_183 := n7_;have NB184_191 := n8_;have NB191_184 := n9_;clear n0_ n1_ n2_ n3_ n4_ n5_ n6_ n7_ n8_ n9_;clear hb hbox hg;have hnb207 := NB191_183.out;have hnc207 := NB183_191.out;have hnb208 := NB191_184.out;have hnc208 := NB184_191.out;have hcz209_0 : w206.cell? ⟨gb191,0,none⟩ = some (.int .i64 0) := (blk_cell K91.out 0).trans rfl;have hcz209_1 : w206.cell? ⟨gb191,1,none⟩ = some (.int .i64 0) := (blk_cell K91.out 1).trans rfl;have hcz209_2 : w206.cell? ⟨gb191,2,none⟩ = some (.int .i64 0) := (blk_cell K91.out 2).trans rfl;have hfz209_0 := blk_frozen K91.out 0;have hfz209_1 := blk_frozen K91.out 1;have hfz209_2 := blk_frozen K91.out 2))
         go_ret
         exact ⟨by first | rfl | (simp [errW_none,errW_some] <;> rfl) | (simp [*,errW_none,errW_some] <;> rfl),by repeat (first | (with_reducible first | exact HB.out | apply below_alloc | apply pw_below_drewN | apply below_drew1 | refine below_set ?_ GE183.out | refine below_set ?_ GE184.out | refine below_set ?_ GE191.out) | exact HB.out)⟩
     ·
      replace c13 := Bool.eq_false_iff.mpr c13
      subst c13
      have H1 : ((bivouaclaw14_awake.f kj6).bind fun t185 => (some t185)) = some r := by rw [if_neg (show ¬ (false = true) by decide)] at H;exact H
      clear H
      have H := H1
      clear H1
      replace H := Option.bind_eq_some_iff.mp H
      obtain ⟨t185,A2100,H⟩ := H
      replace H : (some t185) = some r := H
      have A210 := Aside0.mk A2100
      clear A2100
      obtain rfl := Option.some.inj H
      go_wp2_with (first | ((with_reducible refine gate_callee (f := 14) rfl ?_);refine goesL_ (some 181) rfl rfl Tryd.func14 (by kernel_rfl) rfl #[] rfl (by (try simp only [List.map_toArray,List.map_cons,List.map_nil]);first | done | rfl | (simp only [List.length_drop,List.length_take];rfl)) ?_;(with_reducible refine (bivouaclaw14_awake.calls kj6  t185 _ ?side1 A210.out).mono ?_);(case side1 => exact Tg.Tab.below HTAB.out (by repeat (first | (with_reducible first | exact HB.out | apply below_alloc | apply pw_below_drewN | apply below_drew1 | refine below_set ?_ GE183.out | refine below_set ?_ GE184.out) | exact HB.out)));rintro e w211 ⟨rfl,hb⟩;refine ⟨_,rfl,?_⟩;have n0_ := Aside0.mk (blk_below (g := gb183) (o := .cells #[.int .i64 a0_0,.int .i64 a0_1,.int .i64 a0_2,.int .i64 a0_3,.int .i64 a0_4,.int .i64 a0_5,.int .i64 a0_6,.int .i64 a0_7,.int .i64 a0_8,.int .i64 a0_9] 30 (0,0)) (by (with_reducible repeat (first | refine blk_drewN ?_ _ | refine blk_drew ?_ | refine blk_alloc ?_ _));exact K83.out) hb);have n1_ := Aside0.mk (blk_below (g := gb184) (o := .cells #[.int .i64 x185000_1,.int .i64 x185001_1,.int .i64 x185002_1] 26 (0,0)) (by (with_reducible repeat (first | refine blk_drewN ?_ _ | refine blk_drew ?_ | refine blk_alloc ?_ _));exact K84.out) hb);have n2_ := Aside0.mk (below_step (by repeat (first | (with_reducible first | exact HB.out | apply below_alloc | apply pw_below_drewN | apply below_drew1 | refine below_set ?_ GE183.out | refine below_set ?_ GE184.out) | exact HB.out)) hb);clear K83;clear K84;clear HB;have K83 := n0_;have K84 := n1_;have HB := n2_;clear n0_ n1_ n2_;(try clear hb);(try clear hb2);(try clear hk);(try clear hi)))
      go_ret
      exact ⟨by first | rfl | (simp [errW_none,errW_some] <;> rfl) | (simp [*,errW_none,errW_some] <;> rfl),by repeat (first | (with_reducible first | exact HB.out | apply below_alloc | apply pw_below_drewN | apply below_drew1 | refine below_set ?_ GE183.out | refine below_set ?_ GE184.out) | exact HB.out)⟩
end Go.Proofs.YtbcddiaplpbhjaaDoor.MDr
