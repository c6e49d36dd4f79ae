/- What the claim's proof leans on: texts of this claim, laid together. -/
import Derived.Test.YtikhgdbbbingbaaQ2
import Derived.Deep.Slices
import Derived.Lib.Hide
import Derived.BigRegion
import Derived.Deep.LoopGhost
import Derived.Test.YtikhgdbbbingbaaProg
import Derived.Below
import Derived.Deep.Draws
import Derived.Deep.AppendLies
import Derived.Maps.AppendAt
import Derived.OwnWalk
import Derived.Laws.BytesArg
import Derived.Laws.MakeOwn
import Derived.Laws.OwnMore
import Derived.Deep.OwnRows
import Derived.Tactics
import Derived.Lib.ConvBytes
import Derived.Laws.Slices
import Derived.WalkKit
import Derived.KernelRfl
import Derived.RowKit3
import Derived.Deep.QuietTactic
import Derived.BigQuiet
import Derived.WideLaws
import Derived.Deep.DeepCutAuto
import Derived.Deep.CutBlock
import Derived.Deep.RegionHeld3
import Derived.Laws.Rows
import Derived.Lib.AppendStr
import Derived.ArgAppend
import Derived.Laws.IdiomCopy
import Derived.OrdersHeld
import Derived.Laws.BitsLemmas
import Derived.RowKit
namespace Go.Proofs.Ytikhgdbbbingbaa.MPu
open Go.RowKit Go.Proofs.YtikhgdbbbingbaaW.PrintWords Go.Proofs.YtikhgdbbbingbaaW.PrintLast Go.Proofs.YtikhgdbbbingbaaW.PrintMore
attribute [local go_sem] max2_int min2_int max_two min_two max_three min_three max_four min_four
set_option linter.unusedVariables false
set_option linter.unusedSimpArgs false
mutual
noncomputable def purse_Send.j0 : Nat → Bool → Int → Int → Int → Int → Int → Int → Int → Int → Int → Int → Option (Int × Int × Int × Int × Int × Int × Int × Int × Int)
  | 0, _, _, _, _, _, _, _, _, _, _, _ => none
  | k + 1, x21, x199000, x199001, x199002, x199003, x200000, x200001, x200002, x200003, x201000, x201001 => if x21 = true then (some (0, 0, 0, 0, 0, 0, 0, 0, 1)) else (if x199000 < x201000 then (purse_Send.j1 k true x199000 x199001 x199002 x199003 x200000 x200001 x200002 x200003 x201000 x201001) else (purse_Send.j1 k (decide (x199001 < x201001)) x199000 x199001 x199002 x199003 x200000 x200001 x200002 x200003 x201000 x201001))
noncomputable def purse_Send.j1 : Nat → Bool → Int → Int → Int → Int → Int → Int → Int → Int → Int → Int → Option (Int × Int × Int × Int × Int × Int × Int × Int × Int)
  | 0, _, _, _, _, _, _, _, _, _, _, _ => none
  | k + 1, x35, x199000, x199001, x199002, x199003, x200000, x200001, x200002, x200003, x201000, x201001 => if x35 = true then (some (0, 0, 0, 0, 0, 0, 0, 0, 6)) else (some (wrap64 (x199000 - x201000), wrap64 (x199001 - x201001), x199002, x199003, mn (wrap64 (x200000 + x201000)) x200002, mn (wrap64 (x200001 + x201001)) x200003, x200002, x200003, 0))
end
noncomputable def purse_Send.f (k : Nat) (a0_0 : Int) (a0_1 : Int) (a0_2 : Int) (a0_3 : Int) (a1_0 : Int) (a1_1 : Int) (a1_2 : Int) (a1_3 : Int) (a2_0 : Int) (a2_1 : Int) : Option (Int × Int × Int × Int × Int × Int × Int × Int × Int) := (purse_May.f a0_0 a0_1 a0_2 a0_3).bind fun t203 => (if t203 = true then ((purse_May.f a1_0 a1_1 a1_2 a1_3).bind fun t204 => (if t204 = true then ((purse_wish.f a2_0 a2_1).bind fun t205 => (purse_Send.j0 k (!t205) a0_0 a0_1 a0_2 a0_3 a1_0 a1_1 a1_2 a1_3 a2_0 a2_1)) else (purse_Send.j0 k true a0_0 a0_1 a0_2 a0_3 a1_0 a1_1 a1_2 a1_3 a2_0 a2_1))) else (purse_Send.j0 k true a0_0 a0_1 a0_2 a0_3 a1_0 a1_1 a1_2 a1_3 a2_0 a2_1))
theorem purse_Send.mono_l : ∀ k, (∀ y0 y1 y2 y3 y4 y5 y6 y7 y8 y9 y10, LeO (purse_Send.j0 k y0 y1 y2 y3 y4 y5 y6 y7 y8 y9 y10) (purse_Send.j0 (k + 1) y0 y1 y2 y3 y4 y5 y6 y7 y8 y9 y10)) ∧ (∀ y0 y1 y2 y3 y4 y5 y6 y7 y8 y9 y10, LeO (purse_Send.j1 k y0 y1 y2 y3 y4 y5 y6 y7 y8 y9 y10) (purse_Send.j1 (k + 1) y0 y1 y2 y3 y4 y5 y6 y7 y8 y9 y10))
  | 0 => ⟨fun _ _ _ _ _ _ _ _ _ _ _ r h => by simp [purse_Send.j0] at h, fun _ _ _ _ _ _ _ _ _ _ _ r h => by simp [purse_Send.j1] at h⟩
  | k + 1 => by
    obtain ⟨ih0, ih1⟩ := purse_Send.mono_l k
    refine ⟨?_, ?_⟩
    · intro y0 y1 y2 y3 y4 y5 y6 y7 y8 y9 y10
      unfold purse_Send.j0
      repeat' first
      | (with_reducible exact ih0 _ _ _ _ _ _ _ _ _ _ _)
      | (with_reducible exact ih1 _ _ _ _ _ _ _ _ _ _ _)
      | (with_reducible exact LeO.refl _)
      | (with_reducible exact LeO.none _)
      | (with_reducible refine LeO.ite ?_ ?_)
      | (with_reducible refine LeO.bind ?_ (fun _ => ?_))
      | exact ih0 _ _ _ _ _ _ _ _ _ _ _
      | exact ih1 _ _ _ _ _ _ _ _ _ _ _
      | exact LeO.none _
      | refine LeO.ite ?_ ?_
      | refine LeO.bind ?_ (fun _ => ?_)
    · intro y0 y1 y2 y3 y4 y5 y6 y7 y8 y9 y10
      unfold purse_Send.j1
      repeat' first
      | (with_reducible exact ih0 _ _ _ _ _ _ _ _ _ _ _)
      | (with_reducible exact ih1 _ _ _ _ _ _ _ _ _ _ _)
      | (with_reducible exact LeO.refl _)
      | (with_reducible exact LeO.none _)
      | (with_reducible refine LeO.ite ?_ ?_)
      | (with_reducible refine LeO.bind ?_ (fun _ => ?_))
      | exact ih0 _ _ _ _ _ _ _ _ _ _ _
      | exact ih1 _ _ _ _ _ _ _ _ _ _ _
      | exact LeO.none _
      | refine LeO.ite ?_ ?_
      | refine LeO.bind ?_ (fun _ => ?_)
theorem purse_Send.mono : ∀ a0 a1 a2 a3 a4 a5 a6 a7 a8 a9 k, LeO (purse_Send.f k a0 a1 a2 a3 a4 a5 a6 a7 a8 a9) (purse_Send.f (k + 1) a0 a1 a2 a3 a4 a5 a6 a7 a8 a9) := by
  intro a0 a1 a2 a3 a4 a5 a6 a7 a8 a9 k
  obtain ⟨ih0, ih1⟩ := purse_Send.mono_l k
  unfold purse_Send.f
  repeat' first
      | (with_reducible exact ih0 _ _ _ _ _ _ _ _ _ _ _)
      | (with_reducible exact ih1 _ _ _ _ _ _ _ _ _ _ _)
      | (with_reducible exact LeO.refl _)
      | (with_reducible exact LeO.none _)
      | (with_reducible refine LeO.ite ?_ ?_)
      | (with_reducible refine LeO.bind ?_ (fun _ => ?_))
      | exact ih0 _ _ _ _ _ _ _ _ _ _ _
      | exact ih1 _ _ _ _ _ _ _ _ _ _ _
      | exact LeO.none _
      | refine LeO.ite ?_ ?_
      | refine LeO.bind ?_ (fun _ => ?_)
def purse_Send.T5 : Bool × List (List Nat × List Nat) := (true, [([], []), ([0], [0]), ([], []), ([2], [2]), ([1, 3], [1, 3]), ([], []), ([5], [5]), ([], []), ([7], [7]), ([6, 8], [6, 8]), ([0, 1, 2, 3, 4, 5, 6], []), ([10, 4, 0, 1, 2, 3, 4, 5, 6], [4, 10]), ([0, 1, 2, 3, 4, 5, 6, 7, 8, 9, 10, 11], []), ([12, 9, 11, 0, 1, 2, 3, 4, 5, 6, 7, 8, 9, 10, 11], [9, 12])])
def purse_Send.B5 : List Nat := [0, 1, 0, 4, 15, 0, 32, 0, 128, 480, 127, 1151, 4095, 8191]
theorem purse_Send.tab5 : rtab .any (opsOf Try.f65 5) = purse_Send.T5 := by kernel_rfl
theorem purse_Send.bits5 : waitsOk purse_Send.T5.2 purse_Send.B5 = true := by kernel_rfl
def purse_Send.T6 : Bool × List (List Nat × List Nat) := (true, [([], []), ([0], [0]), ([], []), ([2], [2]), ([1, 3], [1, 3]), ([], []), ([5], [5]), ([4, 6], [4, 6]), ([], []), ([8], [8]), ([], []), ([10], [10]), ([9, 11], [9, 11]), ([], []), ([13], [13]), ([12, 14], [12, 14]), ([0, 1, 2, 3, 4, 5, 6, 7, 8, 9, 13, 14], []), ([16, 7, 0, 1, 2, 3, 4, 5, 6, 7, 8, 9, 13, 14], [7, 16]), ([0, 1, 2, 3, 4, 5, 6, 7, 8, 9, 10, 11, 12, 13, 14, 15, 16, 17], []), ([18, 15, 17, 0, 1, 2, 3, 4, 5, 6, 7, 8, 9, 10, 11, 12, 13, 14, 15, 16, 17], [15, 18])])
def purse_Send.B6 : List Nat := [0, 1, 0, 4, 15, 0, 32, 127, 0, 256, 0, 1024, 3840, 0, 8192, 32512, 25599, 91135, 262143, 524287]
theorem purse_Send.tab6 : rtab .any (opsOf Try.f65 6) = purse_Send.T6 := by kernel_rfl
theorem purse_Send.bits6 : waitsOk purse_Send.T6.2 purse_Send.B6 = true := by kernel_rfl
set_option maxHeartbeats 8000000 in
set_option maxRecDepth 100000 in
theorem purse_Send.calls (k : Nat) (a0_0 : Int) (a0_1 : Int) (a0_2 : Int) (a0_3 : Int) (a1_0 : Int) (a1_1 : Int) (a1_2 : Int) (a1_3 : Int) (a2_0 : Int) (a2_1 : Int) (r1 : Int) (r2 : Int) (r3 : Int) (r4 : Int) (r5 : Int) (r6 : Int) (r7 : Int) (r8 : Int) (r9 : Int) (w : World) (h : purse_Send.f k a0_0 a0_1 a0_2 a0_3 a1_0 a1_1 a1_2 a1_3 a2_0 a2_1 = some (r1, r2, r3, r4, r5, r6, r7, r8, r9)) :
    Calls Try.prog 65 #[.agg #[.int .i64 a0_0, .int .i64 a0_1, .int .i64 a0_2, .int .i64 a0_3], .agg #[.int .i64 a1_0, .int .i64 a1_1, .int .i64 a1_2, .int .i64 a1_3], .agg #[.int .i64 a2_0, .int .i64 a2_1]] w fun e w' => e = .returned (.tuple #[.agg #[.int .i64 r1, .int .i64 r2, .int .i64 r3, .int .i64 r4], .agg #[.int .i64 r5, .int .i64 r6, .int .i64 r7, .int .i64 r8], .int .i64 r9]) ∧ Below w.heap.size w w' := by
  have hu59 := Try.underlying59
  have hu48 := Try.underlying48
  have HB := Aside0.mk (Below.refl w.heap.size w)
  have H : ((purse_May.f a0_0 a0_1 a0_2 a0_3).bind fun t203 => (if t203 = true then ((purse_May.f a1_0 a1_1 a1_2 a1_3).bind fun t204 => (if t204 = true then ((purse_wish.f a2_0 a2_1).bind fun t205 => (purse_Send.j0 k (!t205) a0_0 a0_1 a0_2 a0_3 a1_0 a1_1 a1_2 a1_3 a2_0 a2_1)) else (purse_Send.j0 k true a0_0 a0_1 a0_2 a0_3 a1_0 a1_1 a1_2 a1_3 a2_0 a2_1))) else (purse_Send.j0 k true a0_0 a0_1 a0_2 a0_3 a1_0 a1_1 a1_2 a1_3 a2_0 a2_1))) = some (r1, r2, r3, r4, r5, r6, r7, r8, r9) := h
  clear h
  have HC4 := Aside0.mk H
  clear H
  go_enter Try.func65, Try.ntmps65
  go_upto_region 1 with (first | ((with_reducible refine gate_dst (N := 3) rfl ?_); refine box_event ?hg (N := 3) ?hd (cs := #[.int .i64 a0_0, .int .i64 a0_1, .int .i64 a0_2, .int .i64 a0_3]) (t := 59) ?hr ?_; (case hd => rfl); (case hg => rfl); (case hr => first | (go_simp; done) | (go_simp; rfl)); intro gb198 hg w5 hbox hb; have n0_ := Aside0.mk (below_step (by repeat (first | (with_reducible first | exact HB.out | apply below_alloc | apply pw_below_drewN | apply below_drew1) | exact HB.out)) hb); have n1_ := Aside0.mk (hbox); have n2_ := Aside0.mk ((by rw [hg]; exact (below_size (by repeat (first | (with_reducible first | exact HB.out | apply below_alloc | apply pw_below_drewN | apply below_drew1) | exact HB.out))) : w.heap.size ≤ gb198)); have n3_ := Aside0.mk ((by rw [hg]; exact (below_size (by repeat (first | (with_reducible first | exact HB.out | apply below_alloc | apply pw_below_drewN | apply below_drew1) | exact HB.out))) : w.heap.size ≤ gb198)); clear HB; have HB := n0_; have BK198 := n1_; have GW198 := n2_; have GE198 := n3_; clear n0_ n1_ n2_ n3_; clear hb hbox hg) | ((with_reducible refine gate_dst (N := 4) rfl ?_); refine box_event ?hg (N := 4) ?hd (cs := #[.int .i64 a1_0, .int .i64 a1_1, .int .i64 a1_2, .int .i64 a1_3]) (t := 59) ?hr ?_; (case hd => rfl); (case hg => rfl); (case hr => first | (go_simp; done) | (go_simp; rfl)); intro gb199 hg w6 hbox hb; have n0_ := Aside0.mk (blk_below (g := gb198) (o := .cells #[.int .i64 a0_0, .int .i64 a0_1, .int .i64 a0_2, .int .i64 a0_3] 59 (0, 0)) (by (with_reducible repeat (first | refine blk_drewN ?_ _ | refine blk_drew ?_ | refine blk_alloc ?_ _)); exact BK198.out) hb); have n1_ := Aside0.mk (below_step (by repeat (first | (with_reducible first | exact HB.out | apply below_alloc | apply pw_below_drewN | apply below_drew1 | refine below_set ?_ GE198.out) | exact HB.out)) hb); have n2_ := Aside0.mk (hbox); have n3_ := Aside0.mk ((by rw [hg]; exact (below_size (by repeat (first | (with_reducible first | exact HB.out | apply below_alloc | apply pw_below_drewN | apply below_drew1 | refine below_set ?_ GE198.out) | exact HB.out))) : w.heap.size ≤ gb199)); have n4_ := Aside0.mk ((by rw [hg]; exact (below_size (by repeat (first | (with_reducible first | exact HB.out | apply below_alloc | apply pw_below_drewN | apply below_drew1 | refine below_set ?_ GE198.out) | exact HB.out))) : w.heap.size ≤ gb199)); have n5_ := Aside0.mk ((by rw [hg]; exact Nat.ne_of_lt (blk_lt (g := gb198) (o := .cells #[.int .i64 a0_0, .int .i64 a0_1, .int .i64 a0_2, .int .i64 a0_3] 59 (0, 0)) (by (with_reducible repeat (first | refine blk_drewN ?_ _ | refine blk_drew ?_ | refine blk_alloc ?_ _)); exact BK198.out)) : gb198 ≠ gb199)); have n6_ := Aside0.mk ((by rw [hg]; exact Nat.ne_of_gt (blk_lt (g := gb198) (o := .cells #[.int .i64 a0_0, .int .i64 a0_1, .int .i64 a0_2, .int .i64 a0_3] 59 (0, 0)) (by (with_reducible repeat (first | refine blk_drewN ?_ _ | refine blk_drew ?_ | refine blk_alloc ?_ _)); exact BK198.out)) : gb199 ≠ gb198)); clear BK198; clear HB; have BK198 := n0_; have HB := n1_; have BK199 := n2_; have GW199 := n3_; have GE199 := n4_; have NB198_199 := n5_; have NB199_198 := n6_; clear n0_ n1_ n2_ n3_ n4_ n5_ n6_; clear hb hbox hg) | ((with_reducible refine gate_dst (N := 5) rfl ?_); refine box_event ?hg (N := 5) ?hd (cs := #[.int .i64 a2_0, .int .i64 a2_1]) (t := 48) ?hr ?_; (case hd => rfl); (case hg => rfl); (case hr => first | (go_simp; done) | (go_simp; rfl)); intro gb200 hg w7 hbox hb; have n0_ := Aside0.mk (blk_below (g := gb198) (o := .cells #[.int .i64 a0_0, .int .i64 a0_1, .int .i64 a0_2, .int .i64 a0_3] 59 (0, 0)) (by (with_reducible repeat (first | refine blk_drewN ?_ _ | refine blk_drew ?_ | refine blk_alloc ?_ _)); exact BK198.out) hb); have n1_ := Aside0.mk (blk_below (g := gb199) (o := .cells #[.int .i64 a1_0, .int .i64 a1_1, .int .i64 a1_2, .int .i64 a1_3] 59 (0, 0)) (by (with_reducible repeat (first | refine blk_drewN ?_ _ | refine blk_drew ?_ | refine blk_alloc ?_ _)); exact BK199.out) hb); have n2_ := Aside0.mk (below_step (by repeat (first | (with_reducible first | exact HB.out | apply below_alloc | apply pw_below_drewN | apply below_drew1 | refine below_set ?_ GE198.out | refine below_set ?_ GE199.out) | exact HB.out)) hb); have n3_ := Aside0.mk (hbox); have n4_ := Aside0.mk ((by rw [hg]; exact (below_size (by repeat (first | (with_reducible first | exact HB.out | apply below_alloc | apply pw_below_drewN | apply below_drew1 | refine below_set ?_ GE198.out | refine below_set ?_ GE199.out) | exact HB.out))) : w.heap.size ≤ gb200)); have n5_ := Aside0.mk ((by rw [hg]; exact (below_size (by repeat (first | (with_reducible first | exact HB.out | apply below_alloc | apply pw_below_drewN | apply below_drew1 | refine below_set ?_ GE198.out | refine below_set ?_ GE199.out) | exact HB.out))) : w.heap.size ≤ gb200)); have n6_ := Aside0.mk ((by rw [hg]; exact Nat.ne_of_lt (blk_lt (g := gb198) (o := .cells #[.int .i64 a0_0, .int .i64 a0_1, .int .i64 a0_2, .int .i64 a0_3] 59 (0, 0)) (by (with_reducible repeat (first | refine blk_drewN ?_ _ | refine blk_drew ?_ | refine blk_alloc ?_ _)); exact BK198.out)) : gb198 ≠ gb200)); have n7_ := Aside0.mk ((by rw [hg]; exact Nat.ne_of_gt (blk_lt (g := gb198) (o := .cells #[.int .i64 a0_0, .int .i64 a0_1, .int .i64 a0_2, .int .i64 a0_3] 59 (0, 0)) (by (with_reducible repeat (first | refine blk_drewN ?_ _ | refine blk_drew ?_ | refine blk_alloc ?_ _)); exact BK198.out)) : gb200 ≠ gb198)); have n8_ := Aside0.mk ((by rw [hg]; exact Nat.ne_of_lt (blk_lt (g := gb199) (o := .cells #[.int .i64 a1_0, .int .i64 a1_1, .int .i64 a1_2, .int .i64 a1_3] 59 (0, 0)) (by (with_reducible repeat (first | refine blk_drewN ?_ _ | refine blk_drew ?_ | refine blk_alloc ?_ _)); exact BK199.out)) : gb199 ≠ gb200)); have n9_ := Aside0.mk ((by rw [hg]; exact Nat.ne_of_gt (blk_lt (g := gb199) (o := .cells #[.int .i64 a1_0, .int .i64 a1_1, .int .i64 a1_2, .int .i64 a1_3] 59 (0, 0)) (by (with_reducible repeat (first | refine blk_drewN ?_ _ | refine blk_drew ?_ | refine blk_alloc ?_ _)); exact BK199.out)) : gb200 ≠ gb199)); clear BK198; clear BK199; clear HB; have BK198 := n0_; have BK199 := n1_; have HB := n2_; have BK200 := n3_; have GW200 := n4_; have GE200 := n5_; have NB198_200 := n6_; have NB200_198 := n7_; have NB199_200 := n8_; have NB200_199 := n9_; clear n0_ n1_ n2_ n3_ n4_ n5_ n6_ n7_ n8_ n9_; clear hb hbox hg) | ((with_reducible refine gate_dst (N := 6) rfl ?_); refine box_event ?hg (N := 6) ?hd (cs := #[.int .i64 0, .int .i64 0, .int .i64 0, .int .i64 0]) (t := 59) ?hr ?_; (case hd => rfl); (case hg => rfl); (case hr => first | (go_simp; done) | (go_simp; rfl)); intro gb201 hg w8 hbox hb; have n0_ := Aside0.mk (blk_below (g := gb198) (o := .cells #[.int .i64 a0_0, .int .i64 a0_1, .int .i64 a0_2, .int .i64 a0_3] 59 (0, 0)) (by (with_reducible repeat (first | refine blk_drewN ?_ _ | refine blk_drew ?_ | refine blk_alloc ?_ _)); exact BK198.out) hb); have n1_ := Aside0.mk (blk_below (g := gb199) (o := .cells #[.int .i64 a1_0, .int .i64 a1_1, .int .i64 a1_2, .int .i64 a1_3] 59 (0, 0)) (by (with_reducible repeat (first | refine blk_drewN ?_ _ | refine blk_drew ?_ | refine blk_alloc ?_ _)); exact BK199.out) hb); have n2_ := Aside0.mk (blk_below (g := gb200) (o := .cells #[.int .i64 a2_0, .int .i64 a2_1] 48 (0, 0)) (by (with_reducible repeat (first | refine blk_drewN ?_ _ | refine blk_drew ?_ | refine blk_alloc ?_ _)); exact BK200.out) hb); have n3_ := Aside0.mk (below_step (by repeat (first | (with_reducible first | exact HB.out | apply below_alloc | apply pw_below_drewN | apply below_drew1 | refine below_set ?_ GE198.out | refine below_set ?_ GE199.out | refine below_set ?_ GE200.out) | exact HB.out)) hb); have n4_ := Aside0.mk (hbox); have n5_ := Aside0.mk ((by rw [hg]; exact (below_size (by repeat (first | (with_reducible first | exact HB.out | apply below_alloc | apply pw_below_drewN | apply below_drew1 | refine below_set ?_ GE198.out | refine below_set ?_ GE199.out | refine below_set ?_ GE200.out) | exact HB.out))) : w.heap.size ≤ gb201)); have n6_ := Aside0.mk ((by rw [hg]; exact (below_size (by repeat (first | (with_reducible first | exact HB.out | apply below_alloc | apply pw_below_drewN | apply below_drew1 | refine below_set ?_ GE198.out | refine below_set ?_ GE199.out | refine below_set ?_ GE200.out) | exact HB.out))) : w.heap.size ≤ gb201)); have n7_ := Aside0.mk ((by rw [hg]; exact Nat.ne_of_lt (blk_lt (g := gb198) (o := .cells #[.int .i64 a0_0, .int .i64 a0_1, .int .i64 a0_2, .int .i64 a0_3] 59 (0, 0)) (by (with_reducible repeat (first | refine blk_drewN ?_ _ | refine blk_drew ?_ | refine blk_alloc ?_ _)); exact BK198.out)) : gb198 ≠ gb201)); have n8_ := Aside0.mk ((by rw [hg]; exact Nat.ne_of_gt (blk_lt (g := gb198) (o := .cells #[.int .i64 a0_0, .int .i64 a0_1, .int .i64 a0_2, .int .i64 a0_3] 59 (0, 0)) (by (with_reducible repeat (first | refine blk_drewN ?_ _ | refine blk_drew ?_ | refine blk_alloc ?_ _)); exact BK198.out)) : gb201 ≠ gb198)); have n9_ := Aside0.mk ((by rw [hg]; exact Nat.ne_of_lt (blk_lt (g := gb199) (o := .cells #[.int .i64 a1_0, .int .i64 a1_1, .int .i64 a1_2, .int .i64 a1_3] 59 (0, 0)) (by (with_reducible repeat (first | refine blk_drewN ?_ _ | refine blk_drew ?_ | refine blk_alloc ?_ _)); exact BK199.out)) : gb199 ≠ gb201)); have n10_ := Aside0.mk ((by rw [hg]; exact Nat.ne_of_gt (blk_lt (g := gb199) (o := .cells #[.int .i64 a1_0, .int .i64 a1_1, .int .i64 a1_2, .int .i64 a1_3] 59 (0, 0)) (by (with_reducible repeat (first | refine blk_drewN ?_ _ | refine blk_drew ?_ | refine blk_alloc ?_ _)); exact BK199.out)) : gb201 ≠ gb199)); have n11_ := Aside0.mk ((by rw [hg]; exact Nat.ne_of_lt (blk_lt (g := gb200) (o := .cells #[.int .i64 a2_0, .int .i64 a2_1] 48 (0, 0)) (by (with_reducible repeat (first | refine blk_drewN ?_ _ | refine blk_drew ?_ | refine blk_alloc ?_ _)); exact BK200.out)) : gb200 ≠ gb201)); have n12_ := Aside0.mk ((by rw [hg]; exact Nat.ne_of_gt (blk_lt (g := gb200) (o := .cells #[.int .i64 a2_0, .int .i64 a2_1] 48 (0, 0)) (by (with_reducible repeat (first | refine blk_drewN ?_ _ | refine blk_drew ?_ | refine blk_alloc ?_ _)); exact BK200.out)) : gb201 ≠ gb200)); clear BK198; clear BK199; clear BK200; clear HB; have BK198 := n0_; have BK199 := n1_; have BK200 := n2_; have HB := n3_; have BK201 := n4_; have GW201 := n5_; have GE201 := n6_; have NB198_201 := n7_; have NB201_198 := n8_; have NB199_201 := n9_; have NB201_199 := n10_; have NB200_201 := n11_; have NB201_200 := n12_; clear n0_ n1_ n2_ n3_ n4_ n5_ n6_ n7_ n8_ n9_ n10_ n11_ n12_; clear hb hbox hg) | ((with_reducible refine gate_dst (N := 7) rfl ?_); refine box_event ?hg (N := 7) ?hd (cs := #[.int .i64 0, .int .i64 0, .int .i64 0, .int .i64 0]) (t := 59) ?hr ?_; (case hd => rfl); (case hg => rfl); (case hr => first | (go_simp; done) | (go_simp; rfl)); intro gb202 hg w9 hbox hb; have n0_ := Aside0.mk (blk_below (g := gb198) (o := .cells #[.int .i64 a0_0, .int .i64 a0_1, .int .i64 a0_2, .int .i64 a0_3] 59 (0, 0)) (by (with_reducible repeat (first | refine blk_drewN ?_ _ | refine blk_drew ?_ | refine blk_alloc ?_ _)); exact BK198.out) hb); have n1_ := Aside0.mk (blk_below (g := gb199) (o := .cells #[.int .i64 a1_0, .int .i64 a1_1, .int .i64 a1_2, .int .i64 a1_3] 59 (0, 0)) (by (with_reducible repeat (first | refine blk_drewN ?_ _ | refine blk_drew ?_ | refine blk_alloc ?_ _)); exact BK199.out) hb); have n2_ := Aside0.mk (blk_below (g := gb200) (o := .cells #[.int .i64 a2_0, .int .i64 a2_1] 48 (0, 0)) (by (with_reducible repeat (first | refine blk_drewN ?_ _ | refine blk_drew ?_ | refine blk_alloc ?_ _)); exact BK200.out) hb); have n3_ := Aside0.mk (blk_below (g := gb201) (o := .cells #[.int .i64 0, .int .i64 0, .int .i64 0, .int .i64 0] 59 (0, 0)) (by (with_reducible repeat (first | refine blk_drewN ?_ _ | refine blk_drew ?_ | refine blk_alloc ?_ _)); exact BK201.out) hb); have n4_ := Aside0.mk (below_step (by repeat (first | (with_reducible first | exact HB.out | apply below_alloc | apply pw_below_drewN | apply below_drew1 | refine below_set ?_ GE198.out | refine below_set ?_ GE199.out | refine below_set ?_ GE200.out | refine below_set ?_ GE201.out) | exact HB.out)) hb); have n5_ := Aside0.mk (hbox); have n6_ := Aside0.mk ((by rw [hg]; exact (below_size (by repeat (first | (with_reducible first | exact HB.out | apply below_alloc | apply pw_below_drewN | apply below_drew1 | refine below_set ?_ GE198.out | refine below_set ?_ GE199.out | refine below_set ?_ GE200.out | refine below_set ?_ GE201.out) | exact HB.out))) : w.heap.size ≤ gb202)); have n7_ := Aside0.mk ((by rw [hg]; exact (below_size (by repeat (first | (with_reducible first | exact HB.out | apply below_alloc | apply pw_below_drewN | apply below_drew1 | refine below_set ?_ GE198.out | refine below_set ?_ GE199.out | refine below_set ?_ GE200.out | refine below_set ?_ GE201.out) | exact HB.out))) : w.heap.size ≤ gb202)); have n8_ := Aside0.mk ((by rw [hg]; exact Nat.ne_of_lt (blk_lt (g := gb198) (o := .cells #[.int .i64 a0_0, .int .i64 a0_1, .int .i64 a0_2, .int .i64 a0_3] 59 (0, 0)) (by (with_reducible repeat (first | refine blk_drewN ?_ _ | refine blk_drew ?_ | refine blk_alloc ?_ _)); exact BK198.out)) : gb198 ≠ gb202)); have n9_ := Aside0.mk ((by rw [hg]; exact Nat.ne_of_gt (blk_lt (g := gb198) (o := .cells #[.int .i64 a0_0, .int .i64 a0_1, .int .i64 a0_2, .int .i64 a0_3] 59 (0, 0)) (by (with_reducible repeat (first | refine blk_drewN ?_ _ | refine blk_drew ?_ | refine blk_alloc ?_ _)); exact BK198.out)) : gb202 ≠ gb198)); have n10_ := Aside0.mk ((by rw [hg]; exact Nat.ne_of_lt (blk_lt (g := gb199) (o := .cells #[.int .i64 a1_0, .int .i64 a1_1, .int .i64 a1_2, .int .i64 a1_3] 59 (0, 0)) (by (with_reducible repeat (first | refine blk_drewN ?_ _ | refine blk_drew ?_ | refine blk_alloc ?_ _)); exact BK199.out)) : gb199 ≠ gb202)); have n11_ := Aside0.mk ((by rw [hg]; exact Nat.ne_of_gt (blk_lt (g := gb199) (o := .cells #[.int .i64 a1_0, .int .i64 a1_1, .int .i64 a1_2, .int .i64 a1_3] 59 (0, 0)) (by (with_reducible repeat (first | refine blk_drewN ?_ _ | refine blk_drew ?_ | refine blk_alloc ?_ _)); exact BK199.out)) : gb202 ≠ gb199)); have n12_ := Aside0.mk ((by rw [hg]; exact Nat.ne_of_lt (blk_lt (g := gb200) (o := .cells #[.int .i64 a2_0, .int .i64 a2_1] 48 (0, 0)) (by (with_reducible repeat (first | refine blk_drewN ?_ _ | refine blk_drew ?_ | refine blk_alloc ?_ _)); exact BK200.out)) : gb200 ≠ gb202)); have n13_ := Aside0.mk ((by rw [hg]; exact Nat.ne_of_gt (blk_lt (g := gb200) (o := .cells #[.int .i64 a2_0, .int .i64 a2_1] 48 (0, 0)) (by (with_reducible repeat (first | refine blk_drewN ?_ _ | refine blk_drew ?_ | refine blk_alloc ?_ _)); exact BK200.out)) : gb202 ≠ gb200)); have n14_ := Aside0.mk ((by rw [hg]; exact Nat.ne_of_lt (blk_lt (g := gb201) (o := .cells #[.int .i64 0, .int .i64 0, .int .i64 0, .int .i64 0] 59 (0, 0)) (by (with_reducible repeat (first | refine blk_drewN ?_ _ | refine blk_drew ?_ | refine blk_alloc ?_ _)); exact BK201.out)) : gb201 ≠ gb202)); have n15_ := Aside0.mk ((by rw [hg]; exact Nat.ne_of_gt (blk_lt (g := gb201) (o := .cells #[.int .i64 0, .int .i64 0, .int .i64 0, .int .i64 0] 59 (0, 0)) (by (with_reducible repeat (first | refine blk_drewN ?_ _ | refine blk_drew ?_ | refine blk_alloc ?_ _)); exact BK201.out)) : gb202 ≠ gb201)); clear BK198; clear BK199; clear BK200; clear BK201; clear HB; have BK198 := n0_; have BK199 := n1_; have BK200 := n2_; have BK201 := n3_; have HB := n4_; have BK202 := n5_; have GW202 := n6_; have GE202 := n7_; have NB198_202 := n8_; have NB202_198 := n9_; have NB199_202 := n10_; have NB202_199 := n11_; have NB200_202 := n12_; have NB202_200 := n13_; have NB201_202 := n14_; have NB202_201 := n15_; clear n0_ n1_ n2_ n3_ n4_ n5_ n6_ n7_ n8_ n9_ n10_ n11_ n12_ n13_ n14_ n15_; clear hb hbox hg))
  (try simp only [Act.put, List.setIfInBounds_toArray, List.set_cons_zero, List.set_cons_succ])
  go_cut [21] (fun v21 wc => ∃ (kq : Nat) (x21_3 : Bool), v21 = .bool x21_3 ∧ Aside0 (purse_Send.j0 kq x21_3 a0_0 a0_1 a0_2 a0_3 a1_0 a1_1 a1_2 a1_3 a2_0 a2_1 = some (r1, r2, r3, r4, r5, r6, r7, r8, r9)) ∧ Aside0 (kq ≤ k) ∧ Aside0 (wc.heap[gb198]? = some (.cells #[.int .i64 a0_0, .int .i64 a0_1, .int .i64 a0_2, .int .i64 a0_3] 59 (0, 0))) ∧ Aside0 (wc.heap[gb199]? = some (.cells #[.int .i64 a1_0, .int .i64 a1_1, .int .i64 a1_2, .int .i64 a1_3] 59 (0, 0))) ∧ Aside0 (wc.heap[gb200]? = some (.cells #[.int .i64 a2_0, .int .i64 a2_1] 48 (0, 0))) ∧ Aside0 (wc.heap[gb201]? = some (.cells #[.int .i64 0, .int .i64 0, .int .i64 0, .int .i64 0] 59 (0, 0))) ∧ Aside0 (wc.heap[gb202]? = some (.cells #[.int .i64 0, .int .i64 0, .int .i64 0, .int .i64 0] 59 (0, 0))) ∧ Aside0 (Below w.heap.size w wc))
  case first =>
    have H := HC4.out
    clear HC4
    replace H := Option.bind_eq_some_iff.mp H
    obtain ⟨t203, A100, H⟩ := H
    replace H : (if t203 = true then ((purse_May.f a1_0 a1_1 a1_2 a1_3).bind fun t204 => (if t204 = true then ((purse_wish.f a2_0 a2_1).bind fun t205 => (purse_Send.j0 k (!t205) a0_0 a0_1 a0_2 a0_3 a1_0 a1_1 a1_2 a1_3 a2_0 a2_1)) else (purse_Send.j0 k true a0_0 a0_1 a0_2 a0_3 a1_0 a1_1 a1_2 a1_3 a2_0 a2_1))) else (purse_Send.j0 k true a0_0 a0_1 a0_2 a0_3 a1_0 a1_1 a1_2 a1_3 a2_0 a2_1)) = some (r1, r2, r3, r4, r5, r6, r7, r8, r9) := H
    have A10 := Aside0.mk A100
    clear A100
    by_cases c11 : t203 = true
    · subst c11
      have H1 : ((purse_May.f a1_0 a1_1 a1_2 a1_3).bind fun t204 => (if t204 = true then ((purse_wish.f a2_0 a2_1).bind fun t205 => (purse_Send.j0 k (!t205) a0_0 a0_1 a0_2 a0_3 a1_0 a1_1 a1_2 a1_3 a2_0 a2_1)) else (purse_Send.j0 k true a0_0 a0_1 a0_2 a0_3 a1_0 a1_1 a1_2 a1_3 a2_0 a2_1))) = some (r1, r2, r3, r4, r5, r6, r7, r8, r9) := by rw [if_pos rfl] at H; exact H
      clear H
      have H := H1
      clear H1
      replace H := Option.bind_eq_some_iff.mp H
      obtain ⟨t204, A120, H⟩ := H
      replace H : (if t204 = true then ((purse_wish.f a2_0 a2_1).bind fun t205 => (purse_Send.j0 k (!t205) a0_0 a0_1 a0_2 a0_3 a1_0 a1_1 a1_2 a1_3 a2_0 a2_1)) else (purse_Send.j0 k true a0_0 a0_1 a0_2 a0_3 a1_0 a1_1 a1_2 a1_3 a2_0 a2_1)) = some (r1, r2, r3, r4, r5, r6, r7, r8, r9) := H
      have A12 := Aside0.mk A120
      clear A120
      by_cases c13 : t204 = true
      · subst c13
        have H1 : ((purse_wish.f a2_0 a2_1).bind fun t205 => (purse_Send.j0 k (!t205) a0_0 a0_1 a0_2 a0_3 a1_0 a1_1 a1_2 a1_3 a2_0 a2_1)) = some (r1, r2, r3, r4, r5, r6, r7, r8, r9) := by rw [if_pos rfl] at H; exact H
        clear H
        have H := H1
        clear H1
        replace H := Option.bind_eq_some_iff.mp H
        obtain ⟨t205, A140, H⟩ := H
        replace H : (purse_Send.j0 k (!t205) a0_0 a0_1 a0_2 a0_3 a1_0 a1_1 a1_2 a1_3 a2_0 a2_1) = some (r1, r2, r3, r4, r5, r6, r7, r8, r9) := H
        have A14 := Aside0.mk A140
        clear A140
        have H' := Aside0.mk H
        clear H
        have hnb15 := NB198_199.out
        have hnc15 := NB199_198.out
        have hnb16 := NB198_200.out
        have hnc16 := NB200_198.out
        have hnb17 := NB198_201.out
        have hnc17 := NB201_198.out
        have hnb18 := NB198_202.out
        have hnc18 := NB202_198.out
        have hcz19_0 : w9.cell? ⟨gb198, 0, none⟩ = some (.int .i64 a0_0) := (blk_cell BK198.out 0).trans rfl
        have hcz19_1 : w9.cell? ⟨gb198, 1, none⟩ = some (.int .i64 a0_1) := (blk_cell BK198.out 1).trans rfl
        have hcz19_2 : w9.cell? ⟨gb198, 2, none⟩ = some (.int .i64 a0_2) := (blk_cell BK198.out 2).trans rfl
        have hcz19_3 : w9.cell? ⟨gb198, 3, none⟩ = some (.int .i64 a0_3) := (blk_cell BK198.out 3).trans rfl
        have hfz19_0 := blk_frozen BK198.out 0
        have hfz19_1 := blk_frozen BK198.out 1
        have hfz19_2 := blk_frozen BK198.out 2
        have hfz19_3 := blk_frozen BK198.out 3
        go_wp2_with (first | ((with_reducible refine gate_callee (f := 60) rfl ?_); refine goesL_ (some 10) rfl rfl Try.func60 (by kernel_rfl) rfl #[.agg #[.int .i64 a0_0, .int .i64 a0_1, .int .i64 a0_2, .int .i64 a0_3]] rfl (by (try simp only [List.map_toArray, List.map_cons, List.map_nil]); first | done | rfl | (simp only [List.length_drop, List.length_take]; rfl)) ?_; (with_reducible refine (purse_May.calls a0_0 a0_1 a0_2 a0_3 true _ A10.out).mono ?_); rintro e w20 ⟨rfl, hb⟩; refine ⟨_, rfl, ?_⟩; have n0_ := Aside0.mk (blk_below (g := gb198) (o := .cells #[.int .i64 a0_0, .int .i64 a0_1, .int .i64 a0_2, .int .i64 a0_3] 59 (0, 0)) (by (with_reducible repeat (first | refine blk_drewN ?_ _ | refine blk_drew ?_ | refine blk_alloc ?_ _)); exact BK198.out) hb); have n1_ := Aside0.mk (blk_below (g := gb199) (o := .cells #[.int .i64 a1_0, .int .i64 a1_1, .int .i64 a1_2, .int .i64 a1_3] 59 (0, 0)) (by (with_reducible repeat (first | refine blk_drewN ?_ _ | refine blk_drew ?_ | refine blk_alloc ?_ _)); exact BK199.out) hb); have n2_ := Aside0.mk (blk_below (g := gb200) (o := .cells #[.int .i64 a2_0, .int .i64 a2_1] 48 (0, 0)) (by (with_reducible repeat (first | refine blk_drewN ?_ _ | refine blk_drew ?_ | refine blk_alloc ?_ _)); exact BK200.out) hb); have n3_ := Aside0.mk (blk_below (g := gb201) (o := .cells #[.int .i64 0, .int .i64 0, .int .i64 0, .int .i64 0] 59 (0, 0)) (by (with_reducible repeat (first | refine blk_drewN ?_ _ | refine blk_drew ?_ | refine blk_alloc ?_ _)); exact BK201.out) hb); have n4_ := Aside0.mk (blk_below (g := gb202) (o := .cells #[.int .i64 0, .int .i64 0, .int .i64 0, .int .i64 0] 59 (0, 0)) (by (with_reducible repeat (first | refine blk_drewN ?_ _ | refine blk_drew ?_ | refine blk_alloc ?_ _)); exact BK202.out) hb); have n5_ := Aside0.mk (below_step (by repeat (first | (with_reducible first | exact HB.out | apply below_alloc | apply pw_below_drewN | apply below_drew1 | refine below_set ?_ GE198.out | refine below_set ?_ GE199.out | refine below_set ?_ GE200.out | refine below_set ?_ GE201.out | refine below_set ?_ GE202.out) | exact HB.out)) hb); clear BK198; clear BK199; clear BK200; clear BK201; clear BK202; clear HB; have BK198 := n0_; have BK199 := n1_; have BK200 := n2_; have BK201 := n3_; have BK202 := n4_; have HB := n5_; clear n0_ n1_ n2_ n3_ n4_ n5_; (try clear hb); (try clear hb2); (try clear hk); (try clear hi); have hnb21 := NB199_200.out; have hnc21 := NB200_199.out; have hnb22 := NB199_201.out; have hnc22 := NB201_199.out; have hnb23 := NB199_202.out; have hnc23 := NB202_199.out; have hcz24_0 : w20.cell? ⟨gb199, 0, none⟩ = some (.int .i64 a1_0) := (blk_cell BK199.out 0).trans rfl; have hcz24_1 : w20.cell? ⟨gb199, 1, none⟩ = some (.int .i64 a1_1) := (blk_cell BK199.out 1).trans rfl; have hcz24_2 : w20.cell? ⟨gb199, 2, none⟩ = some (.int .i64 a1_2) := (blk_cell BK199.out 2).trans rfl; have hcz24_3 : w20.cell? ⟨gb199, 3, none⟩ = some (.int .i64 a1_3) := (blk_cell BK199.out 3).trans rfl; have hfz24_0 := blk_frozen BK199.out 0; have hfz24_1 := blk_frozen BK199.out 1; have hfz24_2 := blk_frozen BK199.out 2; have hfz24_3 := blk_frozen BK199.out 3) | (go_at_call 60; (with_reducible refine (purse_May.calls a1_0 a1_1 a1_2 a1_3 true _ A12.out).mono ?_); rintro e w25 ⟨rfl, hb⟩; have n0_ := Aside0.mk (blk_below (g := gb198) (o := .cells #[.int .i64 a0_0, .int .i64 a0_1, .int .i64 a0_2, .int .i64 a0_3] 59 (0, 0)) (by (with_reducible repeat (first | refine blk_drewN ?_ _ | refine blk_drew ?_ | refine blk_alloc ?_ _)); exact BK198.out) hb); have n1_ := Aside0.mk (blk_below (g := gb199) (o := .cells #[.int .i64 a1_0, .int .i64 a1_1, .int .i64 a1_2, .int .i64 a1_3] 59 (0, 0)) (by (with_reducible repeat (first | refine blk_drewN ?_ _ | refine blk_drew ?_ | refine blk_alloc ?_ _)); exact BK199.out) hb); have n2_ := Aside0.mk (blk_below (g := gb200) (o := .cells #[.int .i64 a2_0, .int .i64 a2_1] 48 (0, 0)) (by (with_reducible repeat (first | refine blk_drewN ?_ _ | refine blk_drew ?_ | refine blk_alloc ?_ _)); exact BK200.out) hb); have n3_ := Aside0.mk (blk_below (g := gb201) (o := .cells #[.int .i64 0, .int .i64 0, .int .i64 0, .int .i64 0] 59 (0, 0)) (by (with_reducible repeat (first | refine blk_drewN ?_ _ | refine blk_drew ?_ | refine blk_alloc ?_ _)); exact BK201.out) hb); have n4_ := Aside0.mk (blk_below (g := gb202) (o := .cells #[.int .i64 0, .int .i64 0, .int .i64 0, .int .i64 0] 59 (0, 0)) (by (with_reducible repeat (first | refine blk_drewN ?_ _ | refine blk_drew ?_ | refine blk_alloc ?_ _)); exact BK202.out) hb); have n5_ := Aside0.mk (below_step (by repeat (first | (with_reducible first | exact HB.out | apply below_alloc | apply pw_below_drewN | apply below_drew1 | refine below_set ?_ GE198.out | refine below_set ?_ GE199.out | refine below_set ?_ GE200.out | refine below_set ?_ GE201.out | refine below_set ?_ GE202.out) | exact HB.out)) hb); clear BK198; clear BK199; clear BK200; clear BK201; clear BK202; clear HB; have BK198 := n0_; have BK199 := n1_; have BK200 := n2_; have BK201 := n3_; have BK202 := n4_; have HB := n5_; clear n0_ n1_ n2_ n3_ n4_ n5_; (try clear hb); (try clear hb2); (try clear hk); (try clear hi); have hnb26 := NB200_201.out; have hnc26 := NB201_200.out; have hnb27 := NB200_202.out; have hnc27 := NB202_200.out; have hcz28_0 : w25.cell? ⟨gb200, 0, none⟩ = some (.int .i64 a2_0) := (blk_cell BK200.out 0).trans rfl; have hcz28_1 : w25.cell? ⟨gb200, 1, none⟩ = some (.int .i64 a2_1) := (blk_cell BK200.out 1).trans rfl; have hfz28_0 := blk_frozen BK200.out 0; have hfz28_1 := blk_frozen BK200.out 1) | (go_at_call 81; (with_reducible refine (purse_wish.calls a2_0 a2_1 t205 _ A14.out).mono ?_); rintro e w29 ⟨rfl, hb⟩; have n0_ := Aside0.mk (blk_below (g := gb198) (o := .cells #[.int .i64 a0_0, .int .i64 a0_1, .int .i64 a0_2, .int .i64 a0_3] 59 (0, 0)) (by (with_reducible repeat (first | refine blk_drewN ?_ _ | refine blk_drew ?_ | refine blk_alloc ?_ _)); exact BK198.out) hb); have n1_ := Aside0.mk (blk_below (g := gb199) (o := .cells #[.int .i64 a1_0, .int .i64 a1_1, .int .i64 a1_2, .int .i64 a1_3] 59 (0, 0)) (by (with_reducible repeat (first | refine blk_drewN ?_ _ | refine blk_drew ?_ | refine blk_alloc ?_ _)); exact BK199.out) hb); have n2_ := Aside0.mk (blk_below (g := gb200) (o := .cells #[.int .i64 a2_0, .int .i64 a2_1] 48 (0, 0)) (by (with_reducible repeat (first | refine blk_drewN ?_ _ | refine blk_drew ?_ | refine blk_alloc ?_ _)); exact BK200.out) hb); have n3_ := Aside0.mk (blk_below (g := gb201) (o := .cells #[.int .i64 0, .int .i64 0, .int .i64 0, .int .i64 0] 59 (0, 0)) (by (with_reducible repeat (first | refine blk_drewN ?_ _ | refine blk_drew ?_ | refine blk_alloc ?_ _)); exact BK201.out) hb); have n4_ := Aside0.mk (blk_below (g := gb202) (o := .cells #[.int .i64 0, .int .i64 0, .int .i64 0, .int .i64 0] 59 (0, 0)) (by (with_reducible repeat (first | refine blk_drewN ?_ _ | refine blk_drew ?_ | refine blk_alloc ?_ _)); exact BK202.out) hb); have n5_ := Aside0.mk (below_step (by repeat (first | (with_reducible first | exact HB.out | apply below_alloc | apply pw_below_drewN | apply below_drew1 | refine below_set ?_ GE198.out | refine below_set ?_ GE199.out | refine below_set ?_ GE200.out | refine below_set ?_ GE201.out | refine below_set ?_ GE202.out) | exact HB.out)) hb); clear BK198; clear BK199; clear BK200; clear BK201; clear BK202; clear HB; have BK198 := n0_; have BK199 := n1_; have BK200 := n2_; have BK201 := n3_; have BK202 := n4_; have HB := n5_; clear n0_ n1_ n2_ n3_ n4_ n5_; (try clear hb); (try clear hb2); (try clear hk); (try clear hi)))
        go_meet
        case rel => exact ⟨_, (!t205), (by first | rfl | (simp; done) | (simp [*]; done)), H', ⟨by first | omega | exact Nat.le_refl _⟩, ⟨by (with_reducible repeat (first | refine blk_drewN ?_ _ | refine blk_drew ?_ | refine blk_alloc ?_ _)); exact BK198.out⟩, ⟨by (with_reducible repeat (first | refine blk_drewN ?_ _ | refine blk_drew ?_ | refine blk_alloc ?_ _)); exact BK199.out⟩, ⟨by (with_reducible repeat (first | refine blk_drewN ?_ _ | refine blk_drew ?_ | refine blk_alloc ?_ _)); exact BK200.out⟩, ⟨by (with_reducible repeat (first | refine blk_drewN ?_ _ | refine blk_drew ?_ | refine blk_alloc ?_ _)); exact BK201.out⟩, ⟨by (with_reducible repeat (first | refine blk_drewN ?_ _ | refine blk_drew ?_ | refine blk_alloc ?_ _)); exact BK202.out⟩, ⟨by repeat (first | (with_reducible first | exact HB.out | apply below_alloc | apply pw_below_drewN | apply below_drew1 | refine below_set ?_ GE198.out | refine below_set ?_ GE199.out | refine below_set ?_ GE200.out | refine below_set ?_ GE201.out | refine below_set ?_ GE202.out) | exact HB.out)⟩⟩
      · replace c13 := Bool.eq_false_iff.mpr c13
        subst c13
        have H1 : (purse_Send.j0 k true a0_0 a0_1 a0_2 a0_3 a1_0 a1_1 a1_2 a1_3 a2_0 a2_1) = some (r1, r2, r3, r4, r5, r6, r7, r8, r9) := by rw [if_neg (show ¬ (false = true) by decide)] at H; exact H
        clear H
        have H := H1
        clear H1
        have H' := Aside0.mk H
        clear H
        have hnb30 := NB198_199.out
        have hnc30 := NB199_198.out
        have hnb31 := NB198_200.out
        have hnc31 := NB200_198.out
        have hnb32 := NB198_201.out
        have hnc32 := NB201_198.out
        have hnb33 := NB198_202.out
        have hnc33 := NB202_198.out
        have hcz34_0 : w9.cell? ⟨gb198, 0, none⟩ = some (.int .i64 a0_0) := (blk_cell BK198.out 0).trans rfl
        have hcz34_1 : w9.cell? ⟨gb198, 1, none⟩ = some (.int .i64 a0_1) := (blk_cell BK198.out 1).trans rfl
        have hcz34_2 : w9.cell? ⟨gb198, 2, none⟩ = some (.int .i64 a0_2) := (blk_cell BK198.out 2).trans rfl
        have hcz34_3 : w9.cell? ⟨gb198, 3, none⟩ = some (.int .i64 a0_3) := (blk_cell BK198.out 3).trans rfl
        have hfz34_0 := blk_frozen BK198.out 0
        have hfz34_1 := blk_frozen BK198.out 1
        have hfz34_2 := blk_frozen BK198.out 2
        have hfz34_3 := blk_frozen BK198.out 3
        go_wp2_with (first | ((with_reducible refine gate_callee (f := 60) rfl ?_); refine goesL_ (some 10) rfl rfl Try.func60 (by kernel_rfl) rfl #[.agg #[.int .i64 a0_0, .int .i64 a0_1, .int .i64 a0_2, .int .i64 a0_3]] rfl (by (try simp only [List.map_toArray, List.map_cons, List.map_nil]); first | done | rfl | (simp only [List.length_drop, List.length_take]; rfl)) ?_; (with_reducible refine (purse_May.calls a0_0 a0_1 a0_2 a0_3 true _ A10.out).mono ?_); rintro e w35 ⟨rfl, hb⟩; refine ⟨_, rfl, ?_⟩; have n0_ := Aside0.mk (blk_below (g := gb198) (o := .cells #[.int .i64 a0_0, .int .i64 a0_1, .int .i64 a0_2, .int .i64 a0_3] 59 (0, 0)) (by (with_reducible repeat (first | refine blk_drewN ?_ _ | refine blk_drew ?_ | refine blk_alloc ?_ _)); exact BK198.out) hb); have n1_ := Aside0.mk (blk_below (g := gb199) (o := .cells #[.int .i64 a1_0, .int .i64 a1_1, .int .i64 a1_2, .int .i64 a1_3] 59 (0, 0)) (by (with_reducible repeat (first | refine blk_drewN ?_ _ | refine blk_drew ?_ | refine blk_alloc ?_ _)); exact BK199.out) hb); have n2_ := Aside0.mk (blk_below (g := gb200) (o := .cells #[.int .i64 a2_0, .int .i64 a2_1] 48 (0, 0)) (by (with_reducible repeat (first | refine blk_drewN ?_ _ | refine blk_drew ?_ | refine blk_alloc ?_ _)); exact BK200.out) hb); have n3_ := Aside0.mk (blk_below (g := gb201) (o := .cells #[.int .i64 0, .int .i64 0, .int .i64 0, .int .i64 0] 59 (0, 0)) (by (with_reducible repeat (first | refine blk_drewN ?_ _ | refine blk_drew ?_ | refine blk_alloc ?_ _)); exact BK201.out) hb); have n4_ := Aside0.mk (blk_below (g := gb202) (o := .cells #[.int .i64 0, .int .i64 0, .int .i64 0, .int .i64 0] 59 (0, 0)) (by (with_reducible repeat (first | refine blk_drewN ?_ _ | refine blk_drew ?_ | refine blk_alloc ?_ _)); exact BK202.out) hb); have n5_ := Aside0.mk (below_step (by repeat (first | (with_reducible first | exact HB.out | apply below_alloc | apply pw_below_drewN | apply below_drew1 | refine below_set ?_ GE198.out | refine below_set ?_ GE199.out | refine below_set ?_ GE200.out | refine below_set ?_ GE201.out | refine below_set ?_ GE202.out) | exact HB.out)) hb); clear BK198; clear BK199; clear BK200; clear BK201; clear BK202; clear HB; have BK198 := n0_; have BK199 := n1_; have BK200 := n2_; have BK201 := n3_; have BK202 := n4_; have HB := n5_; clear n0_ n1_ n2_ n3_ n4_ n5_; (try clear hb); (try clear hb2); (try clear hk); (try clear hi); have hnb36 := NB199_200.out; have hnc36 := NB200_199.out; have hnb37 := NB199_201.out; have hnc37 := NB201_199.out; have hnb38 := NB199_202.out; have hnc38 := NB202_199.out; have hcz39_0 : w35.cell? ⟨gb199, 0, none⟩ = some (.int .i64 a1_0) := (blk_cell BK199.out 0).trans rfl; have hcz39_1 : w35.cell? ⟨gb199, 1, none⟩ = some (.int .i64 a1_1) := (blk_cell BK199.out 1).trans rfl; have hcz39_2 : w35.cell? ⟨gb199, 2, none⟩ = some (.int .i64 a1_2) := (blk_cell BK199.out 2).trans rfl; have hcz39_3 : w35.cell? ⟨gb199, 3, none⟩ = some (.int .i64 a1_3) := (blk_cell BK199.out 3).trans rfl; have hfz39_0 := blk_frozen BK199.out 0; have hfz39_1 := blk_frozen BK199.out 1; have hfz39_2 := blk_frozen BK199.out 2; have hfz39_3 := blk_frozen BK199.out 3) | (go_at_call 60; (with_reducible refine (purse_May.calls a1_0 a1_1 a1_2 a1_3 false _ A12.out).mono ?_); rintro e w40 ⟨rfl, hb⟩; have n0_ := Aside0.mk (blk_below (g := gb198) (o := .cells #[.int .i64 a0_0, .int .i64 a0_1, .int .i64 a0_2, .int .i64 a0_3] 59 (0, 0)) (by (with_reducible repeat (first | refine blk_drewN ?_ _ | refine blk_drew ?_ | refine blk_alloc ?_ _)); exact BK198.out) hb); have n1_ := Aside0.mk (blk_below (g := gb199) (o := .cells #[.int .i64 a1_0, .int .i64 a1_1, .int .i64 a1_2, .int .i64 a1_3] 59 (0, 0)) (by (with_reducible repeat (first | refine blk_drewN ?_ _ | refine blk_drew ?_ | refine blk_alloc ?_ _)); exact BK199.out) hb); have n2_ := Aside0.mk (blk_below (g := gb200) (o := .cells #[.int .i64 a2_0, .int .i64 a2_1] 48 (0, 0)) (by (with_reducible repeat (first | refine blk_drewN ?_ _ | refine blk_drew ?_ | refine blk_alloc ?_ _)); exact BK200.out) hb); have n3_ := Aside0.mk (blk_below (g := gb201) (o := .cells #[.int .i64 0, .int .i64 0, .int .i64 0, .int .i64 0] 59 (0, 0)) (by (with_reducible repeat (first | refine blk_drewN ?_ _ | refine blk_drew ?_ | refine blk_alloc ?_ _)); exact BK201.out) hb); have n4_ := Aside0.mk (blk_below (g := gb202) (o := .cells #[.int .i64 0, .int .i64 0, .int .i64 0, .int .i64 0] 59 (0, 0)) (by (with_reducible repeat (first | refine blk_drewN ?_ _ | refine blk_drew ?_ | refine blk_alloc ?_ _)); exact BK202.out) hb); have n5_ := Aside0.mk (below_step (by repeat (first | (with_reducible first | exact HB.out | apply below_alloc | apply pw_below_drewN | apply below_drew1 | refine below_set ?_ GE198.out | refine below_set ?_ GE199.out | refine below_set ?_ GE200.out | refine below_set ?_ GE201.out | refine below_set ?_ GE202.out) | exact HB.out)) hb); clear BK198; clear BK199; clear BK200; clear BK201; clear BK202; clear HB; have BK198 := n0_; have BK199 := n1_; have BK200 := n2_; have BK201 := n3_; have BK202 := n4_; have HB := n5_; clear n0_ n1_ n2_ n3_ n4_ n5_; (try clear hb); (try clear hb2); (try clear hk); (try clear hi)))
        go_meet
        case rel => exact ⟨_, (true), (by first | rfl | (simp; done) | (simp [*]; done)), H', ⟨by first | omega | exact Nat.le_refl _⟩, ⟨by (with_reducible repeat (first | refine blk_drewN ?_ _ | refine blk_drew ?_ | refine blk_alloc ?_ _)); exact BK198.out⟩, ⟨by (with_reducible repeat (first | refine blk_drewN ?_ _ | refine blk_drew ?_ | refine blk_alloc ?_ _)); exact BK199.out⟩, ⟨by (with_reducible repeat (first | refine blk_drewN ?_ _ | refine blk_drew ?_ | refine blk_alloc ?_ _)); exact BK200.out⟩, ⟨by (with_reducible repeat (first | refine blk_drewN ?_ _ | refine blk_drew ?_ | refine blk_alloc ?_ _)); exact BK201.out⟩, ⟨by (with_reducible repeat (first | refine blk_drewN ?_ _ | refine blk_drew ?_ | refine blk_alloc ?_ _)); exact BK202.out⟩, ⟨by repeat (first | (with_reducible first | exact HB.out | apply below_alloc | apply pw_below_drewN | apply below_drew1 | refine below_set ?_ GE198.out | refine below_set ?_ GE199.out | refine below_set ?_ GE200.out | refine below_set ?_ GE201.out | refine below_set ?_ GE202.out) | exact HB.out)⟩⟩
    · replace c11 := Bool.eq_false_iff.mpr c11
      subst c11
      have H1 : (purse_Send.j0 k true a0_0 a0_1 a0_2 a0_3 a1_0 a1_1 a1_2 a1_3 a2_0 a2_1) = some (r1, r2, r3, r4, r5, r6, r7, r8, r9) := by rw [if_neg (show ¬ (false = true) by decide)] at H; exact H
      clear H
      have H := H1
      clear H1
      have H' := Aside0.mk H
      clear H
      have hnb41 := NB198_199.out
      have hnc41 := NB199_198.out
      have hnb42 := NB198_200.out
      have hnc42 := NB200_198.out
      have hnb43 := NB198_201.out
      have hnc43 := NB201_198.out
      have hnb44 := NB198_202.out
      have hnc44 := NB202_198.out
      have hcz45_0 : w9.cell? ⟨gb198, 0, none⟩ = some (.int .i64 a0_0) := (blk_cell BK198.out 0).trans rfl
      have hcz45_1 : w9.cell? ⟨gb198, 1, none⟩ = some (.int .i64 a0_1) := (blk_cell BK198.out 1).trans rfl
      have hcz45_2 : w9.cell? ⟨gb198, 2, none⟩ = some (.int .i64 a0_2) := (blk_cell BK198.out 2).trans rfl
      have hcz45_3 : w9.cell? ⟨gb198, 3, none⟩ = some (.int .i64 a0_3) := (blk_cell BK198.out 3).trans rfl
      have hfz45_0 := blk_frozen BK198.out 0
      have hfz45_1 := blk_frozen BK198.out 1
      have hfz45_2 := blk_frozen BK198.out 2
      have hfz45_3 := blk_frozen BK198.out 3
      go_wp2_with (first | ((with_reducible refine gate_callee (f := 60) rfl ?_); refine goesL_ (some 10) rfl rfl Try.func60 (by kernel_rfl) rfl #[.agg #[.int .i64 a0_0, .int .i64 a0_1, .int .i64 a0_2, .int .i64 a0_3]] rfl (by (try simp only [List.map_toArray, List.map_cons, List.map_nil]); first | done | rfl | (simp only [List.length_drop, List.length_take]; rfl)) ?_; (with_reducible refine (purse_May.calls a0_0 a0_1 a0_2 a0_3 false _ A10.out).mono ?_); rintro e w46 ⟨rfl, hb⟩; refine ⟨_, rfl, ?_⟩; have n0_ := Aside0.mk (blk_below (g := gb198) (o := .cells #[.int .i64 a0_0, .int .i64 a0_1, .int .i64 a0_2, .int .i64 a0_3] 59 (0, 0)) (by (with_reducible repeat (first | refine blk_drewN ?_ _ | refine blk_drew ?_ | refine blk_alloc ?_ _)); exact BK198.out) hb); have n1_ := Aside0.mk (blk_below (g := gb199) (o := .cells #[.int .i64 a1_0, .int .i64 a1_1, .int .i64 a1_2, .int .i64 a1_3] 59 (0, 0)) (by (with_reducible repeat (first | refine blk_drewN ?_ _ | refine blk_drew ?_ | refine blk_alloc ?_ _)); exact BK199.out) hb); have n2_ := Aside0.mk (blk_below (g := gb200) (o := .cells #[.int .i64 a2_0, .int .i64 a2_1] 48 (0, 0)) (by (with_reducible repeat (first | refine blk_drewN ?_ _ | refine blk_drew ?_ | refine blk_alloc ?_ _)); exact BK200.out) hb); have n3_ := Aside0.mk (blk_below (g := gb201) (o := .cells #[.int .i64 0, .int .i64 0, .int .i64 0, .int .i64 0] 59 (0, 0)) (by (with_reducible repeat (first | refine blk_drewN ?_ _ | refine blk_drew ?_ | refine blk_alloc ?_ _)); exact BK201.out) hb); have n4_ := Aside0.mk (blk_below (g := gb202) (o := .cells #[.int .i64 0, .int .i64 0, .int .i64 0, .int .i64 0] 59 (0, 0)) (by (with_reducible repeat (first | refine blk_drewN ?_ _ | refine blk_drew ?_ | refine blk_alloc ?_ _)); exact BK202.out) hb); have n5_ := Aside0.mk (below_step (by repeat (first | (with_reducible first | exact HB.out | apply below_alloc | apply pw_below_drewN | apply below_drew1 | refine below_set ?_ GE198.out | refine below_set ?_ GE199.out | refine below_set ?_ GE200.out | refine below_set ?_ GE201.out | refine below_set ?_ GE202.out) | exact HB.out)) hb); clear BK198; clear BK199; clear BK200; clear BK201; clear BK202; clear HB; have BK198 := n0_; have BK199 := n1_; have BK200 := n2_; have BK201 := n3_; have BK202 := n4_; have HB := n5_; clear n0_ n1_ n2_ n3_ n4_ n5_; (try clear hb); (try clear hb2); (try clear hk); (try clear hi)))
      go_meet
      case rel => exact ⟨_, (true), (by first | rfl | (simp; done) | (simp [*]; done)), H', ⟨by first | omega | exact Nat.le_refl _⟩, ⟨by (with_reducible repeat (first | refine blk_drewN ?_ _ | refine blk_drew ?_ | refine blk_alloc ?_ _)); exact BK198.out⟩, ⟨by (with_reducible repeat (first | refine blk_drewN ?_ _ | refine blk_drew ?_ | refine blk_alloc ?_ _)); exact BK199.out⟩, ⟨by (with_reducible repeat (first | refine blk_drewN ?_ _ | refine blk_drew ?_ | refine blk_alloc ?_ _)); exact BK200.out⟩, ⟨by (with_reducible repeat (first | refine blk_drewN ?_ _ | refine blk_drew ?_ | refine blk_alloc ?_ _)); exact BK201.out⟩, ⟨by (with_reducible repeat (first | refine blk_drewN ?_ _ | refine blk_drew ?_ | refine blk_alloc ?_ _)); exact BK202.out⟩, ⟨by repeat (first | (with_reducible first | exact HB.out | apply below_alloc | apply pw_below_drewN | apply below_drew1 | refine below_set ?_ GE198.out | refine below_set ?_ GE199.out | refine below_set ?_ GE200.out | refine below_set ?_ GE201.out | refine below_set ?_ GE202.out) | exact HB.out)⟩⟩
  case rest =>
    clear HC4
    try clear c1
    try clear c2
    try clear p2
    try clear c3
    try clear c4
    try clear c6
    try clear c11
    try clear c13
    try clear c15
    try clear c16
    try clear c17
    try clear c18
    try clear c21
    try clear c22
    try clear c23
    try clear c26
    try clear c27
    try clear c30
    try clear c31
    try clear c32
    try clear c33
    try clear c36
    try clear c37
    try clear c38
    try clear c41
    try clear c42
    try clear c43
    try clear c44
    try clear hcz19_0
    try clear hcz19_1
    try clear hcz19_2
    try clear hcz19_3
    try clear hcz24_0
    try clear hcz24_1
    try clear hcz24_2
    try clear hcz24_3
    try clear hcz28_0
    try clear hcz28_1
    try clear hcz34_0
    try clear hcz34_1
    try clear hcz34_2
    try clear hcz34_3
    try clear hcz39_0
    try clear hcz39_1
    try clear hcz39_2
    try clear hcz39_3
    try clear hcz45_0
    try clear hcz45_1
    try clear hcz45_2
    try clear hcz45_3
    try clear hfz19_0
    try clear hfz19_1
    try clear hfz19_2
    try clear hfz19_3
    try clear hfz24_0
    try clear hfz24_1
    try clear hfz24_2
    try clear hfz24_3
    try clear hfz28_0
    try clear hfz28_1
    try clear hfz34_0
    try clear hfz34_1
    try clear hfz34_2
    try clear hfz34_3
    try clear hfz39_0
    try clear hfz39_1
    try clear hfz39_2
    try clear hfz39_3
    try clear hfz45_0
    try clear hfz45_1
    try clear hfz45_2
    try clear hfz45_3
    obtain ⟨kq, x21_3, rfl, HA, HJ3, BK198, BK199, BK200, BK201, BK202, HB⟩ := hcut
    cases kq with
    | zero => exact absurd HA.out (by simp [purse_Send.j0])
    | succ kj3 =>
      have H := HA.out
      clear HA
      simp only [purse_Send.j0] at H
      by_cases c47 : x21_3 = true
      · subst c47
        have H1 : (some (0, 0, 0, 0, 0, 0, 0, 0, 1)) = some (r1, r2, r3, r4, r5, r6, r7, r8, r9) := by rw [if_pos rfl] at H; exact H
        clear H
        have H := H1
        clear H1
        simp only [Option.some.injEq, Prod.mk.injEq] at H
        obtain ⟨rfl, rfl, rfl, rfl, rfl, rfl, rfl, rfl, rfl⟩ := H
        have hnb48 := NB201_198.out
        have hnc48 := NB198_201.out
        have hnb49 := NB201_199.out
        have hnc49 := NB199_201.out
        have hnb50 := NB201_200.out
        have hnc50 := NB200_201.out
        have hnb51 := NB201_202.out
        have hnc51 := NB202_201.out
        have hcz52_0 : wc.cell? ⟨gb201, 0, none⟩ = some (.int .i64 0) := (blk_cell BK201.out 0).trans rfl
        have hcz52_1 : wc.cell? ⟨gb201, 1, none⟩ = some (.int .i64 0) := (blk_cell BK201.out 1).trans rfl
        have hcz52_2 : wc.cell? ⟨gb201, 2, none⟩ = some (.int .i64 0) := (blk_cell BK201.out 2).trans rfl
        have hcz52_3 : wc.cell? ⟨gb201, 3, none⟩ = some (.int .i64 0) := (blk_cell BK201.out 3).trans rfl
        have hfz52_0 := blk_frozen BK201.out 0
        have hfz52_1 := blk_frozen BK201.out 1
        have hfz52_2 := blk_frozen BK201.out 2
        have hfz52_3 := blk_frozen BK201.out 3
        have hnb53 := NB202_198.out
        have hnc53 := NB198_202.out
        have hnb54 := NB202_199.out
        have hnc54 := NB199_202.out
        have hnb55 := NB202_200.out
        have hnc55 := NB200_202.out
        have hcz56_0 : wc.cell? ⟨gb202, 0, none⟩ = some (.int .i64 0) := (blk_cell BK202.out 0).trans rfl
        have hcz56_1 : wc.cell? ⟨gb202, 1, none⟩ = some (.int .i64 0) := (blk_cell BK202.out 1).trans rfl
        have hcz56_2 : wc.cell? ⟨gb202, 2, none⟩ = some (.int .i64 0) := (blk_cell BK202.out 2).trans rfl
        have hcz56_3 : wc.cell? ⟨gb202, 3, none⟩ = some (.int .i64 0) := (blk_cell BK202.out 3).trans rfl
        have hfz56_0 := blk_frozen BK202.out 0
        have hfz56_1 := blk_frozen BK202.out 1
        have hfz56_2 := blk_frozen BK202.out 2
        have hfz56_3 := blk_frozen BK202.out 3
        go_wp2
        refine bodyPost_ret (results_list (rs := [.cell 6 59, .cell 7 59, .tmp 8]) rfl (by simp) (.cell gb201 59 #[.int .i64 0, .int .i64 0, .int .i64 0, .int .i64 0] (0, 0) _ rfl (by (with_reducible repeat (first | refine blk_drewN ?_ _ | refine blk_drew ?_ | refine blk_alloc ?_ _)); refine blk_far ?_ NB201_202.out _; (with_reducible repeat (first | refine blk_drewN ?_ _ | refine blk_drew ?_ | refine blk_alloc ?_ _)); refine blk_far ?_ NB201_202.out _; (with_reducible repeat (first | refine blk_drewN ?_ _ | refine blk_drew ?_ | refine blk_alloc ?_ _)); refine blk_far ?_ NB201_202.out _; (with_reducible repeat (first | refine blk_drewN ?_ _ | refine blk_drew ?_ | refine blk_alloc ?_ _)); refine blk_far ?_ NB201_202.out _; (with_reducible repeat (first | refine blk_drewN ?_ _ | refine blk_drew ?_ | refine blk_alloc ?_ _)); refine blk_put (cs := #[.int .i64 0, .int .i64 0, .int .i64 0, .int .i64 0]) ?_ 3 _ rfl; (with_reducible repeat (first | refine blk_drewN ?_ _ | refine blk_drew ?_ | refine blk_alloc ?_ _)); refine blk_put (cs := #[.int .i64 0, .int .i64 0, .int .i64 0, .int .i64 0]) ?_ 2 _ rfl; (with_reducible repeat (first | refine blk_drewN ?_ _ | refine blk_drew ?_ | refine blk_alloc ?_ _)); refine blk_put (cs := #[.int .i64 0, .int .i64 0, .int .i64 0, .int .i64 0]) ?_ 1 _ rfl; (with_reducible repeat (first | refine blk_drewN ?_ _ | refine blk_drew ?_ | refine blk_alloc ?_ _)); refine blk_put (cs := #[.int .i64 0, .int .i64 0, .int .i64 0, .int .i64 0]) ?_ 0 _ rfl; (with_reducible repeat (first | refine blk_drewN ?_ _ | refine blk_drew ?_ | refine blk_alloc ?_ _)); exact BK201.out) Try.underlying59 rfl (by kernel_rfl) (.cell gb202 59 #[.int .i64 0, .int .i64 0, .int .i64 0, .int .i64 0] (0, 0) _ rfl (by (with_reducible repeat (first | refine blk_drewN ?_ _ | refine blk_drew ?_ | refine blk_alloc ?_ _)); refine blk_put (cs := #[.int .i64 0, .int .i64 0, .int .i64 0, .int .i64 0]) ?_ 3 _ rfl; (with_reducible repeat (first | refine blk_drewN ?_ _ | refine blk_drew ?_ | refine blk_alloc ?_ _)); refine blk_put (cs := #[.int .i64 0, .int .i64 0, .int .i64 0, .int .i64 0]) ?_ 2 _ rfl; (with_reducible repeat (first | refine blk_drewN ?_ _ | refine blk_drew ?_ | refine blk_alloc ?_ _)); refine blk_put (cs := #[.int .i64 0, .int .i64 0, .int .i64 0, .int .i64 0]) ?_ 1 _ rfl; (with_reducible repeat (first | refine blk_drewN ?_ _ | refine blk_drew ?_ | refine blk_alloc ?_ _)); refine blk_put (cs := #[.int .i64 0, .int .i64 0, .int .i64 0, .int .i64 0]) ?_ 0 _ rfl; (with_reducible repeat (first | refine blk_drewN ?_ _ | refine blk_drew ?_ | refine blk_alloc ?_ _)); refine blk_far ?_ NB202_201.out _; (with_reducible repeat (first | refine blk_drewN ?_ _ | refine blk_drew ?_ | refine blk_alloc ?_ _)); refine blk_far ?_ NB202_201.out _; (with_reducible repeat (first | refine blk_drewN ?_ _ | refine blk_drew ?_ | refine blk_alloc ?_ _)); refine blk_far ?_ NB202_201.out _; (with_reducible repeat (first | refine blk_drewN ?_ _ | refine blk_drew ?_ | refine blk_alloc ?_ _)); refine blk_far ?_ NB202_201.out _; (with_reducible repeat (first | refine blk_drewN ?_ _ | refine blk_drew ?_ | refine blk_alloc ?_ _)); exact BK202.out) Try.underlying59 rfl (by kernel_rfl) (.tmp .nil)))) rfl ?_
        exact ⟨by first | rfl | (simp [errW_none, errW_some] <;> rfl) | (simp [*, errW_none, errW_some] <;> rfl), by repeat (first | (with_reducible first | exact HB.out | apply below_alloc | apply pw_below_drewN | apply below_drew1 | refine below_set ?_ GE198.out | refine below_set ?_ GE199.out | refine below_set ?_ GE200.out | refine below_set ?_ GE201.out | refine below_set ?_ GE202.out) | exact HB.out)⟩
      · replace c47 := Bool.eq_false_iff.mpr c47
        subst c47
        have H1 : (if a0_0 < a2_0 then (purse_Send.j1 kj3 true a0_0 a0_1 a0_2 a0_3 a1_0 a1_1 a1_2 a1_3 a2_0 a2_1) else (purse_Send.j1 kj3 (decide (a0_1 < a2_1)) a0_0 a0_1 a0_2 a0_3 a1_0 a1_1 a1_2 a1_3 a2_0 a2_1)) = some (r1, r2, r3, r4, r5, r6, r7, r8, r9) := by rw [if_neg (show ¬ (false = true) by decide)] at H; exact H
        clear H
        have H := H1
        clear H1
        have HC57 := Aside0.mk H
        clear H
        go_upto_region 3 with (fail)
        go_cut [35] (fun v35 wc => ∃ (kq : Nat) (x35_56 : Bool), v35 = .bool x35_56 ∧ Aside0 (purse_Send.j1 kq x35_56 a0_0 a0_1 a0_2 a0_3 a1_0 a1_1 a1_2 a1_3 a2_0 a2_1 = some (r1, r2, r3, r4, r5, r6, r7, r8, r9)) ∧ Aside0 (kq ≤ kj3) ∧ Aside0 (wc.heap[gb198]? = some (.cells #[.int .i64 a0_0, .int .i64 a0_1, .int .i64 a0_2, .int .i64 a0_3] 59 (0, 0))) ∧ Aside0 (wc.heap[gb199]? = some (.cells #[.int .i64 a1_0, .int .i64 a1_1, .int .i64 a1_2, .int .i64 a1_3] 59 (0, 0))) ∧ Aside0 (wc.heap[gb200]? = some (.cells #[.int .i64 a2_0, .int .i64 a2_1] 48 (0, 0))) ∧ Aside0 (wc.heap[gb201]? = some (.cells #[.int .i64 0, .int .i64 0, .int .i64 0, .int .i64 0] 59 (0, 0))) ∧ Aside0 (wc.heap[gb202]? = some (.cells #[.int .i64 0, .int .i64 0, .int .i64 0, .int .i64 0] 59 (0, 0))) ∧ Aside0 (Below w.heap.size w wc))
        case first =>
          have H := HC57.out
          clear HC57
          by_cases c58 : a0_0 < a2_0
          · rw [if_pos c58] at H
            have c58b0 : decide (a0_0 < a2_0) = true := decide_eq_true c58
            clear c58
            (first | rw [c58b0] | (simp only [i64_w, i32_w]; rw [c58b0]) | skip)
            have H' := Aside0.mk H
            clear H
            have hnb59 := NB198_199.out
            have hnc59 := NB199_198.out
            have hnb60 := NB198_200.out
            have hnc60 := NB200_198.out
            have hnb61 := NB198_201.out
            have hnc61 := NB201_198.out
            have hnb62 := NB198_202.out
            have hnc62 := NB202_198.out
            have hcz63_0 : wc.cell? ⟨gb198, 0, none⟩ = some (.int .i64 a0_0) := (blk_cell BK198.out 0).trans rfl
            have hcz63_1 : wc.cell? ⟨gb198, 1, none⟩ = some (.int .i64 a0_1) := (blk_cell BK198.out 1).trans rfl
            have hcz63_2 : wc.cell? ⟨gb198, 2, none⟩ = some (.int .i64 a0_2) := (blk_cell BK198.out 2).trans rfl
            have hcz63_3 : wc.cell? ⟨gb198, 3, none⟩ = some (.int .i64 a0_3) := (blk_cell BK198.out 3).trans rfl
            have hfz63_0 := blk_frozen BK198.out 0
            have hfz63_1 := blk_frozen BK198.out 1
            have hfz63_2 := blk_frozen BK198.out 2
            have hfz63_3 := blk_frozen BK198.out 3
            have hnb64 := NB200_199.out
            have hnc64 := NB199_200.out
            have hnb65 := NB200_201.out
            have hnc65 := NB201_200.out
            have hnb66 := NB200_202.out
            have hnc66 := NB202_200.out
            have hcz67_0 : wc.cell? ⟨gb200, 0, none⟩ = some (.int .i64 a2_0) := (blk_cell BK200.out 0).trans rfl
            have hcz67_1 : wc.cell? ⟨gb200, 1, none⟩ = some (.int .i64 a2_1) := (blk_cell BK200.out 1).trans rfl
            have hfz67_0 := blk_frozen BK200.out 0
            have hfz67_1 := blk_frozen BK200.out 1
            go_wp2
            go_meet
            case rel => exact ⟨_, (true), (by first | rfl | (simp; done) | (simp [*]; done)), H', ⟨by have := HJ3.out; first | omega | exact Nat.le_refl _⟩, ⟨by (with_reducible repeat (first | refine blk_drewN ?_ _ | refine blk_drew ?_ | refine blk_alloc ?_ _)); exact BK198.out⟩, ⟨by (with_reducible repeat (first | refine blk_drewN ?_ _ | refine blk_drew ?_ | refine blk_alloc ?_ _)); exact BK199.out⟩, ⟨by (with_reducible repeat (first | refine blk_drewN ?_ _ | refine blk_drew ?_ | refine blk_alloc ?_ _)); exact BK200.out⟩, ⟨by (with_reducible repeat (first | refine blk_drewN ?_ _ | refine blk_drew ?_ | refine blk_alloc ?_ _)); exact BK201.out⟩, ⟨by (with_reducible repeat (first | refine blk_drewN ?_ _ | refine blk_drew ?_ | refine blk_alloc ?_ _)); exact BK202.out⟩, ⟨by repeat (first | (with_reducible first | exact HB.out | apply below_alloc | apply pw_below_drewN | apply below_drew1 | refine below_set ?_ GE198.out | refine below_set ?_ GE199.out | refine below_set ?_ GE200.out | refine below_set ?_ GE201.out | refine below_set ?_ GE202.out) | exact HB.out)⟩⟩
          · rw [if_neg c58] at H
            have c58b0 : decide (a0_0 < a2_0) = false := decide_eq_false c58
            clear c58
            (first | rw [c58b0] | (simp only [i64_w, i32_w]; rw [c58b0]) | skip)
            have H' := Aside0.mk H
            clear H
            have hnb68 := NB198_199.out
            have hnc68 := NB199_198.out
            have hnb69 := NB198_200.out
            have hnc69 := NB200_198.out
            have hnb70 := NB198_201.out
            have hnc70 := NB201_198.out
            have hnb71 := NB198_202.out
            have hnc71 := NB202_198.out
            have hcz72_0 : wc.cell? ⟨gb198, 0, none⟩ = some (.int .i64 a0_0) := (blk_cell BK198.out 0).trans rfl
            have hcz72_1 : wc.cell? ⟨gb198, 1, none⟩ = some (.int .i64 a0_1) := (blk_cell BK198.out 1).trans rfl
            have hcz72_2 : wc.cell? ⟨gb198, 2, none⟩ = some (.int .i64 a0_2) := (blk_cell BK198.out 2).trans rfl
            have hcz72_3 : wc.cell? ⟨gb198, 3, none⟩ = some (.int .i64 a0_3) := (blk_cell BK198.out 3).trans rfl
            have hfz72_0 := blk_frozen BK198.out 0
            have hfz72_1 := blk_frozen BK198.out 1
            have hfz72_2 := blk_frozen BK198.out 2
            have hfz72_3 := blk_frozen BK198.out 3
            have hnb73 := NB200_199.out
            have hnc73 := NB199_200.out
            have hnb74 := NB200_201.out
            have hnc74 := NB201_200.out
            have hnb75 := NB200_202.out
            have hnc75 := NB202_200.out
            have hcz76_0 : wc.cell? ⟨gb200, 0, none⟩ = some (.int .i64 a2_0) := (blk_cell BK200.out 0).trans rfl
            have hcz76_1 : wc.cell? ⟨gb200, 1, none⟩ = some (.int .i64 a2_1) := (blk_cell BK200.out 1).trans rfl
            have hfz76_0 := blk_frozen BK200.out 0
            have hfz76_1 := blk_frozen BK200.out 1
            go_wp2
            go_meet
            case rel => exact ⟨_, (decide (a0_1 < a2_1)), (by first | rfl | (simp; done) | (simp [*]; done)), H', ⟨by have := HJ3.out; first | omega | exact Nat.le_refl _⟩, ⟨by (with_reducible repeat (first | refine blk_drewN ?_ _ | refine blk_drew ?_ | refine blk_alloc ?_ _)); exact BK198.out⟩, ⟨by (with_reducible repeat (first | refine blk_drewN ?_ _ | refine blk_drew ?_ | refine blk_alloc ?_ _)); exact BK199.out⟩, ⟨by (with_reducible repeat (first | refine blk_drewN ?_ _ | refine blk_drew ?_ | refine blk_alloc ?_ _)); exact BK200.out⟩, ⟨by (with_reducible repeat (first | refine blk_drewN ?_ _ | refine blk_drew ?_ | refine blk_alloc ?_ _)); exact BK201.out⟩, ⟨by (with_reducible repeat (first | refine blk_drewN ?_ _ | refine blk_drew ?_ | refine blk_alloc ?_ _)); exact BK202.out⟩, ⟨by repeat (first | (with_reducible first | exact HB.out | apply below_alloc | apply pw_below_drewN | apply below_drew1 | refine below_set ?_ GE198.out | refine below_set ?_ GE199.out | refine below_set ?_ GE200.out | refine below_set ?_ GE201.out | refine below_set ?_ GE202.out) | exact HB.out)⟩⟩
        case rest =>
          clear HC57
          try clear c1
          try clear c2
          try clear p2
          try clear c3
          try clear c4
          try clear c5
          try clear c6
          try clear c7
          try clear c11
          try clear c13
          try clear c15
          try clear c16
          try clear c17
          try clear c18
          try clear c21
          try clear c22
          try clear c23
          try clear c26
          try clear c27
          try clear c30
          try clear c31
          try clear c32
          try clear c33
          try clear c36
          try clear c37
          try clear c38
          try clear c41
          try clear c42
          try clear c43
          try clear c44
          try clear c47
          try clear c48
          try clear c49
          try clear c50
          try clear c51
          try clear c53
          try clear c54
          try clear c55
          try clear c58
          try clear c58b0
          try clear c59
          try clear c60
          try clear c61
          try clear c62
          try clear c64
          try clear c65
          try clear c66
          try clear c68
          try clear c69
          try clear c70
          try clear c71
          try clear c73
          try clear c74
          try clear c75
          try clear hcz19_0
          try clear hcz19_1
          try clear hcz19_2
          try clear hcz19_3
          try clear hcz24_0
          try clear hcz24_1
          try clear hcz24_2
          try clear hcz24_3
          try clear hcz28_0
          try clear hcz28_1
          try clear hcz34_0
          try clear hcz34_1
          try clear hcz34_2
          try clear hcz34_3
          try clear hcz39_0
          try clear hcz39_1
          try clear hcz39_2
          try clear hcz39_3
          try clear hcz45_0
          try clear hcz45_1
          try clear hcz45_2
          try clear hcz45_3
          try clear hcz52_0
          try clear hcz52_1
          try clear hcz52_2
          try clear hcz52_3
          try clear hcz56_0
          try clear hcz56_1
          try clear hcz56_2
          try clear hcz56_3
          try clear hcz63_0
          try clear hcz63_1
          try clear hcz63_2
          try clear hcz63_3
          try clear hcz67_0
          try clear hcz67_1
          try clear hcz72_0
          try clear hcz72_1
          try clear hcz72_2
          try clear hcz72_3
          try clear hcz76_0
          try clear hcz76_1
          try clear hfz19_0
          try clear hfz19_1
          try clear hfz19_2
          try clear hfz19_3
          try clear hfz24_0
          try clear hfz24_1
          try clear hfz24_2
          try clear hfz24_3
          try clear hfz28_0
          try clear hfz28_1
          try clear hfz34_0
          try clear hfz34_1
          try clear hfz34_2
          try clear hfz34_3
          try clear hfz39_0
          try clear hfz39_1
          try clear hfz39_2
          try clear hfz39_3
          try clear hfz45_0
          try clear hfz45_1
          try clear hfz45_2
          try clear hfz45_3
          try clear hfz52_0
          try clear hfz52_1
          try clear hfz52_2
          try clear hfz52_3
          try clear hfz56_0
          try clear hfz56_1
          try clear hfz56_2
          try clear hfz56_3
          try clear hfz63_0
          try clear hfz63_1
          try clear hfz63_2
          try clear hfz63_3
          try clear hfz67_0
          try clear hfz67_1
          try clear hfz72_0
          try clear hfz72_1
          try clear hfz72_2
          try clear hfz72_3
          try clear hfz76_0
          try clear hfz76_1
          try clear p2
          obtain ⟨kq, x35_56, rfl, HA, HJ56, BK198, BK199, BK200, BK201, BK202, HB⟩ := hcut
          cases kq with
          | zero => exact absurd HA.out (by simp [purse_Send.j1])
          | succ kj56 =>
            have H := HA.out
            clear HA
            simp only [purse_Send.j1] at H
            by_cases c77 : x35_56 = true
            · subst c77
              have H1 : (some (0, 0, 0, 0, 0, 0, 0, 0, 6)) = some (r1, r2, r3, r4, r5, r6, r7, r8, r9) := by rw [if_pos rfl] at H; exact H
              clear H
              have H := H1
              clear H1
              simp only [Option.some.injEq, Prod.mk.injEq] at H
              obtain ⟨rfl, rfl, rfl, rfl, rfl, rfl, rfl, rfl, rfl⟩ := H
              have hnb78 := NB201_198.out
              have hnc78 := NB198_201.out
              have hnb79 := NB201_199.out
              have hnc79 := NB199_201.out
              have hnb80 := NB201_200.out
              have hnc80 := NB200_201.out
              have hnb81 := NB201_202.out
              have hnc81 := NB202_201.out
              have hcz82_0 : wc.cell? ⟨gb201, 0, none⟩ = some (.int .i64 0) := (blk_cell BK201.out 0).trans rfl
              have hcz82_1 : wc.cell? ⟨gb201, 1, none⟩ = some (.int .i64 0) := (blk_cell BK201.out 1).trans rfl
              have hcz82_2 : wc.cell? ⟨gb201, 2, none⟩ = some (.int .i64 0) := (blk_cell BK201.out 2).trans rfl
              have hcz82_3 : wc.cell? ⟨gb201, 3, none⟩ = some (.int .i64 0) := (blk_cell BK201.out 3).trans rfl
              have hfz82_0 := blk_frozen BK201.out 0
              have hfz82_1 := blk_frozen BK201.out 1
              have hfz82_2 := blk_frozen BK201.out 2
              have hfz82_3 := blk_frozen BK201.out 3
              have hnb83 := NB202_198.out
              have hnc83 := NB198_202.out
              have hnb84 := NB202_199.out
              have hnc84 := NB199_202.out
              have hnb85 := NB202_200.out
              have hnc85 := NB200_202.out
              have hcz86_0 : wc.cell? ⟨gb202, 0, none⟩ = some (.int .i64 0) := (blk_cell BK202.out 0).trans rfl
              have hcz86_1 : wc.cell? ⟨gb202, 1, none⟩ = some (.int .i64 0) := (blk_cell BK202.out 1).trans rfl
              have hcz86_2 : wc.cell? ⟨gb202, 2, none⟩ = some (.int .i64 0) := (blk_cell BK202.out 2).trans rfl
              have hcz86_3 : wc.cell? ⟨gb202, 3, none⟩ = some (.int .i64 0) := (blk_cell BK202.out 3).trans rfl
              have hfz86_0 := blk_frozen BK202.out 0
              have hfz86_1 := blk_frozen BK202.out 1
              have hfz86_2 := blk_frozen BK202.out 2
              have hfz86_3 := blk_frozen BK202.out 3
              go_wp2
              refine bodyPost_ret (results_list (rs := [.cell 6 59, .cell 7 59, .tmp 8]) rfl (by simp) (.cell gb201 59 #[.int .i64 0, .int .i64 0, .int .i64 0, .int .i64 0] (0, 0) _ rfl (by (with_reducible repeat (first | refine blk_drewN ?_ _ | refine blk_drew ?_ | refine blk_alloc ?_ _)); refine blk_far ?_ NB201_202.out _; (with_reducible repeat (first | refine blk_drewN ?_ _ | refine blk_drew ?_ | refine blk_alloc ?_ _)); refine blk_far ?_ NB201_202.out _; (with_reducible repeat (first | refine blk_drewN ?_ _ | refine blk_drew ?_ | refine blk_alloc ?_ _)); refine blk_far ?_ NB201_202.out _; (with_reducible repeat (first | refine blk_drewN ?_ _ | refine blk_drew ?_ | refine blk_alloc ?_ _)); refine blk_far ?_ NB201_202.out _; (with_reducible repeat (first | refine blk_drewN ?_ _ | refine blk_drew ?_ | refine blk_alloc ?_ _)); refine blk_put (cs := #[.int .i64 0, .int .i64 0, .int .i64 0, .int .i64 0]) ?_ 3 _ rfl; (with_reducible repeat (first | refine blk_drewN ?_ _ | refine blk_drew ?_ | refine blk_alloc ?_ _)); refine blk_put (cs := #[.int .i64 0, .int .i64 0, .int .i64 0, .int .i64 0]) ?_ 2 _ rfl; (with_reducible repeat (first | refine blk_drewN ?_ _ | refine blk_drew ?_ | refine blk_alloc ?_ _)); refine blk_put (cs := #[.int .i64 0, .int .i64 0, .int .i64 0, .int .i64 0]) ?_ 1 _ rfl; (with_reducible repeat (first | refine blk_drewN ?_ _ | refine blk_drew ?_ | refine blk_alloc ?_ _)); refine blk_put (cs := #[.int .i64 0, .int .i64 0, .int .i64 0, .int .i64 0]) ?_ 0 _ rfl; (with_reducible repeat (first | refine blk_drewN ?_ _ | refine blk_drew ?_ | refine blk_alloc ?_ _)); exact BK201.out) Try.underlying59 rfl (by kernel_rfl) (.cell gb202 59 #[.int .i64 0, .int .i64 0, .int .i64 0, .int .i64 0] (0, 0) _ rfl (by (with_reducible repeat (first | refine blk_drewN ?_ _ | refine blk_drew ?_ | refine blk_alloc ?_ _)); refine blk_put (cs := #[.int .i64 0, .int .i64 0, .int .i64 0, .int .i64 0]) ?_ 3 _ rfl; (with_reducible repeat (first | refine blk_drewN ?_ _ | refine blk_drew ?_ | refine blk_alloc ?_ _)); refine blk_put (cs := #[.int .i64 0, .int .i64 0, .int .i64 0, .int .i64 0]) ?_ 2 _ rfl; (with_reducible repeat (first | refine blk_drewN ?_ _ | refine blk_drew ?_ | refine blk_alloc ?_ _)); refine blk_put (cs := #[.int .i64 0, .int .i64 0, .int .i64 0, .int .i64 0]) ?_ 1 _ rfl; (with_reducible repeat (first | refine blk_drewN ?_ _ | refine blk_drew ?_ | refine blk_alloc ?_ _)); refine blk_put (cs := #[.int .i64 0, .int .i64 0, .int .i64 0, .int .i64 0]) ?_ 0 _ rfl; (with_reducible repeat (first | refine blk_drewN ?_ _ | refine blk_drew ?_ | refine blk_alloc ?_ _)); refine blk_far ?_ NB202_201.out _; (with_reducible repeat (first | refine blk_drewN ?_ _ | refine blk_drew ?_ | refine blk_alloc ?_ _)); refine blk_far ?_ NB202_201.out _; (with_reducible repeat (first | refine blk_drewN ?_ _ | refine blk_drew ?_ | refine blk_alloc ?_ _)); refine blk_far ?_ NB202_201.out _; (with_reducible repeat (first | refine blk_drewN ?_ _ | refine blk_drew ?_ | refine blk_alloc ?_ _)); refine blk_far ?_ NB202_201.out _; (with_reducible repeat (first | refine blk_drewN ?_ _ | refine blk_drew ?_ | refine blk_alloc ?_ _)); exact BK202.out) Try.underlying59 rfl (by kernel_rfl) (.tmp .nil)))) rfl ?_
              exact ⟨by first | rfl | (simp [errW_none, errW_some] <;> rfl) | (simp [*, errW_none, errW_some] <;> rfl), by repeat (first | (with_reducible first | exact HB.out | apply below_alloc | apply pw_below_drewN | apply below_drew1 | refine below_set ?_ GE198.out | refine below_set ?_ GE199.out | refine below_set ?_ GE200.out | refine below_set ?_ GE201.out | refine below_set ?_ GE202.out) | exact HB.out)⟩
            · replace c77 := Bool.eq_false_iff.mpr c77
              subst c77
              have H1 : (some (wrap64 (a0_0 - a2_0), wrap64 (a0_1 - a2_1), a0_2, a0_3, mn (wrap64 (a1_0 + a2_0)) a1_2, mn (wrap64 (a1_1 + a2_1)) a1_3, a1_2, a1_3, 0)) = some (r1, r2, r3, r4, r5, r6, r7, r8, r9) := by rw [if_neg (show ¬ (false = true) by decide)] at H; exact H
              clear H
              have H := H1
              clear H1
              obtain ⟨ji87, hji87⟩ : ∃ j_ : Int, (mn (wrap64 (a1_0 + a2_0)) a1_2) = j_ := ⟨_, rfl⟩
              replace H : (some (wrap64 (a0_0 - a2_0), wrap64 (a0_1 - a2_1), a0_2, a0_3, ji87, mn (wrap64 (a1_1 + a2_1)) a1_3, a1_2, a1_3, 0)) = some (r1, r2, r3, r4, r5, r6, r7, r8, r9) := by first | (rw [hji87] at H; exact H) | (simp only [hji87] at H ⊢; exact H)
              have hji87_ : (if a1_2 < (wrap64 (a1_0 + a2_0)) then a1_2 else (wrap64 (a1_0 + a2_0))) = ji87 := hji87
              obtain ⟨ji88, hji88⟩ : ∃ j_ : Int, (mn (wrap64 (a1_1 + a2_1)) a1_3) = j_ := ⟨_, rfl⟩
              replace H : (some (wrap64 (a0_0 - a2_0), wrap64 (a0_1 - a2_1), a0_2, a0_3, ji87, ji88, a1_2, a1_3, 0)) = some (r1, r2, r3, r4, r5, r6, r7, r8, r9) := by first | (rw [hji88] at H; exact H) | (simp only [hji88] at H ⊢; exact H)
              have hji88_ : (if a1_3 < (wrap64 (a1_1 + a2_1)) then a1_3 else (wrap64 (a1_1 + a2_1))) = ji88 := hji88
              simp only [Option.some.injEq, Prod.mk.injEq] at H
              obtain ⟨rfl, rfl, rfl, rfl, rfl, rfl, rfl, rfl, rfl⟩ := H
              try go_wp2
              have n0_ := Aside0.mk (blk_drew BK198.out)
              have n1_ := Aside0.mk (blk_drew BK199.out)
              have n2_ := Aside0.mk (blk_drew BK200.out)
              have n3_ := Aside0.mk (blk_drew BK201.out)
              have n4_ := Aside0.mk (blk_drew BK202.out)
              have n5_ := Aside0.mk (below_drew1 HB.out)
              clear BK198
              clear BK199
              clear BK200
              clear BK201
              clear BK202
              clear HB
              have BK198 := n0_
              have BK199 := n1_
              have BK200 := n2_
              have BK201 := n3_
              have BK202 := n4_
              have HB := n5_
              clear n0_ n1_ n2_ n3_ n4_ n5_
              refine start_ (n := 14) (S := fun w' => w'.cell? ⟨gb198, 1, none⟩ = some (.int .i64 a0_1) ∧ w'.cell? ⟨gb198, 2, none⟩ = some (.int .i64 a0_2) ∧ w'.cell? ⟨gb198, 3, none⟩ = some (.int .i64 a0_3) ∧ w'.cell? ⟨gb200, 0, none⟩ = some (.int .i64 a2_0) ∧ w'.cell? ⟨gb200, 1, none⟩ = some (.int .i64 a2_1)) (ds := [13]) #[false, false, false, false, false, false, false, false, false, false, false, false, false, false] (by kernel_rfl) rfl rfl ⟨(blk_cell BK198.out 1).trans rfl, (blk_cell BK198.out 2).trans rfl, (blk_cell BK198.out 3).trans rfl, (blk_cell BK200.out 0).trans rfl, (blk_cell BK200.out 1).trans rfl⟩ (fun hHeld => ?_); refine with_tabW purse_Send.tab5 purse_Send.bits5 (fun HT_ HW_ => ?_)
              generalize wc.drew = w89 at BK198 BK199 BK200 BK201 BK202 HB hHeld ⊢; have hlt198_0_ : w89.cell? ⟨gb198, 0, none⟩ = some (.int .i64 a0_0) := (blk_cell BK198.out 0).trans rfl
              refine pure_ (i := 0) (N := some 38) (v := ?_) (a' := ?_) #[true, false, false, false, false, false, false, false, false, false, false, false, false, false] rfl rfl (any_of HT_.out (by kernel_rfl)) (fun _ _ _ h => h) (Or.inl ⟨by rfl, ?_⟩) ?_ ?_
              rotate_left
              · intro w'
                go_simp
                with_reducible rfl
              rotate_left
              · simp only [Act.put, List.setIfInBounds_toArray, List.set_cons_zero, List.set_cons_succ, i64_w, i32_w]
                rfl
              refine pure_ (i := 2) (N := some 40) (v := ?_) (a' := ?_) #[true, false, true, false, false, false, false, false, false, false, false, false, false, false] rfl rfl (any_of HT_.out (by kernel_rfl)) (fun _ _ _ h => h) (Or.inl ⟨by rfl, ?_⟩) ?_ ?_
              rotate_left
              · intro w'
                go_simp
                with_reducible rfl
              rotate_left
              · simp only [Act.put, List.setIfInBounds_toArray, List.set_cons_zero, List.set_cons_succ, i64_w, i32_w]
                rfl
              refine pure_ (i := 5) (N := some 43) (v := ?_) (a' := ?_) #[true, false, true, false, false, true, false, false, false, false, false, false, false, false] rfl rfl (any_of HT_.out (by kernel_rfl)) (fun _ _ _ h => h) (Or.inl ⟨by rfl, ?_⟩) ?_ ?_
              rotate_left
              · intro w'
                go_simp
                with_reducible rfl
              rotate_left
              · simp only [Act.put, List.setIfInBounds_toArray, List.set_cons_zero, List.set_cons_succ, i64_w, i32_w]
                rfl
              refine pure_ (i := 7) (N := some 45) (v := ?_) (a' := ?_) #[true, false, true, false, false, true, false, true, false, false, false, false, false, false] rfl rfl (any_of HT_.out (by kernel_rfl)) (fun _ _ _ h => h) (Or.inl ⟨by rfl, ?_⟩) ?_ ?_
              rotate_left
              · intro w'
                go_simp
                with_reducible rfl
              rotate_left
              · simp only [Act.put, List.setIfInBounds_toArray, List.set_cons_zero, List.set_cons_succ, i64_w, i32_w]
                rfl
              refine take_ (i := 3) (N := some 41) (v := ?_) (a' := ?_) #[true, false, true, true, false, true, false, true, false, false, false, false, false, false] rfl rfl (take_ofW HT_.out HW_.out (by kernel_rfl)) (fun _ _ _ h => h) (Or.inl ⟨by rfl, ?_⟩) hHeld ?_ ?_
              rotate_left
              · rintro w' ⟨s0, s1, s2, s3, s4⟩
                go_simp
                with_reducible rfl
              rotate_left
              · simp only [Act.put, List.setIfInBounds_toArray, List.set_cons_zero, List.set_cons_succ, i64_w, i32_w]
                rfl
              refine take_ (i := 6) (N := some 44) (v := ?_) (a' := ?_) #[true, false, true, true, false, true, true, true, false, false, false, false, false, false] rfl rfl (take_ofW HT_.out HW_.out (by kernel_rfl)) (fun _ _ _ h => h) (Or.inl ⟨by rfl, ?_⟩) hHeld ?_ ?_
              rotate_left
              · rintro w' ⟨s0, s1, s2, s3, s4⟩
                go_simp
                with_reducible rfl
              rotate_left
              · simp only [Act.put, List.setIfInBounds_toArray, List.set_cons_zero, List.set_cons_succ, i64_w, i32_w]
                rfl
              refine take_ (i := 8) (N := some 46) (v := ?_) (a' := ?_) #[true, false, true, true, false, true, true, true, true, false, false, false, false, false] rfl rfl (take_ofW HT_.out HW_.out (by kernel_rfl)) (fun _ _ _ h => h) (Or.inl ⟨by rfl, ?_⟩) hHeld ?_ ?_
              rotate_left
              · rintro w' ⟨s0, s1, s2, s3, s4⟩
                go_simp
                with_reducible rfl
              rotate_left
              · simp only [Act.put, List.setIfInBounds_toArray, List.set_cons_zero, List.set_cons_succ, i64_w, i32_w]
                rfl
              refine pure_ (i := 9) (N := some 47) (v := ?_) (a' := ?_) #[true, false, true, true, false, true, true, true, true, true, false, false, false, false] rfl rfl (any_of HT_.out (by kernel_rfl)) (fun _ _ _ h => h) (Or.inl ⟨by rfl, ?_⟩) ?_ ?_
              rotate_left
              · intro w'
                go_simp
                with_reducible rfl
              rotate_left
              · simp only [Act.put, List.setIfInBounds_toArray, List.set_cons_zero, List.set_cons_succ, i64_w, i32_w]
                rfl
              refine one_ (i := 1) (N := some 39) #[true, true, true, true, false, true, true, true, true, true, false, false, false, false] rfl rfl (one_of HT_.out (by kernel_rfl)) (by decide) (fun K hK => ?_)
              refine value_ (w1 := ?_) (v := ?_) (by rfl) rfl ?_ ?_
              rotate_left 2
              · go_simp
                constructor
                · rfl
                · rfl
              refine hK.out _ _ ⟨hHeld.1, hHeld.2.1, hHeld.2.2.1, hHeld.2.2.2.1, hHeld.2.2.2.2⟩ (fun hHeld => ?_)
              clear hK K
              refine norm_ (a' := ?_) ?_ ?_
              rotate_left
              · show Act.put _ (some 39) _ = _
                simp only [Act.put, List.setIfInBounds_toArray, List.set_cons_zero, List.set_cons_succ, i64_w, i32_w]
                rfl
              refine pure_ (i := 4) (N := some 42) (v := ?_) (a' := ?_) #[true, true, true, true, true, true, true, true, true, true, false, false, false, false] rfl rfl (any_of HT_.out (by kernel_rfl)) (fun _ _ _ h => h) (Or.inl ⟨by rfl, ?_⟩) ?_ ?_
              rotate_left
              · intro w'
                go_simp
                with_reducible rfl
              rotate_left
              · simp only [Act.put, List.setIfInBounds_toArray, List.set_cons_zero, List.set_cons_succ, i64_w, i32_w]
                rfl
              refine pure_ (i := 10) (N := some 48) (v := ?_) (a' := ?_) #[true, true, true, true, true, true, true, true, true, true, true, false, false, false] rfl rfl (any_of HT_.out (by kernel_rfl)) (fun _ _ _ h => h) (Or.inl ⟨by rfl, ?_⟩) ?_ ?_
              rotate_left
              · intro w'
                go_simp
                with_reducible rfl
              rotate_left
              · simp only [Act.put, List.setIfInBounds_toArray, List.set_cons_zero, List.set_cons_succ, i64_w, i32_w]
                rfl
              refine one_ (i := 11) (N := none) #[true, true, true, true, true, true, true, true, true, true, true, true, false, false] rfl rfl (one_of HT_.out (by kernel_rfl)) (by decide) (fun K hK => ?_)
              have hs90 : w89.cell? ⟨gb198, 0, none⟩ = some (.int .i64 a0_0) := (blk_cell BK198.out 0).trans rfl
              have hfs90 := blk_frozen BK198.out 0
              have hns90_1 := NB199_198.out
              have hns90_2 := NB200_198.out
              have hns90_3 := NB201_198.out
              have hns90_4 := NB202_198.out
              have hms90_1 := NB198_199.out
              have hms90_2 := NB198_200.out
              have hms90_3 := NB198_201.out
              have hms90_4 := NB198_202.out
              refine skip_ (w1 := ?_) (by rfl) rfl ?_ ?_
              rotate_left
              · go_simp
                rfl
              refine hK.out _ _ ⟨((World.cell?_setCell_other (w := _) (a := ⟨gb198, 0, none⟩) (b := _) (v := _) (by simp)).trans (hHeld.1)), ((World.cell?_setCell_other (w := _) (a := ⟨gb198, 0, none⟩) (b := _) (v := _) (by simp)).trans (hHeld.2.1)), ((World.cell?_setCell_other (w := _) (a := ⟨gb198, 0, none⟩) (b := _) (v := _) (by simp)).trans (hHeld.2.2.1)), ((cell_far (p := ⟨gb198, _, none⟩) NB200_198.out _).trans (hHeld.2.2.2.1)), ((cell_far (p := ⟨gb198, _, none⟩) NB200_198.out _).trans (hHeld.2.2.2.2))⟩ (fun hHeld => ?_)
              clear hK K
              refine pure_ (i := 12) (N := some 49) (v := ?_) (a' := ?_) #[true, true, true, true, true, true, true, true, true, true, true, true, true, false] rfl rfl (any_of HT_.out (by kernel_rfl)) (fun _ _ _ h => h) (Or.inl ⟨by rfl, ?_⟩) ?_ ?_
              rotate_left
              · intro w'
                go_simp
                with_reducible rfl
              rotate_left
              · simp only [Act.put, List.setIfInBounds_toArray, List.set_cons_zero, List.set_cons_succ, i64_w, i32_w]
                rfl
              refine last_ (i := 13) (N := none) #[true, true, true, true, true, true, true, true, true, true, true, true, true, true] rfl rfl (one_of HT_.out (by kernel_rfl)) (by decide) (fun K hK => ?_)
              have hs91 : w89.cell? ⟨gb198, 1, none⟩ = some (.int .i64 a0_1) := (blk_cell BK198.out 1).trans rfl
              have hfs91 := blk_frozen BK198.out 1
              have hns91_1 := NB199_198.out
              have hns91_2 := NB200_198.out
              have hns91_3 := NB201_198.out
              have hns91_4 := NB202_198.out
              have hms91_1 := NB198_199.out
              have hms91_2 := NB198_200.out
              have hms91_3 := NB198_201.out
              have hms91_4 := NB198_202.out
              refine skip_ (w1 := ?_) (by rfl) rfl ?_ ?_
              rotate_left
              · go_simp
                rfl
              refine hK.out _ _ ?_
              clear hK K
              refine done_ (done_of HT_.out (by kernel_rfl)) ?_
              try go_wp2
              have n0_ : Aside0 (((w89.setCell ⟨gb198, 0, none⟩ (.int .i64 (wrap64 (a0_0 - a2_0)))).setCell ⟨gb198, 1, none⟩ (.int .i64 (wrap64 (a0_1 - a2_1)))).heap[gb198]? = some (.cells #[.int .i64 (wrap64 (a0_0 - a2_0)), .int .i64 (wrap64 (a0_1 - a2_1)), .int .i64 a0_2, .int .i64 a0_3] 59 (0, 0))) := ⟨by (with_reducible repeat (first | refine blk_drewN ?_ _ | refine blk_drew ?_ | refine blk_alloc ?_ _)); refine blk_put (cs := #[.int .i64 (wrap64 (a0_0 - a2_0)), .int .i64 a0_1, .int .i64 a0_2, .int .i64 a0_3]) ?_ 1 _ rfl; (with_reducible repeat (first | refine blk_drewN ?_ _ | refine blk_drew ?_ | refine blk_alloc ?_ _)); refine blk_put (cs := #[.int .i64 a0_0, .int .i64 a0_1, .int .i64 a0_2, .int .i64 a0_3]) ?_ 0 _ rfl; (with_reducible repeat (first | refine blk_drewN ?_ _ | refine blk_drew ?_ | refine blk_alloc ?_ _)); exact BK198.out⟩
              have n1_ : Aside0 (((w89.setCell ⟨gb198, 0, none⟩ (.int .i64 (wrap64 (a0_0 - a2_0)))).setCell ⟨gb198, 1, none⟩ (.int .i64 (wrap64 (a0_1 - a2_1)))).heap[gb199]? = some (.cells #[.int .i64 a1_0, .int .i64 a1_1, .int .i64 a1_2, .int .i64 a1_3] 59 (0, 0))) := ⟨by (with_reducible repeat (first | refine blk_drewN ?_ _ | refine blk_drew ?_ | refine blk_alloc ?_ _)); refine blk_far ?_ NB199_198.out _; (with_reducible repeat (first | refine blk_drewN ?_ _ | refine blk_drew ?_ | refine blk_alloc ?_ _)); refine blk_far ?_ NB199_198.out _; (with_reducible repeat (first | refine blk_drewN ?_ _ | refine blk_drew ?_ | refine blk_alloc ?_ _)); exact BK199.out⟩
              have n2_ : Aside0 (((w89.setCell ⟨gb198, 0, none⟩ (.int .i64 (wrap64 (a0_0 - a2_0)))).setCell ⟨gb198, 1, none⟩ (.int .i64 (wrap64 (a0_1 - a2_1)))).heap[gb200]? = some (.cells #[.int .i64 a2_0, .int .i64 a2_1] 48 (0, 0))) := ⟨by (with_reducible repeat (first | refine blk_drewN ?_ _ | refine blk_drew ?_ | refine blk_alloc ?_ _)); refine blk_far ?_ NB200_198.out _; (with_reducible repeat (first | refine blk_drewN ?_ _ | refine blk_drew ?_ | refine blk_alloc ?_ _)); refine blk_far ?_ NB200_198.out _; (with_reducible repeat (first | refine blk_drewN ?_ _ | refine blk_drew ?_ | refine blk_alloc ?_ _)); exact BK200.out⟩
              have n3_ : Aside0 (((w89.setCell ⟨gb198, 0, none⟩ (.int .i64 (wrap64 (a0_0 - a2_0)))).setCell ⟨gb198, 1, none⟩ (.int .i64 (wrap64 (a0_1 - a2_1)))).heap[gb201]? = some (.cells #[.int .i64 0, .int .i64 0, .int .i64 0, .int .i64 0] 59 (0, 0))) := ⟨by (with_reducible repeat (first | refine blk_drewN ?_ _ | refine blk_drew ?_ | refine blk_alloc ?_ _)); refine blk_far ?_ NB201_198.out _; (with_reducible repeat (first | refine blk_drewN ?_ _ | refine blk_drew ?_ | refine blk_alloc ?_ _)); refine blk_far ?_ NB201_198.out _; (with_reducible repeat (first | refine blk_drewN ?_ _ | refine blk_drew ?_ | refine blk_alloc ?_ _)); exact BK201.out⟩
              have n4_ : Aside0 (((w89.setCell ⟨gb198, 0, none⟩ (.int .i64 (wrap64 (a0_0 - a2_0)))).setCell ⟨gb198, 1, none⟩ (.int .i64 (wrap64 (a0_1 - a2_1)))).heap[gb202]? = some (.cells #[.int .i64 0, .int .i64 0, .int .i64 0, .int .i64 0] 59 (0, 0))) := ⟨by (with_reducible repeat (first | refine blk_drewN ?_ _ | refine blk_drew ?_ | refine blk_alloc ?_ _)); refine blk_far ?_ NB202_198.out _; (with_reducible repeat (first | refine blk_drewN ?_ _ | refine blk_drew ?_ | refine blk_alloc ?_ _)); refine blk_far ?_ NB202_198.out _; (with_reducible repeat (first | refine blk_drewN ?_ _ | refine blk_drew ?_ | refine blk_alloc ?_ _)); exact BK202.out⟩
              have n5_ : Aside0 (Below w.heap.size w ((w89.setCell ⟨gb198, 0, none⟩ (.int .i64 (wrap64 (a0_0 - a2_0)))).setCell ⟨gb198, 1, none⟩ (.int .i64 (wrap64 (a0_1 - a2_1))))) := ⟨by repeat (first | (with_reducible first | exact HB.out | apply below_alloc | apply pw_below_drewN | apply below_drew1 | refine below_set ?_ GE198.out | refine below_set ?_ GE199.out | refine below_set ?_ GE200.out | refine below_set ?_ GE201.out | refine below_set ?_ GE202.out) | exact HB.out)⟩
              (try clear BK198)
              (try clear BK199)
              (try clear BK200)
              (try clear BK201)
              (try clear BK202)
              (try clear HB)
              generalize ((w89.setCell ⟨gb198, 0, none⟩ (.int .i64 (wrap64 (a0_0 - a2_0)))).setCell ⟨gb198, 1, none⟩ (.int .i64 (wrap64 (a0_1 - a2_1)))) = w92 at n0_ n1_ n2_ n3_ n4_ n5_ ⊢
              have BK198 := n0_
              have BK199 := n1_
              have BK200 := n2_
              have BK201 := n3_
              have BK202 := n4_
              have HB := n5_
              clear n0_ n1_ n2_ n3_ n4_ n5_
              have n0_ := Aside0.mk (blk_drew BK198.out)
              have n1_ := Aside0.mk (blk_drew BK199.out)
              have n2_ := Aside0.mk (blk_drew BK200.out)
              have n3_ := Aside0.mk (blk_drew BK201.out)
              have n4_ := Aside0.mk (blk_drew BK202.out)
              have n5_ := Aside0.mk (below_drew1 HB.out)
              clear BK198
              clear BK199
              clear BK200
              clear BK201
              clear BK202
              clear HB
              have BK198 := n0_
              have BK199 := n1_
              have BK200 := n2_
              have BK201 := n3_
              have BK202 := n4_
              have HB := n5_
              clear n0_ n1_ n2_ n3_ n4_ n5_
              refine start_ (n := 20) (S := fun w' => w'.cell? ⟨gb199, 1, none⟩ = some (.int .i64 a1_1) ∧ w'.cell? ⟨gb199, 2, none⟩ = some (.int .i64 a1_2) ∧ w'.cell? ⟨gb199, 3, none⟩ = some (.int .i64 a1_3) ∧ w'.cell? ⟨gb200, 0, none⟩ = some (.int .i64 a2_0) ∧ w'.cell? ⟨gb200, 1, none⟩ = some (.int .i64 a2_1)) (ds := [19]) #[false, false, false, false, false, false, false, false, false, false, false, false, false, false, false, false, false, false, false, false] (by kernel_rfl) rfl rfl ⟨(blk_cell BK199.out 1).trans rfl, (blk_cell BK199.out 2).trans rfl, (blk_cell BK199.out 3).trans rfl, (blk_cell BK200.out 0).trans rfl, (blk_cell BK200.out 1).trans rfl⟩ (fun hHeld => ?_); refine with_tabW purse_Send.tab6 purse_Send.bits6 (fun HT_ HW_ => ?_)
              generalize w92.drew = w93 at BK198 BK199 BK200 BK201 BK202 HB hHeld ⊢; have hlt199_0_ : w93.cell? ⟨gb199, 0, none⟩ = some (.int .i64 a1_0) := (blk_cell BK199.out 0).trans rfl
              refine pure_ (i := 0) (N := some 50) (v := ?_) (a' := ?_) #[true, false, false, false, false, false, false, false, false, false, false, false, false, false, false, false, false, false, false, false] rfl rfl (any_of HT_.out (by kernel_rfl)) (fun _ _ _ h => h) (Or.inl ⟨by rfl, ?_⟩) ?_ ?_
              rotate_left
              · intro w'
                go_simp
                with_reducible rfl
              rotate_left
              · simp only [Act.put, List.setIfInBounds_toArray, List.set_cons_zero, List.set_cons_succ, i64_w, i32_w]
                rfl
              refine pure_ (i := 2) (N := some 52) (v := ?_) (a' := ?_) #[true, false, true, false, false, false, false, false, false, false, false, false, false, false, false, false, false, false, false, false] rfl rfl (any_of HT_.out (by kernel_rfl)) (fun _ _ _ h => h) (Or.inl ⟨by rfl, ?_⟩) ?_ ?_
              rotate_left
              · intro w'
                go_simp
                with_reducible rfl
              rotate_left
              · simp only [Act.put, List.setIfInBounds_toArray, List.set_cons_zero, List.set_cons_succ, i64_w, i32_w]
                rfl
              refine pure_ (i := 5) (N := some 55) (v := ?_) (a' := ?_) #[true, false, true, false, false, true, false, false, false, false, false, false, false, false, false, false, false, false, false, false] rfl rfl (any_of HT_.out (by kernel_rfl)) (fun _ _ _ h => h) (Or.inl ⟨by rfl, ?_⟩) ?_ ?_
              rotate_left
              · intro w'
                go_simp
                with_reducible rfl
              rotate_left
              · simp only [Act.put, List.setIfInBounds_toArray, List.set_cons_zero, List.set_cons_succ, i64_w, i32_w]
                rfl
              refine pure_ (i := 8) (N := some 58) (v := ?_) (a' := ?_) #[true, false, true, false, false, true, false, false, true, false, false, false, false, false, false, false, false, false, false, false] rfl rfl (any_of HT_.out (by kernel_rfl)) (fun _ _ _ h => h) (Or.inl ⟨by rfl, ?_⟩) ?_ ?_
              rotate_left
              · intro w'
                go_simp
                with_reducible rfl
              rotate_left
              · simp only [Act.put, List.setIfInBounds_toArray, List.set_cons_zero, List.set_cons_succ, i64_w, i32_w]
                rfl
              refine pure_ (i := 10) (N := some 60) (v := ?_) (a' := ?_) #[true, false, true, false, false, true, false, false, true, false, true, false, false, false, false, false, false, false, false, false] rfl rfl (any_of HT_.out (by kernel_rfl)) (fun _ _ _ h => h) (Or.inl ⟨by rfl, ?_⟩) ?_ ?_
              rotate_left
              · intro w'
                go_simp
                with_reducible rfl
              rotate_left
              · simp only [Act.put, List.setIfInBounds_toArray, List.set_cons_zero, List.set_cons_succ, i64_w, i32_w]
                rfl
              refine pure_ (i := 13) (N := some 63) (v := ?_) (a' := ?_) #[true, false, true, false, false, true, false, false, true, false, true, false, false, true, false, false, false, false, false, false] rfl rfl (any_of HT_.out (by kernel_rfl)) (fun _ _ _ h => h) (Or.inl ⟨by rfl, ?_⟩) ?_ ?_
              rotate_left
              · intro w'
                go_simp
                with_reducible rfl
              rotate_left
              · simp only [Act.put, List.setIfInBounds_toArray, List.set_cons_zero, List.set_cons_succ, i64_w, i32_w]
                rfl
              refine take_ (i := 3) (N := some 53) (v := ?_) (a' := ?_) #[true, false, true, true, false, true, false, false, true, false, true, false, false, true, false, false, false, false, false, false] rfl rfl (take_ofW HT_.out HW_.out (by kernel_rfl)) (fun _ _ _ h => h) (Or.inl ⟨by rfl, ?_⟩) hHeld ?_ ?_
              rotate_left
              · rintro w' ⟨s0, s1, s2, s3, s4⟩
                go_simp
                with_reducible rfl
              rotate_left
              · simp only [Act.put, List.setIfInBounds_toArray, List.set_cons_zero, List.set_cons_succ, i64_w, i32_w]
                rfl
              refine take_ (i := 6) (N := some 56) (v := ?_) (a' := ?_) #[true, false, true, true, false, true, true, false, true, false, true, false, false, true, false, false, false, false, false, false] rfl rfl (take_ofW HT_.out HW_.out (by kernel_rfl)) (fun _ _ _ h => h) (Or.inl ⟨by rfl, ?_⟩) hHeld ?_ ?_
              rotate_left
              · rintro w' ⟨s0, s1, s2, s3, s4⟩
                go_simp
                with_reducible rfl
              rotate_left
              · simp only [Act.put, List.setIfInBounds_toArray, List.set_cons_zero, List.set_cons_succ, i64_w, i32_w]
                rfl
              refine take_ (i := 9) (N := some 59) (v := ?_) (a' := ?_) #[true, false, true, true, false, true, true, false, true, true, true, false, false, true, false, false, false, false, false, false] rfl rfl (take_ofW HT_.out HW_.out (by kernel_rfl)) (fun _ _ _ h => h) (Or.inl ⟨by rfl, ?_⟩) hHeld ?_ ?_
              rotate_left
              · rintro w' ⟨s0, s1, s2, s3, s4⟩
                go_simp
                with_reducible rfl
              rotate_left
              · simp only [Act.put, List.setIfInBounds_toArray, List.set_cons_zero, List.set_cons_succ, i64_w, i32_w]
                rfl
              refine take_ (i := 11) (N := some 61) (v := ?_) (a' := ?_) #[true, false, true, true, false, true, true, false, true, true, true, true, false, true, false, false, false, false, false, false] rfl rfl (take_ofW HT_.out HW_.out (by kernel_rfl)) (fun _ _ _ h => h) (Or.inl ⟨by rfl, ?_⟩) hHeld ?_ ?_
              rotate_left
              · rintro w' ⟨s0, s1, s2, s3, s4⟩
                go_simp
                with_reducible rfl
              rotate_left
              · simp only [Act.put, List.setIfInBounds_toArray, List.set_cons_zero, List.set_cons_succ, i64_w, i32_w]
                rfl
              refine pure_ (i := 12) (N := some 62) (v := ?_) (a' := ?_) #[true, false, true, true, false, true, true, false, true, true, true, true, true, true, false, false, false, false, false, false] rfl rfl (any_of HT_.out (by kernel_rfl)) (fun _ _ _ h => h) (Or.inl ⟨by rfl, ?_⟩) ?_ ?_
              rotate_left
              · intro w'
                go_simp
                with_reducible rfl
              rotate_left
              · simp only [Act.put, List.setIfInBounds_toArray, List.set_cons_zero, List.set_cons_succ, i64_w, i32_w]
                rfl
              refine take_ (i := 14) (N := some 64) (v := ?_) (a' := ?_) #[true, false, true, true, false, true, true, false, true, true, true, true, true, true, true, false, false, false, false, false] rfl rfl (take_ofW HT_.out HW_.out (by kernel_rfl)) (fun _ _ _ h => h) (Or.inl ⟨by rfl, ?_⟩) hHeld ?_ ?_
              rotate_left
              · rintro w' ⟨s0, s1, s2, s3, s4⟩
                go_simp
                with_reducible rfl
              rotate_left
              · simp only [Act.put, List.setIfInBounds_toArray, List.set_cons_zero, List.set_cons_succ, i64_w, i32_w]
                rfl
              refine pure_ (i := 15) (N := some 65) (v := ?_) (a' := ?_) #[true, false, true, true, false, true, true, false, true, true, true, true, true, true, true, true, false, false, false, false] rfl rfl (any_of HT_.out (by kernel_rfl)) (fun _ _ _ h => h) (Or.inl ⟨by rfl, ?_⟩) ?_ ?_
              rotate_left
              · intro w'
                go_simp
                with_reducible rfl
              rotate_left
              · simp only [Act.put, List.setIfInBounds_toArray, List.set_cons_zero, List.set_cons_succ, i64_w, i32_w]
                rfl
              refine one_ (i := 1) (N := some 51) #[true, true, true, true, false, true, true, false, true, true, true, true, true, true, true, true, false, false, false, false] rfl rfl (one_of HT_.out (by kernel_rfl)) (by decide) (fun K hK => ?_)
              refine value_ (w1 := ?_) (v := ?_) (by rfl) rfl ?_ ?_
              rotate_left 2
              · go_simp
                constructor
                · rfl
                · rfl
              refine hK.out _ _ ⟨hHeld.1, hHeld.2.1, hHeld.2.2.1, hHeld.2.2.2.1, hHeld.2.2.2.2⟩ (fun hHeld => ?_)
              clear hK K
              refine norm_ (a' := ?_) ?_ ?_
              rotate_left
              · show Act.put _ (some 51) _ = _
                simp only [Act.put, List.setIfInBounds_toArray, List.set_cons_zero, List.set_cons_succ, i64_w, i32_w]
                rfl
              refine pure_ (i := 4) (N := some 54) (v := ?_) (a' := ?_) #[true, true, true, true, true, true, true, false, true, true, true, true, true, true, true, true, false, false, false, false] rfl rfl (any_of HT_.out (by kernel_rfl)) (fun _ _ _ h => h) (Or.inl ⟨by rfl, ?_⟩) ?_ ?_
              rotate_left
              · intro w'
                go_simp
                with_reducible rfl
              rotate_left
              · simp only [Act.put, List.setIfInBounds_toArray, List.set_cons_zero, List.set_cons_succ, i64_w, i32_w]
                rfl
              refine pure_ (i := 7) (N := some 57) (v := ?_) (a' := ?_) #[true, true, true, true, true, true, true, true, true, true, true, true, true, true, true, true, false, false, false, false] rfl rfl (any_of HT_.out (by kernel_rfl)) (fun _ _ _ h => h) (Or.inl ⟨by rfl, ?_⟩) ?_ ?_
              rotate_left
              · intro w'
                go_simp
                with_reducible rfl
              rotate_left
              · simp only [Act.put, List.setIfInBounds_toArray, List.set_cons_zero, List.set_cons_succ, i64_w, i32_w]
                rfl
              refine pure_ (i := 16) (N := some 66) (v := ?_) (a' := ?_) #[true, true, true, true, true, true, true, true, true, true, true, true, true, true, true, true, true, false, false, false] rfl rfl (any_of HT_.out (by kernel_rfl)) (fun _ _ _ h => h) (Or.inl ⟨by rfl, ?_⟩) ?_ ?_
              rotate_left
              · intro w'
                go_simp
                with_reducible rfl
              rotate_left
              · simp only [Act.put, List.setIfInBounds_toArray, List.set_cons_zero, List.set_cons_succ, i64_w, i32_w]
                rfl
              refine one_ (i := 17) (N := none) #[true, true, true, true, true, true, true, true, true, true, true, true, true, true, true, true, true, true, false, false] rfl rfl (one_of HT_.out (by kernel_rfl)) (by decide) (fun K hK => ?_)
              have hs94 : w93.cell? ⟨gb199, 0, none⟩ = some (.int .i64 a1_0) := (blk_cell BK199.out 0).trans rfl
              have hfs94 := blk_frozen BK199.out 0
              have hns94_0 := NB198_199.out
              have hns94_2 := NB200_199.out
              have hns94_3 := NB201_199.out
              have hns94_4 := NB202_199.out
              have hms94_0 := NB199_198.out
              have hms94_2 := NB199_200.out
              have hms94_3 := NB199_201.out
              have hms94_4 := NB199_202.out
              refine skip_ (w1 := ?_) (by rfl) rfl ?_ ?_
              rotate_left
              · go_simp
                rfl
              refine hK.out _ _ ⟨((World.cell?_setCell_other (w := _) (a := ⟨gb199, 0, none⟩) (b := _) (v := _) (by simp)).trans (hHeld.1)), ((World.cell?_setCell_other (w := _) (a := ⟨gb199, 0, none⟩) (b := _) (v := _) (by simp)).trans (hHeld.2.1)), ((World.cell?_setCell_other (w := _) (a := ⟨gb199, 0, none⟩) (b := _) (v := _) (by simp)).trans (hHeld.2.2.1)), ((cell_far (p := ⟨gb199, _, none⟩) NB200_199.out _).trans (hHeld.2.2.2.1)), ((cell_far (p := ⟨gb199, _, none⟩) NB200_199.out _).trans (hHeld.2.2.2.2))⟩ (fun hHeld => ?_)
              clear hK K
              refine pure_ (i := 18) (N := some 67) (v := ?_) (a' := ?_) #[true, true, true, true, true, true, true, true, true, true, true, true, true, true, true, true, true, true, true, false] rfl rfl (any_of HT_.out (by kernel_rfl)) (fun _ _ _ h => h) (Or.inl ⟨by rfl, ?_⟩) ?_ ?_
              rotate_left
              · intro w'
                go_simp
                with_reducible rfl
              rotate_left
              · simp only [Act.put, List.setIfInBounds_toArray, List.set_cons_zero, List.set_cons_succ, i64_w, i32_w]
                rfl
              refine last_ (i := 19) (N := none) #[true, true, true, true, true, true, true, true, true, true, true, true, true, true, true, true, true, true, true, true] rfl rfl (one_of HT_.out (by kernel_rfl)) (by decide) (fun K hK => ?_)
              have hs95 : w93.cell? ⟨gb199, 1, none⟩ = some (.int .i64 a1_1) := (blk_cell BK199.out 1).trans rfl
              have hfs95 := blk_frozen BK199.out 1
              have hns95_0 := NB198_199.out
              have hns95_2 := NB200_199.out
              have hns95_3 := NB201_199.out
              have hns95_4 := NB202_199.out
              have hms95_0 := NB199_198.out
              have hms95_2 := NB199_200.out
              have hms95_3 := NB199_201.out
              have hms95_4 := NB199_202.out
              refine skip_ (w1 := ?_) (by rfl) rfl ?_ ?_
              rotate_left
              · go_simp
                rfl
              refine hK.out _ _ ?_
              clear hK K
              refine done_ (done_of HT_.out (by kernel_rfl)) ?_
              try go_wp2
              have n0_ : Aside0 (((w93.setCell ⟨gb199, 0, none⟩ (.int .i64 ji87)).setCell ⟨gb199, 1, none⟩ (.int .i64 ji88)).heap[gb198]? = some (.cells #[.int .i64 (wrap64 (a0_0 - a2_0)), .int .i64 (wrap64 (a0_1 - a2_1)), .int .i64 a0_2, .int .i64 a0_3] 59 (0, 0))) := ⟨by (with_reducible repeat (first | refine blk_drewN ?_ _ | refine blk_drew ?_ | refine blk_alloc ?_ _)); refine blk_far ?_ NB198_199.out _; (with_reducible repeat (first | refine blk_drewN ?_ _ | refine blk_drew ?_ | refine blk_alloc ?_ _)); refine blk_far ?_ NB198_199.out _; (with_reducible repeat (first | refine blk_drewN ?_ _ | refine blk_drew ?_ | refine blk_alloc ?_ _)); exact BK198.out⟩
              have n1_ : Aside0 (((w93.setCell ⟨gb199, 0, none⟩ (.int .i64 ji87)).setCell ⟨gb199, 1, none⟩ (.int .i64 ji88)).heap[gb199]? = some (.cells #[.int .i64 ji87, .int .i64 ji88, .int .i64 a1_2, .int .i64 a1_3] 59 (0, 0))) := ⟨by (with_reducible repeat (first | refine blk_drewN ?_ _ | refine blk_drew ?_ | refine blk_alloc ?_ _)); refine blk_put (cs := #[.int .i64 ji87, .int .i64 a1_1, .int .i64 a1_2, .int .i64 a1_3]) ?_ 1 _ rfl; (with_reducible repeat (first | refine blk_drewN ?_ _ | refine blk_drew ?_ | refine blk_alloc ?_ _)); refine blk_put (cs := #[.int .i64 a1_0, .int .i64 a1_1, .int .i64 a1_2, .int .i64 a1_3]) ?_ 0 _ rfl; (with_reducible repeat (first | refine blk_drewN ?_ _ | refine blk_drew ?_ | refine blk_alloc ?_ _)); exact BK199.out⟩
              have n2_ : Aside0 (((w93.setCell ⟨gb199, 0, none⟩ (.int .i64 ji87)).setCell ⟨gb199, 1, none⟩ (.int .i64 ji88)).heap[gb200]? = some (.cells #[.int .i64 a2_0, .int .i64 a2_1] 48 (0, 0))) := ⟨by (with_reducible repeat (first | refine blk_drewN ?_ _ | refine blk_drew ?_ | refine blk_alloc ?_ _)); refine blk_far ?_ NB200_199.out _; (with_reducible repeat (first | refine blk_drewN ?_ _ | refine blk_drew ?_ | refine blk_alloc ?_ _)); refine blk_far ?_ NB200_199.out _; (with_reducible repeat (first | refine blk_drewN ?_ _ | refine blk_drew ?_ | refine blk_alloc ?_ _)); exact BK200.out⟩
              have n3_ : Aside0 (((w93.setCell ⟨gb199, 0, none⟩ (.int .i64 ji87)).setCell ⟨gb199, 1, none⟩ (.int .i64 ji88)).heap[gb201]? = some (.cells #[.int .i64 0, .int .i64 0, .int .i64 0, .int .i64 0] 59 (0, 0))) := ⟨by (with_reducible repeat (first | refine blk_drewN ?_ _ | refine blk_drew ?_ | refine blk_alloc ?_ _)); refine blk_far ?_ NB201_199.out _; (with_reducible repeat (first | refine blk_drewN ?_ _ | refine blk_drew ?_ | refine blk_alloc ?_ _)); refine blk_far ?_ NB201_199.out _; (with_reducible repeat (first | refine blk_drewN ?_ _ | refine blk_drew ?_ | refine blk_alloc ?_ _)); exact BK201.out⟩
              have n4_ : Aside0 (((w93.setCell ⟨gb199, 0, none⟩ (.int .i64 ji87)).setCell ⟨gb199, 1, none⟩ (.int .i64 ji88)).heap[gb202]? = some (.cells #[.int .i64 0, .int .i64 0, .int .i64 0, .int .i64 0] 59 (0, 0))) := ⟨by (with_reducible repeat (first | refine blk_drewN ?_ _ | refine blk_drew ?_ | refine blk_alloc ?_ _)); refine blk_far ?_ NB202_199.out _; (with_reducible repeat (first | refine blk_drewN ?_ _ | refine blk_drew ?_ | refine blk_alloc ?_ _)); refine blk_far ?_ NB202_199.out _; (with_reducible repeat (first | refine blk_drewN ?_ _ | refine blk_drew ?_ | refine blk_alloc ?_ _)); exact BK202.out⟩
              have n5_ : Aside0 (Below w.heap.size w ((w93.setCell ⟨gb199, 0, none⟩ (.int .i64 ji87)).setCell ⟨gb199, 1, none⟩ (.int .i64 ji88))) := ⟨by repeat (first | (with_reducible first | exact HB.out | apply below_alloc | apply pw_below_drewN | apply below_drew1 | refine below_set ?_ GE198.out | refine below_set ?_ GE199.out | refine below_set ?_ GE200.out | refine below_set ?_ GE201.out | refine below_set ?_ GE202.out) | exact HB.out)⟩
              (try clear BK198)
              (try clear BK199)
              (try clear BK200)
              (try clear BK201)
              (try clear BK202)
              (try clear HB)
              generalize ((w93.setCell ⟨gb199, 0, none⟩ (.int .i64 ji87)).setCell ⟨gb199, 1, none⟩ (.int .i64 ji88)) = w96 at n0_ n1_ n2_ n3_ n4_ n5_ ⊢
              have BK198 := n0_
              have BK199 := n1_
              have BK200 := n2_
              have BK201 := n3_
              have BK202 := n4_
              have HB := n5_
              clear n0_ n1_ n2_ n3_ n4_ n5_
              have n0_ := Aside0.mk (blk_drew BK198.out)
              have n1_ := Aside0.mk (blk_drew BK199.out)
              have n2_ := Aside0.mk (blk_drew BK200.out)
              have n3_ := Aside0.mk (blk_drew BK201.out)
              have n4_ := Aside0.mk (blk_drew BK202.out)
              have n5_ := Aside0.mk (below_drew1 HB.out)
              clear BK198
              clear BK199
              clear BK200
              clear BK201
              clear BK202
              clear HB
              have BK198 := n0_
              have BK199 := n1_
              have BK200 := n2_
              have BK201 := n3_
              have BK202 := n4_
              have HB := n5_
              clear n0_ n1_ n2_ n3_ n4_ n5_
              refine start_ (n := 5) (S := fun w' => w'.cell? ⟨gb198, 0, none⟩ = some (.int .i64 (wrap64 (a0_0 - a2_0))) ∧ w'.cell? ⟨gb198, 1, none⟩ = some (.int .i64 (wrap64 (a0_1 - a2_1))) ∧ w'.cell? ⟨gb198, 2, none⟩ = some (.int .i64 a0_2) ∧ w'.cell? ⟨gb198, 3, none⟩ = some (.int .i64 a0_3) ∧ w'.cell? ⟨gb199, 0, none⟩ = some (.int .i64 ji87) ∧ w'.cell? ⟨gb199, 1, none⟩ = some (.int .i64 ji88) ∧ w'.cell? ⟨gb199, 2, none⟩ = some (.int .i64 a1_2) ∧ w'.cell? ⟨gb199, 3, none⟩ = some (.int .i64 a1_3)) (ds := []) #[false, false, false, false, false] (by kernel_rfl) rfl rfl ⟨(blk_cell BK198.out 0).trans rfl, (blk_cell BK198.out 1).trans rfl, (blk_cell BK198.out 2).trans rfl, (blk_cell BK198.out 3).trans rfl, (blk_cell BK199.out 0).trans rfl, (blk_cell BK199.out 1).trans rfl, (blk_cell BK199.out 2).trans rfl, (blk_cell BK199.out 3).trans rfl⟩ (fun hHeld => ?_)
              generalize w96.drew = w97 at BK198 BK199 BK200 BK201 BK202 HB hHeld ⊢
              refine take_ (i := 0) (N := some 68) (v := ?_) (a' := ?_) #[true, false, false, false, false] rfl rfl (by kernel_rfl) (fun _ _ _ h => h) (Or.inl ⟨by rfl, ?_⟩) hHeld ?_ ?_
              rotate_left
              · rintro w' ⟨s0, s1, s2, s3, s4, s5, s6, s7⟩
                go_simp
                with_reducible rfl
              rotate_left
              · simp only [Act.put, List.setIfInBounds_toArray, List.set_cons_zero, List.set_cons_succ, i64_w, i32_w]
                rfl
              refine take_ (i := 1) (N := some 69) (v := ?_) (a' := ?_) #[true, true, false, false, false] rfl rfl (by kernel_rfl) (fun _ _ _ h => h) (Or.inl ⟨by rfl, ?_⟩) hHeld ?_ ?_
              rotate_left
              · rintro w' ⟨s0, s1, s2, s3, s4, s5, s6, s7⟩
                go_simp
                with_reducible rfl
              rotate_left
              · simp only [Act.put, List.setIfInBounds_toArray, List.set_cons_zero, List.set_cons_succ, i64_w, i32_w]
                rfl
              refine one_ (i := 2) (N := none) #[true, true, true, false, false] rfl rfl (by kernel_rfl) (by decide) (fun K hK => ?_)
              have hs98 : w97.cell? ⟨gb201, 0, none⟩ = some (.int .i64 0) := (blk_cell BK201.out 0).trans rfl
              have hfs98 := blk_frozen BK201.out 0
              have hns98_0 := NB198_201.out
              have hns98_1 := NB199_201.out
              have hns98_2 := NB200_201.out
              have hns98_4 := NB202_201.out
              have hms98_0 := NB201_198.out
              have hms98_1 := NB201_199.out
              have hms98_2 := NB201_200.out
              have hms98_4 := NB201_202.out
              have hs99 : w97.cell? ⟨gb201, 1, none⟩ = some (.int .i64 0) := (blk_cell BK201.out 1).trans rfl
              have hfs99 := blk_frozen BK201.out 1
              have hns99_0 := NB198_201.out
              have hns99_1 := NB199_201.out
              have hns99_2 := NB200_201.out
              have hns99_4 := NB202_201.out
              have hms99_0 := NB201_198.out
              have hms99_1 := NB201_199.out
              have hms99_2 := NB201_200.out
              have hms99_4 := NB201_202.out
              have hs100 : w97.cell? ⟨gb201, 2, none⟩ = some (.int .i64 0) := (blk_cell BK201.out 2).trans rfl
              have hfs100 := blk_frozen BK201.out 2
              have hns100_0 := NB198_201.out
              have hns100_1 := NB199_201.out
              have hns100_2 := NB200_201.out
              have hns100_4 := NB202_201.out
              have hms100_0 := NB201_198.out
              have hms100_1 := NB201_199.out
              have hms100_2 := NB201_200.out
              have hms100_4 := NB201_202.out
              have hs101 : w97.cell? ⟨gb201, 3, none⟩ = some (.int .i64 0) := (blk_cell BK201.out 3).trans rfl
              have hfs101 := blk_frozen BK201.out 3
              have hns101_0 := NB198_201.out
              have hns101_1 := NB199_201.out
              have hns101_2 := NB200_201.out
              have hns101_4 := NB202_201.out
              have hms101_0 := NB201_198.out
              have hms101_1 := NB201_199.out
              have hms101_2 := NB201_200.out
              have hms101_4 := NB201_202.out
              refine skip_ (w1 := ?_) (by rfl) rfl ?_ ?_
              rotate_left
              · go_simp
                rfl
              refine hK.out _ _ ⟨((cell_far (p := ⟨gb201, _, none⟩) NB198_201.out _).trans (((cell_far (p := ⟨gb201, _, none⟩) NB198_201.out _).trans (((cell_far (p := ⟨gb201, _, none⟩) NB198_201.out _).trans (((cell_far (p := ⟨gb201, _, none⟩) NB198_201.out _).trans (hHeld.1)))))))), ((cell_far (p := ⟨gb201, _, none⟩) NB198_201.out _).trans (((cell_far (p := ⟨gb201, _, none⟩) NB198_201.out _).trans (((cell_far (p := ⟨gb201, _, none⟩) NB198_201.out _).trans (((cell_far (p := ⟨gb201, _, none⟩) NB198_201.out _).trans (hHeld.2.1)))))))), ((cell_far (p := ⟨gb201, _, none⟩) NB198_201.out _).trans (((cell_far (p := ⟨gb201, _, none⟩) NB198_201.out _).trans (((cell_far (p := ⟨gb201, _, none⟩) NB198_201.out _).trans (((cell_far (p := ⟨gb201, _, none⟩) NB198_201.out _).trans (hHeld.2.2.1)))))))), ((cell_far (p := ⟨gb201, _, none⟩) NB198_201.out _).trans (((cell_far (p := ⟨gb201, _, none⟩) NB198_201.out _).trans (((cell_far (p := ⟨gb201, _, none⟩) NB198_201.out _).trans (((cell_far (p := ⟨gb201, _, none⟩) NB198_201.out _).trans (hHeld.2.2.2.1)))))))), ((cell_far (p := ⟨gb201, _, none⟩) NB199_201.out _).trans (((cell_far (p := ⟨gb201, _, none⟩) NB199_201.out _).trans (((cell_far (p := ⟨gb201, _, none⟩) NB199_201.out _).trans (((cell_far (p := ⟨gb201, _, none⟩) NB199_201.out _).trans (hHeld.2.2.2.2.1)))))))), ((cell_far (p := ⟨gb201, _, none⟩) NB199_201.out _).trans (((cell_far (p := ⟨gb201, _, none⟩) NB199_201.out _).trans (((cell_far (p := ⟨gb201, _, none⟩) NB199_201.out _).trans (((cell_far (p := ⟨gb201, _, none⟩) NB199_201.out _).trans (hHeld.2.2.2.2.2.1)))))))), ((cell_far (p := ⟨gb201, _, none⟩) NB199_201.out _).trans (((cell_far (p := ⟨gb201, _, none⟩) NB199_201.out _).trans (((cell_far (p := ⟨gb201, _, none⟩) NB199_201.out _).trans (((cell_far (p := ⟨gb201, _, none⟩) NB199_201.out _).trans (hHeld.2.2.2.2.2.2.1)))))))), ((cell_far (p := ⟨gb201, _, none⟩) NB199_201.out _).trans (((cell_far (p := ⟨gb201, _, none⟩) NB199_201.out _).trans (((cell_far (p := ⟨gb201, _, none⟩) NB199_201.out _).trans (((cell_far (p := ⟨gb201, _, none⟩) NB199_201.out _).trans (hHeld.2.2.2.2.2.2.2))))))))⟩ (fun hHeld => ?_)
              clear hK K
              refine one_ (i := 3) (N := none) #[true, true, true, true, false] rfl rfl (by kernel_rfl) (by decide) (fun K hK => ?_)
              have hs102 : w97.cell? ⟨gb202, 0, none⟩ = some (.int .i64 0) := (blk_cell BK202.out 0).trans rfl
              have hfs102 := blk_frozen BK202.out 0
              have hns102_0 := NB198_202.out
              have hns102_1 := NB199_202.out
              have hns102_2 := NB200_202.out
              have hns102_3 := NB201_202.out
              have hms102_0 := NB202_198.out
              have hms102_1 := NB202_199.out
              have hms102_2 := NB202_200.out
              have hms102_3 := NB202_201.out
              have hs103 : w97.cell? ⟨gb202, 1, none⟩ = some (.int .i64 0) := (blk_cell BK202.out 1).trans rfl
              have hfs103 := blk_frozen BK202.out 1
              have hns103_0 := NB198_202.out
              have hns103_1 := NB199_202.out
              have hns103_2 := NB200_202.out
              have hns103_3 := NB201_202.out
              have hms103_0 := NB202_198.out
              have hms103_1 := NB202_199.out
              have hms103_2 := NB202_200.out
              have hms103_3 := NB202_201.out
              have hs104 : w97.cell? ⟨gb202, 2, none⟩ = some (.int .i64 0) := (blk_cell BK202.out 2).trans rfl
              have hfs104 := blk_frozen BK202.out 2
              have hns104_0 := NB198_202.out
              have hns104_1 := NB199_202.out
              have hns104_2 := NB200_202.out
              have hns104_3 := NB201_202.out
              have hms104_0 := NB202_198.out
              have hms104_1 := NB202_199.out
              have hms104_2 := NB202_200.out
              have hms104_3 := NB202_201.out
              have hs105 : w97.cell? ⟨gb202, 3, none⟩ = some (.int .i64 0) := (blk_cell BK202.out 3).trans rfl
              have hfs105 := blk_frozen BK202.out 3
              have hns105_0 := NB198_202.out
              have hns105_1 := NB199_202.out
              have hns105_2 := NB200_202.out
              have hns105_3 := NB201_202.out
              have hms105_0 := NB202_198.out
              have hms105_1 := NB202_199.out
              have hms105_2 := NB202_200.out
              have hms105_3 := NB202_201.out
              refine skip_ (w1 := ?_) (by rfl) rfl ?_ ?_
              rotate_left
              · go_simp
                rfl
              refine hK.out _ _ ⟨((cell_far (p := ⟨gb202, _, none⟩) NB198_202.out _).trans (((cell_far (p := ⟨gb202, _, none⟩) NB198_202.out _).trans (((cell_far (p := ⟨gb202, _, none⟩) NB198_202.out _).trans (((cell_far (p := ⟨gb202, _, none⟩) NB198_202.out _).trans (hHeld.1)))))))), ((cell_far (p := ⟨gb202, _, none⟩) NB198_202.out _).trans (((cell_far (p := ⟨gb202, _, none⟩) NB198_202.out _).trans (((cell_far (p := ⟨gb202, _, none⟩) NB198_202.out _).trans (((cell_far (p := ⟨gb202, _, none⟩) NB198_202.out _).trans (hHeld.2.1)))))))), ((cell_far (p := ⟨gb202, _, none⟩) NB198_202.out _).trans (((cell_far (p := ⟨gb202, _, none⟩) NB198_202.out _).trans (((cell_far (p := ⟨gb202, _, none⟩) NB198_202.out _).trans (((cell_far (p := ⟨gb202, _, none⟩) NB198_202.out _).trans (hHeld.2.2.1)))))))), ((cell_far (p := ⟨gb202, _, none⟩) NB198_202.out _).trans (((cell_far (p := ⟨gb202, _, none⟩) NB198_202.out _).trans (((cell_far (p := ⟨gb202, _, none⟩) NB198_202.out _).trans (((cell_far (p := ⟨gb202, _, none⟩) NB198_202.out _).trans (hHeld.2.2.2.1)))))))), ((cell_far (p := ⟨gb202, _, none⟩) NB199_202.out _).trans (((cell_far (p := ⟨gb202, _, none⟩) NB199_202.out _).trans (((cell_far (p := ⟨gb202, _, none⟩) NB199_202.out _).trans (((cell_far (p := ⟨gb202, _, none⟩) NB199_202.out _).trans (hHeld.2.2.2.2.1)))))))), ((cell_far (p := ⟨gb202, _, none⟩) NB199_202.out _).trans (((cell_far (p := ⟨gb202, _, none⟩) NB199_202.out _).trans (((cell_far (p := ⟨gb202, _, none⟩) NB199_202.out _).trans (((cell_far (p := ⟨gb202, _, none⟩) NB199_202.out _).trans (hHeld.2.2.2.2.2.1)))))))), ((cell_far (p := ⟨gb202, _, none⟩) NB199_202.out _).trans (((cell_far (p := ⟨gb202, _, none⟩) NB199_202.out _).trans (((cell_far (p := ⟨gb202, _, none⟩) NB199_202.out _).trans (((cell_far (p := ⟨gb202, _, none⟩) NB199_202.out _).trans (hHeld.2.2.2.2.2.2.1)))))))), ((cell_far (p := ⟨gb202, _, none⟩) NB199_202.out _).trans (((cell_far (p := ⟨gb202, _, none⟩) NB199_202.out _).trans (((cell_far (p := ⟨gb202, _, none⟩) NB199_202.out _).trans (((cell_far (p := ⟨gb202, _, none⟩) NB199_202.out _).trans (hHeld.2.2.2.2.2.2.2))))))))⟩ (fun hHeld => ?_)
              clear hK K
              refine pure_ (i := 4) (N := some 8) (v := ?_) (a' := ?_) #[true, true, true, true, true] rfl rfl (by kernel_rfl) (fun _ _ _ h => h) (Or.inl ⟨by rfl, ?_⟩) ?_ ?_
              rotate_left
              · intro w'
                go_simp
                with_reducible rfl
              rotate_left
              · simp only [Act.put, List.setIfInBounds_toArray, List.set_cons_zero, List.set_cons_succ, i64_w, i32_w]
                rfl
              refine done_ (by kernel_rfl) ?_
              try go_wp2
              refine bodyPost_ret (results_list (rs := [.cell 6 59, .cell 7 59, .tmp 8]) rfl (by simp) (.cell gb201 59 #[.int .i64 (wrap64 (a0_0 - a2_0)), .int .i64 (wrap64 (a0_1 - a2_1)), .int .i64 a0_2, .int .i64 a0_3] (0, 0) _ rfl (by (with_reducible repeat (first | refine blk_drewN ?_ _ | refine blk_drew ?_ | refine blk_alloc ?_ _)); refine blk_far ?_ NB201_202.out _; (with_reducible repeat (first | refine blk_drewN ?_ _ | refine blk_drew ?_ | refine blk_alloc ?_ _)); refine blk_far ?_ NB201_202.out _; (with_reducible repeat (first | refine blk_drewN ?_ _ | refine blk_drew ?_ | refine blk_alloc ?_ _)); refine blk_far ?_ NB201_202.out _; (with_reducible repeat (first | refine blk_drewN ?_ _ | refine blk_drew ?_ | refine blk_alloc ?_ _)); refine blk_far ?_ NB201_202.out _; (with_reducible repeat (first | refine blk_drewN ?_ _ | refine blk_drew ?_ | refine blk_alloc ?_ _)); refine blk_put (cs := #[.int .i64 (wrap64 (a0_0 - a2_0)), .int .i64 (wrap64 (a0_1 - a2_1)), .int .i64 a0_2, .int .i64 0]) ?_ 3 _ rfl; (with_reducible repeat (first | refine blk_drewN ?_ _ | refine blk_drew ?_ | refine blk_alloc ?_ _)); refine blk_put (cs := #[.int .i64 (wrap64 (a0_0 - a2_0)), .int .i64 (wrap64 (a0_1 - a2_1)), .int .i64 0, .int .i64 0]) ?_ 2 _ rfl; (with_reducible repeat (first | refine blk_drewN ?_ _ | refine blk_drew ?_ | refine blk_alloc ?_ _)); refine blk_put (cs := #[.int .i64 (wrap64 (a0_0 - a2_0)), .int .i64 0, .int .i64 0, .int .i64 0]) ?_ 1 _ rfl; (with_reducible repeat (first | refine blk_drewN ?_ _ | refine blk_drew ?_ | refine blk_alloc ?_ _)); refine blk_put (cs := #[.int .i64 0, .int .i64 0, .int .i64 0, .int .i64 0]) ?_ 0 _ rfl; (with_reducible repeat (first | refine blk_drewN ?_ _ | refine blk_drew ?_ | refine blk_alloc ?_ _)); exact BK201.out) Try.underlying59 rfl (by kernel_rfl) (.cell gb202 59 #[.int .i64 ji87, .int .i64 ji88, .int .i64 a1_2, .int .i64 a1_3] (0, 0) _ rfl (by (with_reducible repeat (first | refine blk_drewN ?_ _ | refine blk_drew ?_ | refine blk_alloc ?_ _)); refine blk_put (cs := #[.int .i64 ji87, .int .i64 ji88, .int .i64 a1_2, .int .i64 0]) ?_ 3 _ rfl; (with_reducible repeat (first | refine blk_drewN ?_ _ | refine blk_drew ?_ | refine blk_alloc ?_ _)); refine blk_put (cs := #[.int .i64 ji87, .int .i64 ji88, .int .i64 0, .int .i64 0]) ?_ 2 _ rfl; (with_reducible repeat (first | refine blk_drewN ?_ _ | refine blk_drew ?_ | refine blk_alloc ?_ _)); refine blk_put (cs := #[.int .i64 ji87, .int .i64 0, .int .i64 0, .int .i64 0]) ?_ 1 _ rfl; (with_reducible repeat (first | refine blk_drewN ?_ _ | refine blk_drew ?_ | refine blk_alloc ?_ _)); refine blk_put (cs := #[.int .i64 0, .int .i64 0, .int .i64 0, .int .i64 0]) ?_ 0 _ rfl; (with_reducible repeat (first | refine blk_drewN ?_ _ | refine blk_drew ?_ | refine blk_alloc ?_ _)); refine blk_far ?_ NB202_201.out _; (with_reducible repeat (first | refine blk_drewN ?_ _ | refine blk_drew ?_ | refine blk_alloc ?_ _)); refine blk_far ?_ NB202_201.out _; (with_reducible repeat (first | refine blk_drewN ?_ _ | refine blk_drew ?_ | refine blk_alloc ?_ _)); refine blk_far ?_ NB202_201.out _; (with_reducible repeat (first | refine blk_drewN ?_ _ | refine blk_drew ?_ | refine blk_alloc ?_ _)); refine blk_far ?_ NB202_201.out _; (with_reducible repeat (first | refine blk_drewN ?_ _ | refine blk_drew ?_ | refine blk_alloc ?_ _)); exact BK202.out) Try.underlying59 rfl (by kernel_rfl) (.tmp .nil)))) rfl ?_
              exact ⟨by first | rfl | (simp [errW_none, errW_some] <;> rfl) | (simp only [← hji87, ← hji88]; first | rfl | (simp [errW_none, errW_some] <;> rfl)) | (simp [*, errW_none, errW_some] <;> rfl), by repeat (first | (with_reducible first | exact HB.out | apply below_alloc | apply pw_below_drewN | apply below_drew1 | refine below_set ?_ GE198.out | refine below_set ?_ GE199.out | refine below_set ?_ GE200.out | refine below_set ?_ GE201.out | refine below_set ?_ GE202.out) | exact HB.out)⟩
end Go.Proofs.Ytikhgdbbbingbaa.MPu
namespace Go.Proofs.Ytikhgdbbbingbaa.MPu
open Go.RowKit Go.Proofs.YtikhgdbbbingbaaW.PrintWords Go.Proofs.YtikhgdbbbingbaaW.PrintLast Go.Proofs.YtikhgdbbbingbaaW.PrintMore
attribute [local go_sem] max2_int min2_int max_two min_two max_three min_three max_four min_four
set_option linter.unusedVariables false
set_option linter.unusedSimpArgs false
end Go.Proofs.Ytikhgdbbbingbaa.MPu
namespace Go.Proofs.Ytikhgdbbbingbaa.MPu
open Go.RowKit Go.Proofs.YtikhgdbbbingbaaW.PrintWords Go.Proofs.YtikhgdbbbingbaaW.PrintLast Go.Proofs.YtikhgdbbbingbaaW.PrintMore
attribute [local go_sem] max2_int min2_int max_two min_two max_three min_three max_four min_four
set_option linter.unusedVariables false
set_option linter.unusedSimpArgs false
end Go.Proofs.Ytikhgdbbbingbaa.MPu
namespace Go.Proofs.Ytikhgdbbbingbaa.MPu
open Go Go.RowKit Go.ChangeShapes Go.WideShapes Go.Proofs.YtikhgdbbbingbaaW.PrintWords
set_option linter.unusedVariables false
set_option linter.unusedSimpArgs false
def cellAt (w : World) (a : Addr) : Int := match w.cell? a with
  | some (.int _ z) => z
  | _ => 0
theorem gslice48 {H : Type} {enc : TypeId × Value → H} {w : World} {base : Nat} {spare : Nat → Bool} {held : Bool} {v : Value} {m : Nat} {x : DataW H × List MemPlace} (h : DataW.trod enc Try.prog w base spare held m 60 [v] = some x) :
    ∃ (A : Option Addr) (c : Nat) (l : List S48), v = .slice A l.length c ∧ l.length ≤ c ∧ Kd.C k48 w A l.length l := by
  rcases Go.Deep.open_slice Try.underlying60 h with ⟨h1, _⟩ | ⟨a, len, cap, m, n, D, Pl, h1, hb, hl, hm, hmm, hx, hi⟩
  · simp only [List.cons.injEq, and_true] at h1
    exact ⟨none, 0, [], h1, Nat.le_refl _, Kd.C_nil _ _⟩
  · simp only [List.cons.injEq, and_true] at h1
    have hlm : len ≤ m := by rw [hmm]; split <;> omega
    have hC : Try.prog.cellsOf 48 = 2 := by kernel_rfl
    have hg : gleaves Try.prog 6 48 = some [.int .i64, .int .i64] := by kernel_rfl
    rw [hC] at hi
    have hc : ∀ i, i < m → ∃ z0 z1 : Int, w.cell? (a.add (i * 2)) = some (.int .i64 z0) ∧ w.cell? (a.add (i * 2 + 1)) = some (.int .i64 z1) := by
      intro i him
      obtain ⟨cs, hcs, ht⟩ := hi i him
      obtain ⟨_, hcl, hat⟩ := World.cells?_some hcs
      have hf := gflat_open 6 _ _ hg _ _ _ (by rw [hC]; exact hcl) ht
      clear hcs ht
      rcases cs with _ | ⟨u0, cs⟩
      · exact hf.elim
      obtain ⟨⟨z0, rfl, _⟩, hf⟩ := hf
      rcases cs with _ | ⟨u1, cs⟩
      · exact hf.elim
      obtain ⟨⟨z1, rfl, _⟩, hf⟩ := hf
      refine ⟨z0, z1, ?_, ?_⟩
      · have := hat 0 (by omega); rw [Go.Deep.add_add] at this; exact this
      · have := hat 1 (by omega); rw [Go.Deep.add_add] at this; exact this
    refine ⟨some a, cap, (List.range len).map fun i => ⟨cellAt w (a.add (i * 2)), cellAt w (a.add (i * 2 + 1))⟩, by simpa using h1, by simpa using hl, ?_⟩
    unfold Kd.C ReadsRow
    refine ⟨rfl, by unfold maxLen at hm; simp; omega, fun _ => ⟨a, rfl, fun j p hp => ?_⟩⟩
    have hj : j < len := by simpa using (List.getElem?_eq_some_iff.1 hp).1
    have e : (⟨cellAt w (a.add (j * 2)), cellAt w (a.add (j * 2 + 1))⟩ : S48) = p := by simpa [hj] using hp
    subst e
    obtain ⟨z0, z1, g0, g1⟩ := hc j (Nat.lt_of_lt_of_le hj hlm)
    refine ⟨_, rfl, k48_mk w _, fun i u hu => ?_⟩
    match i, hu with
    | 0, hu =>
      obtain rfl := Option.some.inj hu
      rw [show cellAt w (a.add (j * 2)) = z0 by unfold cellAt; rw [g0]]
      exact g0
    | 1, hu =>
      obtain rfl := Option.some.inj hu
      rw [show cellAt w (a.add (j * 2 + 1)) = z1 by unfold cellAt; rw [g1]]
      exact g1
    | i + 2, hu => simp at hu
end Go.Proofs.Ytikhgdbbbingbaa.MPu
namespace Go.Proofs.Ytikhgdbbbingbaa.MPu
open Go Go.RowKit Go.Proofs.YtikhgdbbbingbaaW.PrintMore Go.Proofs.YtikhgdbbbingbaaW.PrintWords
set_option linter.unusedVariables false
set_option linter.unusedSimpArgs false
theorem w_in {x : Int} (h0 : -9223372036854775808 ≤ x) (h1 : x ≤ 9223372036854775807) : wrap64 x = x := by unfold wrap64; omega
theorem mul_nn {a b : Int} {B C : Int} (h0 : 0 ≤ a) (h1 : a ≤ B) (k0 : 0 ≤ b) (k1 : b ≤ C) : 0 ≤ a * b ∧ a * b ≤ B * C :=
  ⟨Int.mul_nonneg h0 k0, Int.le_trans (Int.mul_le_mul_of_nonneg_right h1 k0) (Int.mul_le_mul_of_nonneg_left k1 (by omega))⟩
def MayP (M E CM CE : Int) : Prop := 0 ≤ CM ∧ CM ≤ 1073741824 ∧ 0 ≤ CE ∧ CE ≤ 1073741824 ∧ 0 ≤ M ∧ M ≤ CM ∧ 0 ≤ E ∧ E ≤ CE
instance (M E CM CE : Int) : Decidable (MayP M E CM CE) := by unfold MayP; infer_instance
def WishP (a b : Int) : Prop := 0 ≤ a ∧ a ≤ 1048576 ∧ 0 ≤ b ∧ b ≤ 1048576
instance (a b : Int) : Decidable (WishP a b) := by unfold WishP; infer_instance
def wishB (x : S48) : Bool := decide (WishP x.f0 x.f1)
theorem in_eq (a b : Int) : (if a ≥ 0 then some (decide (a ≤ b)) else some false) = some (decide (0 ≤ a ∧ a ≤ b)) := by
  split
  · congr 1; exact decide_eq_decide.2 ⟨fun q => ⟨by assumption, q⟩, fun q => q.2⟩
  · rw [decide_eq_false (by omega)]
theorem within_f (a b : Int) : purse_within.f a b = some (decide (0 ≤ a ∧ a ≤ b)) := in_eq a b
theorem rin_f (a b : Int) : bivouacref19_in.f a b = some (decide (0 ≤ a ∧ a ≤ b)) := in_eq a b
theorem may_f (M E CM CE : Int) : purse_May.f M E CM CE = some (decide (MayP M E CM CE)) := by
  unfold purse_May.f
  simp only [within_f, Option.bind_some, decide_eq_true_eq]
  repeat' split
  · congr 1; exact decide_eq_decide.2 ⟨fun q => by unfold MayP; omega, fun q => by unfold MayP at q; omega⟩
  all_goals rw [decide_eq_false (by unfold MayP; omega)]
theorem rmay_f (M E CM CE : Int) : bivouacref19_May.f M E CM CE = some (decide (MayP M E CM CE)) := by
  unfold bivouacref19_May.f
  simp only [rin_f, Option.bind_some, decide_eq_true_eq]
  repeat' split
  · congr 1; exact decide_eq_decide.2 ⟨fun q => by unfold MayP; omega, fun q => by unfold MayP at q; omega⟩
  all_goals rw [decide_eq_false (by unfold MayP; omega)]
theorem wish_f (a b : Int) : purse_wish.f a b = some (decide (WishP a b)) := by
  unfold purse_wish.f
  simp only [within_f, Option.bind_some, decide_eq_true_eq]
  repeat' split
  · congr 1; exact decide_eq_decide.2 ⟨fun q => by unfold WishP; omega, fun q => by unfold WishP at q; omega⟩
  all_goals rw [decide_eq_false (by unfold WishP; omega)]
theorem rwish_f (a b : Int) : bivouacref19_Wish.f a b = some (decide (WishP a b)) := by
  unfold bivouacref19_Wish.f
  simp only [rin_f, Option.bind_some, decide_eq_true_eq]
  repeat' split
  · congr 1; exact decide_eq_decide.2 ⟨fun q => by unfold WishP; omega, fun q => by unfold WishP at q; omega⟩
  all_goals rw [decide_eq_false (by unfold WishP; omega)]
def scaleS (h w : Int) : Int := if h ≥ w then 65536 else h * 65536 / w
theorem scaleS_range {h w : Int} (h0 : 0 ≤ h) (w0 : 0 ≤ w) : 0 ≤ scaleS h w ∧ scaleS h w ≤ 65536 := by
  unfold scaleS
  split
  · omega
  · rename_i q
    refine ⟨Int.ediv_nonneg (by omega) w0, ?_⟩
    have : h * 65536 / w < 65536 := Int.ediv_lt_of_lt_mul (by omega) (by omega)
    omega
def ScaleP (h w : Int) : Prop := 0 ≤ h ∧ h ≤ 1099511627776 ∧ 0 ≤ w ∧ w ≤ 1099511627776
instance (h w : Int) : Decidable (ScaleP h w) := by unfold ScaleP; infer_instance
theorem scale_not {h w : Int} (q : ¬ ScaleP h w) (k : Nat) : purse_Scale.f (k + 1) h w = some (0, 1) := by
  have hj : purse_Scale.j0 (k + 1) h w true = some (0, 1) := by rw [purse_Scale.j0, if_pos rfl]
  unfold purse_Scale.f
  rw [within_f, Option.bind_some]
  by_cases h1 : 0 ≤ h ∧ h ≤ 1099511627776
  · rw [if_pos (decide_eq_true h1), within_f, Option.bind_some, decide_eq_false (by unfold ScaleP at q; omega)]
    exact hj
  · rw [if_neg (by simpa using h1), hj]
theorem scale_f {h w : Int} (q : ScaleP h w) (k : Nat) : purse_Scale.f (k + 1) h w = some (scaleS h w, 0) := by
  unfold ScaleP at q
  unfold purse_Scale.f
  rw [within_f, Option.bind_some, if_pos (decide_eq_true (by omega)), within_f, Option.bind_some, decide_eq_true (by omega), purse_Scale.j0, if_neg (by decide)]
  unfold scaleS
  by_cases c : h ≥ w
  · rw [if_pos c, if_pos c]
  · rw [if_neg c, if_neg c]
    have hr := scaleS_range (h := h) (w := w) (by omega) (by omega)
    unfold scaleS at hr
    rw [if_neg c] at hr
    unfold num_MulDiv.f
    rw [if_pos (by unfold fits; omega), if_pos (by unfold fits; omega), if_pos (by unfold fits; omega)]
    have e1 : mulDiv h 65536 w = (h * 65536 / w, 0) := by
      unfold mulDiv
      rw [if_neg (by omega)]
      unfold flr
      rw [if_pos (by omega)]
      exact fitted_in (by unfold fits; omega)
    rw [e1]
    rfl
theorem rscale_f {h w : Int} (q : ScaleP h w) : bivouacref19_Scale.f h w = some (scaleS h w) := by
  unfold ScaleP at q
  unfold bivouacref19_Scale.f
  by_cases c : h ≥ w
  · rw [if_pos c]; unfold scaleS; rw [if_pos c]
  · have hr := scaleS_range (h := h) (w := w) (by omega) (by omega)
    unfold scaleS at hr ⊢
    rw [if_neg c] at hr
    rw [if_neg c, if_neg (by omega), if_neg c, w_in (x := h * 65536) (by omega) (by omega), Int.tdiv_eq_ediv_of_nonneg (by omega), w_in (by omega) (by omega)]
def partS (s : Int) (x : S48) : S48 := ⟨x.f0 * s / 65536, x.f1 * s / 65536⟩
theorem part_range {a s : Int} (a0 : 0 ≤ a) (a1 : a ≤ 1048576) (s0 : 0 ≤ s) (s1 : s ≤ 65536) : 0 ≤ a * s ∧ a * s ≤ 68719476736 ∧ 0 ≤ a * s / 65536 ∧ a * s / 65536 ≤ a := by
  have h := mul_nn a0 a1 s0 s1
  have h2 : a * s ≤ a * 65536 := Int.mul_le_mul_of_nonneg_left s1 a0
  omega
theorem part_not {a b s : Int} (q : ¬ (WishP a b ∧ 0 ≤ s ∧ s ≤ 65536)) (k : Nat) : purse_Part.f (k + 1) a b s = some (0, 0, 1) := by
  have hj : purse_Part.j0 (k + 1) s true a b = some (0, 0, 1) := by rw [purse_Part.j0, if_pos rfl]
  unfold purse_Part.f
  rw [wish_f, Option.bind_some]
  by_cases h1 : WishP a b
  · rw [if_pos (decide_eq_true h1)]
    by_cases h2 : s < 0
    · rw [if_pos h2, hj]
    · rw [if_neg h2, decide_eq_true (by simp only [h1, true_and] at q; omega), hj]
  · rw [if_neg (by simpa using h1), hj]
theorem part_f {a b s : Int} (q : WishP a b) (s0 : 0 ≤ s) (s1 : s ≤ 65536) (k : Nat) : purse_Part.f (k + 1) a b s = some (a * s / 65536, b * s / 65536, 0) := by
  have h := q
  unfold WishP at q
  have ha := part_range (a := a) (by omega) (by omega) s0 s1
  have hb := part_range (a := b) (by omega) (by omega) s0 s1
  unfold purse_Part.f
  rw [wish_f, Option.bind_some, if_pos (decide_eq_true h), if_neg (by omega), decide_eq_false (by omega), purse_Part.j0, if_neg (by decide), w_in (x := a * s) (by omega) (by omega), w_in (x := b * s) (by omega) (by omega)]
theorem rpart_f {a b s : Int} (q : WishP a b) (s0 : 0 ≤ s) (s1 : s ≤ 65536) : bivouacref19_Part.f a b s = some (a * s / 65536, b * s / 65536) := by
  unfold WishP at q
  have ha := part_range (a := a) (by omega) (by omega) s0 s1
  have hb := part_range (a := b) (by omega) (by omega) s0 s1
  unfold bivouacref19_Part.f
  rw [w_in (x := a * s) (by omega) (by omega), w_in (x := b * s) (by omega) (by omega), Int.tdiv_eq_ediv_of_nonneg (by omega), Int.tdiv_eq_ediv_of_nonneg (by omega), w_in (by omega) (by omega), w_in (by omega) (by omega)]
def sumM : List S48 → Int
  | [] => 0
  | x :: l => x.f0 + sumM l
def sumE : List S48 → Int
  | [] => 0
  | x :: l => x.f1 + sumE l
theorem sumM_app (a b : List S48) : sumM (a ++ b) = sumM a + sumM b := by
  induction a with
  | nil => simp [sumM]
  | cons x a ih => simp only [List.cons_append, sumM, ih]; omega
theorem sumE_app (a b : List S48) : sumE (a ++ b) = sumE a + sumE b := by
  induction a with
  | nil => simp [sumE]
  | cons x a ih => simp only [List.cons_append, sumE, ih]; omega
theorem take_next (l : List S48) (j : Nat) (h : j < l.length) : l.take (j + 1) = l.take j ++ [rd_T48 l j] := by
  rw [List.take_succ_eq_append_getElem h]
  congr 2
  unfold rd_T48
  rw [List.getD_eq_getElem?_getD]
  simp [h]
theorem sum_next (l : List S48) (j : Nat) (h : j < l.length) : sumM (l.take (j + 1)) = sumM (l.take j) + (rd_T48 l j).f0 ∧ sumE (l.take (j + 1)) = sumE (l.take j) + (rd_T48 l j).f1 := by
  rw [take_next l j h, sumM_app, sumE_app]
  simp [sumM, sumE]
theorem sum_range (l : List S48) (h : l.all wishB = true) : 0 ≤ sumM l ∧ sumM l ≤ 1048576 * l.length ∧ 0 ≤ sumE l ∧ sumE l ≤ 1048576 * l.length := by
  induction l with
  | nil => simp [sumM, sumE]
  | cons x l ih =>
    rw [List.all_cons, Bool.and_eq_true] at h
    have hx : WishP x.f0 x.f1 := of_decide_eq_true h.1
    have := ih h.2
    unfold WishP at hx
    simp only [sumM, sumE, List.length_cons]
    omega
theorem all_take {l : List S48} (h : l.all wishB = true) (j : Nat) : (l.take j).all wishB = true := by
  rw [List.all_eq_true] at h ⊢
  exact fun x hx => h x (List.mem_of_mem_take hx)
theorem all_next {l : List S48} {j : Nat} (h : j < l.length) (ha : (l.take j).all wishB = true) (hb : wishB (rd_T48 l j) = true) : (l.take (j + 1)).all wishB = true := by
  rw [take_next l j h, List.all_append, ha]
  simpa using hb
theorem all_rd {l : List S48} (h : l.all wishB = true) {j : Nat} (hj : j < l.length) : wishB (rd_T48 l j) = true := by
  rw [List.all_eq_true] at h
  refine h _ ?_
  unfold rd_T48
  rw [List.getD_eq_getElem?_getD]
  simp [hj]
theorem all_not {l : List S48} {j : Nat} (hj : j < l.length) (hb : wishB (rd_T48 l j) = false) : l.all wishB = false := by
  cases h : l.all wishB with
  | false => rfl
  | true => rw [all_rd h hj] at hb; cases hb
theorem map_next (s : Int) (l : List S48) (j : Nat) (h : j < l.length) : (l.take (j + 1)).map (partS s) = (l.take j).map (partS s) ++ [partS s (rd_T48 l j)] := by rw [take_next l j h, List.map_append]; rfl
theorem psum_range {s : Int} (s0 : 0 ≤ s) (s1 : s ≤ 65536) (l : List S48) (h : l.all wishB = true) : 0 ≤ sumM (l.map (partS s)) ∧ sumM (l.map (partS s)) ≤ sumM l ∧ 0 ≤ sumE (l.map (partS s)) ∧ sumE (l.map (partS s)) ≤ sumE l := by
  induction l with
  | nil => simp [sumM, sumE]
  | cons x l ih =>
    rw [List.all_cons, Bool.and_eq_true] at h
    have hx : WishP x.f0 x.f1 := of_decide_eq_true h.1
    have := ih h.2
    unfold WishP at hx
    have ha := part_range (a := x.f0) (by omega) (by omega) s0 s1
    have hb := part_range (a := x.f1) (by omega) (by omega) s0 s1
    simp only [List.map_cons, sumM, sumE, partS]
    omega
def ServeP (M E CM CE a b : Int) (l : List S48) : Prop := MayP M E CM CE ∧ WishP a b ∧ l.length ≤ 64 ∧ l.all wishB = true
instance (M E CM CE a b : Int) (l : List S48) : Decidable (ServeP M E CM CE a b l) := by unfold ServeP; infer_instance
def scl (M E a b : Int) (l : List S48) : Int := mn (scaleS (M + a) (sumM l)) (scaleS (E + b) (sumE l))
def purse_Serve.f (M E CM CE a b : Int) (l : List S48) : Option (Int × Int × Int × Int × Int × List S48 × Int) :=
  if ServeP M E CM CE a b l then
    some (mn (M + a - sumM (l.map (partS (scl M E a b l)))) CM, mn (E + b - sumE (l.map (partS (scl M E a b l)))) CE, CM, CE, scl M E a b l, l.map (partS (scl M E a b l)), 0)
  else some (0, 0, 0, 0, 0, [], 1)
end Go.Proofs.Ytikhgdbbbingbaa.MPu
namespace Go.Proofs.Ytikhgdbbbingbaa.MPu
open Go Go.RowKit Go.Proofs.YtikhgdbbbingbaaW.PrintWords Go.Proofs.YtikhgdbbbingbaaW.PrintLast Go.Proofs.YtikhgdbbbingbaaW.PrintMore
set_option linter.unusedVariables false
set_option linter.unusedSimpArgs false
set_option maxHeartbeats 4000000 in
set_option maxRecDepth 100000 in
theorem add_any (g : Nat) (m e wm we : Int) (w0 w : World) (hg : w.heap[g]? = some (.cells #[.int .i64 m, .int .i64 e] 48 (0, 0))) (hB : Below w0.heap.size w0 w) (h0 : w0.heap.size ≤ g) :
    Calls Try.prog 83 #[.agg #[.int .i64 wm, .int .i64 we], .pointer (some ⟨g, 0, none⟩)] w fun e' w' => e' = .returned (.tuple #[]) ∧
      w'.heap[g]? = some (.cells #[.int .i64 (wrap64 (m + wm)), .int .i64 (wrap64 (e + we))] 48 (0, 0)) ∧ KeepBut w w' g none ∧ Below w0.heap.size w0 w' := by
  have HG := Lib.hid hg
  have HB := Lib.hid hB
  have L0 : g < w.heap.size := blk_lt hg
  have hu := Try.underlying48
  clear hg hB
  go_enter Try.func83, Try.ntmps83
  go_wp2_with fail
  obtain ⟨V, hV⟩ : ∃ V_, (w.alloc (Obj.cells #[Value.int IntKind.i64 wm, Value.int IntKind.i64 we] 48)) = V_ := ⟨_, rfl⟩
  have hB : Below w.heap.size w V := by rw [← hV]; exact below_alloc (Below.refl _ _) _
  have b0 := blk_new w (Obj.cells #[Value.int IntKind.i64 wm, Value.int IntKind.i64 we] 48)
  rw [hV] at b0
  rw [hV]
  clear hV
  have c := blk_below HG.out hB
  have K := Lib.hid (KeepBut.of_below hB g none)
  have HB2 := Lib.hid (below_then HB.out HB.out.size hB)
  have f := blk_frozen c
  have x0 := blk_cell c 0
  have x1 := blk_cell c 1
  simp only [List.getElem?_toArray, List.getElem?_cons_succ, List.getElem?_cons_zero] at x0 x1
  have y0 := blk_cell b0 0
  have y1 := blk_cell b0 1
  simp only [List.getElem?_toArray, List.getElem?_cons_succ, List.getElem?_cons_zero] at y0 y1
  go_region
  all_goals (go_end0)
  all_goals exact ⟨rfl, blk_drew (blk_set (blk_set c 0 (.int .i64 (wrap64 (m + wm)))) 1 (.int .i64 (wrap64 (e + we)))), (K.out.set_ 0 _).set_ 1 _, below_drew (below_set (below_set HB2.out h0) h0)⟩
end Go.Proofs.Ytikhgdbbbingbaa.MPu
namespace Go.Proofs.Ytikhgdbbbingbaa.MPu
open Go Go.RowKit Go.Proofs.YtikhgdbbbingbaaW.PrintWords Go.Proofs.YtikhgdbbbingbaaW.PrintLast Go.Proofs.YtikhgdbbbingbaaW.PrintMore
set_option linter.unusedVariables false
set_option linter.unusedSimpArgs false
attribute [local go_sem] max2_int min2_int max_two min_two max_three min_three max_four min_four
theorem serve_end {w wr : World} {v : Value} {xs : List S48} {M E CM CE z0 z1 z2 z3 : Int} (p q : Int) (ho : Kd.R k48 48 wr w.heap.size (fun _ => True) v xs)
    (h0 : wr.heap[w.heap.size]? = some (.cells #[.int .i64 M, .int .i64 E, .int .i64 CM, .int .i64 CE] 59 (0, 0)))
    (h2 : wr.heap[w.heap.size + 2]? = some (.cells #[.int .i64 z0, .int .i64 z1, .int .i64 z2, .int .i64 z3] 59 (0, 0))) (hb : Below w.heap.size w wr) :
    ∃ W : World, (((((((wr.setCell ⟨w.heap.size, 0, none⟩ (.int .i64 p)).setCell ⟨w.heap.size, 1, none⟩ (.int .i64 q)).setCell ⟨w.heap.size + 2, 0, none⟩ (.int .i64 p)).setCell ⟨w.heap.size + 2, 1, none⟩ (.int .i64 q)).setCell ⟨w.heap.size + 2, 2, none⟩ (.int .i64 CM)).setCell ⟨w.heap.size + 2, 3, none⟩ (.int .i64 CE)) = W) ∧
      W.heap[w.heap.size + 2]? = some (.cells #[.int .i64 p, .int .i64 q, .int .i64 CM, .int .i64 CE] 59 (0, 0)) ∧ Kd.R k48 48 W w.heap.size (fun _ => True) v xs ∧ Below w.heap.size w W := by
  have ht : ∀ q, q ∈ 48 :: k48.E → q ≠ 59 := by decide
  have a1 := blk_set h0 0 (.int .i64 p)
  have b1 := blk_set (blk_far (blk_far h2 (p := ⟨w.heap.size, 0, none⟩) (by simp) (.int .i64 p)) (p := ⟨w.heap.size, 1, none⟩) (by simp) (.int .i64 q)) 0 (.int .i64 p)
  have b2 := blk_set b1 1 (.int .i64 q)
  have b3 := blk_set b2 2 (.int .i64 CM)
  have b4 := blk_set b3 3 (.int .i64 CE)
  exact ⟨_, rfl, b4, Kd.R_set (Kd.R_set (Kd.R_set (Kd.R_set (Kd.R_set (Kd.R_set ho h0 ht 0 _) a1 ht 1 _) (blk_far (blk_far h2 (by simp) _) (by simp) _) ht 0 _) b1 ht 1 _) b2 ht 2 _) b3 ht 3 _,
    below_set (below_set (below_set (below_set (below_set (below_set hb (Nat.le_refl _)) (Nat.le_refl _)) (by omega)) (by omega)) (by omega)) (by omega)⟩
set_option maxHeartbeats 8000000 in
set_option maxRecDepth 100000 in
theorem purse_Serve.calls (M E CM CE im ie : Int) (A : Option Addr) (c : Nat) (l : List S48) (r1 r2 r3 r4 r5 : Int) (r6 : List S48) (r7 : Int) (w : World) (hr : Kd.C k48 w A l.length l) (hc : l.length ≤ c)
    (h : purse_Serve.f M E CM CE im ie l = some (r1, r2, r3, r4, r5, r6, r7)) :
    Calls Try.prog 59 #[.agg #[.int .i64 M, .int .i64 E, .int .i64 CM, .int .i64 CE], .agg #[.int .i64 im, .int .i64 ie], .slice A l.length c] w fun e w' => ∃ v6_ : Value,
      e = .returned (.tuple #[.agg #[.int .i64 r1, .int .i64 r2, .int .i64 r3, .int .i64 r4], .int .i64 r5, v6_, .int .i64 r7]) ∧ Kd.R k48 48 w' w.heap.size (fun _ => True) v6_ r6 ∧ Below w.heap.size w w' := by
  have HR := Lib.hid hr
  have HC := Lib.hid hc
  have HM : l.length ≤ 9223372036854775807 := Kd.C_max hr
  clear hr hc
  have hu := Try.underlying59
  have hu2 := Try.underlying48
  have hmf : ∀ (fn : Fn) (first cap : Array Value) (w : World), (Instr.makeFunc fn first cap).run Try.prog w = .ok (.func fn first cap) w := fun _ _ _ _ => rfl
  have H1 := Lib.hid (may_f M E CM CE)
  have HH := Lib.hid h
  clear h
  by_cases g1 : MayP M E CM CE
  · rw [decide_eq_true g1] at H1
    have G1 := Lib.hid g1
    clear g1
    have H2 := Lib.hid (wish_f im ie)
    by_cases g2 : WishP im ie
    · rw [decide_eq_true g2] at H2
      have G2 := Lib.hid g2
      clear g2
      by_cases g3 : l.length ≤ 64
      · go_enter Try.func59, Try.ntmps59
        go_wp2_with fail
        obtain ⟨V, hV⟩ : ∃ V_, (((w.alloc (Obj.cells #[Value.int IntKind.i64 M, Value.int IntKind.i64 E, Value.int IntKind.i64 CM, Value.int IntKind.i64 CE] 59)).alloc (Obj.cells #[Value.int IntKind.i64 im, Value.int IntKind.i64 ie] 48)).alloc (Obj.cells #[Value.int IntKind.i64 0, Value.int IntKind.i64 0, Value.int IntKind.i64 0, Value.int IntKind.i64 0] 59)) = V_ := ⟨_, rfl⟩
        have hB : Below w.heap.size w V := by rw [← hV]; exact below_alloc (below_alloc (below_alloc (Below.refl _ _) _) _) _
        have b0 := blk_alloc (blk_alloc (blk_new w (Obj.cells #[Value.int IntKind.i64 M, Value.int IntKind.i64 E, Value.int IntKind.i64 CM, Value.int IntKind.i64 CE] 59)) (Obj.cells #[Value.int IntKind.i64 im, Value.int IntKind.i64 ie] 48)) (Obj.cells #[Value.int IntKind.i64 0, Value.int IntKind.i64 0, Value.int IntKind.i64 0, Value.int IntKind.i64 0] 59)
        rw [hV] at b0
        have b1 := blk_alloc (blk_new (w.alloc (Obj.cells #[Value.int IntKind.i64 M, Value.int IntKind.i64 E, Value.int IntKind.i64 CM, Value.int IntKind.i64 CE] 59)) (Obj.cells #[Value.int IntKind.i64 im, Value.int IntKind.i64 ie] 48)) (Obj.cells #[Value.int IntKind.i64 0, Value.int IntKind.i64 0, Value.int IntKind.i64 0, Value.int IntKind.i64 0] 59)
        rw [hV] at b1
        have zb1 : (w.alloc (Obj.cells #[Value.int IntKind.i64 M, Value.int IntKind.i64 E, Value.int IntKind.i64 CM, Value.int IntKind.i64 CE] 59)).heap.size = w.heap.size + 1 := by simp
        rw [zb1] at b1
        clear zb1
        have b2 := blk_new ((w.alloc (Obj.cells #[Value.int IntKind.i64 M, Value.int IntKind.i64 E, Value.int IntKind.i64 CM, Value.int IntKind.i64 CE] 59)).alloc (Obj.cells #[Value.int IntKind.i64 im, Value.int IntKind.i64 ie] 48)) (Obj.cells #[Value.int IntKind.i64 0, Value.int IntKind.i64 0, Value.int IntKind.i64 0, Value.int IntKind.i64 0] 59)
        rw [hV] at b2
        have zb2 : ((w.alloc (Obj.cells #[Value.int IntKind.i64 M, Value.int IntKind.i64 E, Value.int IntKind.i64 CM, Value.int IntKind.i64 CE] 59)).alloc (Obj.cells #[Value.int IntKind.i64 im, Value.int IntKind.i64 ie] 48)).heap.size = w.heap.size + 2 := by simp
        rw [zb2] at b2
        clear zb2
        rw [hV]
        clear hV
        refine (purse_May.calls M E CM CE true V H1.out).mono ?_
        rintro e w1 ⟨rfl, hb1⟩
        have HB1 := Lib.hid (below_then hB hB.size hb1)
        have C0 := Lib.hid (blk_below b0 hb1)
        have D1 := blk_below b1 hb1
        have D2 := Lib.hid (blk_below b2 hb1)
        clear b0 b1 b2 hB hb1
        have x0 := blk_cell D1 0
        have x1 := blk_cell D1 1
        simp only [List.getElem?_toArray, List.getElem?_cons_succ, List.getElem?_cons_zero] at x0 x1
        go_wp2_with fail
        refine (purse_wish.calls im ie true w1 H2.out).mono ?_
        rintro e w2 ⟨rfl, hb2⟩
        have HB2 := Lib.hid (below_then HB1.out HB1.out.size hb2)
        have L2 : w.heap.size ≤ w2.heap.size := HB2.out.size
        have L3 : w.heap.size + 2 < w2.heap.size := blk_lt (blk_below D2.out hb2)
        have F0 := Lib.hid (blk_below C0.out hb2)
        have F1 := Lib.hid (blk_below D1 hb2)
        have F2 := Lib.hid (blk_below D2.out hb2)
        clear x0 x1 C0 D1 D2 hb2 HB1
        go_wp2
        obtain ⟨V, hV⟩ : ∃ V_, (w2.alloc (Obj.cells #[Value.int IntKind.i64 0, Value.int IntKind.i64 0] 48)) = V_ := ⟨_, rfl⟩
        have hBV : Below w2.heap.size w2 V := by rw [← hV]; exact below_alloc (Below.refl _ _) _
        have a0 := blk_new w2 (Obj.cells #[Value.int IntKind.i64 0, Value.int IntKind.i64 0] 48)
        rw [hV] at a0
        rw [hV]
        clear hV
        have K0 := Lib.hid (blk_below F0.out hBV)
        have K1 := Lib.hid (blk_below F1.out hBV)
        have K2 := Lib.hid (blk_below F2.out hBV)
        have A0 := Lib.hid a0
        have HBV := Lib.hid (below_then HB2.out HB2.out.size hBV)
        have LA : w2.heap.size < V.heap.size := blk_lt a0
        clear a0 hBV F0 F1 F2
        go_loopw [43] (fun i wr => ∃ j : Nat, i = .int .i64 j ∧ j ≤ l.length ∧ Hid ((l.take j).all wishB = true) ∧ Hid (wr.heap[w2.heap.size]? = some (.cells #[.int .i64 (sumM (l.take j)), .int .i64 (sumE (l.take j))] 48 (0, 0))) ∧ Hid (KeepBut V wr w2.heap.size none) ∧ Hid (Below w.heap.size w wr)) (fun i _ => l.length - (intOf i).toNat)
        case atStart => exact ⟨0, rfl, Nat.zero_le _, Lib.hid (by simp), Lib.hid (by simpa [sumM, sumE] using A0.out), Lib.hid (KeepBut.refl _ _ _), HBV⟩
        case round =>
          obtain ⟨j, rfl, hj, ha, hs, hk, hb⟩ := hrel
          by_cases hlt : j < l.length
          · obtain ⟨ad, rfl, c0, c1⟩ := at_T48 HR.out (j : Int) (by omega) (by omega)
            obtain ⟨x0, hx0⟩ : ∃ z, (rd_T48 l (j : Int)).f0 = z := ⟨_, rfl⟩
            obtain ⟨x1, hx1⟩ : ∃ z, (rd_T48 l (j : Int)).f1 = z := ⟨_, rfl⟩
            rw [hx0, Int.toNat_natCast] at c0
            rw [hx1, Int.toNat_natCast] at c1
            replace c0 := (hb.out.cell (World.block_lt_of_cell? w _ c0)).trans c0
            replace c1 := (hb.out.cell (World.block_lt_of_cell? w _ c1)).trans c1
            have X0 := Lib.hid hx0
            have X1 := Lib.hid hx1
            clear hx0 hx1
            have H3 := Lib.hid (wish_f x0 x1)
            have LW : w2.heap.size < wr.heap.size := blk_lt hs.out
            have LW0 : w.heap.size ≤ wr.heap.size := hb.out.size
            by_cases hw : WishP x0 x1
            · rw [decide_eq_true hw] at H3
              have HW := Lib.hid hw
              clear hw
              go_wp2_with fail
              refine (purse_wish.calls x0 x1 true _ H3.out).mono ?_
              rintro e w3 ⟨rfl, hb3⟩
              have hbx : Below wr.heap.size wr w3 := below_then (below_alloc (Below.refl _ wr) (Obj.cells #[Value.int IntKind.i64 x0, Value.int IntKind.i64 x1] 48)) (below_alloc (Below.refl _ wr) (Obj.cells #[Value.int IntKind.i64 x0, Value.int IntKind.i64 x1] 48)).size hb3
              have HB3 := Lib.hid (below_then hb.out hb.out.size hbx)
              have S3 := Lib.hid (blk_below (blk_alloc hs.out (Obj.cells #[Value.int IntKind.i64 x0, Value.int IntKind.i64 x1] 48)) hb3)
              have E3 := blk_below (blk_new wr (Obj.cells #[Value.int IntKind.i64 x0, Value.int IntKind.i64 x1] 48)) hb3
              have K3 := Lib.hid (hk.out.trans (KeepBut.of_below hbx w2.heap.size none) (.inl rfl))
              have y0 := blk_cell E3 0
              have y1 := blk_cell E3 1
              simp only [List.getElem?_toArray, List.getElem?_cons_succ, List.getElem?_cons_zero] at y0 y1
              clear hb3 hbx hk hs H3 c0 c1
              have LW3 : wr.heap.size < w3.heap.size := blk_lt E3
              have LA3 : w2.heap.size < w3.heap.size := blk_lt S3.out
              go_wp2_with fail
              refine (add_any w2.heap.size (sumM (l.take j)) (sumE (l.take j)) x0 x1 w w3 S3.out HB3.out L2).mono ?_
              rintro e w4 ⟨rfl, hg4, hk4, hb4⟩
              have K4 := Lib.hid (K3.out.trans hk4 (.inl rfl))
              have HB4 := Lib.hid hb4
              have hsr := sum_range (l.take j) ha.out
              have hsn := sum_next l j hlt
              rw [X0.out, X1.out] at hsn
              have hwo := HW.out
              unfold WishP at hwo
              rw [List.length_take, Nat.min_eq_left hj] at hsr
              rw [w_in (by omega) (by omega), w_in (by omega) (by omega), ← hsn.1, ← hsn.2] at hg4
              have S4 := Lib.hid hg4
              have A4 : Hid ((l.take (j + 1)).all wishB = true) := Lib.hid (all_next hlt ha.out (by unfold wishB; rw [X0.out, X1.out]; exact decide_eq_true HW.out))
              clear hg4 hk4 hb4 hsr hsn hwo E3 y0 y1
              go_wp2
              go_roundw
              case rel => exact ⟨j + 1, by go_num, by omega, A4, S4, K4, HB4⟩
              case measure => simp [intOf]; omega
            · rw [decide_eq_false hw] at H3
              have h := HH.out
              obtain ⟨rfl, rfl, rfl, rfl, rfl, rfl, rfl⟩ : 0 = r1 ∧ 0 = r2 ∧ 0 = r3 ∧ 0 = r4 ∧ 0 = r5 ∧ [] = r6 ∧ 1 = r7 := by
                unfold purse_Serve.f at h
                rw [if_neg (fun q => by have q2 := all_not hlt (show wishB (rd_T48 l (j : Int)) = false by unfold wishB; rw [X0.out, X1.out]; exact decide_eq_false hw); rw [q.2.2.2] at q2; cases q2)] at h
                simpa using h
              clear h HH hw
              go_wp2_with fail
              refine (purse_wish.calls x0 x1 false _ H3.out).mono ?_
              rintro e w3 ⟨rfl, hb3⟩
              have hbx : Below wr.heap.size wr w3 := below_then (below_alloc (Below.refl _ wr) (Obj.cells #[Value.int IntKind.i64 x0, Value.int IntKind.i64 x1] 48)) (below_alloc (Below.refl _ wr) (Obj.cells #[Value.int IntKind.i64 x0, Value.int IntKind.i64 x1] 48)).size hb3
              have HB3 := Lib.hid (below_then hb.out hb.out.size hbx)
              have S3 := Lib.hid (blk_below (blk_alloc hs.out (Obj.cells #[Value.int IntKind.i64 x0, Value.int IntKind.i64 x1] 48)) hb3)
              have E3 := blk_below (blk_new wr (Obj.cells #[Value.int IntKind.i64 x0, Value.int IntKind.i64 x1] 48)) hb3
              have K3 := Lib.hid (hk.out.trans (KeepBut.of_below hbx w2.heap.size none) (.inl rfl))
              have R3 := Lib.hid (K3.out.blk K2.out (by omega) (by simp))
              clear hb3 hbx hk hs H3 c0 c1 E3
              have Z := R3.out
              have fz := blk_frozen Z
              have hBB := HB3.out
              have q0 := blk_cell Z 0
              have q1 := blk_cell Z 1
              have q2 := blk_cell Z 2
              have q3 := blk_cell Z 3
              simp only [List.getElem?_toArray, List.getElem?_cons_succ, List.getElem?_cons_zero] at q0 q1 q2 q3
              go_wp2
              have e := blk_set (blk_set (blk_set (blk_set (Z) 0 (.int .i64 0)) 1 (.int .i64 0)) 2 (.int .i64 0)) 3 (.int .i64 0)
              have hB3 := below_set (g := w.heap.size + 2) (j := 3) (v := .int .i64 0) (below_set (g := w.heap.size + 2) (j := 2) (v := .int .i64 0) (below_set (g := w.heap.size + 2) (j := 1) (v := .int .i64 0) (below_set (g := w.heap.size + 2) (j := 0) (v := .int .i64 0) (hBB) (by omega)) (by omega)) (by omega)) (by omega)
              generalize ((((w3.setCell ⟨w.heap.size + 2, 0, none⟩ (.int .i64 0)).setCell ⟨w.heap.size + 2, 1, none⟩ (.int .i64 0)).setCell ⟨w.heap.size + 2, 2, none⟩ (.int .i64 0)).setCell ⟨w.heap.size + 2, 3, none⟩ (.int .i64 0)) = V3 at e hB3 ⊢
              have e0 := blk_cell e 0
              have e1 := blk_cell e 1
              have e2 := blk_cell e 2
              have e3 := blk_cell e 3
              simp only [List.setIfInBounds_toArray, List.set_cons_zero, List.set_cons_succ, List.getElem?_toArray, List.getElem?_cons_succ, List.getElem?_cons_zero] at e0 e1 e2 e3
              exact bodyPost_ret (v := .tuple #[.agg #[.int .i64 0, .int .i64 0, .int .i64 0, .int .i64 0], .int .i64 0, .slice none 0 0, .int .i64 1]) (by simp [results, Try.results59, go_sem, e0, e1, e2, e3]) rfl ⟨.slice none 0 0, rfl, Kd.R_nil _ _ _ _ _, hB3⟩
          · obtain rfl : j = l.length := by omega
            have ha' := ha.out
            have hs' := hs.out
            rw [List.take_length] at ha' hs'
            have S0 := Lib.hid hs'
            have AA := Lib.hid ha'
            have P0 := Lib.hid (hk.out.blk K0.out (by omega) (by simp))
            have P1 := Lib.hid (hk.out.blk K1.out (by omega) (by simp))
            have P2 := Lib.hid (hk.out.blk K2.out (by omega) (by simp))
            clear hs' ha' hs ha hk K0 K1 K2
            have h := HH.out
            unfold purse_Serve.f at h
            rw [if_pos ⟨G1.out, G2.out, g3, AA.out⟩] at h
            have gm := G1.out
            have gw := G2.out
            have gs := sum_range l AA.out
            unfold MayP at gm
            unfold WishP at gw
            have HS1 := Lib.hid (scale_f (h := M + im) (w := sumM l) (by unfold ScaleP; omega) 0)
            have HS2 := Lib.hid (scale_f (h := E + ie) (w := sumE l) (by unfold ScaleP; omega) 0)
            have q1 := scaleS_range (h := M + im) (w := sumM l) (by omega) (by omega)
            have q2 := scaleS_range (h := E + ie) (w := sumE l) (by omega) (by omega)
            obtain ⟨sc, hsc⟩ : ∃ z, scl M E im ie l = z := ⟨_, rfl⟩
            rw [hsc] at h
            have hsc2 : mn (scaleS (M + im) (sumM l)) (scaleS (E + ie) (sumE l)) = sc := hsc
            clear hsc
            obtain ⟨s1, hs1⟩ : ∃ z, scaleS (M + im) (sumM l) = z := ⟨_, rfl⟩
            obtain ⟨s2, hs2⟩ : ∃ z, scaleS (E + ie) (sumE l) = z := ⟨_, rfl⟩
            rw [hs1] at HS1 hsc2 q1
            rw [hs2] at HS2 hsc2 q2
            clear hs1 hs2
            have r0 : 0 ≤ sc ∧ sc ≤ 65536 := by rw [← hsc2]; unfold mn; split <;> omega
            have hsc3 : (if s2 < s1 then s2 else s1) = sc := hsc2
            have HE := Lib.hid h
            clear hsc2 h HH
            obtain ⟨sm, hsm⟩ : ∃ z, sumM l = z := ⟨_, rfl⟩
            obtain ⟨se, hse⟩ : ∃ z, sumE l = z := ⟨_, rfl⟩
            have ps := psum_range r0.1 r0.2 l AA.out
            rw [hsm, hse] at S0 gs ps
            rw [hsm] at HS1
            rw [hse] at HS2
            have SM := Lib.hid hsm
            have SE := Lib.hid hse
            have PS := Lib.hid ps
            clear hsm hse ps
            have m0 := blk_cell P0.out 0
            have m1 := blk_cell P0.out 1
            have m2 := blk_cell P0.out 2
            have m3 := blk_cell P0.out 3
            simp only [List.getElem?_toArray, List.getElem?_cons_succ, List.getElem?_cons_zero] at m0 m1 m2 m3
            have n0 := blk_cell P1.out 0
            have n1 := blk_cell P1.out 1
            simp only [List.getElem?_toArray, List.getElem?_cons_succ, List.getElem?_cons_zero] at n0 n1
            go_wp2_with fail
            go_quiet (fail)
            have S1 := Lib.hid (blk_drewN S0.out nq)
            have T0 := Lib.hid (blk_drewN P0.out nq)
            have T2 := Lib.hid (blk_drewN P2.out nq)
            have HB5 := Lib.hid (pw_below_drewN hb.out nq)
            clear P0 P1 P2 S0 hb m0 m1 m2 m3 n0 n1
            generalize wr.drewN nq = w5 at S1 T0 T2 HB5 ⊢
            have u0 := blk_cell S1.out 0
            have u1 := blk_cell S1.out 1
            simp only [List.getElem?_toArray, List.getElem?_cons_succ, List.getElem?_cons_zero] at u0 u1
            go_wp2_with fail
            refine (purse_Scale.calls 1 _ _ _ _ w5 HS1.out).mono ?_
            rintro e w6 ⟨rfl, hb6⟩
            have HB6 := Lib.hid (below_then HB5.out HB5.out.size hb6)
            have S2 := Lib.hid (blk_below S1.out hb6)
            have T3 := Lib.hid (blk_below T0.out hb6)
            have T4 := Lib.hid (blk_below T2.out hb6)
            clear S1 T0 T2 HB5 u0 u1 hb6 HS1
            have u0 := blk_cell S2.out 0
            have u1 := blk_cell S2.out 1
            simp only [List.getElem?_toArray, List.getElem?_cons_succ, List.getElem?_cons_zero] at u0 u1
            go_wp2_with fail
            refine (purse_Scale.calls 1 _ _ _ _ w6 HS2.out).mono ?_
            rintro e w7 ⟨rfl, hb7⟩
            have HB7 := Lib.hid (below_then HB6.out HB6.out.size hb7)
            have T5 := Lib.hid (blk_below T3.out hb7)
            have T6 := Lib.hid (blk_below T4.out hb7)
            clear S2 T3 T4 HB6 u0 u1 hb7 HS2
            go_wp2
            go_loopw [14, 15, 21, 84] (fun me en out i wq => ∃ j : Nat, i = .int .i64 j ∧ j ≤ l.length ∧ me = .int .i64 (M + im - sumM ((l.take j).map (partS sc))) ∧ en = .int .i64 (E + ie - sumE ((l.take j).map (partS sc))) ∧ Hid (Kd.R k48 48 wq w.heap.size (fun _ => True) out ((l.take j).map (partS sc))) ∧ Hid (wq.heap[w.heap.size]? = some (.cells #[.int .i64 M, .int .i64 E, .int .i64 CM, .int .i64 CE] 59 (0, 0))) ∧ Hid (wq.heap[w.heap.size + 2]? = some (.cells #[.int .i64 0, .int .i64 0, .int .i64 0, .int .i64 0] 59 (0, 0))) ∧ Hid (Below w.heap.size w wq)) (fun _ _ _ i _ => l.length - (intOf i).toNat)
            case atStart => exact ⟨0, rfl, Nat.zero_le _, by simp [sumM], by simp [sumE], Lib.hid (by simpa using Kd.R_nil _ _ _ _ _), T5, T6, HB7⟩
            case round =>
              obtain ⟨j, rfl, hj, rfl, rfl, ho, h0, h2, hb⟩ := hrel
              by_cases hlt : j < l.length
              · obtain ⟨ad, rfl, c0, c1⟩ := at_T48 HR.out (j : Int) (by omega) (by omega)
                have hW := all_rd AA.out hlt
                have hn := map_next sc l j hlt
                unfold wishB at hW
                obtain ⟨x0, hx0⟩ : ∃ z, (rd_T48 l (j : Int)).f0 = z := ⟨_, rfl⟩
                obtain ⟨x1, hx1⟩ : ∃ z, (rd_T48 l (j : Int)).f1 = z := ⟨_, rfl⟩
                unfold partS at hn
                rw [hx0, hx1] at hn
                rw [hx0, Int.toNat_natCast] at c0
                rw [hx1, Int.toNat_natCast] at c1
                rw [hx0, hx1] at hW
                have hWp := of_decide_eq_true hW
                replace c0 := (hb.out.cell (World.block_lt_of_cell? w _ c0)).trans c0
                replace c1 := (hb.out.cell (World.block_lt_of_cell? w _ c1)).trans c1
                have H3 := Lib.hid (part_f hWp r0.1 r0.2 0)
                unfold WishP at hWp
                have pa := part_range (a := x0) (by omega) (by omega) r0.1 r0.2
                have pb := part_range (a := x1) (by omega) (by omega) r0.1 r0.2
                obtain ⟨p0, hp0⟩ : ∃ z, x0 * sc / 65536 = z := ⟨_, rfl⟩
                obtain ⟨p1, hp1⟩ : ∃ z, x1 * sc / 65536 = z := ⟨_, rfl⟩
                rw [hp0, hp1] at H3 hn
                rw [hp0] at pa
                rw [hp1] at pb
                replace pa := pa.2.2
                replace pb := pb.2.2
                have pq := psum_range r0.1 r0.2 (l.take j) (all_take AA.out j)
                have pr := sum_range (l.take j) (all_take AA.out j)
                rw [List.length_take, Nat.min_eq_left hj] at pr
                obtain ⟨t0, ht0⟩ : ∃ z, sumM ((l.take j).map (partS sc)) = z := ⟨_, rfl⟩
                obtain ⟨t1, ht1⟩ : ∃ z, sumE ((l.take j).map (partS sc)) = z := ⟨_, rfl⟩
                have e0 : sumM ((l.take (j + 1)).map (partS sc)) = t0 + p0 := by rw [← ht0]; unfold partS; rw [hn, sumM_app]; simp [sumM]
                have e1 : sumE ((l.take (j + 1)).map (partS sc)) = t1 + p1 := by rw [← ht1]; unfold partS; rw [hn, sumE_app]; simp [sumE]
                have E0 := Lib.hid e0
                have E1 := Lib.hid e1
                have HN := Lib.hid hn
                rw [ht0, ht1] at pq
                rw [ht0, ht1]
                have u0 : 0 ≤ t0 ∧ t0 ≤ 67108864 ∧ 0 ≤ t1 ∧ t1 ≤ 67108864 := by omega
                clear hx0 hx1 hp0 hp1 ht0 ht1 e0 e1 hn hW pq pr
                have LW0 : w.heap.size ≤ wr.heap.size := hb.out.size
                have LW2 : w.heap.size + 2 < wr.heap.size := blk_lt h2.out
                go_wp2_with fail
                refine (purse_Part.calls 1 x0 x1 sc p0 p1 0 _ H3.out).mono ?_
                rintro e w8 ⟨rfl, hb8⟩
                have hbx : Below wr.heap.size wr w8 := below_then (below_alloc (Below.refl _ wr) (Obj.cells #[Value.int IntKind.i64 x0, Value.int IntKind.i64 x1] 48)) (below_alloc (Below.refl _ wr) (Obj.cells #[Value.int IntKind.i64 x0, Value.int IntKind.i64 x1] 48)).size hb8
                have HB8 := Lib.hid (below_then hb.out hb.out.size hbx)
                have R8 := Lib.hid (Kd.R_below ho.out hbx)
                have I0 := Lib.hid (blk_below h0.out hbx)
                have I2 := Lib.hid (blk_below h2.out hbx)
                clear hb8 hbx ho h0 h2 hb c0 c1 H3
                go_wp2_with fail
                obtain ⟨V8, hV8⟩ : ∃ V_, (w8.alloc (Obj.cells #[Value.int IntKind.i64 p0, Value.int IntKind.i64 p1] 48)) = V_ := ⟨_, rfl⟩
                have hBV8 : Below w8.heap.size w8 V8 := by rw [← hV8]; exact below_alloc (Below.refl _ _) _
                have o0 := blk_new w8 (Obj.cells #[Value.int IntKind.i64 p0, Value.int IntKind.i64 p1] 48)
                rw [hV8] at o0
                rw [hV8]
                clear hV8
                have v0 := blk_cell o0 0
                have v1 := blk_cell o0 1
                simp only [List.getElem?_toArray, List.getElem?_cons_succ, List.getElem?_cons_zero] at v0 v1
                have HB9 := Lib.hid (below_then HB8.out HB8.out.size hBV8)
                have R9 := Lib.hid (Kd.R_below R8.out hBV8)
                have J0 := Lib.hid (blk_below I0.out hBV8)
                have J2 := Lib.hid (blk_below I2.out hBV8)
                have LV8 : w8.heap.size < V8.heap.size := blk_lt o0
                clear I0 I2 R8 HB8 hBV8
                go_quiet (fail)
                have HBA := Lib.hid (pw_below_drewN HB9.out nq)
                have RA := Lib.hid (Kd.R_drewN R9.out nq)
                have Q0 := Lib.hid (blk_drewN J0.out nq)
                have Q2 := Lib.hid (blk_drewN J2.out nq)
                have OA := blk_drewN o0 nq
                clear HB9 R9 J0 J2 o0 v0 v1
                generalize V8.drewN nq = w9 at HBA RA Q0 Q2 OA ⊢
                have v0 := blk_cell OA 0
                have v1 := blk_cell OA 1
                simp only [List.getElem?_toArray, List.getElem?_cons_succ, List.getElem?_cons_zero] at v0 v1
                have L9 : w8.heap.size < w9.heap.size := blk_lt OA
                have L90 : w.heap.size ≤ w9.heap.size := HBA.out.size
                go_wp2_with ((with_reducible refine gate_builtin (b := .append) (xs := #[.tmp 102, .tmp 104]) rfl ?_); at_builtin; refine Kd.R_append k48 (w0 := w) w.heap.size rfl (.tmp 102) (.tmp 104) 60 48 (.agg #[(.int .i64 0), (.int .i64 0)]) 16 rfl Try.underlying60 info48 rfl (by decide) (by omega) u21 ((l.take j).map (partS sc)) (⟨p0, p1⟩ : S48) [.int .i64 p0, .int .i64 p1] (fun _ => True) (fun _ => False) rfl rfl ?aP (fun _ hk => hk.elim) ?aF ?aO ?aB ?aS ?aL ?_)
                case aP => exact k48_mkM _ _ _ (⟨p0, p1⟩ : S48)
                case aF => exact fun _ _ => trivial
                case aO => exact RA.out
                case aB => exact HBA.out
                case aS => exact HBA.out.size
                case aL => rw [List.length_map, List.length_take]; omega
                intro v1_ wA hR hbA hg hat
                have RB : Hid (Kd.R k48 48 wA w.heap.size (fun _ => True) v1_ ((l.take (j + 1)).map (partS sc))) := Lib.hid (by unfold partS; rw [HN.out]; unfold partS at hR; first | exact hR | (rw [← List.map_take] at hR; exact hR))
                have U0 := Lib.hid (blk_grown Q0.out hg (Kd.R_ne RA.out Q0.out (by decide)))
                have U2 := Lib.hid (blk_grown Q2.out hg (Kd.R_ne RA.out Q2.out (by decide)))
                have HBB := Lib.hid hbA
                clear hR hbA hg hat RA Q0 Q2 HBA OA v0 v1
                go_wp2
                go_roundw
                case rel => exact ⟨j + 1, by go_num, by omega, by rw [E0.out]; go_num, by rw [E1.out]; go_num, RB, U0, U2, HBB⟩
                case measure => simp [intOf]; omega
              · obtain rfl : j = l.length := by omega
                rw [List.take_length]
                have LW0 : w.heap.size ≤ wr.heap.size := hb.out.size
                have LW2 : w.heap.size + 2 < wr.heap.size := blk_lt h2.out
                have fz := blk_frozen h0.out
                have fy := blk_frozen h2.out
                have m0 := blk_cell h0.out 0
                have m1 := blk_cell h0.out 1
                have m2 := blk_cell h0.out 2
                have m3 := blk_cell h0.out 3
                simp only [List.getElem?_toArray, List.getElem?_cons_succ, List.getElem?_cons_zero] at m0 m1 m2 m3
                have n0 := blk_cell h2.out 0
                have n1 := blk_cell h2.out 1
                have n2 := blk_cell h2.out 2
                have n3 := blk_cell h2.out 3
                simp only [List.getElem?_toArray, List.getElem?_cons_succ, List.getElem?_cons_zero] at n0 n1 n2 n3
                go_wp2_with fail
                all_goals
                  have hE := HE.out
                  simp only [Option.some.injEq, Prod.mk.injEq] at hE
                  obtain ⟨q1', q2', q3', q4', q5', q6', q7'⟩ := hE
                  have ps' := PS.out
                  unfold mn at q1' q2'
                  rw [← q6']
                  first | rw [if_pos (by omega)] at q1' | rw [if_neg (by omega)] at q1'
                  first | rw [if_pos (by omega)] at q2' | rw [if_neg (by omega)] at q2'
                  obtain ⟨W, hW, eW, oW, bW⟩ := serve_end r1 r2 ho.out h0.out h2.out hb.out
                  rw [← q1', ← q2'] at hW
                  rw [hW]
                  rw [List.take_length] at oW
                  have v0 := blk_cell eW 0
                  have v1 := blk_cell eW 1
                  have v2 := blk_cell eW 2
                  have v3 := blk_cell eW 3
                  simp only [List.getElem?_toArray, List.getElem?_cons_succ, List.getElem?_cons_zero] at v0 v1 v2 v3
                  exact bodyPost_ret (v := .tuple #[.agg #[.int .i64 r1, .int .i64 r2, .int .i64 CM, .int .i64 CE], .int .i64 sc, u21, .int .i64 0]) (by simp [results, Try.results59, go_sem, v0, v1, v2, v3]) rfl ⟨u21, by rw [q3', q4', q5', q7'], oW, bW⟩
      · have h := HH.out
        obtain ⟨rfl, rfl, rfl, rfl, rfl, rfl, rfl⟩ : 0 = r1 ∧ 0 = r2 ∧ 0 = r3 ∧ 0 = r4 ∧ 0 = r5 ∧ [] = r6 ∧ 1 = r7 := by
          unfold purse_Serve.f at h
          rw [if_neg (fun q => g3 q.2.2.1)] at h
          simpa using h
        have g3' : 64 < l.length := by omega
        clear h HH
        go_enter Try.func59, Try.ntmps59
        go_wp2_with fail
        obtain ⟨V, hV⟩ : ∃ V_, (((w.alloc (Obj.cells #[Value.int IntKind.i64 M, Value.int IntKind.i64 E, Value.int IntKind.i64 CM, Value.int IntKind.i64 CE] 59)).alloc (Obj.cells #[Value.int IntKind.i64 im, Value.int IntKind.i64 ie] 48)).alloc (Obj.cells #[Value.int IntKind.i64 0, Value.int IntKind.i64 0, Value.int IntKind.i64 0, Value.int IntKind.i64 0] 59)) = V_ := ⟨_, rfl⟩
        have hB : Below w.heap.size w V := by rw [← hV]; exact below_alloc (below_alloc (below_alloc (Below.refl _ _) _) _) _
        have b0 := blk_alloc (blk_alloc (blk_new w (Obj.cells #[Value.int IntKind.i64 M, Value.int IntKind.i64 E, Value.int IntKind.i64 CM, Value.int IntKind.i64 CE] 59)) (Obj.cells #[Value.int IntKind.i64 im, Value.int IntKind.i64 ie] 48)) (Obj.cells #[Value.int IntKind.i64 0, Value.int IntKind.i64 0, Value.int IntKind.i64 0, Value.int IntKind.i64 0] 59)
        rw [hV] at b0
        have b1 := blk_alloc (blk_new (w.alloc (Obj.cells #[Value.int IntKind.i64 M, Value.int IntKind.i64 E, Value.int IntKind.i64 CM, Value.int IntKind.i64 CE] 59)) (Obj.cells #[Value.int IntKind.i64 im, Value.int IntKind.i64 ie] 48)) (Obj.cells #[Value.int IntKind.i64 0, Value.int IntKind.i64 0, Value.int IntKind.i64 0, Value.int IntKind.i64 0] 59)
        rw [hV] at b1
        have zb1 : (w.alloc (Obj.cells #[Value.int IntKind.i64 M, Value.int IntKind.i64 E, Value.int IntKind.i64 CM, Value.int IntKind.i64 CE] 59)).heap.size = w.heap.size + 1 := by simp
        rw [zb1] at b1
        clear zb1
        have b2 := blk_new ((w.alloc (Obj.cells #[Value.int IntKind.i64 M, Value.int IntKind.i64 E, Value.int IntKind.i64 CM, Value.int IntKind.i64 CE] 59)).alloc (Obj.cells #[Value.int IntKind.i64 im, Value.int IntKind.i64 ie] 48)) (Obj.cells #[Value.int IntKind.i64 0, Value.int IntKind.i64 0, Value.int IntKind.i64 0, Value.int IntKind.i64 0] 59)
        rw [hV] at b2
        have zb2 : ((w.alloc (Obj.cells #[Value.int IntKind.i64 M, Value.int IntKind.i64 E, Value.int IntKind.i64 CM, Value.int IntKind.i64 CE] 59)).alloc (Obj.cells #[Value.int IntKind.i64 im, Value.int IntKind.i64 ie] 48)).heap.size = w.heap.size + 2 := by simp
        rw [zb2] at b2
        clear zb2
        rw [hV]
        clear hV
        refine (purse_May.calls M E CM CE true V H1.out).mono ?_
        rintro e w1 ⟨rfl, hb1⟩
        have HB1 := Lib.hid (below_then hB hB.size hb1)
        have D1 := blk_below b1 hb1
        have D2 := Lib.hid (blk_below b2 hb1)
        clear b0 b1 b2 hB hb1
        have x0 := blk_cell D1 0
        have x1 := blk_cell D1 1
        simp only [List.getElem?_toArray, List.getElem?_cons_succ, List.getElem?_cons_zero] at x0 x1
        go_wp2_with fail
        refine (purse_wish.calls im ie true w1 H2.out).mono ?_
        rintro e w2 ⟨rfl, hb2⟩
        have HB2 := Lib.hid (below_then HB1.out HB1.out.size hb2)
        have L2 : w.heap.size ≤ w2.heap.size := HB2.out.size
        have D3 := Lib.hid (blk_below D2.out hb2)
        clear x0 x1 D1 D2 hb2 HB1
        have Z := D3.out
        have fz := blk_frozen Z
        have hBB := HB2.out
        have q0 := blk_cell Z 0
        have q1 := blk_cell Z 1
        have q2 := blk_cell Z 2
        have q3 := blk_cell Z 3
        simp only [List.getElem?_toArray, List.getElem?_cons_succ, List.getElem?_cons_zero] at q0 q1 q2 q3
        go_wp2
        have e := blk_set (blk_set (blk_set (blk_set (Z) 0 (.int .i64 0)) 1 (.int .i64 0)) 2 (.int .i64 0)) 3 (.int .i64 0)
        have hB3 := below_set (g := w.heap.size + 2) (j := 3) (v := .int .i64 0) (below_set (g := w.heap.size + 2) (j := 2) (v := .int .i64 0) (below_set (g := w.heap.size + 2) (j := 1) (v := .int .i64 0) (below_set (g := w.heap.size + 2) (j := 0) (v := .int .i64 0) (hBB) (by omega)) (by omega)) (by omega)) (by omega)
        generalize ((((w2.setCell ⟨w.heap.size + 2, 0, none⟩ (.int .i64 0)).setCell ⟨w.heap.size + 2, 1, none⟩ (.int .i64 0)).setCell ⟨w.heap.size + 2, 2, none⟩ (.int .i64 0)).setCell ⟨w.heap.size + 2, 3, none⟩ (.int .i64 0)) = V3 at e hB3 ⊢
        have e0 := blk_cell e 0
        have e1 := blk_cell e 1
        have e2 := blk_cell e 2
        have e3 := blk_cell e 3
        simp only [List.setIfInBounds_toArray, List.set_cons_zero, List.set_cons_succ, List.getElem?_toArray, List.getElem?_cons_succ, List.getElem?_cons_zero] at e0 e1 e2 e3
        exact bodyPost_ret (v := .tuple #[.agg #[.int .i64 0, .int .i64 0, .int .i64 0, .int .i64 0], .int .i64 0, .slice none 0 0, .int .i64 1]) (by simp [results, Try.results59, go_sem, e0, e1, e2, e3]) rfl ⟨.slice none 0 0, rfl, Kd.R_nil _ _ _ _ _, hB3⟩
    · rw [decide_eq_false g2] at H2
      have h := HH.out
      obtain ⟨rfl, rfl, rfl, rfl, rfl, rfl, rfl⟩ : 0 = r1 ∧ 0 = r2 ∧ 0 = r3 ∧ 0 = r4 ∧ 0 = r5 ∧ [] = r6 ∧ 1 = r7 := by
        unfold purse_Serve.f at h
        rw [if_neg (fun q => g2 q.2.1)] at h
        simpa using h
      clear h HH
      go_enter Try.func59, Try.ntmps59
      go_wp2_with fail
      obtain ⟨V, hV⟩ : ∃ V_, (((w.alloc (Obj.cells #[Value.int IntKind.i64 M, Value.int IntKind.i64 E, Value.int IntKind.i64 CM, Value.int IntKind.i64 CE] 59)).alloc (Obj.cells #[Value.int IntKind.i64 im, Value.int IntKind.i64 ie] 48)).alloc (Obj.cells #[Value.int IntKind.i64 0, Value.int IntKind.i64 0, Value.int IntKind.i64 0, Value.int IntKind.i64 0] 59)) = V_ := ⟨_, rfl⟩
      have hB : Below w.heap.size w V := by rw [← hV]; exact below_alloc (below_alloc (below_alloc (Below.refl _ _) _) _) _
      have b0 := blk_alloc (blk_alloc (blk_new w (Obj.cells #[Value.int IntKind.i64 M, Value.int IntKind.i64 E, Value.int IntKind.i64 CM, Value.int IntKind.i64 CE] 59)) (Obj.cells #[Value.int IntKind.i64 im, Value.int IntKind.i64 ie] 48)) (Obj.cells #[Value.int IntKind.i64 0, Value.int IntKind.i64 0, Value.int IntKind.i64 0, Value.int IntKind.i64 0] 59)
      rw [hV] at b0
      have b1 := blk_alloc (blk_new (w.alloc (Obj.cells #[Value.int IntKind.i64 M, Value.int IntKind.i64 E, Value.int IntKind.i64 CM, Value.int IntKind.i64 CE] 59)) (Obj.cells #[Value.int IntKind.i64 im, Value.int IntKind.i64 ie] 48)) (Obj.cells #[Value.int IntKind.i64 0, Value.int IntKind.i64 0, Value.int IntKind.i64 0, Value.int IntKind.i64 0] 59)
      rw [hV] at b1
      have zb1 : (w.alloc (Obj.cells #[Value.int IntKind.i64 M, Value.int IntKind.i64 E, Value.int IntKind.i64 CM, Value.int IntKind.i64 CE] 59)).heap.size = w.heap.size + 1 := by simp
      rw [zb1] at b1
      clear zb1
      have b2 := blk_new ((w.alloc (Obj.cells #[Value.int IntKind.i64 M, Value.int IntKind.i64 E, Value.int IntKind.i64 CM, Value.int IntKind.i64 CE] 59)).alloc (Obj.cells #[Value.int IntKind.i64 im, Value.int IntKind.i64 ie] 48)) (Obj.cells #[Value.int IntKind.i64 0, Value.int IntKind.i64 0, Value.int IntKind.i64 0, Value.int IntKind.i64 0] 59)
      rw [hV] at b2
      have zb2 : ((w.alloc (Obj.cells #[Value.int IntKind.i64 M, Value.int IntKind.i64 E, Value.int IntKind.i64 CM, Value.int IntKind.i64 CE] 59)).alloc (Obj.cells #[Value.int IntKind.i64 im, Value.int IntKind.i64 ie] 48)).heap.size = w.heap.size + 2 := by simp
      rw [zb2] at b2
      clear zb2
      rw [hV]
      clear hV
      refine (purse_May.calls M E CM CE true V H1.out).mono ?_
      rintro e w1 ⟨rfl, hb1⟩
      have HB1 := Lib.hid (below_then hB hB.size hb1)
      have D1 := blk_below b1 hb1
      have D2 := Lib.hid (blk_below b2 hb1)
      clear b0 b1 b2 hB hb1
      have x0 := blk_cell D1 0
      have x1 := blk_cell D1 1
      simp only [List.getElem?_toArray, List.getElem?_cons_succ, List.getElem?_cons_zero] at x0 x1
      go_wp2_with fail
      refine (purse_wish.calls im ie false w1 H2.out).mono ?_
      rintro e w2 ⟨rfl, hb2⟩
      have HB2 := Lib.hid (below_then HB1.out HB1.out.size hb2)
      have L2 : w.heap.size ≤ w2.heap.size := HB2.out.size
      have D3 := Lib.hid (blk_below D2.out hb2)
      clear x0 x1 D1 D2 hb2 HB1
      have Z := D3.out
      have fz := blk_frozen Z
      have hBB := HB2.out
      have q0 := blk_cell Z 0
      have q1 := blk_cell Z 1
      have q2 := blk_cell Z 2
      have q3 := blk_cell Z 3
      simp only [List.getElem?_toArray, List.getElem?_cons_succ, List.getElem?_cons_zero] at q0 q1 q2 q3
      go_wp2
      have e := blk_set (blk_set (blk_set (blk_set (Z) 0 (.int .i64 0)) 1 (.int .i64 0)) 2 (.int .i64 0)) 3 (.int .i64 0)
      have hB3 := below_set (g := w.heap.size + 2) (j := 3) (v := .int .i64 0) (below_set (g := w.heap.size + 2) (j := 2) (v := .int .i64 0) (below_set (g := w.heap.size + 2) (j := 1) (v := .int .i64 0) (below_set (g := w.heap.size + 2) (j := 0) (v := .int .i64 0) (hBB) (by omega)) (by omega)) (by omega)) (by omega)
      generalize ((((w2.setCell ⟨w.heap.size + 2, 0, none⟩ (.int .i64 0)).setCell ⟨w.heap.size + 2, 1, none⟩ (.int .i64 0)).setCell ⟨w.heap.size + 2, 2, none⟩ (.int .i64 0)).setCell ⟨w.heap.size + 2, 3, none⟩ (.int .i64 0)) = V3 at e hB3 ⊢
      have e0 := blk_cell e 0
      have e1 := blk_cell e 1
      have e2 := blk_cell e 2
      have e3 := blk_cell e 3
      simp only [List.setIfInBounds_toArray, List.set_cons_zero, List.set_cons_succ, List.getElem?_toArray, List.getElem?_cons_succ, List.getElem?_cons_zero] at e0 e1 e2 e3
      exact bodyPost_ret (v := .tuple #[.agg #[.int .i64 0, .int .i64 0, .int .i64 0, .int .i64 0], .int .i64 0, .slice none 0 0, .int .i64 1]) (by simp [results, Try.results59, go_sem, e0, e1, e2, e3]) rfl ⟨.slice none 0 0, rfl, Kd.R_nil _ _ _ _ _, hB3⟩
  · rw [decide_eq_false g1] at H1
    have h := HH.out
    obtain ⟨rfl, rfl, rfl, rfl, rfl, rfl, rfl⟩ : 0 = r1 ∧ 0 = r2 ∧ 0 = r3 ∧ 0 = r4 ∧ 0 = r5 ∧ [] = r6 ∧ 1 = r7 := by
      unfold purse_Serve.f at h
      rw [if_neg (fun q => g1 q.1)] at h
      simpa using h
    clear h HH
    go_enter Try.func59, Try.ntmps59
    go_wp2_with fail
    obtain ⟨V, hV⟩ : ∃ V_, (((w.alloc (Obj.cells #[Value.int IntKind.i64 M, Value.int IntKind.i64 E, Value.int IntKind.i64 CM, Value.int IntKind.i64 CE] 59)).alloc (Obj.cells #[Value.int IntKind.i64 im, Value.int IntKind.i64 ie] 48)).alloc (Obj.cells #[Value.int IntKind.i64 0, Value.int IntKind.i64 0, Value.int IntKind.i64 0, Value.int IntKind.i64 0] 59)) = V_ := ⟨_, rfl⟩
    have hB : Below w.heap.size w V := by rw [← hV]; exact below_alloc (below_alloc (below_alloc (Below.refl _ _) _) _) _
    have b0 := blk_alloc (blk_alloc (blk_new w (Obj.cells #[Value.int IntKind.i64 M, Value.int IntKind.i64 E, Value.int IntKind.i64 CM, Value.int IntKind.i64 CE] 59)) (Obj.cells #[Value.int IntKind.i64 im, Value.int IntKind.i64 ie] 48)) (Obj.cells #[Value.int IntKind.i64 0, Value.int IntKind.i64 0, Value.int IntKind.i64 0, Value.int IntKind.i64 0] 59)
    rw [hV] at b0
    have b1 := blk_alloc (blk_new (w.alloc (Obj.cells #[Value.int IntKind.i64 M, Value.int IntKind.i64 E, Value.int IntKind.i64 CM, Value.int IntKind.i64 CE] 59)) (Obj.cells #[Value.int IntKind.i64 im, Value.int IntKind.i64 ie] 48)) (Obj.cells #[Value.int IntKind.i64 0, Value.int IntKind.i64 0, Value.int IntKind.i64 0, Value.int IntKind.i64 0] 59)
    rw [hV] at b1
    have zb1 : (w.alloc (Obj.cells #[Value.int IntKind.i64 M, Value.int IntKind.i64 E, Value.int IntKind.i64 CM, Value.int IntKind.i64 CE] 59)).heap.size = w.heap.size + 1 := by simp
    rw [zb1] at b1
    clear zb1
    have b2 := blk_new ((w.alloc (Obj.cells #[Value.int IntKind.i64 M, Value.int IntKind.i64 E, Value.int IntKind.i64 CM, Value.int IntKind.i64 CE] 59)).alloc (Obj.cells #[Value.int IntKind.i64 im, Value.int IntKind.i64 ie] 48)) (Obj.cells #[Value.int IntKind.i64 0, Value.int IntKind.i64 0, Value.int IntKind.i64 0, Value.int IntKind.i64 0] 59)
    rw [hV] at b2
    have zb2 : ((w.alloc (Obj.cells #[Value.int IntKind.i64 M, Value.int IntKind.i64 E, Value.int IntKind.i64 CM, Value.int IntKind.i64 CE] 59)).alloc (Obj.cells #[Value.int IntKind.i64 im, Value.int IntKind.i64 ie] 48)).heap.size = w.heap.size + 2 := by simp
    rw [zb2] at b2
    clear zb2
    rw [hV]
    clear hV
    refine (purse_May.calls M E CM CE false V H1.out).mono ?_
    rintro e w1 ⟨rfl, hb1⟩
    have HB1 := Lib.hid (below_then hB hB.size hb1)
    have L2 : w.heap.size ≤ w1.heap.size := HB1.out.size
    have D3 := Lib.hid (blk_below b2 hb1)
    clear b0 b1 b2 hB hb1
    have Z := D3.out
    have fz := blk_frozen Z
    have hBB := HB1.out
    have q0 := blk_cell Z 0
    have q1 := blk_cell Z 1
    have q2 := blk_cell Z 2
    have q3 := blk_cell Z 3
    simp only [List.getElem?_toArray, List.getElem?_cons_succ, List.getElem?_cons_zero] at q0 q1 q2 q3
    go_wp2
    have e := blk_set (blk_set (blk_set (blk_set (Z) 0 (.int .i64 0)) 1 (.int .i64 0)) 2 (.int .i64 0)) 3 (.int .i64 0)
    have hB3 := below_set (g := w.heap.size + 2) (j := 3) (v := .int .i64 0) (below_set (g := w.heap.size + 2) (j := 2) (v := .int .i64 0) (below_set (g := w.heap.size + 2) (j := 1) (v := .int .i64 0) (below_set (g := w.heap.size + 2) (j := 0) (v := .int .i64 0) (hBB) (by omega)) (by omega)) (by omega)) (by omega)
    generalize ((((w1.setCell ⟨w.heap.size + 2, 0, none⟩ (.int .i64 0)).setCell ⟨w.heap.size + 2, 1, none⟩ (.int .i64 0)).setCell ⟨w.heap.size + 2, 2, none⟩ (.int .i64 0)).setCell ⟨w.heap.size + 2, 3, none⟩ (.int .i64 0)) = V3 at e hB3 ⊢
    have e0 := blk_cell e 0
    have e1 := blk_cell e 1
    have e2 := blk_cell e 2
    have e3 := blk_cell e 3
    simp only [List.setIfInBounds_toArray, List.set_cons_zero, List.set_cons_succ, List.getElem?_toArray, List.getElem?_cons_succ, List.getElem?_cons_zero] at e0 e1 e2 e3
    exact bodyPost_ret (v := .tuple #[.agg #[.int .i64 0, .int .i64 0, .int .i64 0, .int .i64 0], .int .i64 0, .slice none 0 0, .int .i64 1]) (by simp [results, Try.results59, go_sem, e0, e1, e2, e3]) rfl ⟨.slice none 0 0, rfl, Kd.R_nil _ _ _ _ _, hB3⟩
end Go.Proofs.Ytikhgdbbbingbaa.MPu
namespace Go.Proofs.Ytikhgdbbbingbaa.MPu
open Go.RowKit Go.Proofs.YtikhgdbbbingbaaW.PrintWords Go.Proofs.YtikhgdbbbingbaaW.PrintLast Go.Proofs.YtikhgdbbbingbaaW.PrintMore
attribute [local go_sem] max2_int min2_int max_two min_two max_three min_three max_four min_four
set_option linter.unusedVariables false
set_option linter.unusedSimpArgs false
theorem k48_heap : Kd.Heap k48 := Kd.heap_iso _ (Kd.heap_pair (Kd.heap_int .i64) (Kd.heap_int .i64))
end Go.Proofs.Ytikhgdbbbingbaa.MPu
namespace Go.Proofs.Ytikhgdbbbingbaa.MPu
open Go.RowKit Go.Proofs.YtikhgdbbbingbaaW.PrintWords Go.Proofs.YtikhgdbbbingbaaW.PrintLast Go.Proofs.YtikhgdbbbingbaaW.PrintMore
attribute [local go_sem] max2_int min2_int max_two min_two max_three min_three max_four min_four
set_option linter.unusedVariables false
set_option linter.unusedSimpArgs false
theorem eqA48 (d : Nat) (w : World) (x0 y0 : Int) (x1 y1 : Int) :
    (Op.equalIn (d + 2) 48 (.agg #[.int .i64 x0, .int .i64 x1]) (.agg #[.int .i64 y0, .int .i64 y1])).run Try.prog w = .ok (x0 == y0 && (x1 == y1)) w := by
  refine eqA_of Try.underlying48 (by kernel_rfl) ?_
  refine eqf_cons (by rfl) (by go_simp; rfl) (by go_simp; rfl) (by go_simp) ?_
  exact eqf_last (by rfl) (by go_simp; rfl) (by go_simp; rfl) (by go_simp)
end Go.Proofs.Ytikhgdbbbingbaa.MPu
namespace Go.Proofs.Ytikhgdbbbingbaa.MPu
open Go.RowKit Go.Proofs.YtikhgdbbbingbaaW.PrintWords Go.Proofs.YtikhgdbbbingbaaW.PrintLast Go.Proofs.YtikhgdbbbingbaaW.PrintMore
attribute [local go_sem] max2_int min2_int max_two min_two max_three min_three max_four min_four
set_option linter.unusedVariables false
set_option linter.unusedSimpArgs false
theorem eqA59 (d : Nat) (w : World) (x0 y0 : Int) (x1 y1 : Int) (x2 y2 : Int) (x3 y3 : Int) :
    (Op.equalIn (d + 2) 59 (.agg #[.int .i64 x0, .int .i64 x1, .int .i64 x2, .int .i64 x3]) (.agg #[.int .i64 y0, .int .i64 y1, .int .i64 y2, .int .i64 y3])).run Try.prog w = .ok (x0 == y0 && (x1 == y1 && (x2 == y2 && (x3 == y3)))) w := by
  refine eqA_of Try.underlying59 (by kernel_rfl) ?_
  refine eqf_cons (by rfl) (by go_simp; rfl) (by go_simp; rfl) (by go_simp) ?_
  refine eqf_cons (by rfl) (by go_simp; rfl) (by go_simp; rfl) (by go_simp) ?_
  refine eqf_cons (by rfl) (by go_simp; rfl) (by go_simp; rfl) (by go_simp) ?_
  exact eqf_last (by rfl) (by go_simp; rfl) (by go_simp; rfl) (by go_simp)
end Go.Proofs.Ytikhgdbbbingbaa.MPu
