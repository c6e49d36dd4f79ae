/- What the claim's proof leans on: texts of this claim, laid together. -/
import Derived.Test.YtbcddiaplpbhjaaDoorB5
import Derived.Lib.Hide
namespace Go.Proofs.YtbcddiaplpbhjaaDoor.MAi
open Go.RowKit Go.Proofs.YtbcddiaplpbhjaaDoorW.PrintWords Go.Proofs.YtbcddiaplpbhjaaDoorW.PrintLast Go.Proofs.YtbcddiaplpbhjaaDoorW.PrintMore
attribute [local go_sem] max2_int min2_int max_two min_two max_three min_three max_four min_four
set_option linter.unusedVariables false
set_option linter.unusedSimpArgs false
noncomputable def relief_Height.f (k : Nat) (a0_0 : Int) (a0_1 : Int) (a0_2 : Int) (l0_3 : List Int) (a1 : Int) (a2 : Int) : Option (Int × Int) := (relief_Check.f k a0_0 a0_1 a0_2 l0_3).bind fun t272 => (if t272 = 0 then ((relief_On.f k a0_0 a0_1 a0_2 l0_3 a1 a2).bind fun t273 => (if t273 = true then ((fix_Whole.f a1).bind fun t274 => ((fix_Whole.f a2).bind fun t275 => ((relief_corners.f a0_0 a0_1 a0_2 l0_3 t274 t275).bind fun bt276 => ((fix_Part.f a1).bind fun t281 => ((fix_Part.f a2).bind fun t282 => (some ((wrap64 ((wrap64 ((wrap64 ((wrap64 (bt276.1 * (wrap64 (65536 - t281)))) + (wrap64 (bt276.2.1 * t281)))) * (wrap64 (65536 - t282)))) + (wrap64 ((wrap64 ((wrap64 (bt276.2.2.1 * (wrap64 (65536 - t281)))) + (wrap64 (bt276.2.2.2 * t281)))) * t282)))) / 65536, 0))))))) else (some (0, 4)))) else (some (0, 1)))
theorem relief_Height.mono : ∀ a0 a1 a2 a3 a4 a5 k, LeO (relief_Height.f k a0 a1 a2 a3 a4 a5) (relief_Height.f (k + 1) a0 a1 a2 a3 a4 a5) := by
  intro a0 a1 a2 a3 a4 a5 k
  unfold relief_Height.f
  repeat' first
      | (with_reducible exact relief_Check.mono _ _ _ _ _)
      | (with_reducible exact relief_On.mono _ _ _ _ _ _ _)
      | (with_reducible exact LeO.refl _)
      | (with_reducible exact LeO.none _)
      | (with_reducible refine LeO.ite ?_ ?_)
      | (with_reducible refine LeO.bind ?_ (fun _ => ?_))
      | exact relief_Check.mono _ _ _ _ _
      | exact relief_On.mono _ _ _ _ _ _ _
      | exact LeO.none _
      | refine LeO.ite ?_ ?_
      | refine LeO.bind ?_ (fun _ => ?_)
def relief_Height.T5 : Bool × List (List Nat × List Nat) := (true, [([], []), ([], []), ([1], [1]), ([], []), ([3, 2], [3]), ([0, 2, 4, 4], [0, 2, 4]), ([], []), ([6, 5, 5, 0, 1, 2, 3, 4, 5, 6], [5, 6])])
def relief_Height.B5 : List Nat := [0, 0, 2, 0, 14, 31, 0, 127]
theorem relief_Height.tab5 : rtab .any (opsOf Tryd.f79 5) = relief_Height.T5 := by kernel_rfl
theorem relief_Height.bits5 : waitsOk relief_Height.T5.2 relief_Height.B5 = true := by kernel_rfl
set_option maxHeartbeats 8000000 in
set_option maxRecDepth 100000 in
theorem relief_Height.calls (k : Nat) (a0_0 : Int) (a0_1 : Int) (a0_2 : Int) (A0_3 : Option Addr) (c0_3 : Nat) (l0_3 : List Int) (a1 : Int) (a2 : Int) (r1 : Int) (r2 : Int) (w : World) (hr0_3 : Kd.C (Kd.int .u8) w A0_3 l0_3.length l0_3) (hc0_3 : l0_3.length ≤ c0_3) (h : relief_Height.f k a0_0 a0_1 a0_2 l0_3 a1 a2 = some (r1, r2)) :
    Calls Tryd.prog 79 #[.agg #[.int .i64 a0_0, .int .i64 a0_1, .int .i64 a0_2, .slice A0_3 l0_3.length c0_3], .int .i64 a1, .int .i64 a2] w fun e w' => e = .returned (.tuple #[.int .i64 r1, .int .i64 r2]) ∧ Below w.heap.size w w' := by
  have hu45 := Tryd.underlying45
  have hu114 := Tryd.underlying114
  have HR0_3 := Aside0.mk hr0_3
  have HC0_3 := Aside0.mk hc0_3
  clear hr0_3 hc0_3
  have HB := Aside0.mk (Below.refl w.heap.size w)
  have H : ((relief_Check.f k a0_0 a0_1 a0_2 l0_3).bind fun t272 => (if t272 = 0 then ((relief_On.f k a0_0 a0_1 a0_2 l0_3 a1 a2).bind fun t273 => (if t273 = true then ((fix_Whole.f a1).bind fun t274 => ((fix_Whole.f a2).bind fun t275 => ((relief_corners.f a0_0 a0_1 a0_2 l0_3 t274 t275).bind fun bt276 => ((fix_Part.f a1).bind fun t281 => ((fix_Part.f a2).bind fun t282 => (some ((wrap64 ((wrap64 ((wrap64 ((wrap64 (bt276.1 * (wrap64 (65536 - t281)))) + (wrap64 (bt276.2.1 * t281)))) * (wrap64 (65536 - t282)))) + (wrap64 ((wrap64 ((wrap64 (bt276.2.2.1 * (wrap64 (65536 - t281)))) + (wrap64 (bt276.2.2.2 * t281)))) * t282)))) / 65536, 0))))))) else (some (0, 4)))) else (some (0, 1)))) = some (r1, r2) := h
  clear h
  replace H := Option.bind_eq_some_iff.mp H
  obtain ⟨t272, A40, H⟩ := H
  replace H : (if t272 = 0 then ((relief_On.f k a0_0 a0_1 a0_2 l0_3 a1 a2).bind fun t273 => (if t273 = true then ((fix_Whole.f a1).bind fun t274 => ((fix_Whole.f a2).bind fun t275 => ((relief_corners.f a0_0 a0_1 a0_2 l0_3 t274 t275).bind fun bt276 => ((fix_Part.f a1).bind fun t281 => ((fix_Part.f a2).bind fun t282 => (some ((wrap64 ((wrap64 ((wrap64 ((wrap64 (bt276.1 * (wrap64 (65536 - t281)))) + (wrap64 (bt276.2.1 * t281)))) * (wrap64 (65536 - t282)))) + (wrap64 ((wrap64 ((wrap64 (bt276.2.2.1 * (wrap64 (65536 - t281)))) + (wrap64 (bt276.2.2.2 * t281)))) * t282)))) / 65536, 0))))))) else (some (0, 4)))) else (some (0, 1))) = some (r1, r2) := H
  have A4 := Aside0.mk A40
  clear A40
  by_cases c5 : t272 = 0
  · rw [if_pos c5] at H
    have c5b0 : (t272 == 0) = true := beq_iff_eq.mpr c5
    have c5b1 : (t272 != 0) = false := bne_eq_false_iff_eq.mpr c5
    clear c5
    replace H := Option.bind_eq_some_iff.mp H
    obtain ⟨t273, A60, H⟩ := H
    replace H : (if t273 = true then ((fix_Whole.f a1).bind fun t274 => ((fix_Whole.f a2).bind fun t275 => ((relief_corners.f a0_0 a0_1 a0_2 l0_3 t274 t275).bind fun bt276 => ((fix_Part.f a1).bind fun t281 => ((fix_Part.f a2).bind fun t282 => (some ((wrap64 ((wrap64 ((wrap64 ((wrap64 (bt276.1 * (wrap64 (65536 - t281)))) + (wrap64 (bt276.2.1 * t281)))) * (wrap64 (65536 - t282)))) + (wrap64 ((wrap64 ((wrap64 (bt276.2.2.1 * (wrap64 (65536 - t281)))) + (wrap64 (bt276.2.2.2 * t281)))) * t282)))) / 65536, 0))))))) else (some (0, 4))) = some (r1, r2) := H
    have A6 := Aside0.mk A60
    clear A60
    by_cases c7 : t273 = true
    · subst c7
      have H1 : ((fix_Whole.f a1).bind fun t274 => ((fix_Whole.f a2).bind fun t275 => ((relief_corners.f a0_0 a0_1 a0_2 l0_3 t274 t275).bind fun bt276 => ((fix_Part.f a1).bind fun t281 => ((fix_Part.f a2).bind fun t282 => (some ((wrap64 ((wrap64 ((wrap64 ((wrap64 (bt276.1 * (wrap64 (65536 - t281)))) + (wrap64 (bt276.2.1 * t281)))) * (wrap64 (65536 - t282)))) + (wrap64 ((wrap64 ((wrap64 (bt276.2.2.1 * (wrap64 (65536 - t281)))) + (wrap64 (bt276.2.2.2 * t281)))) * t282)))) / 65536, 0))))))) = some (r1, r2) := by rw [if_pos rfl] at H; exact H
      clear H
      have H := H1
      clear H1
      replace H := Option.bind_eq_some_iff.mp H
      obtain ⟨t274, A80, H⟩ := H
      replace H : ((fix_Whole.f a2).bind fun t275 => ((relief_corners.f a0_0 a0_1 a0_2 l0_3 t274 t275).bind fun bt276 => ((fix_Part.f a1).bind fun t281 => ((fix_Part.f a2).bind fun t282 => (some ((wrap64 ((wrap64 ((wrap64 ((wrap64 (bt276.1 * (wrap64 (65536 - t281)))) + (wrap64 (bt276.2.1 * t281)))) * (wrap64 (65536 - t282)))) + (wrap64 ((wrap64 ((wrap64 (bt276.2.2.1 * (wrap64 (65536 - t281)))) + (wrap64 (bt276.2.2.2 * t281)))) * t282)))) / 65536, 0)))))) = some (r1, r2) := H
      have A8 := Aside0.mk A80
      clear A80
      replace H := Option.bind_eq_some_iff.mp H
      obtain ⟨t275, A90, H⟩ := H
      replace H : ((relief_corners.f a0_0 a0_1 a0_2 l0_3 t274 t275).bind fun bt276 => ((fix_Part.f a1).bind fun t281 => ((fix_Part.f a2).bind fun t282 => (some ((wrap64 ((wrap64 ((wrap64 ((wrap64 (bt276.1 * (wrap64 (65536 - t281)))) + (wrap64 (bt276.2.1 * t281)))) * (wrap64 (65536 - t282)))) + (wrap64 ((wrap64 ((wrap64 (bt276.2.2.1 * (wrap64 (65536 - t281)))) + (wrap64 (bt276.2.2.2 * t281)))) * t282)))) / 65536, 0))))) = some (r1, r2) := H
      have A9 := Aside0.mk A90
      clear A90
      replace H := Option.bind_eq_some_iff.mp H
      obtain ⟨⟨t276, t277, t278, t279⟩, A100, H⟩ := H
      replace H : ((fix_Part.f a1).bind fun t281 => ((fix_Part.f a2).bind fun t282 => (some ((wrap64 ((wrap64 ((wrap64 ((wrap64 (t276 * (wrap64 (65536 - t281)))) + (wrap64 (t277 * t281)))) * (wrap64 (65536 - t282)))) + (wrap64 ((wrap64 ((wrap64 (t278 * (wrap64 (65536 - t281)))) + (wrap64 (t279 * t281)))) * t282)))) / 65536, 0)))) = some (r1, r2) := H
      have A10 := Aside0.mk A100
      clear A100
      replace H := Option.bind_eq_some_iff.mp H
      obtain ⟨t281, A110, H⟩ := H
      replace H : ((fix_Part.f a2).bind fun t282 => (some ((wrap64 ((wrap64 ((wrap64 ((wrap64 (t276 * (wrap64 (65536 - t281)))) + (wrap64 (t277 * t281)))) * (wrap64 (65536 - t282)))) + (wrap64 ((wrap64 ((wrap64 (t278 * (wrap64 (65536 - t281)))) + (wrap64 (t279 * t281)))) * t282)))) / 65536, 0))) = some (r1, r2) := H
      have A11 := Aside0.mk A110
      clear A110
      replace H := Option.bind_eq_some_iff.mp H
      obtain ⟨t282, A120, H⟩ := H
      replace H : (some ((wrap64 ((wrap64 ((wrap64 ((wrap64 (t276 * (wrap64 (65536 - t281)))) + (wrap64 (t277 * t281)))) * (wrap64 (65536 - t282)))) + (wrap64 ((wrap64 ((wrap64 (t278 * (wrap64 (65536 - t281)))) + (wrap64 (t279 * t281)))) * t282)))) / 65536, 0)) = some (r1, r2) := H
      have A12 := Aside0.mk A120
      clear A120
      simp only [Option.some.injEq, Prod.mk.injEq] at H
      obtain ⟨rfl, rfl⟩ := H
      go_enter Tryd.func79, Tryd.ntmps79
      try go_wp2_with (first | ((with_reducible refine gate_dst (N := 3) rfl ?_); refine box_event ?hg (N := 3) ?hd (cs := #[.int .i64 a0_0, .int .i64 a0_1, .int .i64 a0_2, .slice A0_3 l0_3.length c0_3]) (t := 45) ?hr ?_; (case hd => rfl); (case hg => rfl); (case hr => first | (go_simp; done) | (go_simp; rfl)); intro gb271 hg w13 hbox hb; have n0_ := Aside0.mk (below_step (by repeat (first | (with_reducible first | exact HB.out | apply below_alloc | apply pw_below_drewN | apply below_drew1) | exact HB.out)) hb); have n1_ := Aside0.mk (hbox); have n2_ := Aside0.mk ((by rw [hg]; exact (below_size (by repeat (first | (with_reducible first | exact HB.out | apply below_alloc | apply pw_below_drewN | apply below_drew1) | exact HB.out))) : w.heap.size ≤ gb271)); have n3_ := Aside0.mk ((by rw [hg]; exact (below_size (by repeat (first | (with_reducible first | exact HB.out | apply below_alloc | apply pw_below_drewN | apply below_drew1) | exact HB.out))) : w.heap.size ≤ gb271)); clear HB; have HB := n0_; have BK271 := n1_; have GW271 := n2_; have GE271 := n3_; clear n0_ n1_ n2_ n3_; clear hb hbox hg; have hcz14_0 : w13.cell? ⟨gb271, 0, none⟩ = some (.int .i64 a0_0) := (blk_cell BK271.out 0).trans rfl; have hcz14_1 : w13.cell? ⟨gb271, 1, none⟩ = some (.int .i64 a0_1) := (blk_cell BK271.out 1).trans rfl; have hcz14_2 : w13.cell? ⟨gb271, 2, none⟩ = some (.int .i64 a0_2) := (blk_cell BK271.out 2).trans rfl; have hcz14_3 : w13.cell? ⟨gb271, 3, none⟩ = some (.slice A0_3 l0_3.length c0_3) := (blk_cell BK271.out 3).trans rfl; have hfz14_0 := blk_frozen BK271.out 0; have hfz14_1 := blk_frozen BK271.out 1; have hfz14_2 := blk_frozen BK271.out 2; have hfz14_3 := blk_frozen BK271.out 3) | ((with_reducible refine gate_callee (f := 75) rfl ?_); refine goesL_ (some 14) rfl rfl Tryd.func75 (by kernel_rfl) rfl #[.agg #[.int .i64 a0_0, .int .i64 a0_1, .int .i64 a0_2, .slice A0_3 l0_3.length c0_3]] rfl (by (try simp only [List.map_toArray, List.map_cons, List.map_nil]); first | done | rfl | (simp only [List.length_drop, List.length_take]; rfl)) ?_; (with_reducible refine (relief_Check.calls k a0_0 a0_1 a0_2 _ _ l0_3 t272 _ ?side1 ?side2 A4.out).mono ?_); (case side1 => repeat (first | exact (Kd.C_below HR0_3.out HB.out) | (with_reducible refine Kd.C_alloc ?_ _) | (with_reducible refine Kd.C_drewN ?_ _) | (with_reducible refine Kd.C_drew ?_))); (case side2 => exact HC0_3.out); rintro e w15 ⟨rfl, hb⟩; refine ⟨_, rfl, ?_⟩; have n0_ := Aside0.mk (blk_below (g := gb271) (o := .cells #[.int .i64 a0_0, .int .i64 a0_1, .int .i64 a0_2, .slice A0_3 l0_3.length c0_3] 45 (0, 0)) (by (with_reducible repeat (first | refine blk_drewN ?_ _ | refine blk_drew ?_ | refine blk_alloc ?_ _)); exact BK271.out) hb); have n1_ := Aside0.mk (below_step (by repeat (first | (with_reducible first | exact HB.out | apply below_alloc | apply pw_below_drewN | apply below_drew1 | refine below_set ?_ GE271.out) | exact HB.out)) hb); clear BK271; clear HB; have BK271 := n0_; have HB := n1_; clear n0_ n1_; (try clear hb); (try clear hb2); (try clear hk); (try clear hi); have hcz16_0 : w15.cell? ⟨gb271, 0, none⟩ = some (.int .i64 a0_0) := (blk_cell BK271.out 0).trans rfl; have hcz16_1 : w15.cell? ⟨gb271, 1, none⟩ = some (.int .i64 a0_1) := (blk_cell BK271.out 1).trans rfl; have hcz16_2 : w15.cell? ⟨gb271, 2, none⟩ = some (.int .i64 a0_2) := (blk_cell BK271.out 2).trans rfl; have hcz16_3 : w15.cell? ⟨gb271, 3, none⟩ = some (.slice A0_3 l0_3.length c0_3) := (blk_cell BK271.out 3).trans rfl; have hfz16_0 := blk_frozen BK271.out 0; have hfz16_1 := blk_frozen BK271.out 1; have hfz16_2 := blk_frozen BK271.out 2; have hfz16_3 := blk_frozen BK271.out 3) | ((with_reducible refine gate_callee (f := 55) rfl ?_); refine goesL_ (some 19) rfl rfl Tryd.func55 (by kernel_rfl) rfl #[.agg #[.int .i64 a0_0, .int .i64 a0_1, .int .i64 a0_2, .slice A0_3 l0_3.length c0_3], .int .i64 a1, .int .i64 a2] rfl (by (try simp only [List.map_toArray, List.map_cons, List.map_nil]); first | done | rfl | (simp only [List.length_drop, List.length_take]; rfl)) ?_; (with_reducible refine (relief_On.calls k a0_0 a0_1 a0_2 _ _ l0_3 a1 a2 true _ ?side1 ?side2 A6.out).mono ?_); (case side1 => repeat (first | exact (Kd.C_below HR0_3.out HB.out) | (with_reducible refine Kd.C_alloc ?_ _) | (with_reducible refine Kd.C_drewN ?_ _) | (with_reducible refine Kd.C_drew ?_))); (case side2 => exact HC0_3.out); rintro e w17 ⟨rfl, hb⟩; refine ⟨_, rfl, ?_⟩; have n0_ := Aside0.mk (blk_below (g := gb271) (o := .cells #[.int .i64 a0_0, .int .i64 a0_1, .int .i64 a0_2, .slice A0_3 l0_3.length c0_3] 45 (0, 0)) (by (with_reducible repeat (first | refine blk_drewN ?_ _ | refine blk_drew ?_ | refine blk_alloc ?_ _)); exact BK271.out) hb); have n1_ := Aside0.mk (below_step (by repeat (first | (with_reducible first | exact HB.out | apply below_alloc | apply pw_below_drewN | apply below_drew1 | refine below_set ?_ GE271.out) | exact HB.out)) hb); clear BK271; clear HB; have BK271 := n0_; have HB := n1_; clear n0_ n1_; (try clear hb); (try clear hb2); (try clear hk); (try clear hi)))
      have n0_ := Aside0.mk (blk_drew BK271.out)
      have n1_ := Aside0.mk (below_drew1 HB.out)
      clear BK271
      clear HB
      have BK271 := n0_
      have HB := n1_
      clear n0_ n1_
      refine start_ (n := 8) (S := fun w' => w'.cell? ⟨gb271, 0, none⟩ = some (.int .i64 a0_0) ∧ w'.cell? ⟨gb271, 1, none⟩ = some (.int .i64 a0_1) ∧ w'.cell? ⟨gb271, 2, none⟩ = some (.int .i64 a0_2) ∧ w'.cell? ⟨gb271, 3, none⟩ = some (.slice A0_3 l0_3.length c0_3)) (ds := []) #[false, false, false, false, false, false, false, false] (by kernel_rfl) rfl rfl ⟨(blk_cell BK271.out 0).trans rfl, (blk_cell BK271.out 1).trans rfl, (blk_cell BK271.out 2).trans rfl, (blk_cell BK271.out 3).trans rfl⟩ (fun hHeld => ?_); refine with_tabW relief_Height.tab5 relief_Height.bits5 (fun HT_ HW_ => ?_)
      generalize w17.drew = w18 at BK271 HB hHeld ⊢
      refine pure_ (i := 1) (N := some 22) (v := ?_) (a' := ?_) #[false, true, false, false, false, false, false, false] rfl rfl (any_of HT_.out (by kernel_rfl)) (fun _ _ _ h => h) (Or.inl ⟨by rfl, ?_⟩) ?_ ?_
      rotate_left
      · intro w'
        go_simp
        with_reducible rfl
      rotate_left
      · simp only [Act.put, List.setIfInBounds_toArray, List.set_cons_zero, List.set_cons_succ, i64_w, i32_w]
        rfl
      refine pure_ (i := 3) (N := some 24) (v := ?_) (a' := ?_) #[false, true, false, true, false, false, false, false] rfl rfl (any_of HT_.out (by kernel_rfl)) (fun _ _ _ h => h) (Or.inl ⟨by rfl, ?_⟩) ?_ ?_
      rotate_left
      · intro w'
        go_simp
        with_reducible rfl
      rotate_left
      · simp only [Act.put, List.setIfInBounds_toArray, List.set_cons_zero, List.set_cons_succ, i64_w, i32_w]
        rfl
      refine take_ (i := 0) (N := some 21) (v := ?_) (a' := ?_) #[true, true, false, true, false, false, false, false] rfl rfl (take_ofW HT_.out HW_.out (by kernel_rfl)) (fun _ _ _ h => h) (Or.inl ⟨by rfl, ?_⟩) hHeld ?_ ?_
      rotate_left
      · rintro w' ⟨s0, s1, s2, s3⟩
        go_simp
        with_reducible rfl
      rotate_left
      · simp only [Act.put, List.setIfInBounds_toArray, List.set_cons_zero, List.set_cons_succ, i64_w, i32_w]
        rfl
      refine join_ (σ := Nat) 1 #[true, true, true, true, true, true, true, false] (fun s_ => [(23, .int .i64 t274), (25, .int .i64 t275), (26, .agg #[.int .i64 t276, .int .i64 t277, .int .i64 t278, .int .i64 t279]), (8, .pointer (some ⟨s_, 0, none⟩))]) (fun s_ w' => (w'.cell? ⟨gb271, 0, none⟩ = some (.int .i64 a0_0) ∧ w'.cell? ⟨gb271, 1, none⟩ = some (.int .i64 a0_1) ∧ w'.cell? ⟨gb271, 2, none⟩ = some (.int .i64 a0_2) ∧ w'.cell? ⟨gb271, 3, none⟩ = some (.slice A0_3 l0_3.length c0_3)) ∧ (w'.heap[gb271]? = some (.cells #[.int .i64 a0_0, .int .i64 a0_1, .int .i64 a0_2, .slice A0_3 l0_3.length c0_3] 45 (0, 0))) ∧ (w'.heap[s_]? = some (.cells #[.int .i64 0, .int .i64 0, .int .i64 0, .int .i64 0] 114 (0, 0))) ∧ (w.heap.size ≤ s_) ∧ (w.heap.size ≤ s_) ∧ (gb271 ≠ s_) ∧ (s_ ≠ gb271) ∧ (Below w.heap.size w w')) ?_ ?_
      rotate_left
      · intro hCont
        refine two_ (i := 2) (j := 6) (Ni := some 23) (Nj := some 8) #[true, true, true, true, false, false, false, false] #[true, true, false, true, false, false, true, false] rfl rfl rfl rfl (two_of HT_.out (by kernel_rfl)) (by decide) (by decide) (fun K hK => ?_) (fun K hK => ?_)
        · skip
          refine goes_ Tryd.func58 (by kernel_rfl) rfl #[.int .i64 a1] (by rfl) rfl rfl (by (try simp only [List.map_toArray, List.map_cons, List.map_nil]); first | done | rfl | (simp only [List.length_drop, List.length_take]; rfl)) ?_
          with_reducible refine (fix_Whole.calls a1 t274 _ A8.out).mono ?_
          rintro e w' ⟨rfl, ⟨nd, rfl⟩⟩
          refine ⟨_, rfl, ?_⟩
          refine hK.out _ _ ⟨(blk_cell BK271.out 0).trans rfl, (blk_cell BK271.out 1).trans rfl, (blk_cell BK271.out 2).trans rfl, (blk_cell BK271.out 3).trans rfl⟩ (fun hHeld => ?_)
          clear hK K
          refine norm_ (a' := ?_) ?_ ?_
          rotate_left
          · show Act.put _ (some 23) _ = _
            simp only [Act.put, List.setIfInBounds_toArray, List.set_cons_zero, List.set_cons_succ, i64_w, i32_w]
            rfl
          refine two_ (i := 4) (j := 6) (Ni := some 25) (Nj := some 8) #[true, true, true, true, true, false, false, false] #[true, true, true, true, false, false, true, false] rfl rfl rfl rfl (two_of HT_.out (by kernel_rfl)) (by decide) (by decide) (fun K hK => ?_) (fun K hK => ?_)
          · skip
            refine goes_ Tryd.func58 (by kernel_rfl) rfl #[.int .i64 a2] (by rfl) rfl rfl (by (try simp only [List.map_toArray, List.map_cons, List.map_nil]); first | done | rfl | (simp only [List.length_drop, List.length_take]; rfl)) ?_
            with_reducible refine (fix_Whole.calls a2 t275 _ A9.out).mono ?_
            rintro e w' ⟨rfl, ⟨nd, rfl⟩⟩
            refine ⟨_, rfl, ?_⟩
            refine hK.out _ _ ⟨(blk_cell BK271.out 0).trans rfl, (blk_cell BK271.out 1).trans rfl, (blk_cell BK271.out 2).trans rfl, (blk_cell BK271.out 3).trans rfl⟩ (fun hHeld => ?_)
            clear hK K
            refine norm_ (a' := ?_) ?_ ?_
            rotate_left
            · show Act.put _ (some 25) _ = _
              simp only [Act.put, List.setIfInBounds_toArray, List.set_cons_zero, List.set_cons_succ, i64_w, i32_w]
              rfl
            refine two_ (i := 5) (j := 6) (Ni := some 26) (Nj := some 8) #[true, true, true, true, true, true, false, false] #[true, true, true, true, true, false, true, false] rfl rfl rfl rfl (two_of HT_.out (by kernel_rfl)) (by decide) (by decide) (fun K hK => ?_) (fun K hK => ?_)
            · skip
              refine goes_ Tryd.func89 (by kernel_rfl) rfl #[.agg #[.int .i64 a0_0, .int .i64 a0_1, .int .i64 a0_2, .slice A0_3 l0_3.length c0_3], .int .i64 t274, .int .i64 t275] (by rfl) rfl rfl (by (try simp only [List.map_toArray, List.map_cons, List.map_nil]); first | done | rfl | (simp only [List.length_drop, List.length_take]; rfl)) ?_
              with_reducible refine (relief_corners.calls a0_0 a0_1 a0_2 _ _ l0_3 t274 t275 t276 t277 t278 t279 _ ?side1 ?side2 A10.out).mono ?_
              (case side1 => repeat (first | exact (Kd.C_below HR0_3.out (by repeat (first | (with_reducible first | exact HB.out | apply below_alloc | apply pw_below_drewN | apply below_drew1 | refine below_set ?_ GE271.out) | exact HB.out))) | (with_reducible refine Kd.C_alloc ?_ _) | (with_reducible refine Kd.C_drewN ?_ _) | (with_reducible refine Kd.C_drew ?_)))
              (case side2 => exact HC0_3.out)
              rintro e w19 ⟨rfl, hb⟩
              refine ⟨_, rfl, ?_⟩
              have n0_ := Aside0.mk (blk_below (g := gb271) (o := .cells #[.int .i64 a0_0, .int .i64 a0_1, .int .i64 a0_2, .slice A0_3 l0_3.length c0_3] 45 (0, 0)) (by (with_reducible repeat (first | refine blk_drewN ?_ _ | refine blk_drew ?_ | refine blk_alloc ?_ _)); exact BK271.out) hb)
              have n1_ := Aside0.mk (below_step (by repeat (first | (with_reducible first | exact HB.out | apply below_alloc | apply pw_below_drewN | apply below_drew1 | refine below_set ?_ GE271.out) | exact HB.out)) hb)
              clear BK271
              clear HB
              have BK271 := n0_
              have HB := n1_
              clear n0_ n1_
              (try clear hb)
              (try clear hb2)
              (try clear hk)
              (try clear hi)
              refine hK.out _ _ ⟨(blk_cell BK271.out 0).trans rfl, (blk_cell BK271.out 1).trans rfl, (blk_cell BK271.out 2).trans rfl, (blk_cell BK271.out 3).trans rfl⟩ (fun hHeld => ?_)
              clear hK K
              refine norm_ (a' := ?_) ?_ ?_
              rotate_left
              · show Act.put _ (some 26) _ = _
                simp only [Act.put, List.setIfInBounds_toArray, List.set_cons_zero, List.set_cons_succ, i64_w, i32_w]
                rfl
              refine one_ (i := 6) (N := some 8) #[true, true, true, true, true, true, true, false] rfl rfl (one_of HT_.out (by kernel_rfl)) (by decide) (fun K hK => ?_)
              refine box_step ?hg (N := 8) ?hd (cs := #[.int .i64 0, .int .i64 0, .int .i64 0, .int .i64 0]) (t := 114) ?hr ?_; (case hd => rfl); (case hg => rfl); (case hr => first | (go_simp; done) | (go_simp; rfl))
              intro gb280 hg w20 hbox hb
              have n0_ := Aside0.mk (blk_below (g := gb271) (o := .cells #[.int .i64 a0_0, .int .i64 a0_1, .int .i64 a0_2, .slice A0_3 l0_3.length c0_3] 45 (0, 0)) (by (with_reducible repeat (first | refine blk_drewN ?_ _ | refine blk_drew ?_ | refine blk_alloc ?_ _)); exact BK271.out) hb)
              have n1_ := Aside0.mk (below_step (by repeat (first | (with_reducible first | exact HB.out | apply below_alloc | apply pw_below_drewN | apply below_drew1 | refine below_set ?_ GE271.out) | exact HB.out)) hb)
              have n2_ := Aside0.mk (hbox)
              have n3_ := Aside0.mk ((by rw [hg]; exact (below_size (by repeat (first | (with_reducible first | exact HB.out | apply below_alloc | apply pw_below_drewN | apply below_drew1 | refine below_set ?_ GE271.out) | exact HB.out))) : w.heap.size ≤ gb280))
              have n4_ := Aside0.mk ((by rw [hg]; exact (below_size (by repeat (first | (with_reducible first | exact HB.out | apply below_alloc | apply pw_below_drewN | apply below_drew1 | refine below_set ?_ GE271.out) | exact HB.out))) : w.heap.size ≤ gb280))
              have n5_ := Aside0.mk ((by rw [hg]; exact Nat.ne_of_lt (blk_lt (g := gb271) (o := .cells #[.int .i64 a0_0, .int .i64 a0_1, .int .i64 a0_2, .slice A0_3 l0_3.length c0_3] 45 (0, 0)) (by (with_reducible repeat (first | refine blk_drewN ?_ _ | refine blk_drew ?_ | refine blk_alloc ?_ _)); exact BK271.out)) : gb271 ≠ gb280))
              have n6_ := Aside0.mk ((by rw [hg]; exact Nat.ne_of_gt (blk_lt (g := gb271) (o := .cells #[.int .i64 a0_0, .int .i64 a0_1, .int .i64 a0_2, .slice A0_3 l0_3.length c0_3] 45 (0, 0)) (by (with_reducible repeat (first | refine blk_drewN ?_ _ | refine blk_drew ?_ | refine blk_alloc ?_ _)); exact BK271.out)) : gb280 ≠ gb271))
              clear BK271
              clear HB
              have BK271 := n0_
              have HB := n1_
              have BK280 := n2_
              have GW280 := n3_
              have GE280 := n4_
              have NB271_280 := n5_
              have NB280_271 := n6_
              clear n0_ n1_ n2_ n3_ n4_ n5_ n6_
              clear hb hbox hg
              refine hK.out _ _ ⟨(blk_cell BK271.out 0).trans rfl, (blk_cell BK271.out 1).trans rfl, (blk_cell BK271.out 2).trans rfl, (blk_cell BK271.out 3).trans rfl⟩ (fun hHeld => ?_)
              clear hK K
              refine norm_ (a' := ?_) ?_ ?_
              rotate_left
              · show Act.put _ (some 8) _ = _
                simp only [Act.put, List.setIfInBounds_toArray, List.set_cons_zero, List.set_cons_succ, i64_w, i32_w]
                rfl
              exact norm_ (by simp only [putAll, Act.put, List.setIfInBounds_toArray, List.set_cons_zero, List.set_cons_succ]) (hCont (gb280) _ ⟨hHeld, (by (with_reducible repeat (first | refine blk_drewN ?_ _ | refine blk_drew ?_ | refine blk_alloc ?_ _)); exact BK271.out), (by (with_reducible repeat (first | refine blk_drewN ?_ _ | refine blk_drew ?_ | refine blk_alloc ?_ _)); exact BK280.out), GW280.out, GE280.out, NB271_280.out, NB280_271.out, (by repeat (first | (with_reducible first | exact HB.out | apply below_alloc | apply pw_below_drewN | apply below_drew1 | refine below_set ?_ GE271.out | refine below_set ?_ GE280.out) | exact HB.out))⟩)
            · skip
              refine box_step ?hg (N := 8) ?hd (cs := #[.int .i64 0, .int .i64 0, .int .i64 0, .int .i64 0]) (t := 114) ?hr ?_; (case hd => rfl); (case hg => rfl); (case hr => first | (go_simp; done) | (go_simp; rfl))
              intro gb280 hg w19 hbox hb
              have n0_ := Aside0.mk (blk_below (g := gb271) (o := .cells #[.int .i64 a0_0, .int .i64 a0_1, .int .i64 a0_2, .slice A0_3 l0_3.length c0_3] 45 (0, 0)) (by (with_reducible repeat (first | refine blk_drewN ?_ _ | refine blk_drew ?_ | refine blk_alloc ?_ _)); exact BK271.out) hb)
              have n1_ := Aside0.mk (below_step (by repeat (first | (with_reducible first | exact HB.out | apply below_alloc | apply pw_below_drewN | apply below_drew1 | refine below_set ?_ GE271.out) | exact HB.out)) hb)
              have n2_ := Aside0.mk (hbox)
              have n3_ := Aside0.mk ((by rw [hg]; exact (below_size (by repeat (first | (with_reducible first | exact HB.out | apply below_alloc | apply pw_below_drewN | apply below_drew1 | refine below_set ?_ GE271.out) | exact HB.out))) : w.heap.size ≤ gb280))
              have n4_ := Aside0.mk ((by rw [hg]; exact (below_size (by repeat (first | (with_reducible first | exact HB.out | apply below_alloc | apply pw_below_drewN | apply below_drew1 | refine below_set ?_ GE271.out) | exact HB.out))) : w.heap.size ≤ gb280))
              have n5_ := Aside0.mk ((by rw [hg]; exact Nat.ne_of_lt (blk_lt (g := gb271) (o := .cells #[.int .i64 a0_0, .int .i64 a0_1, .int .i64 a0_2, .slice A0_3 l0_3.length c0_3] 45 (0, 0)) (by (with_reducible repeat (first | refine blk_drewN ?_ _ | refine blk_drew ?_ | refine blk_alloc ?_ _)); exact BK271.out)) : gb271 ≠ gb280))
              have n6_ := Aside0.mk ((by rw [hg]; exact Nat.ne_of_gt (blk_lt (g := gb271) (o := .cells #[.int .i64 a0_0, .int .i64 a0_1, .int .i64 a0_2, .slice A0_3 l0_3.length c0_3] 45 (0, 0)) (by (with_reducible repeat (first | refine blk_drewN ?_ _ | refine blk_drew ?_ | refine blk_alloc ?_ _)); exact BK271.out)) : gb280 ≠ gb271))
              clear BK271
              clear HB
              have BK271 := n0_
              have HB := n1_
              have BK280 := n2_
              have GW280 := n3_
              have GE280 := n4_
              have NB271_280 := n5_
              have NB280_271 := n6_
              clear n0_ n1_ n2_ n3_ n4_ n5_ n6_
              clear hb hbox hg
              refine hK.out _ _ ⟨(blk_cell BK271.out 0).trans rfl, (blk_cell BK271.out 1).trans rfl, (blk_cell BK271.out 2).trans rfl, (blk_cell BK271.out 3).trans rfl⟩ (fun hHeld => ?_)
              clear hK K
              refine norm_ (a' := ?_) ?_ ?_
              rotate_left
              · show Act.put _ (some 8) _ = _
                simp only [Act.put, List.setIfInBounds_toArray, List.set_cons_zero, List.set_cons_succ, i64_w, i32_w]
                rfl
              refine one_ (i := 5) (N := some 26) #[true, true, true, true, true, true, true, false] rfl rfl (one_of HT_.out (by kernel_rfl)) (by decide) (fun K hK => ?_)
              refine goes_ Tryd.func89 (by kernel_rfl) rfl #[.agg #[.int .i64 a0_0, .int .i64 a0_1, .int .i64 a0_2, .slice A0_3 l0_3.length c0_3], .int .i64 t274, .int .i64 t275] (by rfl) rfl rfl (by (try simp only [List.map_toArray, List.map_cons, List.map_nil]); first | done | rfl | (simp only [List.length_drop, List.length_take]; rfl)) ?_
              with_reducible refine (relief_corners.calls a0_0 a0_1 a0_2 _ _ l0_3 t274 t275 t276 t277 t278 t279 _ ?side1 ?side2 A10.out).mono ?_
              (case side1 => repeat (first | exact (Kd.C_below HR0_3.out HB.out) | (with_reducible refine Kd.C_alloc ?_ _) | (with_reducible refine Kd.C_drewN ?_ _) | (with_reducible refine Kd.C_drew ?_)))
              (case side2 => exact HC0_3.out)
              rintro e w20 ⟨rfl, hb⟩
              refine ⟨_, rfl, ?_⟩
              have n0_ := Aside0.mk (blk_below (g := gb271) (o := .cells #[.int .i64 a0_0, .int .i64 a0_1, .int .i64 a0_2, .slice A0_3 l0_3.length c0_3] 45 (0, 0)) (by (with_reducible repeat (first | refine blk_drewN ?_ _ | refine blk_drew ?_ | refine blk_alloc ?_ _)); exact BK271.out) hb)
              have n1_ := Aside0.mk (blk_below (g := gb280) (o := .cells #[.int .i64 0, .int .i64 0, .int .i64 0, .int .i64 0] 114 (0, 0)) (by (with_reducible repeat (first | refine blk_drewN ?_ _ | refine blk_drew ?_ | refine blk_alloc ?_ _)); exact BK280.out) hb)
              have n2_ := Aside0.mk (below_step (by repeat (first | (with_reducible first | exact HB.out | apply below_alloc | apply pw_below_drewN | apply below_drew1 | refine below_set ?_ GE271.out | refine below_set ?_ GE280.out) | exact HB.out)) hb)
              clear BK271
              clear BK280
              clear HB
              have BK271 := n0_
              have BK280 := n1_
              have HB := n2_
              clear n0_ n1_ n2_
              (try clear hb)
              (try clear hb2)
              (try clear hk)
              (try clear hi)
              refine hK.out _ _ ⟨(blk_cell BK271.out 0).trans rfl, (blk_cell BK271.out 1).trans rfl, (blk_cell BK271.out 2).trans rfl, (blk_cell BK271.out 3).trans rfl⟩ (fun hHeld => ?_)
              clear hK K
              refine norm_ (a' := ?_) ?_ ?_
              rotate_left
              · show Act.put _ (some 26) _ = _
                simp only [Act.put, List.setIfInBounds_toArray, List.set_cons_zero, List.set_cons_succ, i64_w, i32_w]
                rfl
              exact norm_ (by simp only [putAll, Act.put, List.setIfInBounds_toArray, List.set_cons_zero, List.set_cons_succ]) (hCont (gb280) _ ⟨hHeld, (by (with_reducible repeat (first | refine blk_drewN ?_ _ | refine blk_drew ?_ | refine blk_alloc ?_ _)); exact BK271.out), (by (with_reducible repeat (first | refine blk_drewN ?_ _ | refine blk_drew ?_ | refine blk_alloc ?_ _)); exact BK280.out), GW280.out, GE280.out, NB271_280.out, NB280_271.out, (by repeat (first | (with_reducible first | exact HB.out | apply below_alloc | apply pw_below_drewN | apply below_drew1 | refine below_set ?_ GE271.out | refine below_set ?_ GE280.out) | exact HB.out))⟩)
          · skip
            refine box_step ?hg (N := 8) ?hd (cs := #[.int .i64 0, .int .i64 0, .int .i64 0, .int .i64 0]) (t := 114) ?hr ?_; (case hd => rfl); (case hg => rfl); (case hr => first | (go_simp; done) | (go_simp; rfl))
            intro gb280 hg w19 hbox hb
            have n0_ := Aside0.mk (blk_below (g := gb271) (o := .cells #[.int .i64 a0_0, .int .i64 a0_1, .int .i64 a0_2, .slice A0_3 l0_3.length c0_3] 45 (0, 0)) (by (with_reducible repeat (first | refine blk_drewN ?_ _ | refine blk_drew ?_ | refine blk_alloc ?_ _)); exact BK271.out) hb)
            have n1_ := Aside0.mk (below_step (by repeat (first | (with_reducible first | exact HB.out | apply below_alloc | apply pw_below_drewN | apply below_drew1 | refine below_set ?_ GE271.out) | exact HB.out)) hb)
            have n2_ := Aside0.mk (hbox)
            have n3_ := Aside0.mk ((by rw [hg]; exact (below_size (by repeat (first | (with_reducible first | exact HB.out | apply below_alloc | apply pw_below_drewN | apply below_drew1 | refine below_set ?_ GE271.out) | exact HB.out))) : w.heap.size ≤ gb280))
            have n4_ := Aside0.mk ((by rw [hg]; exact (below_size (by repeat (first | (with_reducible first | exact HB.out | apply below_alloc | apply pw_below_drewN | apply below_drew1 | refine below_set ?_ GE271.out) | exact HB.out))) : w.heap.size ≤ gb280))
            have n5_ := Aside0.mk ((by rw [hg]; exact Nat.ne_of_lt (blk_lt (g := gb271) (o := .cells #[.int .i64 a0_0, .int .i64 a0_1, .int .i64 a0_2, .slice A0_3 l0_3.length c0_3] 45 (0, 0)) (by (with_reducible repeat (first | refine blk_drewN ?_ _ | refine blk_drew ?_ | refine blk_alloc ?_ _)); exact BK271.out)) : gb271 ≠ gb280))
            have n6_ := Aside0.mk ((by rw [hg]; exact Nat.ne_of_gt (blk_lt (g := gb271) (o := .cells #[.int .i64 a0_0, .int .i64 a0_1, .int .i64 a0_2, .slice A0_3 l0_3.length c0_3] 45 (0, 0)) (by (with_reducible repeat (first | refine blk_drewN ?_ _ | refine blk_drew ?_ | refine blk_alloc ?_ _)); exact BK271.out)) : gb280 ≠ gb271))
            clear BK271
            clear HB
            have BK271 := n0_
            have HB := n1_
            have BK280 := n2_
            have GW280 := n3_
            have GE280 := n4_
            have NB271_280 := n5_
            have NB280_271 := n6_
            clear n0_ n1_ n2_ n3_ n4_ n5_ n6_
            clear hb hbox hg
            refine hK.out _ _ ⟨(blk_cell BK271.out 0).trans rfl, (blk_cell BK271.out 1).trans rfl, (blk_cell BK271.out 2).trans rfl, (blk_cell BK271.out 3).trans rfl⟩ (fun hHeld => ?_)
            clear hK K
            refine norm_ (a' := ?_) ?_ ?_
            rotate_left
            · show Act.put _ (some 8) _ = _
              simp only [Act.put, List.setIfInBounds_toArray, List.set_cons_zero, List.set_cons_succ, i64_w, i32_w]
              rfl
            refine one_ (i := 4) (N := some 25) #[true, true, true, true, true, false, true, false] rfl rfl (one_of HT_.out (by kernel_rfl)) (by decide) (fun K hK => ?_)
            refine goes_ Tryd.func58 (by kernel_rfl) rfl #[.int .i64 a2] (by rfl) rfl rfl (by (try simp only [List.map_toArray, List.map_cons, List.map_nil]); first | done | rfl | (simp only [List.length_drop, List.length_take]; rfl)) ?_
            with_reducible refine (fix_Whole.calls a2 t275 _ A9.out).mono ?_
            rintro e w' ⟨rfl, ⟨nd, rfl⟩⟩
            refine ⟨_, rfl, ?_⟩
            refine hK.out _ _ ⟨(blk_cell BK271.out 0).trans rfl, (blk_cell BK271.out 1).trans rfl, (blk_cell BK271.out 2).trans rfl, (blk_cell BK271.out 3).trans rfl⟩ (fun hHeld => ?_)
            clear hK K
            refine norm_ (a' := ?_) ?_ ?_
            rotate_left
            · show Act.put _ (some 25) _ = _
              simp only [Act.put, List.setIfInBounds_toArray, List.set_cons_zero, List.set_cons_succ, i64_w, i32_w]
              rfl
            refine one_ (i := 5) (N := some 26) #[true, true, true, true, true, true, true, false] rfl rfl (one_of HT_.out (by kernel_rfl)) (by decide) (fun K hK => ?_)
            refine goes_ Tryd.func89 (by kernel_rfl) rfl #[.agg #[.int .i64 a0_0, .int .i64 a0_1, .int .i64 a0_2, .slice A0_3 l0_3.length c0_3], .int .i64 t274, .int .i64 t275] (by rfl) rfl rfl (by (try simp only [List.map_toArray, List.map_cons, List.map_nil]); first | done | rfl | (simp only [List.length_drop, List.length_take]; rfl)) ?_
            with_reducible refine (relief_corners.calls a0_0 a0_1 a0_2 _ _ l0_3 t274 t275 t276 t277 t278 t279 _ ?side1 ?side2 A10.out).mono ?_
            (case side1 => repeat (first | exact (Kd.C_below HR0_3.out (by repeat (first | (with_reducible first | exact HB.out | apply below_alloc | apply pw_below_drewN | apply below_drew1 | refine below_set ?_ GE271.out | refine below_set ?_ GE280.out) | exact HB.out))) | (with_reducible refine Kd.C_alloc ?_ _) | (with_reducible refine Kd.C_drewN ?_ _) | (with_reducible refine Kd.C_drew ?_)))
            (case side2 => exact HC0_3.out)
            rintro e w20 ⟨rfl, hb⟩
            refine ⟨_, rfl, ?_⟩
            have n0_ := Aside0.mk (blk_below (g := gb271) (o := .cells #[.int .i64 a0_0, .int .i64 a0_1, .int .i64 a0_2, .slice A0_3 l0_3.length c0_3] 45 (0, 0)) (by (with_reducible repeat (first | refine blk_drewN ?_ _ | refine blk_drew ?_ | refine blk_alloc ?_ _)); exact BK271.out) hb)
            have n1_ := Aside0.mk (blk_below (g := gb280) (o := .cells #[.int .i64 0, .int .i64 0, .int .i64 0, .int .i64 0] 114 (0, 0)) (by (with_reducible repeat (first | refine blk_drewN ?_ _ | refine blk_drew ?_ | refine blk_alloc ?_ _)); exact BK280.out) hb)
            have n2_ := Aside0.mk (below_step (by repeat (first | (with_reducible first | exact HB.out | apply below_alloc | apply pw_below_drewN | apply below_drew1 | refine below_set ?_ GE271.out | refine below_set ?_ GE280.out) | exact HB.out)) hb)
            clear BK271
            clear BK280
            clear HB
            have BK271 := n0_
            have BK280 := n1_
            have HB := n2_
            clear n0_ n1_ n2_
            (try clear hb)
            (try clear hb2)
            (try clear hk)
            (try clear hi)
            refine hK.out _ _ ⟨(blk_cell BK271.out 0).trans rfl, (blk_cell BK271.out 1).trans rfl, (blk_cell BK271.out 2).trans rfl, (blk_cell BK271.out 3).trans rfl⟩ (fun hHeld => ?_)
            clear hK K
            refine norm_ (a' := ?_) ?_ ?_
            rotate_left
            · show Act.put _ (some 26) _ = _
              simp only [Act.put, List.setIfInBounds_toArray, List.set_cons_zero, List.set_cons_succ, i64_w, i32_w]
              rfl
            exact norm_ (by simp only [putAll, Act.put, List.setIfInBounds_toArray, List.set_cons_zero, List.set_cons_succ]) (hCont (gb280) _ ⟨hHeld, (by (with_reducible repeat (first | refine blk_drewN ?_ _ | refine blk_drew ?_ | refine blk_alloc ?_ _)); exact BK271.out), (by (with_reducible repeat (first | refine blk_drewN ?_ _ | refine blk_drew ?_ | refine blk_alloc ?_ _)); exact BK280.out), GW280.out, GE280.out, NB271_280.out, NB280_271.out, (by repeat (first | (with_reducible first | exact HB.out | apply below_alloc | apply pw_below_drewN | apply below_drew1 | refine below_set ?_ GE271.out | refine below_set ?_ GE280.out) | exact HB.out))⟩)
        · skip
          refine box_step ?hg (N := 8) ?hd (cs := #[.int .i64 0, .int .i64 0, .int .i64 0, .int .i64 0]) (t := 114) ?hr ?_; (case hd => rfl); (case hg => rfl); (case hr => first | (go_simp; done) | (go_simp; rfl))
          intro gb280 hg w19 hbox hb
          have n0_ := Aside0.mk (blk_below (g := gb271) (o := .cells #[.int .i64 a0_0, .int .i64 a0_1, .int .i64 a0_2, .slice A0_3 l0_3.length c0_3] 45 (0, 0)) (by (with_reducible repeat (first | refine blk_drewN ?_ _ | refine blk_drew ?_ | refine blk_alloc ?_ _)); exact BK271.out) hb)
          have n1_ := Aside0.mk (below_step (by repeat (first | (with_reducible first | exact HB.out | apply below_alloc | apply pw_below_drewN | apply below_drew1 | refine below_set ?_ GE271.out) | exact HB.out)) hb)
          have n2_ := Aside0.mk (hbox)
          have n3_ := Aside0.mk ((by rw [hg]; exact (below_size (by repeat (first | (with_reducible first | exact HB.out | apply below_alloc | apply pw_below_drewN | apply below_drew1 | refine below_set ?_ GE271.out) | exact HB.out))) : w.heap.size ≤ gb280))
          have n4_ := Aside0.mk ((by rw [hg]; exact (below_size (by repeat (first | (with_reducible first | exact HB.out | apply below_alloc | apply pw_below_drewN | apply below_drew1 | refine below_set ?_ GE271.out) | exact HB.out))) : w.heap.size ≤ gb280))
          have n5_ := Aside0.mk ((by rw [hg]; exact Nat.ne_of_lt (blk_lt (g := gb271) (o := .cells #[.int .i64 a0_0, .int .i64 a0_1, .int .i64 a0_2, .slice A0_3 l0_3.length c0_3] 45 (0, 0)) (by (with_reducible repeat (first | refine blk_drewN ?_ _ | refine blk_drew ?_ | refine blk_alloc ?_ _)); exact BK271.out)) : gb271 ≠ gb280))
          have n6_ := Aside0.mk ((by rw [hg]; exact Nat.ne_of_gt (blk_lt (g := gb271) (o := .cells #[.int .i64 a0_0, .int .i64 a0_1, .int .i64 a0_2, .slice A0_3 l0_3.length c0_3] 45 (0, 0)) (by (with_reducible repeat (first | refine blk_drewN ?_ _ | refine blk_drew ?_ | refine blk_alloc ?_ _)); exact BK271.out)) : gb280 ≠ gb271))
          clear BK271
          clear HB
          have BK271 := n0_
          have HB := n1_
          have BK280 := n2_
          have GW280 := n3_
          have GE280 := n4_
          have NB271_280 := n5_
          have NB280_271 := n6_
          clear n0_ n1_ n2_ n3_ n4_ n5_ n6_
          clear hb hbox hg
          refine hK.out _ _ ⟨(blk_cell BK271.out 0).trans rfl, (blk_cell BK271.out 1).trans rfl, (blk_cell BK271.out 2).trans rfl, (blk_cell BK271.out 3).trans rfl⟩ (fun hHeld => ?_)
          clear hK K
          refine norm_ (a' := ?_) ?_ ?_
          rotate_left
          · show Act.put _ (some 8) _ = _
            simp only [Act.put, List.setIfInBounds_toArray, List.set_cons_zero, List.set_cons_succ, i64_w, i32_w]
            rfl
          refine one_ (i := 2) (N := some 23) #[true, true, true, true, false, false, true, false] rfl rfl (one_of HT_.out (by kernel_rfl)) (by decide) (fun K hK => ?_)
          refine goes_ Tryd.func58 (by kernel_rfl) rfl #[.int .i64 a1] (by rfl) rfl rfl (by (try simp only [List.map_toArray, List.map_cons, List.map_nil]); first | done | rfl | (simp only [List.length_drop, List.length_take]; rfl)) ?_
          with_reducible refine (fix_Whole.calls a1 t274 _ A8.out).mono ?_
          rintro e w' ⟨rfl, ⟨nd, rfl⟩⟩
          refine ⟨_, rfl, ?_⟩
          refine hK.out _ _ ⟨(blk_cell BK271.out 0).trans rfl, (blk_cell BK271.out 1).trans rfl, (blk_cell BK271.out 2).trans rfl, (blk_cell BK271.out 3).trans rfl⟩ (fun hHeld => ?_)
          clear hK K
          refine norm_ (a' := ?_) ?_ ?_
          rotate_left
          · show Act.put _ (some 23) _ = _
            simp only [Act.put, List.setIfInBounds_toArray, List.set_cons_zero, List.set_cons_succ, i64_w, i32_w]
            rfl
          refine one_ (i := 4) (N := some 25) #[true, true, true, true, true, false, true, false] rfl rfl (one_of HT_.out (by kernel_rfl)) (by decide) (fun K hK => ?_)
          refine goes_ Tryd.func58 (by kernel_rfl) rfl #[.int .i64 a2] (by rfl) rfl rfl (by (try simp only [List.map_toArray, List.map_cons, List.map_nil]); first | done | rfl | (simp only [List.length_drop, List.length_take]; rfl)) ?_
          with_reducible refine (fix_Whole.calls a2 t275 _ A9.out).mono ?_
          rintro e w' ⟨rfl, ⟨nd, rfl⟩⟩
          refine ⟨_, rfl, ?_⟩
          refine hK.out _ _ ⟨(blk_cell BK271.out 0).trans rfl, (blk_cell BK271.out 1).trans rfl, (blk_cell BK271.out 2).trans rfl, (blk_cell BK271.out 3).trans rfl⟩ (fun hHeld => ?_)
          clear hK K
          refine norm_ (a' := ?_) ?_ ?_
          rotate_left
          · show Act.put _ (some 25) _ = _
            simp only [Act.put, List.setIfInBounds_toArray, List.set_cons_zero, List.set_cons_succ, i64_w, i32_w]
            rfl
          refine one_ (i := 5) (N := some 26) #[true, true, true, true, true, true, true, false] rfl rfl (one_of HT_.out (by kernel_rfl)) (by decide) (fun K hK => ?_)
          refine goes_ Tryd.func89 (by kernel_rfl) rfl #[.agg #[.int .i64 a0_0, .int .i64 a0_1, .int .i64 a0_2, .slice A0_3 l0_3.length c0_3], .int .i64 t274, .int .i64 t275] (by rfl) rfl rfl (by (try simp only [List.map_toArray, List.map_cons, List.map_nil]); first | done | rfl | (simp only [List.length_drop, List.length_take]; rfl)) ?_
          with_reducible refine (relief_corners.calls a0_0 a0_1 a0_2 _ _ l0_3 t274 t275 t276 t277 t278 t279 _ ?side1 ?side2 A10.out).mono ?_
          (case side1 => repeat (first | exact (Kd.C_below HR0_3.out (by repeat (first | (with_reducible first | exact HB.out | apply below_alloc | apply pw_below_drewN | apply below_drew1 | refine below_set ?_ GE271.out | refine below_set ?_ GE280.out) | exact HB.out))) | (with_reducible refine Kd.C_alloc ?_ _) | (with_reducible refine Kd.C_drewN ?_ _) | (with_reducible refine Kd.C_drew ?_)))
          (case side2 => exact HC0_3.out)
          rintro e w20 ⟨rfl, hb⟩
          refine ⟨_, rfl, ?_⟩
          have n0_ := Aside0.mk (blk_below (g := gb271) (o := .cells #[.int .i64 a0_0, .int .i64 a0_1, .int .i64 a0_2, .slice A0_3 l0_3.length c0_3] 45 (0, 0)) (by (with_reducible repeat (first | refine blk_drewN ?_ _ | refine blk_drew ?_ | refine blk_alloc ?_ _)); exact BK271.out) hb)
          have n1_ := Aside0.mk (blk_below (g := gb280) (o := .cells #[.int .i64 0, .int .i64 0, .int .i64 0, .int .i64 0] 114 (0, 0)) (by (with_reducible repeat (first | refine blk_drewN ?_ _ | refine blk_drew ?_ | refine blk_alloc ?_ _)); exact BK280.out) hb)
          have n2_ := Aside0.mk (below_step (by repeat (first | (with_reducible first | exact HB.out | apply below_alloc | apply pw_below_drewN | apply below_drew1 | refine below_set ?_ GE271.out | refine below_set ?_ GE280.out) | exact HB.out)) hb)
          clear BK271
          clear BK280
          clear HB
          have BK271 := n0_
          have BK280 := n1_
          have HB := n2_
          clear n0_ n1_ n2_
          (try clear hb)
          (try clear hb2)
          (try clear hk)
          (try clear hi)
          refine hK.out _ _ ⟨(blk_cell BK271.out 0).trans rfl, (blk_cell BK271.out 1).trans rfl, (blk_cell BK271.out 2).trans rfl, (blk_cell BK271.out 3).trans rfl⟩ (fun hHeld => ?_)
          clear hK K
          refine norm_ (a' := ?_) ?_ ?_
          rotate_left
          · show Act.put _ (some 26) _ = _
            simp only [Act.put, List.setIfInBounds_toArray, List.set_cons_zero, List.set_cons_succ, i64_w, i32_w]
            rfl
          exact norm_ (by simp only [putAll, Act.put, List.setIfInBounds_toArray, List.set_cons_zero, List.set_cons_succ]) (hCont (gb280) _ ⟨hHeld, (by (with_reducible repeat (first | refine blk_drewN ?_ _ | refine blk_drew ?_ | refine blk_alloc ?_ _)); exact BK271.out), (by (with_reducible repeat (first | refine blk_drewN ?_ _ | refine blk_drew ?_ | refine blk_alloc ?_ _)); exact BK280.out), GW280.out, GE280.out, NB271_280.out, NB280_271.out, (by repeat (first | (with_reducible first | exact HB.out | apply below_alloc | apply pw_below_drewN | apply below_drew1 | refine below_set ?_ GE271.out | refine below_set ?_ GE280.out) | exact HB.out))⟩)
      rintro gb280 w21 ⟨hS_, h0_, h1_, h2_, h3_, h4_, h5_, h6_⟩
      have n0_ : Aside0 (w21.heap[gb271]? = some (.cells #[.int .i64 a0_0, .int .i64 a0_1, .int .i64 a0_2, .slice A0_3 l0_3.length c0_3] 45 (0, 0))) := ⟨h0_⟩
      have n1_ : Aside0 (w21.heap[gb280]? = some (.cells #[.int .i64 0, .int .i64 0, .int .i64 0, .int .i64 0] 114 (0, 0))) := ⟨h1_⟩
      have n2_ : Aside0 (w.heap.size ≤ gb280) := ⟨h2_⟩
      have n3_ : Aside0 (w.heap.size ≤ gb280) := ⟨h3_⟩
      have n4_ : Aside0 (gb271 ≠ gb280) := ⟨h4_⟩
      have n5_ : Aside0 (gb280 ≠ gb271) := ⟨h5_⟩
      have n6_ : Aside0 (Below w.heap.size w w21) := ⟨h6_⟩
      clear BK271
      clear HB
      clear h0_ h1_ h2_ h3_ h4_ h5_ h6_
      have BK271 := n0_
      have BK280 := n1_
      have GW280 := n2_
      have GE280 := n3_
      have NB271_280 := n4_
      have NB280_271 := n5_
      have HB := n6_
      clear n0_ n1_ n2_ n3_ n4_ n5_ n6_
      have hHeld : w21.cell? ⟨gb271, 0, none⟩ = some (.int .i64 a0_0) ∧ w21.cell? ⟨gb271, 1, none⟩ = some (.int .i64 a0_1) ∧ w21.cell? ⟨gb271, 2, none⟩ = some (.int .i64 a0_2) ∧ w21.cell? ⟨gb271, 3, none⟩ = some (.slice A0_3 l0_3.length c0_3) := hS_
      refine norm_ (a' := ?_) ?_ ?_
      rotate_left
      · simp only [putAll, Act.put, List.setIfInBounds_toArray, List.set_cons_zero, List.set_cons_succ]
        rfl
      refine one_ (i := 7) (N := none) #[true, true, true, true, true, true, true, true] rfl rfl (one_of HT_.out (by kernel_rfl)) (by decide) (fun K hK => ?_)
      have hs22 : w21.cell? ⟨gb280, 0, none⟩ = some (.int .i64 0) := (blk_cell BK280.out 0).trans rfl
      have hfs22 := blk_frozen BK280.out 0
      have hns22_0 := NB271_280.out
      have hms22_0 := NB280_271.out
      have hs23 : w21.cell? ⟨gb280, 1, none⟩ = some (.int .i64 0) := (blk_cell BK280.out 1).trans rfl
      have hfs23 := blk_frozen BK280.out 1
      have hns23_0 := NB271_280.out
      have hms23_0 := NB280_271.out
      have hs24 : w21.cell? ⟨gb280, 2, none⟩ = some (.int .i64 0) := (blk_cell BK280.out 2).trans rfl
      have hfs24 := blk_frozen BK280.out 2
      have hns24_0 := NB271_280.out
      have hms24_0 := NB280_271.out
      have hs25 : w21.cell? ⟨gb280, 3, none⟩ = some (.int .i64 0) := (blk_cell BK280.out 3).trans rfl
      have hfs25 := blk_frozen BK280.out 3
      have hns25_0 := NB271_280.out
      have hms25_0 := NB280_271.out
      refine skip_ (w1 := ?_) (by rfl) rfl ?_ ?_
      rotate_left
      · go_simp
        rfl
      refine hK.out _ _ ⟨((cell_far (p := ⟨gb280, _, none⟩) NB271_280.out _).trans (((cell_far (p := ⟨gb280, _, none⟩) NB271_280.out _).trans (((cell_far (p := ⟨gb280, _, none⟩) NB271_280.out _).trans (((cell_far (p := ⟨gb280, _, none⟩) NB271_280.out _).trans (hHeld.1)))))))), ((cell_far (p := ⟨gb280, _, none⟩) NB271_280.out _).trans (((cell_far (p := ⟨gb280, _, none⟩) NB271_280.out _).trans (((cell_far (p := ⟨gb280, _, none⟩) NB271_280.out _).trans (((cell_far (p := ⟨gb280, _, none⟩) NB271_280.out _).trans (hHeld.2.1)))))))), ((cell_far (p := ⟨gb280, _, none⟩) NB271_280.out _).trans (((cell_far (p := ⟨gb280, _, none⟩) NB271_280.out _).trans (((cell_far (p := ⟨gb280, _, none⟩) NB271_280.out _).trans (((cell_far (p := ⟨gb280, _, none⟩) NB271_280.out _).trans (hHeld.2.2.1)))))))), ((cell_far (p := ⟨gb280, _, none⟩) NB271_280.out _).trans (((cell_far (p := ⟨gb280, _, none⟩) NB271_280.out _).trans (((cell_far (p := ⟨gb280, _, none⟩) NB271_280.out _).trans (((cell_far (p := ⟨gb280, _, none⟩) NB271_280.out _).trans (hHeld.2.2.2))))))))⟩ (fun hHeld => ?_)
      clear hK K
      refine done_ (done_of HT_.out (by kernel_rfl)) ?_
      try go_wp2_with (first | ((with_reducible refine gate_callee (f := 90) rfl ?_); refine goesL_ (some 28) rfl rfl Tryd.func90 (by kernel_rfl) rfl #[.int .i64 a1] rfl (by (try simp only [List.map_toArray, List.map_cons, List.map_nil]); first | done | rfl | (simp only [List.length_drop, List.length_take]; rfl)) ?_; (with_reducible refine (fix_Part.calls a1 t281 _ A11.out).mono ?_); rintro e w' ⟨rfl, ⟨nd, rfl⟩⟩; refine ⟨_, rfl, ?_⟩) | ((with_reducible refine gate_callee (f := 90) rfl ?_); refine goesL_ (some 30) rfl rfl Tryd.func90 (by kernel_rfl) rfl #[.int .i64 a2] rfl (by (try simp only [List.map_toArray, List.map_cons, List.map_nil]); first | done | rfl | (simp only [List.length_drop, List.length_take]; rfl)) ?_; (with_reducible refine (fix_Part.calls a2 t282 _ A12.out).mono ?_); rintro e w' ⟨rfl, ⟨nd, rfl⟩⟩; refine ⟨_, rfl, ?_⟩; have hnb26 := NB280_271.out; have hnc26 := NB271_280.out; have hcz27_0 : w21.cell? ⟨gb280, 0, none⟩ = some (.int .i64 0) := (blk_cell BK280.out 0).trans rfl; have hcz27_1 : w21.cell? ⟨gb280, 1, none⟩ = some (.int .i64 0) := (blk_cell BK280.out 1).trans rfl; have hcz27_2 : w21.cell? ⟨gb280, 2, none⟩ = some (.int .i64 0) := (blk_cell BK280.out 2).trans rfl; have hcz27_3 : w21.cell? ⟨gb280, 3, none⟩ = some (.int .i64 0) := (blk_cell BK280.out 3).trans rfl; have hfz27_0 := blk_frozen BK280.out 0; have hfz27_1 := blk_frozen BK280.out 1; have hfz27_2 := blk_frozen BK280.out 2; have hfz27_3 := blk_frozen BK280.out 3))
      go_ret2
      exact ⟨by first | rfl | (simp [errW_none, errW_some] <;> rfl) | (simp [*, errW_none, errW_some] <;> rfl), by repeat (first | (with_reducible first | exact HB.out | apply below_alloc | apply pw_below_drewN | apply below_drew1 | refine below_set ?_ GE271.out | refine below_set ?_ GE280.out) | exact HB.out)⟩
    · replace c7 := Bool.eq_false_iff.mpr c7
      subst c7
      have H1 : (some (0, 4)) = some (r1, r2) := by rw [if_neg (show ¬ (false = true) by decide)] at H; exact H
      clear H
      have H := H1
      clear H1
      simp only [Option.some.injEq, Prod.mk.injEq] at H
      obtain ⟨rfl, rfl⟩ := H
      go_enter Tryd.func79, Tryd.ntmps79
      go_wp2_with (first | ((with_reducible refine gate_dst (N := 3) rfl ?_); refine box_event ?hg (N := 3) ?hd (cs := #[.int .i64 a0_0, .int .i64 a0_1, .int .i64 a0_2, .slice A0_3 l0_3.length c0_3]) (t := 45) ?hr ?_; (case hd => rfl); (case hg => rfl); (case hr => first | (go_simp; done) | (go_simp; rfl)); intro gb271 hg w28 hbox hb; have n0_ := Aside0.mk (below_step (by repeat (first | (with_reducible first | exact HB.out | apply below_alloc | apply pw_below_drewN | apply below_drew1) | exact HB.out)) hb); have n1_ := Aside0.mk (hbox); have n2_ := Aside0.mk ((by rw [hg]; exact (below_size (by repeat (first | (with_reducible first | exact HB.out | apply below_alloc | apply pw_below_drewN | apply below_drew1) | exact HB.out))) : w.heap.size ≤ gb271)); have n3_ := Aside0.mk ((by rw [hg]; exact (below_size (by repeat (first | (with_reducible first | exact HB.out | apply below_alloc | apply pw_below_drewN | apply below_drew1) | exact HB.out))) : w.heap.size ≤ gb271)); clear HB; have HB := n0_; have BK271 := n1_; have GW271 := n2_; have GE271 := n3_; clear n0_ n1_ n2_ n3_; clear hb hbox hg; have hcz29_0 : w28.cell? ⟨gb271, 0, none⟩ = some (.int .i64 a0_0) := (blk_cell BK271.out 0).trans rfl; have hcz29_1 : w28.cell? ⟨gb271, 1, none⟩ = some (.int .i64 a0_1) := (blk_cell BK271.out 1).trans rfl; have hcz29_2 : w28.cell? ⟨gb271, 2, none⟩ = some (.int .i64 a0_2) := (blk_cell BK271.out 2).trans rfl; have hcz29_3 : w28.cell? ⟨gb271, 3, none⟩ = some (.slice A0_3 l0_3.length c0_3) := (blk_cell BK271.out 3).trans rfl; have hfz29_0 := blk_frozen BK271.out 0; have hfz29_1 := blk_frozen BK271.out 1; have hfz29_2 := blk_frozen BK271.out 2; have hfz29_3 := blk_frozen BK271.out 3) | ((with_reducible refine gate_callee (f := 75) rfl ?_); refine goesL_ (some 14) rfl rfl Tryd.func75 (by kernel_rfl) rfl #[.agg #[.int .i64 a0_0, .int .i64 a0_1, .int .i64 a0_2, .slice A0_3 l0_3.length c0_3]] rfl (by (try simp only [List.map_toArray, List.map_cons, List.map_nil]); first | done | rfl | (simp only [List.length_drop, List.length_take]; rfl)) ?_; (with_reducible refine (relief_Check.calls k a0_0 a0_1 a0_2 _ _ l0_3 t272 _ ?side1 ?side2 A4.out).mono ?_); (case side1 => repeat (first | exact (Kd.C_below HR0_3.out HB.out) | (with_reducible refine Kd.C_alloc ?_ _) | (with_reducible refine Kd.C_drewN ?_ _) | (with_reducible refine Kd.C_drew ?_))); (case side2 => exact HC0_3.out); rintro e w30 ⟨rfl, hb⟩; refine ⟨_, rfl, ?_⟩; have n0_ := Aside0.mk (blk_below (g := gb271) (o := .cells #[.int .i64 a0_0, .int .i64 a0_1, .int .i64 a0_2, .slice A0_3 l0_3.length c0_3] 45 (0, 0)) (by (with_reducible repeat (first | refine blk_drewN ?_ _ | refine blk_drew ?_ | refine blk_alloc ?_ _)); exact BK271.out) hb); have n1_ := Aside0.mk (below_step (by repeat (first | (with_reducible first | exact HB.out | apply below_alloc | apply pw_below_drewN | apply below_drew1 | refine below_set ?_ GE271.out) | exact HB.out)) hb); clear BK271; clear HB; have BK271 := n0_; have HB := n1_; clear n0_ n1_; (try clear hb); (try clear hb2); (try clear hk); (try clear hi); have hcz31_0 : w30.cell? ⟨gb271, 0, none⟩ = some (.int .i64 a0_0) := (blk_cell BK271.out 0).trans rfl; have hcz31_1 : w30.cell? ⟨gb271, 1, none⟩ = some (.int .i64 a0_1) := (blk_cell BK271.out 1).trans rfl; have hcz31_2 : w30.cell? ⟨gb271, 2, none⟩ = some (.int .i64 a0_2) := (blk_cell BK271.out 2).trans rfl; have hcz31_3 : w30.cell? ⟨gb271, 3, none⟩ = some (.slice A0_3 l0_3.length c0_3) := (blk_cell BK271.out 3).trans rfl; have hfz31_0 := blk_frozen BK271.out 0; have hfz31_1 := blk_frozen BK271.out 1; have hfz31_2 := blk_frozen BK271.out 2; have hfz31_3 := blk_frozen BK271.out 3) | ((with_reducible refine gate_callee (f := 55) rfl ?_); refine goesL_ (some 19) rfl rfl Tryd.func55 (by kernel_rfl) rfl #[.agg #[.int .i64 a0_0, .int .i64 a0_1, .int .i64 a0_2, .slice A0_3 l0_3.length c0_3], .int .i64 a1, .int .i64 a2] rfl (by (try simp only [List.map_toArray, List.map_cons, List.map_nil]); first | done | rfl | (simp only [List.length_drop, List.length_take]; rfl)) ?_; (with_reducible refine (relief_On.calls k a0_0 a0_1 a0_2 _ _ l0_3 a1 a2 false _ ?side1 ?side2 A6.out).mono ?_); (case side1 => repeat (first | exact (Kd.C_below HR0_3.out HB.out) | (with_reducible refine Kd.C_alloc ?_ _) | (with_reducible refine Kd.C_drewN ?_ _) | (with_reducible refine Kd.C_drew ?_))); (case side2 => exact HC0_3.out); rintro e w32 ⟨rfl, hb⟩; refine ⟨_, rfl, ?_⟩; have n0_ := Aside0.mk (blk_below (g := gb271) (o := .cells #[.int .i64 a0_0, .int .i64 a0_1, .int .i64 a0_2, .slice A0_3 l0_3.length c0_3] 45 (0, 0)) (by (with_reducible repeat (first | refine blk_drewN ?_ _ | refine blk_drew ?_ | refine blk_alloc ?_ _)); exact BK271.out) hb); have n1_ := Aside0.mk (below_step (by repeat (first | (with_reducible first | exact HB.out | apply below_alloc | apply pw_below_drewN | apply below_drew1 | refine below_set ?_ GE271.out) | exact HB.out)) hb); clear BK271; clear HB; have BK271 := n0_; have HB := n1_; clear n0_ n1_; (try clear hb); (try clear hb2); (try clear hk); (try clear hi)))
      go_ret2
      exact ⟨by first | rfl | (simp [errW_none, errW_some] <;> rfl) | (simp [*, errW_none, errW_some] <;> rfl), by repeat (first | (with_reducible first | exact HB.out | apply below_alloc | apply pw_below_drewN | apply below_drew1 | refine below_set ?_ GE271.out) | exact HB.out)⟩
  · rw [if_neg c5] at H
    have c5b0 : (t272 == 0) = false := beq_eq_false_iff_ne.mpr c5
    have c5b1 : (t272 != 0) = true := bne_iff_ne.mpr c5
    simp only [Option.some.injEq, Prod.mk.injEq] at H
    obtain ⟨rfl, rfl⟩ := H
    go_enter Tryd.func79, Tryd.ntmps79
    go_wp2_with (first | ((with_reducible refine gate_dst (N := 3) rfl ?_); refine box_event ?hg (N := 3) ?hd (cs := #[.int .i64 a0_0, .int .i64 a0_1, .int .i64 a0_2, .slice A0_3 l0_3.length c0_3]) (t := 45) ?hr ?_; (case hd => rfl); (case hg => rfl); (case hr => first | (go_simp; done) | (go_simp; rfl)); intro gb271 hg w33 hbox hb; have n0_ := Aside0.mk (below_step (by repeat (first | (with_reducible first | exact HB.out | apply below_alloc | apply pw_below_drewN | apply below_drew1) | exact HB.out)) hb); have n1_ := Aside0.mk (hbox); have n2_ := Aside0.mk ((by rw [hg]; exact (below_size (by repeat (first | (with_reducible first | exact HB.out | apply below_alloc | apply pw_below_drewN | apply below_drew1) | exact HB.out))) : w.heap.size ≤ gb271)); have n3_ := Aside0.mk ((by rw [hg]; exact (below_size (by repeat (first | (with_reducible first | exact HB.out | apply below_alloc | apply pw_below_drewN | apply below_drew1) | exact HB.out))) : w.heap.size ≤ gb271)); clear HB; have HB := n0_; have BK271 := n1_; have GW271 := n2_; have GE271 := n3_; clear n0_ n1_ n2_ n3_; clear hb hbox hg; have hcz34_0 : w33.cell? ⟨gb271, 0, none⟩ = some (.int .i64 a0_0) := (blk_cell BK271.out 0).trans rfl; have hcz34_1 : w33.cell? ⟨gb271, 1, none⟩ = some (.int .i64 a0_1) := (blk_cell BK271.out 1).trans rfl; have hcz34_2 : w33.cell? ⟨gb271, 2, none⟩ = some (.int .i64 a0_2) := (blk_cell BK271.out 2).trans rfl; have hcz34_3 : w33.cell? ⟨gb271, 3, none⟩ = some (.slice A0_3 l0_3.length c0_3) := (blk_cell BK271.out 3).trans rfl; have hfz34_0 := blk_frozen BK271.out 0; have hfz34_1 := blk_frozen BK271.out 1; have hfz34_2 := blk_frozen BK271.out 2; have hfz34_3 := blk_frozen BK271.out 3) | ((with_reducible refine gate_callee (f := 75) rfl ?_); refine goesL_ (some 14) rfl rfl Tryd.func75 (by kernel_rfl) rfl #[.agg #[.int .i64 a0_0, .int .i64 a0_1, .int .i64 a0_2, .slice A0_3 l0_3.length c0_3]] rfl (by (try simp only [List.map_toArray, List.map_cons, List.map_nil]); first | done | rfl | (simp only [List.length_drop, List.length_take]; rfl)) ?_; (with_reducible refine (relief_Check.calls k a0_0 a0_1 a0_2 _ _ l0_3 t272 _ ?side1 ?side2 A4.out).mono ?_); (case side1 => repeat (first | exact (Kd.C_below HR0_3.out HB.out) | (with_reducible refine Kd.C_alloc ?_ _) | (with_reducible refine Kd.C_drewN ?_ _) | (with_reducible refine Kd.C_drew ?_))); (case side2 => exact HC0_3.out); rintro e w35 ⟨rfl, hb⟩; refine ⟨_, rfl, ?_⟩; have n0_ := Aside0.mk (blk_below (g := gb271) (o := .cells #[.int .i64 a0_0, .int .i64 a0_1, .int .i64 a0_2, .slice A0_3 l0_3.length c0_3] 45 (0, 0)) (by (with_reducible repeat (first | refine blk_drewN ?_ _ | refine blk_drew ?_ | refine blk_alloc ?_ _)); exact BK271.out) hb); have n1_ := Aside0.mk (below_step (by repeat (first | (with_reducible first | exact HB.out | apply below_alloc | apply pw_below_drewN | apply below_drew1 | refine below_set ?_ GE271.out) | exact HB.out)) hb); clear BK271; clear HB; have BK271 := n0_; have HB := n1_; clear n0_ n1_; (try clear hb); (try clear hb2); (try clear hk); (try clear hi)))
    go_ret2
    exact ⟨by first | rfl | (simp [errW_none, errW_some] <;> rfl) | (simp [*, errW_none, errW_some] <;> rfl), by repeat (first | (with_reducible first | exact HB.out | apply below_alloc | apply pw_below_drewN | apply below_drew1 | refine below_set ?_ GE271.out) | exact HB.out)⟩
noncomputable def shot_How.f (k : Nat) (a0_0 : Int) (a0_1 : Int) (a0_2 : Int) (l0_3 : List Int) (a1_0 : Int) (a1_1 : Int) (a1_2 : Int) (a1_3 : Int) (a1_4 : Int) (a1_5 : Int) : Option (Int × Int) := (relief_Height.f k a0_0 a0_1 a0_2 l0_3 a1_0 a1_1).bind fun bt285 => (if bt285.2 = 1 then (some (0, bt285.2)) else (if bt285.2 = 4 then (some (3, 0)) else (if a1_2 > (mx bt285.1 (wrap64 (a0_2 * 65536))) then (some (0, 0)) else (if bt285.1 ≥ (wrap64 (a0_2 * 65536)) then (some (1, 0)) else (some (2, 0))))))
theorem shot_How.mono : ∀ a0 a1 a2 a3 a4 a5 a6 a7 a8 a9 k, LeO (shot_How.f k a0 a1 a2 a3 a4 a5 a6 a7 a8 a9) (shot_How.f (k + 1) a0 a1 a2 a3 a4 a5 a6 a7 a8 a9) := by
  intro a0 a1 a2 a3 a4 a5 a6 a7 a8 a9 k
  unfold shot_How.f
  repeat' first
      | (with_reducible exact relief_Height.mono _ _ _ _ _ _ _)
      | (with_reducible exact LeO.refl _)
      | (with_reducible exact LeO.none _)
      | (with_reducible refine LeO.ite ?_ ?_)
      | (with_reducible refine LeO.bind ?_ (fun _ => ?_))
      | exact relief_Height.mono _ _ _ _ _ _ _
      | exact LeO.none _
      | refine LeO.ite ?_ ?_
      | refine LeO.bind ?_ (fun _ => ?_)
set_option maxHeartbeats 8000000 in
set_option maxRecDepth 100000 in
theorem shot_How.calls (k : Nat) (a0_0 : Int) (a0_1 : Int) (a0_2 : Int) (A0_3 : Option Addr) (c0_3 : Nat) (l0_3 : List Int) (a1_0 : Int) (a1_1 : Int) (a1_2 : Int) (a1_3 : Int) (a1_4 : Int) (a1_5 : Int) (r1 : Int) (r2 : Int) (w : World) (hr0_3 : Kd.C (Kd.int .u8) w A0_3 l0_3.length l0_3) (hc0_3 : l0_3.length ≤ c0_3) (h : shot_How.f k a0_0 a0_1 a0_2 l0_3 a1_0 a1_1 a1_2 a1_3 a1_4 a1_5 = some (r1, r2)) :
    Calls Tryd.prog 64 #[.agg #[.int .i64 a0_0, .int .i64 a0_1, .int .i64 a0_2, .slice A0_3 l0_3.length c0_3], .agg #[.int .i64 a1_0, .int .i64 a1_1, .int .i64 a1_2, .int .i64 a1_3, .int .i64 a1_4, .int .i64 a1_5]] w fun e w' => e = .returned (.tuple #[.int .i64 r1, .int .i64 r2]) ∧ Below w.heap.size w w' := by
  have hu45 := Tryd.underlying45
  have hu47 := Tryd.underlying47
  have HR0_3 := Aside0.mk hr0_3
  have HC0_3 := Aside0.mk hc0_3
  clear hr0_3 hc0_3
  have HB := Aside0.mk (Below.refl w.heap.size w)
  have H : ((relief_Height.f k a0_0 a0_1 a0_2 l0_3 a1_0 a1_1).bind fun bt285 => (if bt285.2 = 1 then (some (0, bt285.2)) else (if bt285.2 = 4 then (some (3, 0)) else (if a1_2 > (mx bt285.1 (wrap64 (a0_2 * 65536))) then (some (0, 0)) else (if bt285.1 ≥ (wrap64 (a0_2 * 65536)) then (some (1, 0)) else (some (2, 0))))))) = some (r1, r2) := h
  clear h
  replace H := Option.bind_eq_some_iff.mp H
  obtain ⟨⟨t285, t286⟩, A30, H⟩ := H
  replace H : (if t286 = 1 then (some (0, t286)) else (if t286 = 4 then (some (3, 0)) else (if a1_2 > (mx t285 (wrap64 (a0_2 * 65536))) then (some (0, 0)) else (if t285 ≥ (wrap64 (a0_2 * 65536)) then (some (1, 0)) else (some (2, 0)))))) = some (r1, r2) := H
  have A3 := Aside0.mk A30
  clear A30
  by_cases c4 : t286 = 1
  · rw [if_pos c4] at H
    have c4b0 : (t286 == 1) = true := beq_iff_eq.mpr c4
    have c4b1 : (t286 != 1) = false := bne_eq_false_iff_eq.mpr c4
    clear c4
    simp only [Option.some.injEq, Prod.mk.injEq] at H
    obtain ⟨rfl, rfl⟩ := H
    go_enter Tryd.func64, Tryd.ntmps64
    go_wp2_with (first | ((with_reducible refine gate_dst (N := 2) rfl ?_); refine box_event ?hg (N := 2) ?hd (cs := #[.int .i64 a0_0, .int .i64 a0_1, .int .i64 a0_2, .slice A0_3 l0_3.length c0_3]) (t := 45) ?hr ?_; (case hd => rfl); (case hg => rfl); (case hr => first | (go_simp; done) | (go_simp; rfl)); intro gb283 hg w5 hbox hb; have n0_ := Aside0.mk (below_step (by repeat (first | (with_reducible first | exact HB.out | apply below_alloc | apply pw_below_drewN | apply below_drew1) | exact HB.out)) hb); have n1_ := Aside0.mk (hbox); have n2_ := Aside0.mk ((by rw [hg]; exact (below_size (by repeat (first | (with_reducible first | exact HB.out | apply below_alloc | apply pw_below_drewN | apply below_drew1) | exact HB.out))) : w.heap.size ≤ gb283)); have n3_ := Aside0.mk ((by rw [hg]; exact (below_size (by repeat (first | (with_reducible first | exact HB.out | apply below_alloc | apply pw_below_drewN | apply below_drew1) | exact HB.out))) : w.heap.size ≤ gb283)); clear HB; have HB := n0_; have BK283 := n1_; have GW283 := n2_; have GE283 := n3_; clear n0_ n1_ n2_ n3_; clear hb hbox hg) | ((with_reducible refine gate_dst (N := 3) rfl ?_); refine box_event ?hg (N := 3) ?hd (cs := #[.int .i64 a1_0, .int .i64 a1_1, .int .i64 a1_2, .int .i64 a1_3, .int .i64 a1_4, .int .i64 a1_5]) (t := 47) ?hr ?_; (case hd => rfl); (case hg => rfl); (case hr => first | (go_simp; done) | (go_simp; rfl)); intro gb284 hg w6 hbox hb; have n0_ := Aside0.mk (blk_below (g := gb283) (o := .cells #[.int .i64 a0_0, .int .i64 a0_1, .int .i64 a0_2, .slice A0_3 l0_3.length c0_3] 45 (0, 0)) (by (with_reducible repeat (first | refine blk_drewN ?_ _ | refine blk_drew ?_ | refine blk_alloc ?_ _)); exact BK283.out) hb); have n1_ := Aside0.mk (below_step (by repeat (first | (with_reducible first | exact HB.out | apply below_alloc | apply pw_below_drewN | apply below_drew1 | refine below_set ?_ GE283.out) | exact HB.out)) hb); have n2_ := Aside0.mk (hbox); have n3_ := Aside0.mk ((by rw [hg]; exact (below_size (by repeat (first | (with_reducible first | exact HB.out | apply below_alloc | apply pw_below_drewN | apply below_drew1 | refine below_set ?_ GE283.out) | exact HB.out))) : w.heap.size ≤ gb284)); have n4_ := Aside0.mk ((by rw [hg]; exact (below_size (by repeat (first | (with_reducible first | exact HB.out | apply below_alloc | apply pw_below_drewN | apply below_drew1 | refine below_set ?_ GE283.out) | exact HB.out))) : w.heap.size ≤ gb284)); have n5_ := Aside0.mk ((by rw [hg]; exact Nat.ne_of_lt (blk_lt (g := gb283) (o := .cells #[.int .i64 a0_0, .int .i64 a0_1, .int .i64 a0_2, .slice A0_3 l0_3.length c0_3] 45 (0, 0)) (by (with_reducible repeat (first | refine blk_drewN ?_ _ | refine blk_drew ?_ | refine blk_alloc ?_ _)); exact BK283.out)) : gb283 ≠ gb284)); have n6_ := Aside0.mk ((by rw [hg]; exact Nat.ne_of_gt (blk_lt (g := gb283) (o := .cells #[.int .i64 a0_0, .int .i64 a0_1, .int .i64 a0_2, .slice A0_3 l0_3.length c0_3] 45 (0, 0)) (by (with_reducible repeat (first | refine blk_drewN ?_ _ | refine blk_drew ?_ | refine blk_alloc ?_ _)); exact BK283.out)) : gb284 ≠ gb283)); clear BK283; clear HB; have BK283 := n0_; have HB := n1_; have BK284 := n2_; have GW284 := n3_; have GE284 := n4_; have NB283_284 := n5_; have NB284_283 := n6_; clear n0_ n1_ n2_ n3_ n4_ n5_ n6_; clear hb hbox hg; have hnb7 := NB283_284.out; have hnc7 := NB284_283.out; have hcz8_0 : w6.cell? ⟨gb283, 0, none⟩ = some (.int .i64 a0_0) := (blk_cell BK283.out 0).trans rfl; have hcz8_1 : w6.cell? ⟨gb283, 1, none⟩ = some (.int .i64 a0_1) := (blk_cell BK283.out 1).trans rfl; have hcz8_2 : w6.cell? ⟨gb283, 2, none⟩ = some (.int .i64 a0_2) := (blk_cell BK283.out 2).trans rfl; have hcz8_3 : w6.cell? ⟨gb283, 3, none⟩ = some (.slice A0_3 l0_3.length c0_3) := (blk_cell BK283.out 3).trans rfl; have hfz8_0 := blk_frozen BK283.out 0; have hfz8_1 := blk_frozen BK283.out 1; have hfz8_2 := blk_frozen BK283.out 2; have hfz8_3 := blk_frozen BK283.out 3; have hcz9_0 : w6.cell? ⟨gb284, 0, none⟩ = some (.int .i64 a1_0) := (blk_cell BK284.out 0).trans rfl; have hcz9_1 : w6.cell? ⟨gb284, 1, none⟩ = some (.int .i64 a1_1) := (blk_cell BK284.out 1).trans rfl; have hcz9_2 : w6.cell? ⟨gb284, 2, none⟩ = some (.int .i64 a1_2) := (blk_cell BK284.out 2).trans rfl; have hcz9_3 : w6.cell? ⟨gb284, 3, none⟩ = some (.int .i64 a1_3) := (blk_cell BK284.out 3).trans rfl; have hcz9_4 : w6.cell? ⟨gb284, 4, none⟩ = some (.int .i64 a1_4) := (blk_cell BK284.out 4).trans rfl; have hcz9_5 : w6.cell? ⟨gb284, 5, none⟩ = some (.int .i64 a1_5) := (blk_cell BK284.out 5).trans rfl; have hfz9_0 := blk_frozen BK284.out 0; have hfz9_1 := blk_frozen BK284.out 1; have hfz9_2 := blk_frozen BK284.out 2; have hfz9_3 := blk_frozen BK284.out 3; have hfz9_4 := blk_frozen BK284.out 4; have hfz9_5 := blk_frozen BK284.out 5) | ((with_reducible refine gate_callee (f := 79) rfl ?_); refine goesL_ (some 15) rfl rfl Tryd.func79 (by kernel_rfl) rfl #[.agg #[.int .i64 a0_0, .int .i64 a0_1, .int .i64 a0_2, .slice A0_3 l0_3.length c0_3], .int .i64 a1_0, .int .i64 a1_1] rfl (by (try simp only [List.map_toArray, List.map_cons, List.map_nil]); first | done | rfl | (simp only [List.length_drop, List.length_take]; rfl)) ?_; (with_reducible refine (relief_Height.calls k a0_0 a0_1 a0_2 _ _ l0_3 a1_0 a1_1 t285 t286 _ ?side1 ?side2 A3.out).mono ?_); (case side1 => repeat (first | exact (Kd.C_below HR0_3.out HB.out) | (with_reducible refine Kd.C_alloc ?_ _) | (with_reducible refine Kd.C_drewN ?_ _) | (with_reducible refine Kd.C_drew ?_))); (case side2 => exact HC0_3.out); rintro e w10 ⟨rfl, hb⟩; refine ⟨_, rfl, ?_⟩; have n0_ := Aside0.mk (blk_below (g := gb283) (o := .cells #[.int .i64 a0_0, .int .i64 a0_1, .int .i64 a0_2, .slice A0_3 l0_3.length c0_3] 45 (0, 0)) (by (with_reducible repeat (first | refine blk_drewN ?_ _ | refine blk_drew ?_ | refine blk_alloc ?_ _)); exact BK283.out) hb); have n1_ := Aside0.mk (blk_below (g := gb284) (o := .cells #[.int .i64 a1_0, .int .i64 a1_1, .int .i64 a1_2, .int .i64 a1_3, .int .i64 a1_4, .int .i64 a1_5] 47 (0, 0)) (by (with_reducible repeat (first | refine blk_drewN ?_ _ | refine blk_drew ?_ | refine blk_alloc ?_ _)); exact BK284.out) hb); have n2_ := Aside0.mk (below_step (by repeat (first | (with_reducible first | exact HB.out | apply below_alloc | apply pw_below_drewN | apply below_drew1 | refine below_set ?_ GE283.out | refine below_set ?_ GE284.out) | exact HB.out)) hb); clear BK283; clear BK284; clear HB; have BK283 := n0_; have BK284 := n1_; have HB := n2_; clear n0_ n1_ n2_; (try clear hb); (try clear hb2); (try clear hk); (try clear hi)))
    go_ret2
    exact ⟨by first | rfl | (simp [errW_none, errW_some] <;> rfl) | (simp [*, errW_none, errW_some] <;> rfl), by repeat (first | (with_reducible first | exact HB.out | apply below_alloc | apply pw_below_drewN | apply below_drew1 | refine below_set ?_ GE283.out | refine below_set ?_ GE284.out) | exact HB.out)⟩
  · rw [if_neg c4] at H
    have c4b0 : (t286 == 1) = false := beq_eq_false_iff_ne.mpr c4
    have c4b1 : (t286 != 1) = true := bne_iff_ne.mpr c4
    by_cases c11 : t286 = 4
    · rw [if_pos c11] at H
      have c11b0 : (t286 == 4) = true := beq_iff_eq.mpr c11
      have c11b1 : (t286 != 4) = false := bne_eq_false_iff_eq.mpr c11
      clear c11
      simp only [Option.some.injEq, Prod.mk.injEq] at H
      obtain ⟨rfl, rfl⟩ := H
      go_enter Tryd.func64, Tryd.ntmps64
      go_wp2_with (first | ((with_reducible refine gate_dst (N := 2) rfl ?_); refine box_event ?hg (N := 2) ?hd (cs := #[.int .i64 a0_0, .int .i64 a0_1, .int .i64 a0_2, .slice A0_3 l0_3.length c0_3]) (t := 45) ?hr ?_; (case hd => rfl); (case hg => rfl); (case hr => first | (go_simp; done) | (go_simp; rfl)); intro gb283 hg w12 hbox hb; have n0_ := Aside0.mk (below_step (by repeat (first | (with_reducible first | exact HB.out | apply below_alloc | apply pw_below_drewN | apply below_drew1) | exact HB.out)) hb); have n1_ := Aside0.mk (hbox); have n2_ := Aside0.mk ((by rw [hg]; exact (below_size (by repeat (first | (with_reducible first | exact HB.out | apply below_alloc | apply pw_below_drewN | apply below_drew1) | exact HB.out))) : w.heap.size ≤ gb283)); have n3_ := Aside0.mk ((by rw [hg]; exact (below_size (by repeat (first | (with_reducible first | exact HB.out | apply below_alloc | apply pw_below_drewN | apply below_drew1) | exact HB.out))) : w.heap.size ≤ gb283)); clear HB; have HB := n0_; have BK283 := n1_; have GW283 := n2_; have GE283 := n3_; clear n0_ n1_ n2_ n3_; clear hb hbox hg) | ((with_reducible refine gate_dst (N := 3) rfl ?_); refine box_event ?hg (N := 3) ?hd (cs := #[.int .i64 a1_0, .int .i64 a1_1, .int .i64 a1_2, .int .i64 a1_3, .int .i64 a1_4, .int .i64 a1_5]) (t := 47) ?hr ?_; (case hd => rfl); (case hg => rfl); (case hr => first | (go_simp; done) | (go_simp; rfl)); intro gb284 hg w13 hbox hb; have n0_ := Aside0.mk (blk_below (g := gb283) (o := .cells #[.int .i64 a0_0, .int .i64 a0_1, .int .i64 a0_2, .slice A0_3 l0_3.length c0_3] 45 (0, 0)) (by (with_reducible repeat (first | refine blk_drewN ?_ _ | refine blk_drew ?_ | refine blk_alloc ?_ _)); exact BK283.out) hb); have n1_ := Aside0.mk (below_step (by repeat (first | (with_reducible first | exact HB.out | apply below_alloc | apply pw_below_drewN | apply below_drew1 | refine below_set ?_ GE283.out) | exact HB.out)) hb); have n2_ := Aside0.mk (hbox); have n3_ := Aside0.mk ((by rw [hg]; exact (below_size (by repeat (first | (with_reducible first | exact HB.out | apply below_alloc | apply pw_below_drewN | apply below_drew1 | refine below_set ?_ GE283.out) | exact HB.out))) : w.heap.size ≤ gb284)); have n4_ := Aside0.mk ((by rw [hg]; exact (below_size (by repeat (first | (with_reducible first | exact HB.out | apply below_alloc | apply pw_below_drewN | apply below_drew1 | refine below_set ?_ GE283.out) | exact HB.out))) : w.heap.size ≤ gb284)); have n5_ := Aside0.mk ((by rw [hg]; exact Nat.ne_of_lt (blk_lt (g := gb283) (o := .cells #[.int .i64 a0_0, .int .i64 a0_1, .int .i64 a0_2, .slice A0_3 l0_3.length c0_3] 45 (0, 0)) (by (with_reducible repeat (first | refine blk_drewN ?_ _ | refine blk_drew ?_ | refine blk_alloc ?_ _)); exact BK283.out)) : gb283 ≠ gb284)); have n6_ := Aside0.mk ((by rw [hg]; exact Nat.ne_of_gt (blk_lt (g := gb283) (o := .cells #[.int .i64 a0_0, .int .i64 a0_1, .int .i64 a0_2, .slice A0_3 l0_3.length c0_3] 45 (0, 0)) (by (with_reducible repeat (first | refine blk_drewN ?_ _ | refine blk_drew ?_ | refine blk_alloc ?_ _)); exact BK283.out)) : gb284 ≠ gb283)); clear BK283; clear HB; have BK283 := n0_; have HB := n1_; have BK284 := n2_; have GW284 := n3_; have GE284 := n4_; have NB283_284 := n5_; have NB284_283 := n6_; clear n0_ n1_ n2_ n3_ n4_ n5_ n6_; clear hb hbox hg; have hnb14 := NB283_284.out; have hnc14 := NB284_283.out; have hcz15_0 : w13.cell? ⟨gb283, 0, none⟩ = some (.int .i64 a0_0) := (blk_cell BK283.out 0).trans rfl; have hcz15_1 : w13.cell? ⟨gb283, 1, none⟩ = some (.int .i64 a0_1) := (blk_cell BK283.out 1).trans rfl; have hcz15_2 : w13.cell? ⟨gb283, 2, none⟩ = some (.int .i64 a0_2) := (blk_cell BK283.out 2).trans rfl; have hcz15_3 : w13.cell? ⟨gb283, 3, none⟩ = some (.slice A0_3 l0_3.length c0_3) := (blk_cell BK283.out 3).trans rfl; have hfz15_0 := blk_frozen BK283.out 0; have hfz15_1 := blk_frozen BK283.out 1; have hfz15_2 := blk_frozen BK283.out 2; have hfz15_3 := blk_frozen BK283.out 3; have hcz16_0 : w13.cell? ⟨gb284, 0, none⟩ = some (.int .i64 a1_0) := (blk_cell BK284.out 0).trans rfl; have hcz16_1 : w13.cell? ⟨gb284, 1, none⟩ = some (.int .i64 a1_1) := (blk_cell BK284.out 1).trans rfl; have hcz16_2 : w13.cell? ⟨gb284, 2, none⟩ = some (.int .i64 a1_2) := (blk_cell BK284.out 2).trans rfl; have hcz16_3 : w13.cell? ⟨gb284, 3, none⟩ = some (.int .i64 a1_3) := (blk_cell BK284.out 3).trans rfl; have hcz16_4 : w13.cell? ⟨gb284, 4, none⟩ = some (.int .i64 a1_4) := (blk_cell BK284.out 4).trans rfl; have hcz16_5 : w13.cell? ⟨gb284, 5, none⟩ = some (.int .i64 a1_5) := (blk_cell BK284.out 5).trans rfl; have hfz16_0 := blk_frozen BK284.out 0; have hfz16_1 := blk_frozen BK284.out 1; have hfz16_2 := blk_frozen BK284.out 2; have hfz16_3 := blk_frozen BK284.out 3; have hfz16_4 := blk_frozen BK284.out 4; have hfz16_5 := blk_frozen BK284.out 5) | ((with_reducible refine gate_callee (f := 79) rfl ?_); refine goesL_ (some 15) rfl rfl Tryd.func79 (by kernel_rfl) rfl #[.agg #[.int .i64 a0_0, .int .i64 a0_1, .int .i64 a0_2, .slice A0_3 l0_3.length c0_3], .int .i64 a1_0, .int .i64 a1_1] rfl (by (try simp only [List.map_toArray, List.map_cons, List.map_nil]); first | done | rfl | (simp only [List.length_drop, List.length_take]; rfl)) ?_; (with_reducible refine (relief_Height.calls k a0_0 a0_1 a0_2 _ _ l0_3 a1_0 a1_1 t285 t286 _ ?side1 ?side2 A3.out).mono ?_); (case side1 => repeat (first | exact (Kd.C_below HR0_3.out HB.out) | (with_reducible refine Kd.C_alloc ?_ _) | (with_reducible refine Kd.C_drewN ?_ _) | (with_reducible refine Kd.C_drew ?_))); (case side2 => exact HC0_3.out); rintro e w17 ⟨rfl, hb⟩; refine ⟨_, rfl, ?_⟩; have n0_ := Aside0.mk (blk_below (g := gb283) (o := .cells #[.int .i64 a0_0, .int .i64 a0_1, .int .i64 a0_2, .slice A0_3 l0_3.length c0_3] 45 (0, 0)) (by (with_reducible repeat (first | refine blk_drewN ?_ _ | refine blk_drew ?_ | refine blk_alloc ?_ _)); exact BK283.out) hb); have n1_ := Aside0.mk (blk_below (g := gb284) (o := .cells #[.int .i64 a1_0, .int .i64 a1_1, .int .i64 a1_2, .int .i64 a1_3, .int .i64 a1_4, .int .i64 a1_5] 47 (0, 0)) (by (with_reducible repeat (first | refine blk_drewN ?_ _ | refine blk_drew ?_ | refine blk_alloc ?_ _)); exact BK284.out) hb); have n2_ := Aside0.mk (below_step (by repeat (first | (with_reducible first | exact HB.out | apply below_alloc | apply pw_below_drewN | apply below_drew1 | refine below_set ?_ GE283.out | refine below_set ?_ GE284.out) | exact HB.out)) hb); clear BK283; clear BK284; clear HB; have BK283 := n0_; have BK284 := n1_; have HB := n2_; clear n0_ n1_ n2_; (try clear hb); (try clear hb2); (try clear hk); (try clear hi)))
      go_ret2
      exact ⟨by first | rfl | (simp [errW_none, errW_some] <;> rfl) | (simp [*, errW_none, errW_some] <;> rfl), by repeat (first | (with_reducible first | exact HB.out | apply below_alloc | apply pw_below_drewN | apply below_drew1 | refine below_set ?_ GE283.out | refine below_set ?_ GE284.out) | exact HB.out)⟩
    · rw [if_neg c11] at H
      have c11b0 : (t286 == 4) = false := beq_eq_false_iff_ne.mpr c11
      have c11b1 : (t286 != 4) = true := bne_iff_ne.mpr c11
      obtain ⟨ji18, hji18⟩ : ∃ j_ : Int, (mx t285 (wrap64 (a0_2 * 65536))) = j_ := ⟨_, rfl⟩
      replace H : (if a1_2 > (ji18) then (some (0, 0)) else (if t285 ≥ (wrap64 (a0_2 * 65536)) then (some (1, 0)) else (some (2, 0)))) = some (r1, r2) := by first | (rw [hji18] at H; exact H) | (simp only [hji18] at H ⊢; exact H)
      (try rw [hji18] at A3)
      have hji18_ : (if t285 < (wrap64 (a0_2 * 65536)) then (wrap64 (a0_2 * 65536)) else t285) = ji18 := hji18
      by_cases c19 : a1_2 > (ji18)
      · rw [if_pos c19] at H
        have c19b0 : decide ((ji18) < a1_2) = true := decide_eq_true c19
        clear c19
        simp only [Option.some.injEq, Prod.mk.injEq] at H
        obtain ⟨rfl, rfl⟩ := H
        go_enter Tryd.func64, Tryd.ntmps64
        go_wp2_with (first | ((with_reducible refine gate_dst (N := 2) rfl ?_); refine box_event ?hg (N := 2) ?hd (cs := #[.int .i64 a0_0, .int .i64 a0_1, .int .i64 a0_2, .slice A0_3 l0_3.length c0_3]) (t := 45) ?hr ?_; (case hd => rfl); (case hg => rfl); (case hr => first | (go_simp; done) | (go_simp; rfl)); intro gb283 hg w20 hbox hb; have n0_ := Aside0.mk (below_step (by repeat (first | (with_reducible first | exact HB.out | apply below_alloc | apply pw_below_drewN | apply below_drew1) | exact HB.out)) hb); have n1_ := Aside0.mk (hbox); have n2_ := Aside0.mk ((by rw [hg]; exact (below_size (by repeat (first | (with_reducible first | exact HB.out | apply below_alloc | apply pw_below_drewN | apply below_drew1) | exact HB.out))) : w.heap.size ≤ gb283)); have n3_ := Aside0.mk ((by rw [hg]; exact (below_size (by repeat (first | (with_reducible first | exact HB.out | apply below_alloc | apply pw_below_drewN | apply below_drew1) | exact HB.out))) : w.heap.size ≤ gb283)); clear HB; have HB := n0_; have BK283 := n1_; have GW283 := n2_; have GE283 := n3_; clear n0_ n1_ n2_ n3_; clear hb hbox hg) | ((with_reducible refine gate_dst (N := 3) rfl ?_); refine box_event ?hg (N := 3) ?hd (cs := #[.int .i64 a1_0, .int .i64 a1_1, .int .i64 a1_2, .int .i64 a1_3, .int .i64 a1_4, .int .i64 a1_5]) (t := 47) ?hr ?_; (case hd => rfl); (case hg => rfl); (case hr => first | (go_simp; done) | (go_simp; rfl)); intro gb284 hg w21 hbox hb; have n0_ := Aside0.mk (blk_below (g := gb283) (o := .cells #[.int .i64 a0_0, .int .i64 a0_1, .int .i64 a0_2, .slice A0_3 l0_3.length c0_3] 45 (0, 0)) (by (with_reducible repeat (first | refine blk_drewN ?_ _ | refine blk_drew ?_ | refine blk_alloc ?_ _)); exact BK283.out) hb); have n1_ := Aside0.mk (below_step (by repeat (first | (with_reducible first | exact HB.out | apply below_alloc | apply pw_below_drewN | apply below_drew1 | refine below_set ?_ GE283.out) | exact HB.out)) hb); have n2_ := Aside0.mk (hbox); have n3_ := Aside0.mk ((by rw [hg]; exact (below_size (by repeat (first | (with_reducible first | exact HB.out | apply below_alloc | apply pw_below_drewN | apply below_drew1 | refine below_set ?_ GE283.out) | exact HB.out))) : w.heap.size ≤ gb284)); have n4_ := Aside0.mk ((by rw [hg]; exact (below_size (by repeat (first | (with_reducible first | exact HB.out | apply below_alloc | apply pw_below_drewN | apply below_drew1 | refine below_set ?_ GE283.out) | exact HB.out))) : w.heap.size ≤ gb284)); have n5_ := Aside0.mk ((by rw [hg]; exact Nat.ne_of_lt (blk_lt (g := gb283) (o := .cells #[.int .i64 a0_0, .int .i64 a0_1, .int .i64 a0_2, .slice A0_3 l0_3.length c0_3] 45 (0, 0)) (by (with_reducible repeat (first | refine blk_drewN ?_ _ | refine blk_drew ?_ | refine blk_alloc ?_ _)); exact BK283.out)) : gb283 ≠ gb284)); have n6_ := Aside0.mk ((by rw [hg]; exact Nat.ne_of_gt (blk_lt (g := gb283) (o := .cells #[.int .i64 a0_0, .int .i64 a0_1, .int .i64 a0_2, .slice A0_3 l0_3.length c0_3] 45 (0, 0)) (by (with_reducible repeat (first | refine blk_drewN ?_ _ | refine blk_drew ?_ | refine blk_alloc ?_ _)); exact BK283.out)) : gb284 ≠ gb283)); clear BK283; clear HB; have BK283 := n0_; have HB := n1_; have BK284 := n2_; have GW284 := n3_; have GE284 := n4_; have NB283_284 := n5_; have NB284_283 := n6_; clear n0_ n1_ n2_ n3_ n4_ n5_ n6_; clear hb hbox hg; have hnb22 := NB283_284.out; have hnc22 := NB284_283.out; have hcz23_0 : w21.cell? ⟨gb283, 0, none⟩ = some (.int .i64 a0_0) := (blk_cell BK283.out 0).trans rfl; have hcz23_1 : w21.cell? ⟨gb283, 1, none⟩ = some (.int .i64 a0_1) := (blk_cell BK283.out 1).trans rfl; have hcz23_2 : w21.cell? ⟨gb283, 2, none⟩ = some (.int .i64 a0_2) := (blk_cell BK283.out 2).trans rfl; have hcz23_3 : w21.cell? ⟨gb283, 3, none⟩ = some (.slice A0_3 l0_3.length c0_3) := (blk_cell BK283.out 3).trans rfl; have hfz23_0 := blk_frozen BK283.out 0; have hfz23_1 := blk_frozen BK283.out 1; have hfz23_2 := blk_frozen BK283.out 2; have hfz23_3 := blk_frozen BK283.out 3; have hcz24_0 : w21.cell? ⟨gb284, 0, none⟩ = some (.int .i64 a1_0) := (blk_cell BK284.out 0).trans rfl; have hcz24_1 : w21.cell? ⟨gb284, 1, none⟩ = some (.int .i64 a1_1) := (blk_cell BK284.out 1).trans rfl; have hcz24_2 : w21.cell? ⟨gb284, 2, none⟩ = some (.int .i64 a1_2) := (blk_cell BK284.out 2).trans rfl; have hcz24_3 : w21.cell? ⟨gb284, 3, none⟩ = some (.int .i64 a1_3) := (blk_cell BK284.out 3).trans rfl; have hcz24_4 : w21.cell? ⟨gb284, 4, none⟩ = some (.int .i64 a1_4) := (blk_cell BK284.out 4).trans rfl; have hcz24_5 : w21.cell? ⟨gb284, 5, none⟩ = some (.int .i64 a1_5) := (blk_cell BK284.out 5).trans rfl; have hfz24_0 := blk_frozen BK284.out 0; have hfz24_1 := blk_frozen BK284.out 1; have hfz24_2 := blk_frozen BK284.out 2; have hfz24_3 := blk_frozen BK284.out 3; have hfz24_4 := blk_frozen BK284.out 4; have hfz24_5 := blk_frozen BK284.out 5) | ((with_reducible refine gate_callee (f := 79) rfl ?_); refine goesL_ (some 15) rfl rfl Tryd.func79 (by kernel_rfl) rfl #[.agg #[.int .i64 a0_0, .int .i64 a0_1, .int .i64 a0_2, .slice A0_3 l0_3.length c0_3], .int .i64 a1_0, .int .i64 a1_1] rfl (by (try simp only [List.map_toArray, List.map_cons, List.map_nil]); first | done | rfl | (simp only [List.length_drop, List.length_take]; rfl)) ?_; (with_reducible refine (relief_Height.calls k a0_0 a0_1 a0_2 _ _ l0_3 a1_0 a1_1 t285 t286 _ ?side1 ?side2 A3.out).mono ?_); (case side1 => repeat (first | exact (Kd.C_below HR0_3.out HB.out) | (with_reducible refine Kd.C_alloc ?_ _) | (with_reducible refine Kd.C_drewN ?_ _) | (with_reducible refine Kd.C_drew ?_))); (case side2 => exact HC0_3.out); rintro e w25 ⟨rfl, hb⟩; refine ⟨_, rfl, ?_⟩; have n0_ := Aside0.mk (blk_below (g := gb283) (o := .cells #[.int .i64 a0_0, .int .i64 a0_1, .int .i64 a0_2, .slice A0_3 l0_3.length c0_3] 45 (0, 0)) (by (with_reducible repeat (first | refine blk_drewN ?_ _ | refine blk_drew ?_ | refine blk_alloc ?_ _)); exact BK283.out) hb); have n1_ := Aside0.mk (blk_below (g := gb284) (o := .cells #[.int .i64 a1_0, .int .i64 a1_1, .int .i64 a1_2, .int .i64 a1_3, .int .i64 a1_4, .int .i64 a1_5] 47 (0, 0)) (by (with_reducible repeat (first | refine blk_drewN ?_ _ | refine blk_drew ?_ | refine blk_alloc ?_ _)); exact BK284.out) hb); have n2_ := Aside0.mk (below_step (by repeat (first | (with_reducible first | exact HB.out | apply below_alloc | apply pw_below_drewN | apply below_drew1 | refine below_set ?_ GE283.out | refine below_set ?_ GE284.out) | exact HB.out)) hb); clear BK283; clear BK284; clear HB; have BK283 := n0_; have BK284 := n1_; have HB := n2_; clear n0_ n1_ n2_; (try clear hb); (try clear hb2); (try clear hk); (try clear hi); have hcz26_0 : w25.cell? ⟨gb283, 0, none⟩ = some (.int .i64 a0_0) := (blk_cell BK283.out 0).trans rfl; have hcz26_1 : w25.cell? ⟨gb283, 1, none⟩ = some (.int .i64 a0_1) := (blk_cell BK283.out 1).trans rfl; have hcz26_2 : w25.cell? ⟨gb283, 2, none⟩ = some (.int .i64 a0_2) := (blk_cell BK283.out 2).trans rfl; have hcz26_3 : w25.cell? ⟨gb283, 3, none⟩ = some (.slice A0_3 l0_3.length c0_3) := (blk_cell BK283.out 3).trans rfl; have hfz26_0 := blk_frozen BK283.out 0; have hfz26_1 := blk_frozen BK283.out 1; have hfz26_2 := blk_frozen BK283.out 2; have hfz26_3 := blk_frozen BK283.out 3; have hcz27_0 : w25.cell? ⟨gb284, 0, none⟩ = some (.int .i64 a1_0) := (blk_cell BK284.out 0).trans rfl; have hcz27_1 : w25.cell? ⟨gb284, 1, none⟩ = some (.int .i64 a1_1) := (blk_cell BK284.out 1).trans rfl; have hcz27_2 : w25.cell? ⟨gb284, 2, none⟩ = some (.int .i64 a1_2) := (blk_cell BK284.out 2).trans rfl; have hcz27_3 : w25.cell? ⟨gb284, 3, none⟩ = some (.int .i64 a1_3) := (blk_cell BK284.out 3).trans rfl; have hcz27_4 : w25.cell? ⟨gb284, 4, none⟩ = some (.int .i64 a1_4) := (blk_cell BK284.out 4).trans rfl; have hcz27_5 : w25.cell? ⟨gb284, 5, none⟩ = some (.int .i64 a1_5) := (blk_cell BK284.out 5).trans rfl; have hfz27_0 := blk_frozen BK284.out 0; have hfz27_1 := blk_frozen BK284.out 1; have hfz27_2 := blk_frozen BK284.out 2; have hfz27_3 := blk_frozen BK284.out 3; have hfz27_4 := blk_frozen BK284.out 4; have hfz27_5 := blk_frozen BK284.out 5))
        go_ret2
        exact ⟨by first | rfl | (simp [errW_none, errW_some] <;> rfl) | (simp only [← hji18]; first | rfl | (simp [errW_none, errW_some] <;> rfl)) | (simp [*, errW_none, errW_some] <;> rfl), by repeat (first | (with_reducible first | exact HB.out | apply below_alloc | apply pw_below_drewN | apply below_drew1 | refine below_set ?_ GE283.out | refine below_set ?_ GE284.out) | exact HB.out)⟩
      · rw [if_neg c19] at H
        have c19b0 : decide ((ji18) < a1_2) = false := decide_eq_false c19
        clear c19
        by_cases c28 : t285 ≥ (wrap64 (a0_2 * 65536))
        · rw [if_pos c28] at H
          have c28b0 : decide ((wrap64 (a0_2 * 65536)) ≤ t285) = true := decide_eq_true c28
          clear c28
          simp only [Option.some.injEq, Prod.mk.injEq] at H
          obtain ⟨rfl, rfl⟩ := H
          go_enter Tryd.func64, Tryd.ntmps64
          go_wp2_with (first | ((with_reducible refine gate_dst (N := 2) rfl ?_); refine box_event ?hg (N := 2) ?hd (cs := #[.int .i64 a0_0, .int .i64 a0_1, .int .i64 a0_2, .slice A0_3 l0_3.length c0_3]) (t := 45) ?hr ?_; (case hd => rfl); (case hg => rfl); (case hr => first | (go_simp; done) | (go_simp; rfl)); intro gb283 hg w29 hbox hb; have n0_ := Aside0.mk (below_step (by repeat (first | (with_reducible first | exact HB.out | apply below_alloc | apply pw_below_drewN | apply below_drew1) | exact HB.out)) hb); have n1_ := Aside0.mk (hbox); have n2_ := Aside0.mk ((by rw [hg]; exact (below_size (by repeat (first | (with_reducible first | exact HB.out | apply below_alloc | apply pw_below_drewN | apply below_drew1) | exact HB.out))) : w.heap.size ≤ gb283)); have n3_ := Aside0.mk ((by rw [hg]; exact (below_size (by repeat (first | (with_reducible first | exact HB.out | apply below_alloc | apply pw_below_drewN | apply below_drew1) | exact HB.out))) : w.heap.size ≤ gb283)); clear HB; have HB := n0_; have BK283 := n1_; have GW283 := n2_; have GE283 := n3_; clear n0_ n1_ n2_ n3_; clear hb hbox hg) | ((with_reducible refine gate_dst (N := 3) rfl ?_); refine box_event ?hg (N := 3) ?hd (cs := #[.int .i64 a1_0, .int .i64 a1_1, .int .i64 a1_2, .int .i64 a1_3, .int .i64 a1_4, .int .i64 a1_5]) (t := 47) ?hr ?_; (case hd => rfl); (case hg => rfl); (case hr => first | (go_simp; done) | (go_simp; rfl)); intro gb284 hg w30 hbox hb; have n0_ := Aside0.mk (blk_below (g := gb283) (o := .cells #[.int .i64 a0_0, .int .i64 a0_1, .int .i64 a0_2, .slice A0_3 l0_3.length c0_3] 45 (0, 0)) (by (with_reducible repeat (first | refine blk_drewN ?_ _ | refine blk_drew ?_ | refine blk_alloc ?_ _)); exact BK283.out) hb); have n1_ := Aside0.mk (below_step (by repeat (first | (with_reducible first | exact HB.out | apply below_alloc | apply pw_below_drewN | apply below_drew1 | refine below_set ?_ GE283.out) | exact HB.out)) hb); have n2_ := Aside0.mk (hbox); have n3_ := Aside0.mk ((by rw [hg]; exact (below_size (by repeat (first | (with_reducible first | exact HB.out | apply below_alloc | apply pw_below_drewN | apply below_drew1 | refine below_set ?_ GE283.out) | exact HB.out))) : w.heap.size ≤ gb284)); have n4_ := Aside0.mk ((by rw [hg]; exact (below_size (by repeat (first | (with_reducible first | exact HB.out | apply below_alloc | apply pw_below_drewN | apply below_drew1 | refine below_set ?_ GE283.out) | exact HB.out))) : w.heap.size ≤ gb284)); have n5_ := Aside0.mk ((by rw [hg]; exact Nat.ne_of_lt (blk_lt (g := gb283) (o := .cells #[.int .i64 a0_0, .int .i64 a0_1, .int .i64 a0_2, .slice A0_3 l0_3.length c0_3] 45 (0, 0)) (by (with_reducible repeat (first | refine blk_drewN ?_ _ | refine blk_drew ?_ | refine blk_alloc ?_ _)); exact BK283.out)) : gb283 ≠ gb284)); have n6_ := Aside0.mk ((by rw [hg]; exact Nat.ne_of_gt (blk_lt (g := gb283) (o := .cells #[.int .i64 a0_0, .int .i64 a0_1, .int .i64 a0_2, .slice A0_3 l0_3.length c0_3] 45 (0, 0)) (by (with_reducible repeat (first | refine blk_drewN ?_ _ | refine blk_drew ?_ | refine blk_alloc ?_ _)); exact BK283.out)) : gb284 ≠ gb283)); clear BK283; clear HB; have BK283 := n0_; have HB := n1_; have BK284 := n2_; have GW284 := n3_; have GE284 := n4_; have NB283_284 := n5_; have NB284_283 := n6_; clear n0_ n1_ n2_ n3_ n4_ n5_ n6_; clear hb hbox hg; have hnb31 := NB283_284.out; have hnc31 := NB284_283.out; have hcz32_0 : w30.cell? ⟨gb283, 0, none⟩ = some (.int .i64 a0_0) := (blk_cell BK283.out 0).trans rfl; have hcz32_1 : w30.cell? ⟨gb283, 1, none⟩ = some (.int .i64 a0_1) := (blk_cell BK283.out 1).trans rfl; have hcz32_2 : w30.cell? ⟨gb283, 2, none⟩ = some (.int .i64 a0_2) := (blk_cell BK283.out 2).trans rfl; have hcz32_3 : w30.cell? ⟨gb283, 3, none⟩ = some (.slice A0_3 l0_3.length c0_3) := (blk_cell BK283.out 3).trans rfl; have hfz32_0 := blk_frozen BK283.out 0; have hfz32_1 := blk_frozen BK283.out 1; have hfz32_2 := blk_frozen BK283.out 2; have hfz32_3 := blk_frozen BK283.out 3; have hcz33_0 : w30.cell? ⟨gb284, 0, none⟩ = some (.int .i64 a1_0) := (blk_cell BK284.out 0).trans rfl; have hcz33_1 : w30.cell? ⟨gb284, 1, none⟩ = some (.int .i64 a1_1) := (blk_cell BK284.out 1).trans rfl; have hcz33_2 : w30.cell? ⟨gb284, 2, none⟩ = some (.int .i64 a1_2) := (blk_cell BK284.out 2).trans rfl; have hcz33_3 : w30.cell? ⟨gb284, 3, none⟩ = some (.int .i64 a1_3) := (blk_cell BK284.out 3).trans rfl; have hcz33_4 : w30.cell? ⟨gb284, 4, none⟩ = some (.int .i64 a1_4) := (blk_cell BK284.out 4).trans rfl; have hcz33_5 : w30.cell? ⟨gb284, 5, none⟩ = some (.int .i64 a1_5) := (blk_cell BK284.out 5).trans rfl; have hfz33_0 := blk_frozen BK284.out 0; have hfz33_1 := blk_frozen BK284.out 1; have hfz33_2 := blk_frozen BK284.out 2; have hfz33_3 := blk_frozen BK284.out 3; have hfz33_4 := blk_frozen BK284.out 4; have hfz33_5 := blk_frozen BK284.out 5) | ((with_reducible refine gate_callee (f := 79) rfl ?_); refine goesL_ (some 15) rfl rfl Tryd.func79 (by kernel_rfl) rfl #[.agg #[.int .i64 a0_0, .int .i64 a0_1, .int .i64 a0_2, .slice A0_3 l0_3.length c0_3], .int .i64 a1_0, .int .i64 a1_1] rfl (by (try simp only [List.map_toArray, List.map_cons, List.map_nil]); first | done | rfl | (simp only [List.length_drop, List.length_take]; rfl)) ?_; (with_reducible refine (relief_Height.calls k a0_0 a0_1 a0_2 _ _ l0_3 a1_0 a1_1 t285 t286 _ ?side1 ?side2 A3.out).mono ?_); (case side1 => repeat (first | exact (Kd.C_below HR0_3.out HB.out) | (with_reducible refine Kd.C_alloc ?_ _) | (with_reducible refine Kd.C_drewN ?_ _) | (with_reducible refine Kd.C_drew ?_))); (case side2 => exact HC0_3.out); rintro e w34 ⟨rfl, hb⟩; refine ⟨_, rfl, ?_⟩; have n0_ := Aside0.mk (blk_below (g := gb283) (o := .cells #[.int .i64 a0_0, .int .i64 a0_1, .int .i64 a0_2, .slice A0_3 l0_3.length c0_3] 45 (0, 0)) (by (with_reducible repeat (first | refine blk_drewN ?_ _ | refine blk_drew ?_ | refine blk_alloc ?_ _)); exact BK283.out) hb); have n1_ := Aside0.mk (blk_below (g := gb284) (o := .cells #[.int .i64 a1_0, .int .i64 a1_1, .int .i64 a1_2, .int .i64 a1_3, .int .i64 a1_4, .int .i64 a1_5] 47 (0, 0)) (by (with_reducible repeat (first | refine blk_drewN ?_ _ | refine blk_drew ?_ | refine blk_alloc ?_ _)); exact BK284.out) hb); have n2_ := Aside0.mk (below_step (by repeat (first | (with_reducible first | exact HB.out | apply below_alloc | apply pw_below_drewN | apply below_drew1 | refine below_set ?_ GE283.out | refine below_set ?_ GE284.out) | exact HB.out)) hb); clear BK283; clear BK284; clear HB; have BK283 := n0_; have BK284 := n1_; have HB := n2_; clear n0_ n1_ n2_; (try clear hb); (try clear hb2); (try clear hk); (try clear hi); have hcz35_0 : w34.cell? ⟨gb283, 0, none⟩ = some (.int .i64 a0_0) := (blk_cell BK283.out 0).trans rfl; have hcz35_1 : w34.cell? ⟨gb283, 1, none⟩ = some (.int .i64 a0_1) := (blk_cell BK283.out 1).trans rfl; have hcz35_2 : w34.cell? ⟨gb283, 2, none⟩ = some (.int .i64 a0_2) := (blk_cell BK283.out 2).trans rfl; have hcz35_3 : w34.cell? ⟨gb283, 3, none⟩ = some (.slice A0_3 l0_3.length c0_3) := (blk_cell BK283.out 3).trans rfl; have hfz35_0 := blk_frozen BK283.out 0; have hfz35_1 := blk_frozen BK283.out 1; have hfz35_2 := blk_frozen BK283.out 2; have hfz35_3 := blk_frozen BK283.out 3; have hcz36_0 : w34.cell? ⟨gb284, 0, none⟩ = some (.int .i64 a1_0) := (blk_cell BK284.out 0).trans rfl; have hcz36_1 : w34.cell? ⟨gb284, 1, none⟩ = some (.int .i64 a1_1) := (blk_cell BK284.out 1).trans rfl; have hcz36_2 : w34.cell? ⟨gb284, 2, none⟩ = some (.int .i64 a1_2) := (blk_cell BK284.out 2).trans rfl; have hcz36_3 : w34.cell? ⟨gb284, 3, none⟩ = some (.int .i64 a1_3) := (blk_cell BK284.out 3).trans rfl; have hcz36_4 : w34.cell? ⟨gb284, 4, none⟩ = some (.int .i64 a1_4) := (blk_cell BK284.out 4).trans rfl; have hcz36_5 : w34.cell? ⟨gb284, 5, none⟩ = some (.int .i64 a1_5) := (blk_cell BK284.out 5).trans rfl; have hfz36_0 := blk_frozen BK284.out 0; have hfz36_1 := blk_frozen BK284.out 1; have hfz36_2 := blk_frozen BK284.out 2; have hfz36_3 := blk_frozen BK284.out 3; have hfz36_4 := blk_frozen BK284.out 4; have hfz36_5 := blk_frozen BK284.out 5))
          go_ret2
          exact ⟨by first | rfl | (simp [errW_none, errW_some] <;> rfl) | (simp only [← hji18]; first | rfl | (simp [errW_none, errW_some] <;> rfl)) | (simp [*, errW_none, errW_some] <;> rfl), by repeat (first | (with_reducible first | exact HB.out | apply below_alloc | apply pw_below_drewN | apply below_drew1 | refine below_set ?_ GE283.out | refine below_set ?_ GE284.out) | exact HB.out)⟩
        · rw [if_neg c28] at H
          have c28b0 : decide ((wrap64 (a0_2 * 65536)) ≤ t285) = false := decide_eq_false c28
          clear c28
          simp only [Option.some.injEq, Prod.mk.injEq] at H
          obtain ⟨rfl, rfl⟩ := H
          go_enter Tryd.func64, Tryd.ntmps64
          go_wp2_with (first | ((with_reducible refine gate_dst (N := 2) rfl ?_); refine box_event ?hg (N := 2) ?hd (cs := #[.int .i64 a0_0, .int .i64 a0_1, .int .i64 a0_2, .slice A0_3 l0_3.length c0_3]) (t := 45) ?hr ?_; (case hd => rfl); (case hg => rfl); (case hr => first | (go_simp; done) | (go_simp; rfl)); intro gb283 hg w37 hbox hb; have n0_ := Aside0.mk (below_step (by repeat (first | (with_reducible first | exact HB.out | apply below_alloc | apply pw_below_drewN | apply below_drew1) | exact HB.out)) hb); have n1_ := Aside0.mk (hbox); have n2_ := Aside0.mk ((by rw [hg]; exact (below_size (by repeat (first | (with_reducible first | exact HB.out | apply below_alloc | apply pw_below_drewN | apply below_drew1) | exact HB.out))) : w.heap.size ≤ gb283)); have n3_ := Aside0.mk ((by rw [hg]; exact (below_size (by repeat (first | (with_reducible first | exact HB.out | apply below_alloc | apply pw_below_drewN | apply below_drew1) | exact HB.out))) : w.heap.size ≤ gb283)); clear HB; have HB := n0_; have BK283 := n1_; have GW283 := n2_; have GE283 := n3_; clear n0_ n1_ n2_ n3_; clear hb hbox hg) | ((with_reducible refine gate_dst (N := 3) rfl ?_); refine box_event ?hg (N := 3) ?hd (cs := #[.int .i64 a1_0, .int .i64 a1_1, .int .i64 a1_2, .int .i64 a1_3, .int .i64 a1_4, .int .i64 a1_5]) (t := 47) ?hr ?_; (case hd => rfl); (case hg => rfl); (case hr => first | (go_simp; done) | (go_simp; rfl)); intro gb284 hg w38 hbox hb; have n0_ := Aside0.mk (blk_below (g := gb283) (o := .cells #[.int .i64 a0_0, .int .i64 a0_1, .int .i64 a0_2, .slice A0_3 l0_3.length c0_3] 45 (0, 0)) (by (with_reducible repeat (first | refine blk_drewN ?_ _ | refine blk_drew ?_ | refine blk_alloc ?_ _)); exact BK283.out) hb); have n1_ := Aside0.mk (below_step (by repeat (first | (with_reducible first | exact HB.out | apply below_alloc | apply pw_below_drewN | apply below_drew1 | refine below_set ?_ GE283.out) | exact HB.out)) hb); have n2_ := Aside0.mk (hbox); have n3_ := Aside0.mk ((by rw [hg]; exact (below_size (by repeat (first | (with_reducible first | exact HB.out | apply below_alloc | apply pw_below_drewN | apply below_drew1 | refine below_set ?_ GE283.out) | exact HB.out))) : w.heap.size ≤ gb284)); have n4_ := Aside0.mk ((by rw [hg]; exact (below_size (by repeat (first | (with_reducible first | exact HB.out | apply below_alloc | apply pw_below_drewN | apply below_drew1 | refine below_set ?_ GE283.out) | exact HB.out))) : w.heap.size ≤ gb284)); have n5_ := Aside0.mk ((by rw [hg]; exact Nat.ne_of_lt (blk_lt (g := gb283) (o := .cells #[.int .i64 a0_0, .int .i64 a0_1, .int .i64 a0_2, .slice A0_3 l0_3.length c0_3] 45 (0, 0)) (by (with_reducible repeat (first | refine blk_drewN ?_ _ | refine blk_drew ?_ | refine blk_alloc ?_ _)); exact BK283.out)) : gb283 ≠ gb284)); have n6_ := Aside0.mk ((by rw [hg]; exact Nat.ne_of_gt (blk_lt (g := gb283) (o := .cells #[.int .i64 a0_0, .int .i64 a0_1, .int .i64 a0_2, .slice A0_3 l0_3.length c0_3] 45 (0, 0)) (by (with_reducible repeat (first | refine blk_drewN ?_ _ | refine blk_drew ?_ | refine blk_alloc ?_ _)); exact BK283.out)) : gb284 ≠ gb283)); clear BK283; clear HB; have BK283 := n0_; have HB := n1_; have BK284 := n2_; have GW284 := n3_; have GE284 := n4_; have NB283_284 := n5_; have NB284_283 := n6_; clear n0_ n1_ n2_ n3_ n4_ n5_ n6_; clear hb hbox hg; have hnb39 := NB283_284.out; have hnc39 := NB284_283.out; have hcz40_0 : w38.cell? ⟨gb283, 0, none⟩ = some (.int .i64 a0_0) := (blk_cell BK283.out 0).trans rfl; have hcz40_1 : w38.cell? ⟨gb283, 1, none⟩ = some (.int .i64 a0_1) := (blk_cell BK283.out 1).trans rfl; have hcz40_2 : w38.cell? ⟨gb283, 2, none⟩ = some (.int .i64 a0_2) := (blk_cell BK283.out 2).trans rfl; have hcz40_3 : w38.cell? ⟨gb283, 3, none⟩ = some (.slice A0_3 l0_3.length c0_3) := (blk_cell BK283.out 3).trans rfl; have hfz40_0 := blk_frozen BK283.out 0; have hfz40_1 := blk_frozen BK283.out 1; have hfz40_2 := blk_frozen BK283.out 2; have hfz40_3 := blk_frozen BK283.out 3; have hcz41_0 : w38.cell? ⟨gb284, 0, none⟩ = some (.int .i64 a1_0) := (blk_cell BK284.out 0).trans rfl; have hcz41_1 : w38.cell? ⟨gb284, 1, none⟩ = some (.int .i64 a1_1) := (blk_cell BK284.out 1).trans rfl; have hcz41_2 : w38.cell? ⟨gb284, 2, none⟩ = some (.int .i64 a1_2) := (blk_cell BK284.out 2).trans rfl; have hcz41_3 : w38.cell? ⟨gb284, 3, none⟩ = some (.int .i64 a1_3) := (blk_cell BK284.out 3).trans rfl; have hcz41_4 : w38.cell? ⟨gb284, 4, none⟩ = some (.int .i64 a1_4) := (blk_cell BK284.out 4).trans rfl; have hcz41_5 : w38.cell? ⟨gb284, 5, none⟩ = some (.int .i64 a1_5) := (blk_cell BK284.out 5).trans rfl; have hfz41_0 := blk_frozen BK284.out 0; have hfz41_1 := blk_frozen BK284.out 1; have hfz41_2 := blk_frozen BK284.out 2; have hfz41_3 := blk_frozen BK284.out 3; have hfz41_4 := blk_frozen BK284.out 4; have hfz41_5 := blk_frozen BK284.out 5) | ((with_reducible refine gate_callee (f := 79) rfl ?_); refine goesL_ (some 15) rfl rfl Tryd.func79 (by kernel_rfl) rfl #[.agg #[.int .i64 a0_0, .int .i64 a0_1, .int .i64 a0_2, .slice A0_3 l0_3.length c0_3], .int .i64 a1_0, .int .i64 a1_1] rfl (by (try simp only [List.map_toArray, List.map_cons, List.map_nil]); first | done | rfl | (simp only [List.length_drop, List.length_take]; rfl)) ?_; (with_reducible refine (relief_Height.calls k a0_0 a0_1 a0_2 _ _ l0_3 a1_0 a1_1 t285 t286 _ ?side1 ?side2 A3.out).mono ?_); (case side1 => repeat (first | exact (Kd.C_below HR0_3.out HB.out) | (with_reducible refine Kd.C_alloc ?_ _) | (with_reducible refine Kd.C_drewN ?_ _) | (with_reducible refine Kd.C_drew ?_))); (case side2 => exact HC0_3.out); rintro e w42 ⟨rfl, hb⟩; refine ⟨_, rfl, ?_⟩; have n0_ := Aside0.mk (blk_below (g := gb283) (o := .cells #[.int .i64 a0_0, .int .i64 a0_1, .int .i64 a0_2, .slice A0_3 l0_3.length c0_3] 45 (0, 0)) (by (with_reducible repeat (first | refine blk_drewN ?_ _ | refine blk_drew ?_ | refine blk_alloc ?_ _)); exact BK283.out) hb); have n1_ := Aside0.mk (blk_below (g := gb284) (o := .cells #[.int .i64 a1_0, .int .i64 a1_1, .int .i64 a1_2, .int .i64 a1_3, .int .i64 a1_4, .int .i64 a1_5] 47 (0, 0)) (by (with_reducible repeat (first | refine blk_drewN ?_ _ | refine blk_drew ?_ | refine blk_alloc ?_ _)); exact BK284.out) hb); have n2_ := Aside0.mk (below_step (by repeat (first | (with_reducible first | exact HB.out | apply below_alloc | apply pw_below_drewN | apply below_drew1 | refine below_set ?_ GE283.out | refine below_set ?_ GE284.out) | exact HB.out)) hb); clear BK283; clear BK284; clear HB; have BK283 := n0_; have BK284 := n1_; have HB := n2_; clear n0_ n1_ n2_; (try clear hb); (try clear hb2); (try clear hk); (try clear hi); have hcz43_0 : w42.cell? ⟨gb283, 0, none⟩ = some (.int .i64 a0_0) := (blk_cell BK283.out 0).trans rfl; have hcz43_1 : w42.cell? ⟨gb283, 1, none⟩ = some (.int .i64 a0_1) := (blk_cell BK283.out 1).trans rfl; have hcz43_2 : w42.cell? ⟨gb283, 2, none⟩ = some (.int .i64 a0_2) := (blk_cell BK283.out 2).trans rfl; have hcz43_3 : w42.cell? ⟨gb283, 3, none⟩ = some (.slice A0_3 l0_3.length c0_3) := (blk_cell BK283.out 3).trans rfl; have hfz43_0 := blk_frozen BK283.out 0; have hfz43_1 := blk_frozen BK283.out 1; have hfz43_2 := blk_frozen BK283.out 2; have hfz43_3 := blk_frozen BK283.out 3; have hcz44_0 : w42.cell? ⟨gb284, 0, none⟩ = some (.int .i64 a1_0) := (blk_cell BK284.out 0).trans rfl; have hcz44_1 : w42.cell? ⟨gb284, 1, none⟩ = some (.int .i64 a1_1) := (blk_cell BK284.out 1).trans rfl; have hcz44_2 : w42.cell? ⟨gb284, 2, none⟩ = some (.int .i64 a1_2) := (blk_cell BK284.out 2).trans rfl; have hcz44_3 : w42.cell? ⟨gb284, 3, none⟩ = some (.int .i64 a1_3) := (blk_cell BK284.out 3).trans rfl; have hcz44_4 : w42.cell? ⟨gb284, 4, none⟩ = some (.int .i64 a1_4) := (blk_cell BK284.out 4).trans rfl; have hcz44_5 : w42.cell? ⟨gb284, 5, none⟩ = some (.int .i64 a1_5) := (blk_cell BK284.out 5).trans rfl; have hfz44_0 := blk_frozen BK284.out 0; have hfz44_1 := blk_frozen BK284.out 1; have hfz44_2 := blk_frozen BK284.out 2; have hfz44_3 := blk_frozen BK284.out 3; have hfz44_4 := blk_frozen BK284.out 4; have hfz44_5 := blk_frozen BK284.out 5))
          go_ret2
          exact ⟨by first | rfl | (simp [errW_none, errW_some] <;> rfl) | (simp only [← hji18]; first | rfl | (simp [errW_none, errW_some] <;> rfl)) | (simp [*, errW_none, errW_some] <;> rfl), by repeat (first | (with_reducible first | exact HB.out | apply below_alloc | apply pw_below_drewN | apply below_drew1 | refine below_set ?_ GE283.out | refine below_set ?_ GE284.out) | exact HB.out)⟩
end Go.Proofs.YtbcddiaplpbhjaaDoor.MAi
namespace Go.Proofs.YtbcddiaplpbhjaaDoor.MAi
open Go.RowKit Go.Proofs.YtbcddiaplpbhjaaDoorW.PrintWords Go.Proofs.YtbcddiaplpbhjaaDoorW.PrintLast Go.Proofs.YtbcddiaplpbhjaaDoorW.PrintMore
attribute [local go_sem] max2_int min2_int max_two min_two max_three min_three max_four min_four
set_option linter.unusedVariables false
set_option linter.unusedSimpArgs false
mutual
noncomputable def shot_Fly.j0 : Nat → Int → Bool → Int → Int → Int → List Int → Int → Int → Int → Int → Int → Int → Option (Int × Int × Int × Int × Int × Int × Int × Int × Int)
  | 0, _, _, _, _, _, _, _, _, _, _, _, _ => none
  | k + 1, x2, x22, x288000, x288001, x288002, x288003, x289000, x289001, x289002, x289003, x289004, x289005 => if x22 = true then (some (0, 0, 0, 0, 0, 0, 0, 0, 1)) else (shot_Fly.l0 k x2 x2 0 x288000 x288001 x288002 x288003 x289000 x289001 x289002 x289003 x289004 x289005)
noncomputable def shot_Fly.l0 : Nat → Int → Int → Int → Int → Int → Int → List Int → Int → Int → Int → Int → Int → Int → Option (Int × Int × Int × Int × Int × Int × Int × Int × Int)
  | 0, _, _, _, _, _, _, _, _, _, _, _, _, _ => none
  | k + 1, x2, x24, x25, x288000, x288001, x288002, x288003, x289000, x289001, x289002, x289003, x289004, x289005 => if x25 < x24 then ((shot_tick.f x289000 x289001 x289002 x289003 x289004 x289005).bind fun bt291 => ((shot_How.f k x288000 x288001 x288002 x288003 bt291.1 bt291.2.1 bt291.2.2.1 bt291.2.2.2.1 bt291.2.2.2.2.1 bt291.2.2.2.2.2).bind fun bt297 => (if bt297.1 = 0 then (shot_Fly.l0 k x2 x24 (wrap64 (x25 + 1)) x288000 x288001 x288002 x288003 bt291.1 bt291.2.1 bt291.2.2.1 bt291.2.2.2.1 bt291.2.2.2.2.1 bt291.2.2.2.2.2) else (some (wrap64 (x25 + 1), bt297.1, bt291.1, bt291.2.1, bt291.2.2.1, bt291.2.2.2.1, bt291.2.2.2.2.1, bt291.2.2.2.2.2, 0))))) else (some (x2, 0, x289000, x289001, x289002, x289003, x289004, x289005, 0))
end
noncomputable def shot_Fly.f (k : Nat) (a0_0 : Int) (a0_1 : Int) (a0_2 : Int) (l0_3 : List Int) (a1_0 : Int) (a1_1 : Int) (a1_2 : Int) (a1_3 : Int) (a1_4 : Int) (a1_5 : Int) (a2 : Int) : Option (Int × Int × Int × Int × Int × Int × Int × Int × Int) := (shot_May.f k a0_0 a0_1 a0_2 l0_3 a1_0 a1_1 a1_2 a1_3 a1_4 a1_5).bind fun t290 => (if t290 = true then (if a2 < 0 then (shot_Fly.j0 k a2 true a0_0 a0_1 a0_2 l0_3 a1_0 a1_1 a1_2 a1_3 a1_4 a1_5) else (shot_Fly.j0 k a2 (decide (a2 > 1024)) a0_0 a0_1 a0_2 l0_3 a1_0 a1_1 a1_2 a1_3 a1_4 a1_5)) else (shot_Fly.j0 k a2 true a0_0 a0_1 a0_2 l0_3 a1_0 a1_1 a1_2 a1_3 a1_4 a1_5))
theorem shot_Fly.mono_l : ∀ k, (∀ y0 y1 y2 y3 y4 y5 y6 y7 y8 y9 y10 y11, LeO (shot_Fly.j0 k y0 y1 y2 y3 y4 y5 y6 y7 y8 y9 y10 y11) (shot_Fly.j0 (k + 1) y0 y1 y2 y3 y4 y5 y6 y7 y8 y9 y10 y11)) ∧ (∀ y0 y1 y2 y3 y4 y5 y6 y7 y8 y9 y10 y11 y12, LeO (shot_Fly.l0 k y0 y1 y2 y3 y4 y5 y6 y7 y8 y9 y10 y11 y12) (shot_Fly.l0 (k + 1) y0 y1 y2 y3 y4 y5 y6 y7 y8 y9 y10 y11 y12))
  | 0 => ⟨fun _ _ _ _ _ _ _ _ _ _ _ _ r h => by simp [shot_Fly.j0] at h, fun _ _ _ _ _ _ _ _ _ _ _ _ _ r h => by simp [shot_Fly.l0] at h⟩
  | k + 1 => by
    obtain ⟨ih0, ih1⟩ := shot_Fly.mono_l k
    refine ⟨?_, ?_⟩
    · intro y0 y1 y2 y3 y4 y5 y6 y7 y8 y9 y10 y11
      unfold shot_Fly.j0
      repeat' first
      | (with_reducible exact ih0 _ _ _ _ _ _ _ _ _ _ _ _)
      | (with_reducible exact ih1 _ _ _ _ _ _ _ _ _ _ _ _ _)
      | (with_reducible exact shot_How.mono _ _ _ _ _ _ _ _ _ _ _)
      | (with_reducible exact shot_May.mono _ _ _ _ _ _ _ _ _ _ _)
      | (with_reducible exact LeO.refl _)
      | (with_reducible exact LeO.none _)
      | (with_reducible refine LeO.ite ?_ ?_)
      | (with_reducible refine LeO.bind ?_ (fun _ => ?_))
      | exact ih0 _ _ _ _ _ _ _ _ _ _ _ _
      | exact ih1 _ _ _ _ _ _ _ _ _ _ _ _ _
      | exact shot_How.mono _ _ _ _ _ _ _ _ _ _ _
      | exact shot_May.mono _ _ _ _ _ _ _ _ _ _ _
      | exact LeO.none _
      | refine LeO.ite ?_ ?_
      | refine LeO.bind ?_ (fun _ => ?_)
    · intro y0 y1 y2 y3 y4 y5 y6 y7 y8 y9 y10 y11 y12
      unfold shot_Fly.l0
      repeat' first
      | (with_reducible exact ih0 _ _ _ _ _ _ _ _ _ _ _ _)
      | (with_reducible exact ih1 _ _ _ _ _ _ _ _ _ _ _ _ _)
      | (with_reducible exact shot_How.mono _ _ _ _ _ _ _ _ _ _ _)
      | (with_reducible exact shot_May.mono _ _ _ _ _ _ _ _ _ _ _)
      | (with_reducible exact LeO.refl _)
      | (with_reducible exact LeO.none _)
      | (with_reducible refine LeO.ite ?_ ?_)
      | (with_reducible refine LeO.bind ?_ (fun _ => ?_))
      | exact ih0 _ _ _ _ _ _ _ _ _ _ _ _
      | exact ih1 _ _ _ _ _ _ _ _ _ _ _ _ _
      | exact shot_How.mono _ _ _ _ _ _ _ _ _ _ _
      | exact shot_May.mono _ _ _ _ _ _ _ _ _ _ _
      | exact LeO.none _
      | refine LeO.ite ?_ ?_
      | refine LeO.bind ?_ (fun _ => ?_)
theorem shot_Fly.mono : ∀ a0 a1 a2 a3 a4 a5 a6 a7 a8 a9 a10 k, LeO (shot_Fly.f k a0 a1 a2 a3 a4 a5 a6 a7 a8 a9 a10) (shot_Fly.f (k + 1) a0 a1 a2 a3 a4 a5 a6 a7 a8 a9 a10) := by
  intro a0 a1 a2 a3 a4 a5 a6 a7 a8 a9 a10 k
  obtain ⟨ih0, ih1⟩ := shot_Fly.mono_l k
  unfold shot_Fly.f
  repeat' first
      | (with_reducible exact ih0 _ _ _ _ _ _ _ _ _ _ _ _)
      | (with_reducible exact ih1 _ _ _ _ _ _ _ _ _ _ _ _ _)
      | (with_reducible exact shot_How.mono _ _ _ _ _ _ _ _ _ _ _)
      | (with_reducible exact shot_May.mono _ _ _ _ _ _ _ _ _ _ _)
      | (with_reducible exact LeO.refl _)
      | (with_reducible exact LeO.none _)
      | (with_reducible refine LeO.ite ?_ ?_)
      | (with_reducible refine LeO.bind ?_ (fun _ => ?_))
      | exact ih0 _ _ _ _ _ _ _ _ _ _ _ _
      | exact ih1 _ _ _ _ _ _ _ _ _ _ _ _ _
      | exact shot_How.mono _ _ _ _ _ _ _ _ _ _ _
      | exact shot_May.mono _ _ _ _ _ _ _ _ _ _ _
      | exact LeO.none _
      | refine LeO.ite ?_ ?_
      | refine LeO.bind ?_ (fun _ => ?_)
set_option maxHeartbeats 8000000 in
set_option maxRecDepth 100000 in
theorem shot_Fly.calls (k : Nat) (a0_0 : Int) (a0_1 : Int) (a0_2 : Int) (A0_3 : Option Addr) (c0_3 : Nat) (l0_3 : List Int) (a1_0 : Int) (a1_1 : Int) (a1_2 : Int) (a1_3 : Int) (a1_4 : Int) (a1_5 : Int) (a2 : Int) (r1 : Int) (r2 : Int) (r3 : Int) (r4 : Int) (r5 : Int) (r6 : Int) (r7 : Int) (r8 : Int) (r9 : Int) (w : World) (hr0_3 : Kd.C (Kd.int .u8) w A0_3 l0_3.length l0_3) (hc0_3 : l0_3.length ≤ c0_3) (h : shot_Fly.f k a0_0 a0_1 a0_2 l0_3 a1_0 a1_1 a1_2 a1_3 a1_4 a1_5 a2 = some (r1, r2, r3, r4, r5, r6, r7, r8, r9)) :
    Calls Tryd.prog 30 #[.agg #[.int .i64 a0_0, .int .i64 a0_1, .int .i64 a0_2, .slice A0_3 l0_3.length c0_3], .agg #[.int .i64 a1_0, .int .i64 a1_1, .int .i64 a1_2, .int .i64 a1_3, .int .i64 a1_4, .int .i64 a1_5], .int .i64 a2] w fun e w' => e = .returned (.tuple #[.agg #[.int .i64 r1, .int .i64 r2, .int .i64 r3, .int .i64 r4, .int .i64 r5, .int .i64 r6, .int .i64 r7, .int .i64 r8], .int .i64 r9]) ∧ Below w.heap.size w w' := by
  have hu45 := Tryd.underlying45
  have hu47 := Tryd.underlying47
  have hu62 := Tryd.underlying62
  have HR0_3 := Aside0.mk hr0_3
  have HC0_3 := Aside0.mk hc0_3
  clear hr0_3 hc0_3
  have HB := Aside0.mk (Below.refl w.heap.size w)
  have H : ((shot_May.f k a0_0 a0_1 a0_2 l0_3 a1_0 a1_1 a1_2 a1_3 a1_4 a1_5).bind fun t290 => (if t290 = true then (if a2 < 0 then (shot_Fly.j0 k a2 true a0_0 a0_1 a0_2 l0_3 a1_0 a1_1 a1_2 a1_3 a1_4 a1_5) else (shot_Fly.j0 k a2 (decide (a2 > 1024)) a0_0 a0_1 a0_2 l0_3 a1_0 a1_1 a1_2 a1_3 a1_4 a1_5)) else (shot_Fly.j0 k a2 true a0_0 a0_1 a0_2 l0_3 a1_0 a1_1 a1_2 a1_3 a1_4 a1_5))) = some (r1, r2, r3, r4, r5, r6, r7, r8, r9) := h
  clear h
  have HC4 := Aside0.mk H
  clear H
  go_enter Tryd.func30, Tryd.ntmps30
  go_upto_region 1 with (first | ((with_reducible refine gate_dst (N := 3) rfl ?_); refine box_event ?hg (N := 3) ?hd (cs := #[.int .i64 a0_0, .int .i64 a0_1, .int .i64 a0_2, .slice A0_3 l0_3.length c0_3]) (t := 45) ?hr ?_; (case hd => rfl); (case hg => rfl); (case hr => first | (go_simp; done) | (go_simp; rfl)); intro gb287 hg w5 hbox hb; have n0_ := Aside0.mk (below_step (by repeat (first | (with_reducible first | exact HB.out | apply below_alloc | apply pw_below_drewN | apply below_drew1) | exact HB.out)) hb); have n1_ := Aside0.mk (hbox); have n2_ := Aside0.mk ((by rw [hg]; exact (below_size (by repeat (first | (with_reducible first | exact HB.out | apply below_alloc | apply pw_below_drewN | apply below_drew1) | exact HB.out))) : w.heap.size ≤ gb287)); have n3_ := Aside0.mk ((by rw [hg]; exact (below_size (by repeat (first | (with_reducible first | exact HB.out | apply below_alloc | apply pw_below_drewN | apply below_drew1) | exact HB.out))) : w.heap.size ≤ gb287)); clear HB; have HB := n0_; have BK287 := n1_; have GW287 := n2_; have GE287 := n3_; clear n0_ n1_ n2_ n3_; clear hb hbox hg) | ((with_reducible refine gate_dst (N := 4) rfl ?_); refine box_event ?hg (N := 4) ?hd (cs := #[.int .i64 a1_0, .int .i64 a1_1, .int .i64 a1_2, .int .i64 a1_3, .int .i64 a1_4, .int .i64 a1_5]) (t := 47) ?hr ?_; (case hd => rfl); (case hg => rfl); (case hr => first | (go_simp; done) | (go_simp; rfl)); intro gb288 hg w6 hbox hb; have n0_ := Aside0.mk (blk_below (g := gb287) (o := .cells #[.int .i64 a0_0, .int .i64 a0_1, .int .i64 a0_2, .slice A0_3 l0_3.length c0_3] 45 (0, 0)) (by (with_reducible repeat (first | refine blk_drewN ?_ _ | refine blk_drew ?_ | refine blk_alloc ?_ _)); exact BK287.out) hb); have n1_ := Aside0.mk (below_step (by repeat (first | (with_reducible first | exact HB.out | apply below_alloc | apply pw_below_drewN | apply below_drew1 | refine below_set ?_ GE287.out) | exact HB.out)) hb); have n2_ := Aside0.mk (hbox); have n3_ := Aside0.mk ((by rw [hg]; exact (below_size (by repeat (first | (with_reducible first | exact HB.out | apply below_alloc | apply pw_below_drewN | apply below_drew1 | refine below_set ?_ GE287.out) | exact HB.out))) : w.heap.size ≤ gb288)); have n4_ := Aside0.mk ((by rw [hg]; exact (below_size (by repeat (first | (with_reducible first | exact HB.out | apply below_alloc | apply pw_below_drewN | apply below_drew1 | refine below_set ?_ GE287.out) | exact HB.out))) : w.heap.size ≤ gb288)); have n5_ := Aside0.mk ((by rw [hg]; exact Nat.ne_of_lt (blk_lt (g := gb287) (o := .cells #[.int .i64 a0_0, .int .i64 a0_1, .int .i64 a0_2, .slice A0_3 l0_3.length c0_3] 45 (0, 0)) (by (with_reducible repeat (first | refine blk_drewN ?_ _ | refine blk_drew ?_ | refine blk_alloc ?_ _)); exact BK287.out)) : gb287 ≠ gb288)); have n6_ := Aside0.mk ((by rw [hg]; exact Nat.ne_of_gt (blk_lt (g := gb287) (o := .cells #[.int .i64 a0_0, .int .i64 a0_1, .int .i64 a0_2, .slice A0_3 l0_3.length c0_3] 45 (0, 0)) (by (with_reducible repeat (first | refine blk_drewN ?_ _ | refine blk_drew ?_ | refine blk_alloc ?_ _)); exact BK287.out)) : gb288 ≠ gb287)); clear BK287; clear HB; have BK287 := n0_; have HB := n1_; have BK288 := n2_; have GW288 := n3_; have GE288 := n4_; have NB287_288 := n5_; have NB288_287 := n6_; clear n0_ n1_ n2_ n3_ n4_ n5_ n6_; clear hb hbox hg) | ((with_reducible refine gate_dst (N := 6) rfl ?_); refine box_event ?hg (N := 6) ?hd (cs := #[.int .i64 0, .int .i64 0, .int .i64 0, .int .i64 0, .int .i64 0, .int .i64 0, .int .i64 0, .int .i64 0]) (t := 62) ?hr ?_; (case hd => rfl); (case hg => rfl); (case hr => first | (go_simp; done) | (go_simp; rfl)); intro gb289 hg w7 hbox hb; have n0_ := Aside0.mk (blk_below (g := gb287) (o := .cells #[.int .i64 a0_0, .int .i64 a0_1, .int .i64 a0_2, .slice A0_3 l0_3.length c0_3] 45 (0, 0)) (by (with_reducible repeat (first | refine blk_drewN ?_ _ | refine blk_drew ?_ | refine blk_alloc ?_ _)); exact BK287.out) hb); have n1_ := Aside0.mk (blk_below (g := gb288) (o := .cells #[.int .i64 a1_0, .int .i64 a1_1, .int .i64 a1_2, .int .i64 a1_3, .int .i64 a1_4, .int .i64 a1_5] 47 (0, 0)) (by (with_reducible repeat (first | refine blk_drewN ?_ _ | refine blk_drew ?_ | refine blk_alloc ?_ _)); exact BK288.out) hb); have n2_ := Aside0.mk (below_step (by repeat (first | (with_reducible first | exact HB.out | apply below_alloc | apply pw_below_drewN | apply below_drew1 | refine below_set ?_ GE287.out | refine below_set ?_ GE288.out) | exact HB.out)) hb); have n3_ := Aside0.mk (hbox); have n4_ := Aside0.mk ((by rw [hg]; exact (below_size (by repeat (first | (with_reducible first | exact HB.out | apply below_alloc | apply pw_below_drewN | apply below_drew1 | refine below_set ?_ GE287.out | refine below_set ?_ GE288.out) | exact HB.out))) : w.heap.size ≤ gb289)); have n5_ := Aside0.mk ((by rw [hg]; exact (below_size (by repeat (first | (with_reducible first | exact HB.out | apply below_alloc | apply pw_below_drewN | apply below_drew1 | refine below_set ?_ GE287.out | refine below_set ?_ GE288.out) | exact HB.out))) : w.heap.size ≤ gb289)); have n6_ := Aside0.mk ((by rw [hg]; exact Nat.ne_of_lt (blk_lt (g := gb287) (o := .cells #[.int .i64 a0_0, .int .i64 a0_1, .int .i64 a0_2, .slice A0_3 l0_3.length c0_3] 45 (0, 0)) (by (with_reducible repeat (first | refine blk_drewN ?_ _ | refine blk_drew ?_ | refine blk_alloc ?_ _)); exact BK287.out)) : gb287 ≠ gb289)); have n7_ := Aside0.mk ((by rw [hg]; exact Nat.ne_of_gt (blk_lt (g := gb287) (o := .cells #[.int .i64 a0_0, .int .i64 a0_1, .int .i64 a0_2, .slice A0_3 l0_3.length c0_3] 45 (0, 0)) (by (with_reducible repeat (first | refine blk_drewN ?_ _ | refine blk_drew ?_ | refine blk_alloc ?_ _)); exact BK287.out)) : gb289 ≠ gb287)); have n8_ := Aside0.mk ((by rw [hg]; exact Nat.ne_of_lt (blk_lt (g := gb288) (o := .cells #[.int .i64 a1_0, .int .i64 a1_1, .int .i64 a1_2, .int .i64 a1_3, .int .i64 a1_4, .int .i64 a1_5] 47 (0, 0)) (by (with_reducible repeat (first | refine blk_drewN ?_ _ | refine blk_drew ?_ | refine blk_alloc ?_ _)); exact BK288.out)) : gb288 ≠ gb289)); have n9_ := Aside0.mk ((by rw [hg]; exact Nat.ne_of_gt (blk_lt (g := gb288) (o := .cells #[.int .i64 a1_0, .int .i64 a1_1, .int .i64 a1_2, .int .i64 a1_3, .int .i64 a1_4, .int .i64 a1_5] 47 (0, 0)) (by (with_reducible repeat (first | refine blk_drewN ?_ _ | refine blk_drew ?_ | refine blk_alloc ?_ _)); exact BK288.out)) : gb289 ≠ gb288)); clear BK287; clear BK288; clear HB; have BK287 := n0_; have BK288 := n1_; have HB := n2_; have BK289 := n3_; have GW289 := n4_; have GE289 := n5_; have NB287_289 := n6_; have NB289_287 := n7_; have NB288_289 := n8_; have NB289_288 := n9_; clear n0_ n1_ n2_ n3_ n4_ n5_ n6_ n7_ n8_ n9_; clear hb hbox hg))
  (try simp only [Act.put, List.setIfInBounds_toArray, List.set_cons_zero, List.set_cons_succ])
  go_cut [22] (fun v22 wc => ∃ (kq : Nat) (x22_3 : Bool), v22 = .bool x22_3 ∧ Aside0 (shot_Fly.j0 kq a2 x22_3 a0_0 a0_1 a0_2 l0_3 a1_0 a1_1 a1_2 a1_3 a1_4 a1_5 = some (r1, r2, r3, r4, r5, r6, r7, r8, r9)) ∧ Aside0 (kq ≤ k) ∧ Aside0 (wc.heap[gb287]? = some (.cells #[.int .i64 a0_0, .int .i64 a0_1, .int .i64 a0_2, (.slice A0_3 l0_3.length c0_3)] 45 (0, 0))) ∧ Aside0 (wc.heap[gb288]? = some (.cells #[.int .i64 a1_0, .int .i64 a1_1, .int .i64 a1_2, .int .i64 a1_3, .int .i64 a1_4, .int .i64 a1_5] 47 (0, 0))) ∧ Aside0 (wc.heap[gb289]? = some (.cells #[.int .i64 0, .int .i64 0, .int .i64 0, .int .i64 0, .int .i64 0, .int .i64 0, .int .i64 0, .int .i64 0] 62 (0, 0))) ∧ Aside0 (Below w.heap.size w wc))
  case first =>
    have H := HC4.out
    clear HC4
    replace H := Option.bind_eq_some_iff.mp H
    obtain ⟨t290, A80, H⟩ := H
    replace H : (if t290 = true then (if a2 < 0 then (shot_Fly.j0 k a2 true a0_0 a0_1 a0_2 l0_3 a1_0 a1_1 a1_2 a1_3 a1_4 a1_5) else (shot_Fly.j0 k a2 (decide (a2 > 1024)) a0_0 a0_1 a0_2 l0_3 a1_0 a1_1 a1_2 a1_3 a1_4 a1_5)) else (shot_Fly.j0 k a2 true a0_0 a0_1 a0_2 l0_3 a1_0 a1_1 a1_2 a1_3 a1_4 a1_5)) = some (r1, r2, r3, r4, r5, r6, r7, r8, r9) := H
    have A8 := Aside0.mk A80
    clear A80
    by_cases c9 : t290 = true
    · subst c9
      have H1 : (if a2 < 0 then (shot_Fly.j0 k a2 true a0_0 a0_1 a0_2 l0_3 a1_0 a1_1 a1_2 a1_3 a1_4 a1_5) else (shot_Fly.j0 k a2 (decide (a2 > 1024)) a0_0 a0_1 a0_2 l0_3 a1_0 a1_1 a1_2 a1_3 a1_4 a1_5)) = some (r1, r2, r3, r4, r5, r6, r7, r8, r9) := by rw [if_pos rfl] at H; exact H
      clear H
      have H := H1
      clear H1
      by_cases c10 : a2 < 0
      · rw [if_pos c10] at H
        have c10b0 : decide (a2 < 0) = true := decide_eq_true c10
        clear c10
        (first | rw [c10b0] | (simp only [i64_w, i32_w]; rw [c10b0]) | skip)
        have H' := Aside0.mk H
        clear H
        have hnb11 := NB287_288.out
        have hnc11 := NB288_287.out
        have hnb12 := NB287_289.out
        have hnc12 := NB289_287.out
        have hcz13_0 : w7.cell? ⟨gb287, 0, none⟩ = some (.int .i64 a0_0) := (blk_cell BK287.out 0).trans rfl
        have hcz13_1 : w7.cell? ⟨gb287, 1, none⟩ = some (.int .i64 a0_1) := (blk_cell BK287.out 1).trans rfl
        have hcz13_2 : w7.cell? ⟨gb287, 2, none⟩ = some (.int .i64 a0_2) := (blk_cell BK287.out 2).trans rfl
        have hcz13_3 : w7.cell? ⟨gb287, 3, none⟩ = some (.slice A0_3 l0_3.length c0_3) := (blk_cell BK287.out 3).trans rfl
        have hfz13_0 := blk_frozen BK287.out 0
        have hfz13_1 := blk_frozen BK287.out 1
        have hfz13_2 := blk_frozen BK287.out 2
        have hfz13_3 := blk_frozen BK287.out 3
        have hnb14 := NB288_289.out
        have hnc14 := NB289_288.out
        have hcz15_0 : w7.cell? ⟨gb288, 0, none⟩ = some (.int .i64 a1_0) := (blk_cell BK288.out 0).trans rfl
        have hcz15_1 : w7.cell? ⟨gb288, 1, none⟩ = some (.int .i64 a1_1) := (blk_cell BK288.out 1).trans rfl
        have hcz15_2 : w7.cell? ⟨gb288, 2, none⟩ = some (.int .i64 a1_2) := (blk_cell BK288.out 2).trans rfl
        have hcz15_3 : w7.cell? ⟨gb288, 3, none⟩ = some (.int .i64 a1_3) := (blk_cell BK288.out 3).trans rfl
        have hcz15_4 : w7.cell? ⟨gb288, 4, none⟩ = some (.int .i64 a1_4) := (blk_cell BK288.out 4).trans rfl
        have hcz15_5 : w7.cell? ⟨gb288, 5, none⟩ = some (.int .i64 a1_5) := (blk_cell BK288.out 5).trans rfl
        have hfz15_0 := blk_frozen BK288.out 0
        have hfz15_1 := blk_frozen BK288.out 1
        have hfz15_2 := blk_frozen BK288.out 2
        have hfz15_3 := blk_frozen BK288.out 3
        have hfz15_4 := blk_frozen BK288.out 4
        have hfz15_5 := blk_frozen BK288.out 5
        go_wp2_with (first | ((with_reducible refine gate_callee (f := 62) rfl ?_); refine goesL_ (some 13) rfl rfl Tryd.func62 (by kernel_rfl) rfl #[.agg #[.int .i64 a0_0, .int .i64 a0_1, .int .i64 a0_2, .slice A0_3 l0_3.length c0_3], .agg #[.int .i64 a1_0, .int .i64 a1_1, .int .i64 a1_2, .int .i64 a1_3, .int .i64 a1_4, .int .i64 a1_5]] rfl (by (try simp only [List.map_toArray, List.map_cons, List.map_nil]); first | done | rfl | (simp only [List.length_drop, List.length_take]; rfl)) ?_; (with_reducible refine (shot_May.calls k a0_0 a0_1 a0_2 _ _ l0_3 a1_0 a1_1 a1_2 a1_3 a1_4 a1_5 true _ ?side1 ?side2 A8.out).mono ?_); (case side1 => repeat (first | exact (Kd.C_below HR0_3.out HB.out) | (with_reducible refine Kd.C_alloc ?_ _) | (with_reducible refine Kd.C_drewN ?_ _) | (with_reducible refine Kd.C_drew ?_))); (case side2 => exact HC0_3.out); rintro e w16 ⟨rfl, hb⟩; refine ⟨_, rfl, ?_⟩; have n0_ := Aside0.mk (blk_below (g := gb287) (o := .cells #[.int .i64 a0_0, .int .i64 a0_1, .int .i64 a0_2, .slice A0_3 l0_3.length c0_3] 45 (0, 0)) (by (with_reducible repeat (first | refine blk_drewN ?_ _ | refine blk_drew ?_ | refine blk_alloc ?_ _)); exact BK287.out) hb); have n1_ := Aside0.mk (blk_below (g := gb288) (o := .cells #[.int .i64 a1_0, .int .i64 a1_1, .int .i64 a1_2, .int .i64 a1_3, .int .i64 a1_4, .int .i64 a1_5] 47 (0, 0)) (by (with_reducible repeat (first | refine blk_drewN ?_ _ | refine blk_drew ?_ | refine blk_alloc ?_ _)); exact BK288.out) hb); have n2_ := Aside0.mk (blk_below (g := gb289) (o := .cells #[.int .i64 0, .int .i64 0, .int .i64 0, .int .i64 0, .int .i64 0, .int .i64 0, .int .i64 0, .int .i64 0] 62 (0, 0)) (by (with_reducible repeat (first | refine blk_drewN ?_ _ | refine blk_drew ?_ | refine blk_alloc ?_ _)); exact BK289.out) hb); have n3_ := Aside0.mk (below_step (by repeat (first | (with_reducible first | exact HB.out | apply below_alloc | apply pw_below_drewN | apply below_drew1 | refine below_set ?_ GE287.out | refine below_set ?_ GE288.out | refine below_set ?_ GE289.out) | exact HB.out)) hb); clear BK287; clear BK288; clear BK289; clear HB; have BK287 := n0_; have BK288 := n1_; have BK289 := n2_; have HB := n3_; clear n0_ n1_ n2_ n3_; (try clear hb); (try clear hb2); (try clear hk); (try clear hi)))
        go_meet
        case rel => exact ⟨_, (true), (by first | rfl | (simp; done) | (simp [*]; done)), H', ⟨by first | omega | exact Nat.le_refl _⟩, ⟨by (with_reducible repeat (first | refine blk_drewN ?_ _ | refine blk_drew ?_ | refine blk_alloc ?_ _)); exact BK287.out⟩, ⟨by (with_reducible repeat (first | refine blk_drewN ?_ _ | refine blk_drew ?_ | refine blk_alloc ?_ _)); exact BK288.out⟩, ⟨by (with_reducible repeat (first | refine blk_drewN ?_ _ | refine blk_drew ?_ | refine blk_alloc ?_ _)); exact BK289.out⟩, ⟨by repeat (first | (with_reducible first | exact HB.out | apply below_alloc | apply pw_below_drewN | apply below_drew1 | refine below_set ?_ GE287.out | refine below_set ?_ GE288.out | refine below_set ?_ GE289.out) | exact HB.out)⟩⟩
      · rw [if_neg c10] at H
        have c10b0 : decide (a2 < 0) = false := decide_eq_false c10
        clear c10
        (first | rw [c10b0] | (simp only [i64_w, i32_w]; rw [c10b0]) | skip)
        have H' := Aside0.mk H
        clear H
        have hnb17 := NB287_288.out
        have hnc17 := NB288_287.out
        have hnb18 := NB287_289.out
        have hnc18 := NB289_287.out
        have hcz19_0 : w7.cell? ⟨gb287, 0, none⟩ = some (.int .i64 a0_0) := (blk_cell BK287.out 0).trans rfl
        have hcz19_1 : w7.cell? ⟨gb287, 1, none⟩ = some (.int .i64 a0_1) := (blk_cell BK287.out 1).trans rfl
        have hcz19_2 : w7.cell? ⟨gb287, 2, none⟩ = some (.int .i64 a0_2) := (blk_cell BK287.out 2).trans rfl
        have hcz19_3 : w7.cell? ⟨gb287, 3, none⟩ = some (.slice A0_3 l0_3.length c0_3) := (blk_cell BK287.out 3).trans rfl
        have hfz19_0 := blk_frozen BK287.out 0
        have hfz19_1 := blk_frozen BK287.out 1
        have hfz19_2 := blk_frozen BK287.out 2
        have hfz19_3 := blk_frozen BK287.out 3
        have hnb20 := NB288_289.out
        have hnc20 := NB289_288.out
        have hcz21_0 : w7.cell? ⟨gb288, 0, none⟩ = some (.int .i64 a1_0) := (blk_cell BK288.out 0).trans rfl
        have hcz21_1 : w7.cell? ⟨gb288, 1, none⟩ = some (.int .i64 a1_1) := (blk_cell BK288.out 1).trans rfl
        have hcz21_2 : w7.cell? ⟨gb288, 2, none⟩ = some (.int .i64 a1_2) := (blk_cell BK288.out 2).trans rfl
        have hcz21_3 : w7.cell? ⟨gb288, 3, none⟩ = some (.int .i64 a1_3) := (blk_cell BK288.out 3).trans rfl
        have hcz21_4 : w7.cell? ⟨gb288, 4, none⟩ = some (.int .i64 a1_4) := (blk_cell BK288.out 4).trans rfl
        have hcz21_5 : w7.cell? ⟨gb288, 5, none⟩ = some (.int .i64 a1_5) := (blk_cell BK288.out 5).trans rfl
        have hfz21_0 := blk_frozen BK288.out 0
        have hfz21_1 := blk_frozen BK288.out 1
        have hfz21_2 := blk_frozen BK288.out 2
        have hfz21_3 := blk_frozen BK288.out 3
        have hfz21_4 := blk_frozen BK288.out 4
        have hfz21_5 := blk_frozen BK288.out 5
        go_wp2_with (first | ((with_reducible refine gate_callee (f := 62) rfl ?_); refine goesL_ (some 13) rfl rfl Tryd.func62 (by kernel_rfl) rfl #[.agg #[.int .i64 a0_0, .int .i64 a0_1, .int .i64 a0_2, .slice A0_3 l0_3.length c0_3], .agg #[.int .i64 a1_0, .int .i64 a1_1, .int .i64 a1_2, .int .i64 a1_3, .int .i64 a1_4, .int .i64 a1_5]] rfl (by (try simp only [List.map_toArray, List.map_cons, List.map_nil]); first | done | rfl | (simp only [List.length_drop, List.length_take]; rfl)) ?_; (with_reducible refine (shot_May.calls k a0_0 a0_1 a0_2 _ _ l0_3 a1_0 a1_1 a1_2 a1_3 a1_4 a1_5 true _ ?side1 ?side2 A8.out).mono ?_); (case side1 => repeat (first | exact (Kd.C_below HR0_3.out HB.out) | (with_reducible refine Kd.C_alloc ?_ _) | (with_reducible refine Kd.C_drewN ?_ _) | (with_reducible refine Kd.C_drew ?_))); (case side2 => exact HC0_3.out); rintro e w22 ⟨rfl, hb⟩; refine ⟨_, rfl, ?_⟩; have n0_ := Aside0.mk (blk_below (g := gb287) (o := .cells #[.int .i64 a0_0, .int .i64 a0_1, .int .i64 a0_2, .slice A0_3 l0_3.length c0_3] 45 (0, 0)) (by (with_reducible repeat (first | refine blk_drewN ?_ _ | refine blk_drew ?_ | refine blk_alloc ?_ _)); exact BK287.out) hb); have n1_ := Aside0.mk (blk_below (g := gb288) (o := .cells #[.int .i64 a1_0, .int .i64 a1_1, .int .i64 a1_2, .int .i64 a1_3, .int .i64 a1_4, .int .i64 a1_5] 47 (0, 0)) (by (with_reducible repeat (first | refine blk_drewN ?_ _ | refine blk_drew ?_ | refine blk_alloc ?_ _)); exact BK288.out) hb); have n2_ := Aside0.mk (blk_below (g := gb289) (o := .cells #[.int .i64 0, .int .i64 0, .int .i64 0, .int .i64 0, .int .i64 0, .int .i64 0, .int .i64 0, .int .i64 0] 62 (0, 0)) (by (with_reducible repeat (first | refine blk_drewN ?_ _ | refine blk_drew ?_ | refine blk_alloc ?_ _)); exact BK289.out) hb); have n3_ := Aside0.mk (below_step (by repeat (first | (with_reducible first | exact HB.out | apply below_alloc | apply pw_below_drewN | apply below_drew1 | refine below_set ?_ GE287.out | refine below_set ?_ GE288.out | refine below_set ?_ GE289.out) | exact HB.out)) hb); clear BK287; clear BK288; clear BK289; clear HB; have BK287 := n0_; have BK288 := n1_; have BK289 := n2_; have HB := n3_; clear n0_ n1_ n2_ n3_; (try clear hb); (try clear hb2); (try clear hk); (try clear hi)))
        go_meet
        case rel => exact ⟨_, (decide (a2 > 1024)), (by first | rfl | (simp; done) | (simp [*]; done)), H', ⟨by first | omega | exact Nat.le_refl _⟩, ⟨by (with_reducible repeat (first | refine blk_drewN ?_ _ | refine blk_drew ?_ | refine blk_alloc ?_ _)); exact BK287.out⟩, ⟨by (with_reducible repeat (first | refine blk_drewN ?_ _ | refine blk_drew ?_ | refine blk_alloc ?_ _)); exact BK288.out⟩, ⟨by (with_reducible repeat (first | refine blk_drewN ?_ _ | refine blk_drew ?_ | refine blk_alloc ?_ _)); exact BK289.out⟩, ⟨by repeat (first | (with_reducible first | exact HB.out | apply below_alloc | apply pw_below_drewN | apply below_drew1 | refine below_set ?_ GE287.out | refine below_set ?_ GE288.out | refine below_set ?_ GE289.out) | exact HB.out)⟩⟩
    · replace c9 := Bool.eq_false_iff.mpr c9
      subst c9
      have H1 : (shot_Fly.j0 k a2 true a0_0 a0_1 a0_2 l0_3 a1_0 a1_1 a1_2 a1_3 a1_4 a1_5) = some (r1, r2, r3, r4, r5, r6, r7, r8, r9) := by rw [if_neg (show ¬ (false = true) by decide)] at H; exact H
      clear H
      have H := H1
      clear H1
      have H' := Aside0.mk H
      clear H
      have hnb23 := NB287_288.out
      have hnc23 := NB288_287.out
      have hnb24 := NB287_289.out
      have hnc24 := NB289_287.out
      have hcz25_0 : w7.cell? ⟨gb287, 0, none⟩ = some (.int .i64 a0_0) := (blk_cell BK287.out 0).trans rfl
      have hcz25_1 : w7.cell? ⟨gb287, 1, none⟩ = some (.int .i64 a0_1) := (blk_cell BK287.out 1).trans rfl
      have hcz25_2 : w7.cell? ⟨gb287, 2, none⟩ = some (.int .i64 a0_2) := (blk_cell BK287.out 2).trans rfl
      have hcz25_3 : w7.cell? ⟨gb287, 3, none⟩ = some (.slice A0_3 l0_3.length c0_3) := (blk_cell BK287.out 3).trans rfl
      have hfz25_0 := blk_frozen BK287.out 0
      have hfz25_1 := blk_frozen BK287.out 1
      have hfz25_2 := blk_frozen BK287.out 2
      have hfz25_3 := blk_frozen BK287.out 3
      have hnb26 := NB288_289.out
      have hnc26 := NB289_288.out
      have hcz27_0 : w7.cell? ⟨gb288, 0, none⟩ = some (.int .i64 a1_0) := (blk_cell BK288.out 0).trans rfl
      have hcz27_1 : w7.cell? ⟨gb288, 1, none⟩ = some (.int .i64 a1_1) := (blk_cell BK288.out 1).trans rfl
      have hcz27_2 : w7.cell? ⟨gb288, 2, none⟩ = some (.int .i64 a1_2) := (blk_cell BK288.out 2).trans rfl
      have hcz27_3 : w7.cell? ⟨gb288, 3, none⟩ = some (.int .i64 a1_3) := (blk_cell BK288.out 3).trans rfl
      have hcz27_4 : w7.cell? ⟨gb288, 4, none⟩ = some (.int .i64 a1_4) := (blk_cell BK288.out 4).trans rfl
      have hcz27_5 : w7.cell? ⟨gb288, 5, none⟩ = some (.int .i64 a1_5) := (blk_cell BK288.out 5).trans rfl
      have hfz27_0 := blk_frozen BK288.out 0
      have hfz27_1 := blk_frozen BK288.out 1
      have hfz27_2 := blk_frozen BK288.out 2
      have hfz27_3 := blk_frozen BK288.out 3
      have hfz27_4 := blk_frozen BK288.out 4
      have hfz27_5 := blk_frozen BK288.out 5
      go_wp2_with (first | ((with_reducible refine gate_callee (f := 62) rfl ?_); refine goesL_ (some 13) rfl rfl Tryd.func62 (by kernel_rfl) rfl #[.agg #[.int .i64 a0_0, .int .i64 a0_1, .int .i64 a0_2, .slice A0_3 l0_3.length c0_3], .agg #[.int .i64 a1_0, .int .i64 a1_1, .int .i64 a1_2, .int .i64 a1_3, .int .i64 a1_4, .int .i64 a1_5]] rfl (by (try simp only [List.map_toArray, List.map_cons, List.map_nil]); first | done | rfl | (simp only [List.length_drop, List.length_take]; rfl)) ?_; (with_reducible refine (shot_May.calls k a0_0 a0_1 a0_2 _ _ l0_3 a1_0 a1_1 a1_2 a1_3 a1_4 a1_5 false _ ?side1 ?side2 A8.out).mono ?_); (case side1 => repeat (first | exact (Kd.C_below HR0_3.out HB.out) | (with_reducible refine Kd.C_alloc ?_ _) | (with_reducible refine Kd.C_drewN ?_ _) | (with_reducible refine Kd.C_drew ?_))); (case side2 => exact HC0_3.out); rintro e w28 ⟨rfl, hb⟩; refine ⟨_, rfl, ?_⟩; have n0_ := Aside0.mk (blk_below (g := gb287) (o := .cells #[.int .i64 a0_0, .int .i64 a0_1, .int .i64 a0_2, .slice A0_3 l0_3.length c0_3] 45 (0, 0)) (by (with_reducible repeat (first | refine blk_drewN ?_ _ | refine blk_drew ?_ | refine blk_alloc ?_ _)); exact BK287.out) hb); have n1_ := Aside0.mk (blk_below (g := gb288) (o := .cells #[.int .i64 a1_0, .int .i64 a1_1, .int .i64 a1_2, .int .i64 a1_3, .int .i64 a1_4, .int .i64 a1_5] 47 (0, 0)) (by (with_reducible repeat (first | refine blk_drewN ?_ _ | refine blk_drew ?_ | refine blk_alloc ?_ _)); exact BK288.out) hb); have n2_ := Aside0.mk (blk_below (g := gb289) (o := .cells #[.int .i64 0, .int .i64 0, .int .i64 0, .int .i64 0, .int .i64 0, .int .i64 0, .int .i64 0, .int .i64 0] 62 (0, 0)) (by (with_reducible repeat (first | refine blk_drewN ?_ _ | refine blk_drew ?_ | refine blk_alloc ?_ _)); exact BK289.out) hb); have n3_ := Aside0.mk (below_step (by repeat (first | (with_reducible first | exact HB.out | apply below_alloc | apply pw_below_drewN | apply below_drew1 | refine below_set ?_ GE287.out | refine below_set ?_ GE288.out | refine below_set ?_ GE289.out) | exact HB.out)) hb); clear BK287; clear BK288; clear BK289; clear HB; have BK287 := n0_; have BK288 := n1_; have BK289 := n2_; have HB := n3_; clear n0_ n1_ n2_ n3_; (try clear hb); (try clear hb2); (try clear hk); (try clear hi)))
      go_meet
      case rel => exact ⟨_, (true), (by first | rfl | (simp; done) | (simp [*]; done)), H', ⟨by first | omega | exact Nat.le_refl _⟩, ⟨by (with_reducible repeat (first | refine blk_drewN ?_ _ | refine blk_drew ?_ | refine blk_alloc ?_ _)); exact BK287.out⟩, ⟨by (with_reducible repeat (first | refine blk_drewN ?_ _ | refine blk_drew ?_ | refine blk_alloc ?_ _)); exact BK288.out⟩, ⟨by (with_reducible repeat (first | refine blk_drewN ?_ _ | refine blk_drew ?_ | refine blk_alloc ?_ _)); exact BK289.out⟩, ⟨by repeat (first | (with_reducible first | exact HB.out | apply below_alloc | apply pw_below_drewN | apply below_drew1 | refine below_set ?_ GE287.out | refine below_set ?_ GE288.out | refine below_set ?_ GE289.out) | exact HB.out)⟩⟩
  case rest =>
    clear HC4
    try clear c1
    try clear c2
    try clear p2
    try clear c3
    try clear c6
    try clear c9
    try clear c10
    try clear c10b0
    try clear c11
    try clear c12
    try clear c14
    try clear c17
    try clear c18
    try clear c20
    try clear c23
    try clear c24
    try clear c26
    try clear hcz13_0
    try clear hcz13_1
    try clear hcz13_2
    try clear hcz13_3
    try clear hcz15_0
    try clear hcz15_1
    try clear hcz15_2
    try clear hcz15_3
    try clear hcz15_4
    try clear hcz15_5
    try clear hcz19_0
    try clear hcz19_1
    try clear hcz19_2
    try clear hcz19_3
    try clear hcz21_0
    try clear hcz21_1
    try clear hcz21_2
    try clear hcz21_3
    try clear hcz21_4
    try clear hcz21_5
    try clear hcz25_0
    try clear hcz25_1
    try clear hcz25_2
    try clear hcz25_3
    try clear hcz27_0
    try clear hcz27_1
    try clear hcz27_2
    try clear hcz27_3
    try clear hcz27_4
    try clear hcz27_5
    try clear hfz13_0
    try clear hfz13_1
    try clear hfz13_2
    try clear hfz13_3
    try clear hfz15_0
    try clear hfz15_1
    try clear hfz15_2
    try clear hfz15_3
    try clear hfz15_4
    try clear hfz15_5
    try clear hfz19_0
    try clear hfz19_1
    try clear hfz19_2
    try clear hfz19_3
    try clear hfz21_0
    try clear hfz21_1
    try clear hfz21_2
    try clear hfz21_3
    try clear hfz21_4
    try clear hfz21_5
    try clear hfz25_0
    try clear hfz25_1
    try clear hfz25_2
    try clear hfz25_3
    try clear hfz27_0
    try clear hfz27_1
    try clear hfz27_2
    try clear hfz27_3
    try clear hfz27_4
    try clear hfz27_5
    obtain ⟨kq, x22_3, rfl, HA, HJ3, BK287, BK288, BK289, HB⟩ := hcut
    cases kq with
    | zero => exact absurd HA.out (by simp [shot_Fly.j0])
    | succ kj3 =>
      have H := HA.out
      clear HA
      simp only [shot_Fly.j0] at H
      by_cases c29 : x22_3 = true
      · subst c29
        have H1 : (some (0, 0, 0, 0, 0, 0, 0, 0, 1)) = some (r1, r2, r3, r4, r5, r6, r7, r8, r9) := by rw [if_pos rfl] at H; exact H
        clear H
        have H := H1
        clear H1
        simp only [Option.some.injEq, Prod.mk.injEq] at H
        obtain ⟨rfl, rfl, rfl, rfl, rfl, rfl, rfl, rfl, rfl⟩ := H
        have hnb30 := NB289_287.out
        have hnc30 := NB287_289.out
        have hnb31 := NB289_288.out
        have hnc31 := NB288_289.out
        have hcz32_0 : wc.cell? ⟨gb289, 0, none⟩ = some (.int .i64 0) := (blk_cell BK289.out 0).trans rfl
        have hcz32_1 : wc.cell? ⟨gb289, 1, none⟩ = some (.int .i64 0) := (blk_cell BK289.out 1).trans rfl
        have hcz32_2 : wc.cell? ⟨gb289, 2, none⟩ = some (.int .i64 0) := (blk_cell BK289.out 2).trans rfl
        have hcz32_3 : wc.cell? ⟨gb289, 3, none⟩ = some (.int .i64 0) := (blk_cell BK289.out 3).trans rfl
        have hcz32_4 : wc.cell? ⟨gb289, 4, none⟩ = some (.int .i64 0) := (blk_cell BK289.out 4).trans rfl
        have hcz32_5 : wc.cell? ⟨gb289, 5, none⟩ = some (.int .i64 0) := (blk_cell BK289.out 5).trans rfl
        have hcz32_6 : wc.cell? ⟨gb289, 6, none⟩ = some (.int .i64 0) := (blk_cell BK289.out 6).trans rfl
        have hcz32_7 : wc.cell? ⟨gb289, 7, none⟩ = some (.int .i64 0) := (blk_cell BK289.out 7).trans rfl
        have hfz32_0 := blk_frozen BK289.out 0
        have hfz32_1 := blk_frozen BK289.out 1
        have hfz32_2 := blk_frozen BK289.out 2
        have hfz32_3 := blk_frozen BK289.out 3
        have hfz32_4 := blk_frozen BK289.out 4
        have hfz32_5 := blk_frozen BK289.out 5
        have hfz32_6 := blk_frozen BK289.out 6
        have hfz32_7 := blk_frozen BK289.out 7
        go_wp2
        refine bodyPost_ret (results_ct rfl _ _ gb289 62 #[.int .i64 0, .int .i64 0, .int .i64 0, .int .i64 0, .int .i64 0, .int .i64 0, .int .i64 0, .int .i64 0] (0, 0) _ rfl (by (with_reducible repeat (first | refine blk_drewN ?_ _ | refine blk_drew ?_ | refine blk_alloc ?_ _)); refine blk_put (cs := #[.int .i64 0, .int .i64 0, .int .i64 0, .int .i64 0, .int .i64 0, .int .i64 0, .int .i64 0, .int .i64 0]) ?_ 7 _ rfl; (with_reducible repeat (first | refine blk_drewN ?_ _ | refine blk_drew ?_ | refine blk_alloc ?_ _)); refine blk_put (cs := #[.int .i64 0, .int .i64 0, .int .i64 0, .int .i64 0, .int .i64 0, .int .i64 0, .int .i64 0, .int .i64 0]) ?_ 6 _ rfl; (with_reducible repeat (first | refine blk_drewN ?_ _ | refine blk_drew ?_ | refine blk_alloc ?_ _)); refine blk_put (cs := #[.int .i64 0, .int .i64 0, .int .i64 0, .int .i64 0, .int .i64 0, .int .i64 0, .int .i64 0, .int .i64 0]) ?_ 5 _ rfl; (with_reducible repeat (first | refine blk_drewN ?_ _ | refine blk_drew ?_ | refine blk_alloc ?_ _)); refine blk_put (cs := #[.int .i64 0, .int .i64 0, .int .i64 0, .int .i64 0, .int .i64 0, .int .i64 0, .int .i64 0, .int .i64 0]) ?_ 4 _ rfl; (with_reducible repeat (first | refine blk_drewN ?_ _ | refine blk_drew ?_ | refine blk_alloc ?_ _)); refine blk_put (cs := #[.int .i64 0, .int .i64 0, .int .i64 0, .int .i64 0, .int .i64 0, .int .i64 0, .int .i64 0, .int .i64 0]) ?_ 3 _ rfl; (with_reducible repeat (first | refine blk_drewN ?_ _ | refine blk_drew ?_ | refine blk_alloc ?_ _)); refine blk_put (cs := #[.int .i64 0, .int .i64 0, .int .i64 0, .int .i64 0, .int .i64 0, .int .i64 0, .int .i64 0, .int .i64 0]) ?_ 2 _ rfl; (with_reducible repeat (first | refine blk_drewN ?_ _ | refine blk_drew ?_ | refine blk_alloc ?_ _)); refine blk_put (cs := #[.int .i64 0, .int .i64 0, .int .i64 0, .int .i64 0, .int .i64 0, .int .i64 0, .int .i64 0, .int .i64 0]) ?_ 1 _ rfl; (with_reducible repeat (first | refine blk_drewN ?_ _ | refine blk_drew ?_ | refine blk_alloc ?_ _)); refine blk_put (cs := #[.int .i64 0, .int .i64 0, .int .i64 0, .int .i64 0, .int .i64 0, .int .i64 0, .int .i64 0, .int .i64 0]) ?_ 0 _ rfl; (with_reducible repeat (first | refine blk_drewN ?_ _ | refine blk_drew ?_ | refine blk_alloc ?_ _)); exact BK289.out) Tryd.underlying62 rfl (by kernel_rfl)) rfl ?_
        exact ⟨by first | rfl | (simp [errW_none, errW_some] <;> rfl) | (simp [*, errW_none, errW_some] <;> rfl), by repeat (first | (with_reducible first | exact HB.out | apply below_alloc | apply pw_below_drewN | apply below_drew1 | refine below_set ?_ GE287.out | refine below_set ?_ GE288.out | refine below_set ?_ GE289.out) | exact HB.out)⟩
      · replace c29 := Bool.eq_false_iff.mpr c29
        subst c29
        have H1 : (shot_Fly.l0 kj3 a2 a2 0 a0_0 a0_1 a0_2 l0_3 a1_0 a1_1 a1_2 a1_3 a1_4 a1_5) = some (r1, r2, r3, r4, r5, r6, r7, r8, r9) := by rw [if_neg (show ¬ (false = true) by decide)] at H; exact H
        clear H
        have H := H1
        clear H1
        have H' := Aside0.mk H
        clear H
        go_wp2
        go_loopg [25] kj3 (fun kq v25 w' => ∃ (x25_2 : Int) (x289000_2 : Int) (x289001_2 : Int) (x289002_2 : Int) (x289003_2 : Int) (x289004_2 : Int) (x289005_2 : Int) (x290000_2 : Int) (x290001_2 : Int) (x290002_2 : Int) (x290003_2 : Int) (x290004_2 : Int) (x290005_2 : Int) (x290006_2 : Int) (x290007_2 : Int), v25 = .int .i64 x25_2 ∧ Aside0 (shot_Fly.l0 kq a2 a2 x25_2 a0_0 a0_1 a0_2 l0_3 x289000_2 x289001_2 x289002_2 x289003_2 x289004_2 x289005_2 = some (r1, r2, r3, r4, r5, r6, r7, r8, r9)) ∧ Aside0 (kq ≤ kj3) ∧ Aside0 (w'.heap[gb287]? = some (.cells #[.int .i64 a0_0, .int .i64 a0_1, .int .i64 a0_2, (.slice A0_3 l0_3.length c0_3)] 45 (0, 0))) ∧ Aside0 (w'.heap[gb288]? = some (.cells #[.int .i64 x289000_2, .int .i64 x289001_2, .int .i64 x289002_2, .int .i64 x289003_2, .int .i64 x289004_2, .int .i64 x289005_2] 47 (0, 0))) ∧ Aside0 (w'.heap[gb289]? = some (.cells #[.int .i64 x290000_2, .int .i64 x290001_2, .int .i64 x290002_2, .int .i64 x290003_2, .int .i64 x290004_2, .int .i64 x290005_2, .int .i64 x290006_2, .int .i64 x290007_2] 62 (0, 0))) ∧ Aside0 (Below w.heap.size w w'))
        case atStart => exact ⟨(0), (a1_0), (a1_1), (a1_2), (a1_3), (a1_4), (a1_5), (0), (0), (0), (0), (0), (0), (0), (0), (by first | rfl | (simp; done) | (simp [*]; done)), H', ⟨Nat.le_refl _⟩, ⟨by (with_reducible repeat (first | refine blk_drewN ?_ _ | refine blk_drew ?_ | refine blk_alloc ?_ _)); exact BK287.out⟩, ⟨by (with_reducible repeat (first | refine blk_drewN ?_ _ | refine blk_drew ?_ | refine blk_alloc ?_ _)); exact BK288.out⟩, ⟨by (with_reducible repeat (first | refine blk_drewN ?_ _ | refine blk_drew ?_ | refine blk_alloc ?_ _)); exact BK289.out⟩, ⟨by repeat (first | (with_reducible first | exact HB.out | apply below_alloc | apply pw_below_drewN | apply below_drew1 | refine below_set ?_ GE287.out | refine below_set ?_ GE288.out | refine below_set ?_ GE289.out) | exact HB.out)⟩⟩
        case round =>
          clear H'
          try clear c1
          try clear c2
          try clear p2
          try clear c3
          try clear c6
          try clear c9
          try clear c10
          try clear c10b0
          try clear c11
          try clear c12
          try clear c14
          try clear c17
          try clear c18
          try clear c20
          try clear c23
          try clear c24
          try clear c26
          try clear c29
          try clear c30
          try clear c31
          try clear hcz13_0
          try clear hcz13_1
          try clear hcz13_2
          try clear hcz13_3
          try clear hcz15_0
          try clear hcz15_1
          try clear hcz15_2
          try clear hcz15_3
          try clear hcz15_4
          try clear hcz15_5
          try clear hcz19_0
          try clear hcz19_1
          try clear hcz19_2
          try clear hcz19_3
          try clear hcz21_0
          try clear hcz21_1
          try clear hcz21_2
          try clear hcz21_3
          try clear hcz21_4
          try clear hcz21_5
          try clear hcz25_0
          try clear hcz25_1
          try clear hcz25_2
          try clear hcz25_3
          try clear hcz27_0
          try clear hcz27_1
          try clear hcz27_2
          try clear hcz27_3
          try clear hcz27_4
          try clear hcz27_5
          try clear hcz32_0
          try clear hcz32_1
          try clear hcz32_2
          try clear hcz32_3
          try clear hcz32_4
          try clear hcz32_5
          try clear hcz32_6
          try clear hcz32_7
          try clear hfz13_0
          try clear hfz13_1
          try clear hfz13_2
          try clear hfz13_3
          try clear hfz15_0
          try clear hfz15_1
          try clear hfz15_2
          try clear hfz15_3
          try clear hfz15_4
          try clear hfz15_5
          try clear hfz19_0
          try clear hfz19_1
          try clear hfz19_2
          try clear hfz19_3
          try clear hfz21_0
          try clear hfz21_1
          try clear hfz21_2
          try clear hfz21_3
          try clear hfz21_4
          try clear hfz21_5
          try clear hfz25_0
          try clear hfz25_1
          try clear hfz25_2
          try clear hfz25_3
          try clear hfz27_0
          try clear hfz27_1
          try clear hfz27_2
          try clear hfz27_3
          try clear hfz27_4
          try clear hfz27_5
          try clear hfz32_0
          try clear hfz32_1
          try clear hfz32_2
          try clear hfz32_3
          try clear hfz32_4
          try clear hfz32_5
          try clear hfz32_6
          try clear hfz32_7
          try clear p2
          obtain ⟨x25_2, x289000_2, x289001_2, x289002_2, x289003_2, x289004_2, x289005_2, x290000_2, x290001_2, x290002_2, x290003_2, x290004_2, x290005_2, x290006_2, x290007_2, rfl, HA, HK2, BK287, BK288, BK289, HB⟩ := hrel
          cases gk with
          | zero => exact absurd HA.out (by simp [shot_Fly.l0])
          | succ k2 =>
            have H := HA.out
            clear HA
            simp only [shot_Fly.l0] at H
            by_cases c33 : x25_2 < a2
            · rw [if_pos c33] at H
              have c33b0 : decide (x25_2 < a2) = true := decide_eq_true c33
              clear c33
              replace H := Option.bind_eq_some_iff.mp H
              obtain ⟨⟨t291, t292, t293, t294, t295, t296⟩, A340, H⟩ := H
              replace H : ((shot_How.f k2 a0_0 a0_1 a0_2 l0_3 t291 t292 t293 t294 t295 t296).bind fun bt297 => (if bt297.1 = 0 then (shot_Fly.l0 k2 a2 a2 (wrap64 (x25_2 + 1)) a0_0 a0_1 a0_2 l0_3 t291 t292 t293 t294 t295 t296) else (some (wrap64 (x25_2 + 1), bt297.1, t291, t292, t293, t294, t295, t296, 0)))) = some (r1, r2, r3, r4, r5, r6, r7, r8, r9) := H
              have A34 := Aside0.mk A340
              clear A340
              replace H := Option.bind_eq_some_iff.mp H
              obtain ⟨⟨t297, t298⟩, A350, H⟩ := H
              replace H : (if t297 = 0 then (shot_Fly.l0 k2 a2 a2 (wrap64 (x25_2 + 1)) a0_0 a0_1 a0_2 l0_3 t291 t292 t293 t294 t295 t296) else (some (wrap64 (x25_2 + 1), t297, t291, t292, t293, t294, t295, t296, 0))) = some (r1, r2, r3, r4, r5, r6, r7, r8, r9) := H
              have A35 := Aside0.mk A350
              clear A350
              by_cases c36 : t297 = 0
              · rw [if_pos c36] at H
                have c36b0 : (t297 == 0) = true := beq_iff_eq.mpr c36
                have c36b1 : (t297 != 0) = false := bne_eq_false_iff_eq.mpr c36
                clear c36
                have H' := Aside0.mk H
                clear H
                have hnb37 := NB288_287.out
                have hnc37 := NB287_288.out
                have hnb38 := NB288_289.out
                have hnc38 := NB289_288.out
                have hcz39_0 : wr.cell? ⟨gb288, 0, none⟩ = some (.int .i64 x289000_2) := (blk_cell BK288.out 0).trans rfl
                have hcz39_1 : wr.cell? ⟨gb288, 1, none⟩ = some (.int .i64 x289001_2) := (blk_cell BK288.out 1).trans rfl
                have hcz39_2 : wr.cell? ⟨gb288, 2, none⟩ = some (.int .i64 x289002_2) := (blk_cell BK288.out 2).trans rfl
                have hcz39_3 : wr.cell? ⟨gb288, 3, none⟩ = some (.int .i64 x289003_2) := (blk_cell BK288.out 3).trans rfl
                have hcz39_4 : wr.cell? ⟨gb288, 4, none⟩ = some (.int .i64 x289004_2) := (blk_cell BK288.out 4).trans rfl
                have hcz39_5 : wr.cell? ⟨gb288, 5, none⟩ = some (.int .i64 x289005_2) := (blk_cell BK288.out 5).trans rfl
                have hfz39_0 := blk_frozen BK288.out 0
                have hfz39_1 := blk_frozen BK288.out 1
                have hfz39_2 := blk_frozen BK288.out 2
                have hfz39_3 := blk_frozen BK288.out 3
                have hfz39_4 := blk_frozen BK288.out 4
                have hfz39_5 := blk_frozen BK288.out 5
                go_wp2_with (first | ((with_reducible refine gate_callee (f := 63) rfl ?_); refine goesL_ (some 29) rfl rfl Tryd.func63 (by kernel_rfl) rfl #[.agg #[.int .i64 x289000_2, .int .i64 x289001_2, .int .i64 x289002_2, .int .i64 x289003_2, .int .i64 x289004_2, .int .i64 x289005_2]] rfl (by (try simp only [List.map_toArray, List.map_cons, List.map_nil]); first | done | rfl | (simp only [List.length_drop, List.length_take]; rfl)) ?_; (with_reducible refine (shot_tick.calls x289000_2 x289001_2 x289002_2 x289003_2 x289004_2 x289005_2 t291 t292 t293 t294 t295 t296 _ A34.out).mono ?_); rintro e w40 ⟨rfl, hb⟩; refine ⟨_, rfl, ?_⟩; have n0_ := Aside0.mk (blk_below (g := gb287) (o := .cells #[.int .i64 a0_0, .int .i64 a0_1, .int .i64 a0_2, .slice A0_3 l0_3.length c0_3] 45 (0, 0)) (by (with_reducible repeat (first | refine blk_drewN ?_ _ | refine blk_drew ?_ | refine blk_alloc ?_ _)); exact BK287.out) hb); have n1_ := Aside0.mk (blk_below (g := gb288) (o := .cells #[.int .i64 x289000_2, .int .i64 x289001_2, .int .i64 x289002_2, .int .i64 x289003_2, .int .i64 x289004_2, .int .i64 x289005_2] 47 (0, 0)) (by (with_reducible repeat (first | refine blk_drewN ?_ _ | refine blk_drew ?_ | refine blk_alloc ?_ _)); exact BK288.out) hb); have n2_ := Aside0.mk (blk_below (g := gb289) (o := .cells #[.int .i64 x290000_2, .int .i64 x290001_2, .int .i64 x290002_2, .int .i64 x290003_2, .int .i64 x290004_2, .int .i64 x290005_2, .int .i64 x290006_2, .int .i64 x290007_2] 62 (0, 0)) (by (with_reducible repeat (first | refine blk_drewN ?_ _ | refine blk_drew ?_ | refine blk_alloc ?_ _)); exact BK289.out) hb); have n3_ := Aside0.mk (below_step (by repeat (first | (with_reducible first | exact HB.out | apply below_alloc | apply pw_below_drewN | apply below_drew1 | refine below_set ?_ GE287.out | refine below_set ?_ GE288.out | refine below_set ?_ GE289.out) | exact HB.out)) hb); clear BK287; clear BK288; clear BK289; clear HB; have BK287 := n0_; have BK288 := n1_; have BK289 := n2_; have HB := n3_; clear n0_ n1_ n2_ n3_; (try clear hb); (try clear hb2); (try clear hk); (try clear hi); have hcz41_0 : w40.cell? ⟨gb288, 0, none⟩ = some (.int .i64 x289000_2) := (blk_cell BK288.out 0).trans rfl; have hcz41_1 : w40.cell? ⟨gb288, 1, none⟩ = some (.int .i64 x289001_2) := (blk_cell BK288.out 1).trans rfl; have hcz41_2 : w40.cell? ⟨gb288, 2, none⟩ = some (.int .i64 x289002_2) := (blk_cell BK288.out 2).trans rfl; have hcz41_3 : w40.cell? ⟨gb288, 3, none⟩ = some (.int .i64 x289003_2) := (blk_cell BK288.out 3).trans rfl; have hcz41_4 : w40.cell? ⟨gb288, 4, none⟩ = some (.int .i64 x289004_2) := (blk_cell BK288.out 4).trans rfl; have hcz41_5 : w40.cell? ⟨gb288, 5, none⟩ = some (.int .i64 x289005_2) := (blk_cell BK288.out 5).trans rfl; have hfz41_0 := blk_frozen BK288.out 0; have hfz41_1 := blk_frozen BK288.out 1; have hfz41_2 := blk_frozen BK288.out 2; have hfz41_3 := blk_frozen BK288.out 3; have hfz41_4 := blk_frozen BK288.out 4; have hfz41_5 := blk_frozen BK288.out 5; have hnb42 := NB287_289.out; have hnc42 := NB289_287.out; have hcz43_0 : w40.cell? ⟨gb287, 0, none⟩ = some (.int .i64 a0_0) := (blk_cell BK287.out 0).trans rfl; have hcz43_1 : w40.cell? ⟨gb287, 1, none⟩ = some (.int .i64 a0_1) := (blk_cell BK287.out 1).trans rfl; have hcz43_2 : w40.cell? ⟨gb287, 2, none⟩ = some (.int .i64 a0_2) := (blk_cell BK287.out 2).trans rfl; have hcz43_3 : w40.cell? ⟨gb287, 3, none⟩ = some (.slice A0_3 l0_3.length c0_3) := (blk_cell BK287.out 3).trans rfl; have hfz43_0 := blk_frozen BK287.out 0; have hfz43_1 := blk_frozen BK287.out 1; have hfz43_2 := blk_frozen BK287.out 2; have hfz43_3 := blk_frozen BK287.out 3) | ((with_reducible refine gate_callee (f := 64) rfl ?_); refine goesL_ (some 33) rfl rfl Tryd.func64 (by kernel_rfl) rfl #[.agg #[.int .i64 a0_0, .int .i64 a0_1, .int .i64 a0_2, .slice A0_3 l0_3.length c0_3], .agg #[.int .i64 t291, .int .i64 t292, .int .i64 t293, .int .i64 t294, .int .i64 t295, .int .i64 t296]] rfl (by (try simp only [List.map_toArray, List.map_cons, List.map_nil]); first | done | rfl | (simp only [List.length_drop, List.length_take]; rfl)) ?_; (with_reducible refine (shot_How.calls k2 a0_0 a0_1 a0_2 _ _ l0_3 t291 t292 t293 t294 t295 t296 t297 t298 _ ?side1 ?side2 A35.out).mono ?_); (case side1 => exact Kd.C_below HR0_3.out (by repeat (first | (with_reducible first | exact HB.out | apply below_alloc | apply pw_below_drewN | apply below_drew1 | refine below_set ?_ GE287.out | refine below_set ?_ GE288.out | refine below_set ?_ GE289.out) | exact HB.out))); (case side2 => exact HC0_3.out); rintro e w44 ⟨rfl, hb⟩; refine ⟨_, rfl, ?_⟩; have n0_ := Aside0.mk (blk_below (g := gb287) (o := .cells #[.int .i64 a0_0, .int .i64 a0_1, .int .i64 a0_2, .slice A0_3 l0_3.length c0_3] 45 (0, 0)) (by (with_reducible repeat (first | refine blk_drewN ?_ _ | refine blk_drew ?_ | refine blk_alloc ?_ _)); refine blk_far ?_ NB287_288.out _; (with_reducible repeat (first | refine blk_drewN ?_ _ | refine blk_drew ?_ | refine blk_alloc ?_ _)); refine blk_far ?_ NB287_288.out _; (with_reducible repeat (first | refine blk_drewN ?_ _ | refine blk_drew ?_ | refine blk_alloc ?_ _)); refine blk_far ?_ NB287_288.out _; (with_reducible repeat (first | refine blk_drewN ?_ _ | refine blk_drew ?_ | refine blk_alloc ?_ _)); refine blk_far ?_ NB287_288.out _; (with_reducible repeat (first | refine blk_drewN ?_ _ | refine blk_drew ?_ | refine blk_alloc ?_ _)); refine blk_far ?_ NB287_288.out _; (with_reducible repeat (first | refine blk_drewN ?_ _ | refine blk_drew ?_ | refine blk_alloc ?_ _)); refine blk_far ?_ NB287_288.out _; (with_reducible repeat (first | refine blk_drewN ?_ _ | refine blk_drew ?_ | refine blk_alloc ?_ _)); exact BK287.out) hb); have n1_ := Aside0.mk (blk_below (g := gb288) (o := .cells #[.int .i64 t291, .int .i64 t292, .int .i64 t293, .int .i64 t294, .int .i64 t295, .int .i64 t296] 47 (0, 0)) (by (with_reducible repeat (first | refine blk_drewN ?_ _ | refine blk_drew ?_ | refine blk_alloc ?_ _)); refine blk_put (cs := #[.int .i64 t291, .int .i64 t292, .int .i64 t293, .int .i64 t294, .int .i64 t295, .int .i64 x289005_2]) ?_ 5 _ rfl; (with_reducible repeat (first | refine blk_drewN ?_ _ | refine blk_drew ?_ | refine blk_alloc ?_ _)); refine blk_put (cs := #[.int .i64 t291, .int .i64 t292, .int .i64 t293, .int .i64 t294, .int .i64 x289004_2, .int .i64 x289005_2]) ?_ 4 _ rfl; (with_reducible repeat (first | refine blk_drewN ?_ _ | refine blk_drew ?_ | refine blk_alloc ?_ _)); refine blk_put (cs := #[.int .i64 t291, .int .i64 t292, .int .i64 t293, .int .i64 x289003_2, .int .i64 x289004_2, .int .i64 x289005_2]) ?_ 3 _ rfl; (with_reducible repeat (first | refine blk_drewN ?_ _ | refine blk_drew ?_ | refine blk_alloc ?_ _)); refine blk_put (cs := #[.int .i64 t291, .int .i64 t292, .int .i64 x289002_2, .int .i64 x289003_2, .int .i64 x289004_2, .int .i64 x289005_2]) ?_ 2 _ rfl; (with_reducible repeat (first | refine blk_drewN ?_ _ | refine blk_drew ?_ | refine blk_alloc ?_ _)); refine blk_put (cs := #[.int .i64 t291, .int .i64 x289001_2, .int .i64 x289002_2, .int .i64 x289003_2, .int .i64 x289004_2, .int .i64 x289005_2]) ?_ 1 _ rfl; (with_reducible repeat (first | refine blk_drewN ?_ _ | refine blk_drew ?_ | refine blk_alloc ?_ _)); refine blk_put (cs := #[.int .i64 x289000_2, .int .i64 x289001_2, .int .i64 x289002_2, .int .i64 x289003_2, .int .i64 x289004_2, .int .i64 x289005_2]) ?_ 0 _ rfl; (with_reducible repeat (first | refine blk_drewN ?_ _ | refine blk_drew ?_ | refine blk_alloc ?_ _)); exact BK288.out) hb); have n2_ := Aside0.mk (blk_below (g := gb289) (o := .cells #[.int .i64 x290000_2, .int .i64 x290001_2, .int .i64 x290002_2, .int .i64 x290003_2, .int .i64 x290004_2, .int .i64 x290005_2, .int .i64 x290006_2, .int .i64 x290007_2] 62 (0, 0)) (by (with_reducible repeat (first | refine blk_drewN ?_ _ | refine blk_drew ?_ | refine blk_alloc ?_ _)); refine blk_far ?_ NB289_288.out _; (with_reducible repeat (first | refine blk_drewN ?_ _ | refine blk_drew ?_ | refine blk_alloc ?_ _)); refine blk_far ?_ NB289_288.out _; (with_reducible repeat (first | refine blk_drewN ?_ _ | refine blk_drew ?_ | refine blk_alloc ?_ _)); refine blk_far ?_ NB289_288.out _; (with_reducible repeat (first | refine blk_drewN ?_ _ | refine blk_drew ?_ | refine blk_alloc ?_ _)); refine blk_far ?_ NB289_288.out _; (with_reducible repeat (first | refine blk_drewN ?_ _ | refine blk_drew ?_ | refine blk_alloc ?_ _)); refine blk_far ?_ NB289_288.out _; (with_reducible repeat (first | refine blk_drewN ?_ _ | refine blk_drew ?_ | refine blk_alloc ?_ _)); refine blk_far ?_ NB289_288.out _; (with_reducible repeat (first | refine blk_drewN ?_ _ | refine blk_drew ?_ | refine blk_alloc ?_ _)); exact BK289.out) hb); have n3_ := Aside0.mk (below_step (by repeat (first | (with_reducible first | exact HB.out | apply below_alloc | apply pw_below_drewN | apply below_drew1 | refine below_set ?_ GE287.out | refine below_set ?_ GE288.out | refine below_set ?_ GE289.out) | exact HB.out)) hb); clear BK287; clear BK288; clear BK289; clear HB; have BK287 := n0_; have BK288 := n1_; have BK289 := n2_; have HB := n3_; clear n0_ n1_ n2_ n3_; (try clear hb); (try clear hb2); (try clear hk); (try clear hi)))
                go_roundg k2
                case measure => have := HJ3.out; have := HK2.out; omega
                case rel => exact ⟨(wrap64 (x25_2 + 1)), (t291), (t292), (t293), (t294), (t295), (t296), (x290000_2), (x290001_2), (x290002_2), (x290003_2), (x290004_2), (x290005_2), (x290006_2), (x290007_2), (by first | rfl | (simp; done) | (simp [*]; done)), H', ⟨by have := HJ3.out; have := HK2.out; omega⟩, ⟨by (with_reducible repeat (first | refine blk_drewN ?_ _ | refine blk_drew ?_ | refine blk_alloc ?_ _)); exact BK287.out⟩, ⟨by (with_reducible repeat (first | refine blk_drewN ?_ _ | refine blk_drew ?_ | refine blk_alloc ?_ _)); exact BK288.out⟩, ⟨by (with_reducible repeat (first | refine blk_drewN ?_ _ | refine blk_drew ?_ | refine blk_alloc ?_ _)); exact BK289.out⟩, ⟨by repeat (first | (with_reducible first | exact HB.out | apply below_alloc | apply pw_below_drewN | apply below_drew1 | refine below_set ?_ GE287.out | refine below_set ?_ GE288.out | refine below_set ?_ GE289.out) | exact HB.out)⟩⟩
              · rw [if_neg c36] at H
                have c36b0 : (t297 == 0) = false := beq_eq_false_iff_ne.mpr c36
                have c36b1 : (t297 != 0) = true := bne_iff_ne.mpr c36
                simp only [Option.some.injEq, Prod.mk.injEq] at H
                obtain ⟨rfl, rfl, rfl, rfl, rfl, rfl, rfl, rfl, rfl⟩ := H
                have hnb45 := NB288_287.out
                have hnc45 := NB287_288.out
                have hnb46 := NB288_289.out
                have hnc46 := NB289_288.out
                have hcz47_0 : wr.cell? ⟨gb288, 0, none⟩ = some (.int .i64 x289000_2) := (blk_cell BK288.out 0).trans rfl
                have hcz47_1 : wr.cell? ⟨gb288, 1, none⟩ = some (.int .i64 x289001_2) := (blk_cell BK288.out 1).trans rfl
                have hcz47_2 : wr.cell? ⟨gb288, 2, none⟩ = some (.int .i64 x289002_2) := (blk_cell BK288.out 2).trans rfl
                have hcz47_3 : wr.cell? ⟨gb288, 3, none⟩ = some (.int .i64 x289003_2) := (blk_cell BK288.out 3).trans rfl
                have hcz47_4 : wr.cell? ⟨gb288, 4, none⟩ = some (.int .i64 x289004_2) := (blk_cell BK288.out 4).trans rfl
                have hcz47_5 : wr.cell? ⟨gb288, 5, none⟩ = some (.int .i64 x289005_2) := (blk_cell BK288.out 5).trans rfl
                have hfz47_0 := blk_frozen BK288.out 0
                have hfz47_1 := blk_frozen BK288.out 1
                have hfz47_2 := blk_frozen BK288.out 2
                have hfz47_3 := blk_frozen BK288.out 3
                have hfz47_4 := blk_frozen BK288.out 4
                have hfz47_5 := blk_frozen BK288.out 5
                go_wp2_with (first | ((with_reducible refine gate_callee (f := 63) rfl ?_); refine goesL_ (some 29) rfl rfl Tryd.func63 (by kernel_rfl) rfl #[.agg #[.int .i64 x289000_2, .int .i64 x289001_2, .int .i64 x289002_2, .int .i64 x289003_2, .int .i64 x289004_2, .int .i64 x289005_2]] rfl (by (try simp only [List.map_toArray, List.map_cons, List.map_nil]); first | done | rfl | (simp only [List.length_drop, List.length_take]; rfl)) ?_; (with_reducible refine (shot_tick.calls x289000_2 x289001_2 x289002_2 x289003_2 x289004_2 x289005_2 t291 t292 t293 t294 t295 t296 _ A34.out).mono ?_); rintro e w48 ⟨rfl, hb⟩; refine ⟨_, rfl, ?_⟩; have n0_ := Aside0.mk (blk_below (g := gb287) (o := .cells #[.int .i64 a0_0, .int .i64 a0_1, .int .i64 a0_2, .slice A0_3 l0_3.length c0_3] 45 (0, 0)) (by (with_reducible repeat (first | refine blk_drewN ?_ _ | refine blk_drew ?_ | refine blk_alloc ?_ _)); exact BK287.out) hb); have n1_ := Aside0.mk (blk_below (g := gb288) (o := .cells #[.int .i64 x289000_2, .int .i64 x289001_2, .int .i64 x289002_2, .int .i64 x289003_2, .int .i64 x289004_2, .int .i64 x289005_2] 47 (0, 0)) (by (with_reducible repeat (first | refine blk_drewN ?_ _ | refine blk_drew ?_ | refine blk_alloc ?_ _)); exact BK288.out) hb); have n2_ := Aside0.mk (blk_below (g := gb289) (o := .cells #[.int .i64 x290000_2, .int .i64 x290001_2, .int .i64 x290002_2, .int .i64 x290003_2, .int .i64 x290004_2, .int .i64 x290005_2, .int .i64 x290006_2, .int .i64 x290007_2] 62 (0, 0)) (by (with_reducible repeat (first | refine blk_drewN ?_ _ | refine blk_drew ?_ | refine blk_alloc ?_ _)); exact BK289.out) hb); have n3_ := Aside0.mk (below_step (by repeat (first | (with_reducible first | exact HB.out | apply below_alloc | apply pw_below_drewN | apply below_drew1 | refine below_set ?_ GE287.out | refine below_set ?_ GE288.out | refine below_set ?_ GE289.out) | exact HB.out)) hb); clear BK287; clear BK288; clear BK289; clear HB; have BK287 := n0_; have BK288 := n1_; have BK289 := n2_; have HB := n3_; clear n0_ n1_ n2_ n3_; (try clear hb); (try clear hb2); (try clear hk); (try clear hi); have hcz49_0 : w48.cell? ⟨gb288, 0, none⟩ = some (.int .i64 x289000_2) := (blk_cell BK288.out 0).trans rfl; have hcz49_1 : w48.cell? ⟨gb288, 1, none⟩ = some (.int .i64 x289001_2) := (blk_cell BK288.out 1).trans rfl; have hcz49_2 : w48.cell? ⟨gb288, 2, none⟩ = some (.int .i64 x289002_2) := (blk_cell BK288.out 2).trans rfl; have hcz49_3 : w48.cell? ⟨gb288, 3, none⟩ = some (.int .i64 x289003_2) := (blk_cell BK288.out 3).trans rfl; have hcz49_4 : w48.cell? ⟨gb288, 4, none⟩ = some (.int .i64 x289004_2) := (blk_cell BK288.out 4).trans rfl; have hcz49_5 : w48.cell? ⟨gb288, 5, none⟩ = some (.int .i64 x289005_2) := (blk_cell BK288.out 5).trans rfl; have hfz49_0 := blk_frozen BK288.out 0; have hfz49_1 := blk_frozen BK288.out 1; have hfz49_2 := blk_frozen BK288.out 2; have hfz49_3 := blk_frozen BK288.out 3; have hfz49_4 := blk_frozen BK288.out 4; have hfz49_5 := blk_frozen BK288.out 5; have hnb50 := NB287_289.out; have hnc50 := NB289_287.out; have hcz51_0 : w48.cell? ⟨gb287, 0, none⟩ = some (.int .i64 a0_0) := (blk_cell BK287.out 0).trans rfl; have hcz51_1 : w48.cell? ⟨gb287, 1, none⟩ = some (.int .i64 a0_1) := (blk_cell BK287.out 1).trans rfl; have hcz51_2 : w48.cell? ⟨gb287, 2, none⟩ = some (.int .i64 a0_2) := (blk_cell BK287.out 2).trans rfl; have hcz51_3 : w48.cell? ⟨gb287, 3, none⟩ = some (.slice A0_3 l0_3.length c0_3) := (blk_cell BK287.out 3).trans rfl; have hfz51_0 := blk_frozen BK287.out 0; have hfz51_1 := blk_frozen BK287.out 1; have hfz51_2 := blk_frozen BK287.out 2; have hfz51_3 := blk_frozen BK287.out 3) | ((with_reducible refine gate_callee (f := 64) rfl ?_); refine goesL_ (some 33) rfl rfl Tryd.func64 (by kernel_rfl) rfl #[.agg #[.int .i64 a0_0, .int .i64 a0_1, .int .i64 a0_2, .slice A0_3 l0_3.length c0_3], .agg #[.int .i64 t291, .int .i64 t292, .int .i64 t293, .int .i64 t294, .int .i64 t295, .int .i64 t296]] rfl (by (try simp only [List.map_toArray, List.map_cons, List.map_nil]); first | done | rfl | (simp only [List.length_drop, List.length_take]; rfl)) ?_; (with_reducible refine (shot_How.calls k2 a0_0 a0_1 a0_2 _ _ l0_3 t291 t292 t293 t294 t295 t296 t297 t298 _ ?side1 ?side2 A35.out).mono ?_); (case side1 => exact Kd.C_below HR0_3.out (by repeat (first | (with_reducible first | exact HB.out | apply below_alloc | apply pw_below_drewN | apply below_drew1 | refine below_set ?_ GE287.out | refine below_set ?_ GE288.out | refine below_set ?_ GE289.out) | exact HB.out))); (case side2 => exact HC0_3.out); rintro e w52 ⟨rfl, hb⟩; refine ⟨_, rfl, ?_⟩; have n0_ := Aside0.mk (blk_below (g := gb287) (o := .cells #[.int .i64 a0_0, .int .i64 a0_1, .int .i64 a0_2, .slice A0_3 l0_3.length c0_3] 45 (0, 0)) (by (with_reducible repeat (first | refine blk_drewN ?_ _ | refine blk_drew ?_ | refine blk_alloc ?_ _)); refine blk_far ?_ NB287_288.out _; (with_reducible repeat (first | refine blk_drewN ?_ _ | refine blk_drew ?_ | refine blk_alloc ?_ _)); refine blk_far ?_ NB287_288.out _; (with_reducible repeat (first | refine blk_drewN ?_ _ | refine blk_drew ?_ | refine blk_alloc ?_ _)); refine blk_far ?_ NB287_288.out _; (with_reducible repeat (first | refine blk_drewN ?_ _ | refine blk_drew ?_ | refine blk_alloc ?_ _)); refine blk_far ?_ NB287_288.out _; (with_reducible repeat (first | refine blk_drewN ?_ _ | refine blk_drew ?_ | refine blk_alloc ?_ _)); refine blk_far ?_ NB287_288.out _; (with_reducible repeat (first | refine blk_drewN ?_ _ | refine blk_drew ?_ | refine blk_alloc ?_ _)); refine blk_far ?_ NB287_288.out _; (with_reducible repeat (first | refine blk_drewN ?_ _ | refine blk_drew ?_ | refine blk_alloc ?_ _)); exact BK287.out) hb); have n1_ := Aside0.mk (blk_below (g := gb288) (o := .cells #[.int .i64 t291, .int .i64 t292, .int .i64 t293, .int .i64 t294, .int .i64 t295, .int .i64 t296] 47 (0, 0)) (by (with_reducible repeat (first | refine blk_drewN ?_ _ | refine blk_drew ?_ | refine blk_alloc ?_ _)); refine blk_put (cs := #[.int .i64 t291, .int .i64 t292, .int .i64 t293, .int .i64 t294, .int .i64 t295, .int .i64 x289005_2]) ?_ 5 _ rfl; (with_reducible repeat (first | refine blk_drewN ?_ _ | refine blk_drew ?_ | refine blk_alloc ?_ _)); refine blk_put (cs := #[.int .i64 t291, .int .i64 t292, .int .i64 t293, .int .i64 t294, .int .i64 x289004_2, .int .i64 x289005_2]) ?_ 4 _ rfl; (with_reducible repeat (first | refine blk_drewN ?_ _ | refine blk_drew ?_ | refine blk_alloc ?_ _)); refine blk_put (cs := #[.int .i64 t291, .int .i64 t292, .int .i64 t293, .int .i64 x289003_2, .int .i64 x289004_2, .int .i64 x289005_2]) ?_ 3 _ rfl; (with_reducible repeat (first | refine blk_drewN ?_ _ | refine blk_drew ?_ | refine blk_alloc ?_ _)); refine blk_put (cs := #[.int .i64 t291, .int .i64 t292, .int .i64 x289002_2, .int .i64 x289003_2, .int .i64 x289004_2, .int .i64 x289005_2]) ?_ 2 _ rfl; (with_reducible repeat (first | refine blk_drewN ?_ _ | refine blk_drew ?_ | refine blk_alloc ?_ _)); refine blk_put (cs := #[.int .i64 t291, .int .i64 x289001_2, .int .i64 x289002_2, .int .i64 x289003_2, .int .i64 x289004_2, .int .i64 x289005_2]) ?_ 1 _ rfl; (with_reducible repeat (first | refine blk_drewN ?_ _ | refine blk_drew ?_ | refine blk_alloc ?_ _)); refine blk_put (cs := #[.int .i64 x289000_2, .int .i64 x289001_2, .int .i64 x289002_2, .int .i64 x289003_2, .int .i64 x289004_2, .int .i64 x289005_2]) ?_ 0 _ rfl; (with_reducible repeat (first | refine blk_drewN ?_ _ | refine blk_drew ?_ | refine blk_alloc ?_ _)); exact BK288.out) hb); have n2_ := Aside0.mk (blk_below (g := gb289) (o := .cells #[.int .i64 x290000_2, .int .i64 x290001_2, .int .i64 x290002_2, .int .i64 x290003_2, .int .i64 x290004_2, .int .i64 x290005_2, .int .i64 x290006_2, .int .i64 x290007_2] 62 (0, 0)) (by (with_reducible repeat (first | refine blk_drewN ?_ _ | refine blk_drew ?_ | refine blk_alloc ?_ _)); refine blk_far ?_ NB289_288.out _; (with_reducible repeat (first | refine blk_drewN ?_ _ | refine blk_drew ?_ | refine blk_alloc ?_ _)); refine blk_far ?_ NB289_288.out _; (with_reducible repeat (first | refine blk_drewN ?_ _ | refine blk_drew ?_ | refine blk_alloc ?_ _)); refine blk_far ?_ NB289_288.out _; (with_reducible repeat (first | refine blk_drewN ?_ _ | refine blk_drew ?_ | refine blk_alloc ?_ _)); refine blk_far ?_ NB289_288.out _; (with_reducible repeat (first | refine blk_drewN ?_ _ | refine blk_drew ?_ | refine blk_alloc ?_ _)); refine blk_far ?_ NB289_288.out _; (with_reducible repeat (first | refine blk_drewN ?_ _ | refine blk_drew ?_ | refine blk_alloc ?_ _)); refine blk_far ?_ NB289_288.out _; (with_reducible repeat (first | refine blk_drewN ?_ _ | refine blk_drew ?_ | refine blk_alloc ?_ _)); exact BK289.out) hb); have n3_ := Aside0.mk (below_step (by repeat (first | (with_reducible first | exact HB.out | apply below_alloc | apply pw_below_drewN | apply below_drew1 | refine below_set ?_ GE287.out | refine below_set ?_ GE288.out | refine below_set ?_ GE289.out) | exact HB.out)) hb); clear BK287; clear BK288; clear BK289; clear HB; have BK287 := n0_; have BK288 := n1_; have BK289 := n2_; have HB := n3_; clear n0_ n1_ n2_ n3_; (try clear hb); (try clear hb2); (try clear hk); (try clear hi); have hcz53_0 : w52.cell? ⟨gb288, 0, none⟩ = some (.int .i64 t291) := (blk_cell BK288.out 0).trans rfl; have hcz53_1 : w52.cell? ⟨gb288, 1, none⟩ = some (.int .i64 t292) := (blk_cell BK288.out 1).trans rfl; have hcz53_2 : w52.cell? ⟨gb288, 2, none⟩ = some (.int .i64 t293) := (blk_cell BK288.out 2).trans rfl; have hcz53_3 : w52.cell? ⟨gb288, 3, none⟩ = some (.int .i64 t294) := (blk_cell BK288.out 3).trans rfl; have hcz53_4 : w52.cell? ⟨gb288, 4, none⟩ = some (.int .i64 t295) := (blk_cell BK288.out 4).trans rfl; have hcz53_5 : w52.cell? ⟨gb288, 5, none⟩ = some (.int .i64 t296) := (blk_cell BK288.out 5).trans rfl; have hfz53_0 := blk_frozen BK288.out 0; have hfz53_1 := blk_frozen BK288.out 1; have hfz53_2 := blk_frozen BK288.out 2; have hfz53_3 := blk_frozen BK288.out 3; have hfz53_4 := blk_frozen BK288.out 4; have hfz53_5 := blk_frozen BK288.out 5; have hcz54_0 : w52.cell? ⟨gb289, 0, none⟩ = some (.int .i64 x290000_2) := (blk_cell BK289.out 0).trans rfl; have hcz54_1 : w52.cell? ⟨gb289, 1, none⟩ = some (.int .i64 x290001_2) := (blk_cell BK289.out 1).trans rfl; have hcz54_2 : w52.cell? ⟨gb289, 2, none⟩ = some (.int .i64 x290002_2) := (blk_cell BK289.out 2).trans rfl; have hcz54_3 : w52.cell? ⟨gb289, 3, none⟩ = some (.int .i64 x290003_2) := (blk_cell BK289.out 3).trans rfl; have hcz54_4 : w52.cell? ⟨gb289, 4, none⟩ = some (.int .i64 x290004_2) := (blk_cell BK289.out 4).trans rfl; have hcz54_5 : w52.cell? ⟨gb289, 5, none⟩ = some (.int .i64 x290005_2) := (blk_cell BK289.out 5).trans rfl; have hcz54_6 : w52.cell? ⟨gb289, 6, none⟩ = some (.int .i64 x290006_2) := (blk_cell BK289.out 6).trans rfl; have hcz54_7 : w52.cell? ⟨gb289, 7, none⟩ = some (.int .i64 x290007_2) := (blk_cell BK289.out 7).trans rfl; have hfz54_0 := blk_frozen BK289.out 0; have hfz54_1 := blk_frozen BK289.out 1; have hfz54_2 := blk_frozen BK289.out 2; have hfz54_3 := blk_frozen BK289.out 3; have hfz54_4 := blk_frozen BK289.out 4; have hfz54_5 := blk_frozen BK289.out 5; have hfz54_6 := blk_frozen BK289.out 6; have hfz54_7 := blk_frozen BK289.out 7))
                refine bodyPost_ret (results_ct rfl _ _ gb289 62 #[.int .i64 (wrap64 (x25_2 + 1)), .int .i64 t297, .int .i64 t291, .int .i64 t292, .int .i64 t293, .int .i64 t294, .int .i64 t295, .int .i64 t296] (0, 0) _ rfl (by (with_reducible repeat (first | refine blk_drewN ?_ _ | refine blk_drew ?_ | refine blk_alloc ?_ _)); refine blk_put (cs := #[.int .i64 (wrap64 (x25_2 + 1)), .int .i64 t297, .int .i64 t291, .int .i64 t292, .int .i64 t293, .int .i64 t294, .int .i64 t295, .int .i64 x290007_2]) ?_ 7 _ rfl; (with_reducible repeat (first | refine blk_drewN ?_ _ | refine blk_drew ?_ | refine blk_alloc ?_ _)); refine blk_put (cs := #[.int .i64 (wrap64 (x25_2 + 1)), .int .i64 t297, .int .i64 t291, .int .i64 t292, .int .i64 t293, .int .i64 t294, .int .i64 x290006_2, .int .i64 x290007_2]) ?_ 6 _ rfl; (with_reducible repeat (first | refine blk_drewN ?_ _ | refine blk_drew ?_ | refine blk_alloc ?_ _)); refine blk_put (cs := #[.int .i64 (wrap64 (x25_2 + 1)), .int .i64 t297, .int .i64 t291, .int .i64 t292, .int .i64 t293, .int .i64 x290005_2, .int .i64 x290006_2, .int .i64 x290007_2]) ?_ 5 _ rfl; (with_reducible repeat (first | refine blk_drewN ?_ _ | refine blk_drew ?_ | refine blk_alloc ?_ _)); refine blk_put (cs := #[.int .i64 (wrap64 (x25_2 + 1)), .int .i64 t297, .int .i64 t291, .int .i64 t292, .int .i64 x290004_2, .int .i64 x290005_2, .int .i64 x290006_2, .int .i64 x290007_2]) ?_ 4 _ rfl; (with_reducible repeat (first | refine blk_drewN ?_ _ | refine blk_drew ?_ | refine blk_alloc ?_ _)); refine blk_put (cs := #[.int .i64 (wrap64 (x25_2 + 1)), .int .i64 t297, .int .i64 t291, .int .i64 x290003_2, .int .i64 x290004_2, .int .i64 x290005_2, .int .i64 x290006_2, .int .i64 x290007_2]) ?_ 3 _ rfl; (with_reducible repeat (first | refine blk_drewN ?_ _ | refine blk_drew ?_ | refine blk_alloc ?_ _)); refine blk_put (cs := #[.int .i64 (wrap64 (x25_2 + 1)), .int .i64 t297, .int .i64 x290002_2, .int .i64 x290003_2, .int .i64 x290004_2, .int .i64 x290005_2, .int .i64 x290006_2, .int .i64 x290007_2]) ?_ 2 _ rfl; (with_reducible repeat (first | refine blk_drewN ?_ _ | refine blk_drew ?_ | refine blk_alloc ?_ _)); refine blk_put (cs := #[.int .i64 (wrap64 (x25_2 + 1)), .int .i64 x290001_2, .int .i64 x290002_2, .int .i64 x290003_2, .int .i64 x290004_2, .int .i64 x290005_2, .int .i64 x290006_2, .int .i64 x290007_2]) ?_ 1 _ rfl; (with_reducible repeat (first | refine blk_drewN ?_ _ | refine blk_drew ?_ | refine blk_alloc ?_ _)); refine blk_put (cs := #[.int .i64 x290000_2, .int .i64 x290001_2, .int .i64 x290002_2, .int .i64 x290003_2, .int .i64 x290004_2, .int .i64 x290005_2, .int .i64 x290006_2, .int .i64 x290007_2]) ?_ 0 _ rfl; (with_reducible repeat (first | refine blk_drewN ?_ _ | refine blk_drew ?_ | refine blk_alloc ?_ _)); exact BK289.out) Tryd.underlying62 rfl (by kernel_rfl)) rfl ?_
                exact ⟨by first | rfl | (simp [errW_none, errW_some] <;> rfl) | (simp [*, errW_none, errW_some] <;> rfl), by repeat (first | (with_reducible first | exact HB.out | apply below_alloc | apply pw_below_drewN | apply below_drew1 | refine below_set ?_ GE287.out | refine below_set ?_ GE288.out | refine below_set ?_ GE289.out) | exact HB.out)⟩
            · rw [if_neg c33] at H
              have c33b0 : decide (x25_2 < a2) = false := decide_eq_false c33
              clear c33
              simp only [Option.some.injEq, Prod.mk.injEq] at H
              obtain ⟨rfl, rfl, rfl, rfl, rfl, rfl, rfl, rfl, rfl⟩ := H
              have hnb55 := NB288_287.out
              have hnc55 := NB287_288.out
              have hnb56 := NB288_289.out
              have hnc56 := NB289_288.out
              have hcz57_0 : wr.cell? ⟨gb288, 0, none⟩ = some (.int .i64 x289000_2) := (blk_cell BK288.out 0).trans rfl
              have hcz57_1 : wr.cell? ⟨gb288, 1, none⟩ = some (.int .i64 x289001_2) := (blk_cell BK288.out 1).trans rfl
              have hcz57_2 : wr.cell? ⟨gb288, 2, none⟩ = some (.int .i64 x289002_2) := (blk_cell BK288.out 2).trans rfl
              have hcz57_3 : wr.cell? ⟨gb288, 3, none⟩ = some (.int .i64 x289003_2) := (blk_cell BK288.out 3).trans rfl
              have hcz57_4 : wr.cell? ⟨gb288, 4, none⟩ = some (.int .i64 x289004_2) := (blk_cell BK288.out 4).trans rfl
              have hcz57_5 : wr.cell? ⟨gb288, 5, none⟩ = some (.int .i64 x289005_2) := (blk_cell BK288.out 5).trans rfl
              have hfz57_0 := blk_frozen BK288.out 0
              have hfz57_1 := blk_frozen BK288.out 1
              have hfz57_2 := blk_frozen BK288.out 2
              have hfz57_3 := blk_frozen BK288.out 3
              have hfz57_4 := blk_frozen BK288.out 4
              have hfz57_5 := blk_frozen BK288.out 5
              have hnb58 := NB289_287.out
              have hnc58 := NB287_289.out
              have hcz59_0 : wr.cell? ⟨gb289, 0, none⟩ = some (.int .i64 x290000_2) := (blk_cell BK289.out 0).trans rfl
              have hcz59_1 : wr.cell? ⟨gb289, 1, none⟩ = some (.int .i64 x290001_2) := (blk_cell BK289.out 1).trans rfl
              have hcz59_2 : wr.cell? ⟨gb289, 2, none⟩ = some (.int .i64 x290002_2) := (blk_cell BK289.out 2).trans rfl
              have hcz59_3 : wr.cell? ⟨gb289, 3, none⟩ = some (.int .i64 x290003_2) := (blk_cell BK289.out 3).trans rfl
              have hcz59_4 : wr.cell? ⟨gb289, 4, none⟩ = some (.int .i64 x290004_2) := (blk_cell BK289.out 4).trans rfl
              have hcz59_5 : wr.cell? ⟨gb289, 5, none⟩ = some (.int .i64 x290005_2) := (blk_cell BK289.out 5).trans rfl
              have hcz59_6 : wr.cell? ⟨gb289, 6, none⟩ = some (.int .i64 x290006_2) := (blk_cell BK289.out 6).trans rfl
              have hcz59_7 : wr.cell? ⟨gb289, 7, none⟩ = some (.int .i64 x290007_2) := (blk_cell BK289.out 7).trans rfl
              have hfz59_0 := blk_frozen BK289.out 0
              have hfz59_1 := blk_frozen BK289.out 1
              have hfz59_2 := blk_frozen BK289.out 2
              have hfz59_3 := blk_frozen BK289.out 3
              have hfz59_4 := blk_frozen BK289.out 4
              have hfz59_5 := blk_frozen BK289.out 5
              have hfz59_6 := blk_frozen BK289.out 6
              have hfz59_7 := blk_frozen BK289.out 7
              go_wp2
              refine bodyPost_ret (results_ct rfl _ _ gb289 62 #[.int .i64 a2, .int .i64 0, .int .i64 x289000_2, .int .i64 x289001_2, .int .i64 x289002_2, .int .i64 x289003_2, .int .i64 x289004_2, .int .i64 x289005_2] (0, 0) _ rfl (by (with_reducible repeat (first | refine blk_drewN ?_ _ | refine blk_drew ?_ | refine blk_alloc ?_ _)); refine blk_put (cs := #[.int .i64 a2, .int .i64 0, .int .i64 x289000_2, .int .i64 x289001_2, .int .i64 x289002_2, .int .i64 x289003_2, .int .i64 x289004_2, .int .i64 x290007_2]) ?_ 7 _ rfl; (with_reducible repeat (first | refine blk_drewN ?_ _ | refine blk_drew ?_ | refine blk_alloc ?_ _)); refine blk_put (cs := #[.int .i64 a2, .int .i64 0, .int .i64 x289000_2, .int .i64 x289001_2, .int .i64 x289002_2, .int .i64 x289003_2, .int .i64 x290006_2, .int .i64 x290007_2]) ?_ 6 _ rfl; (with_reducible repeat (first | refine blk_drewN ?_ _ | refine blk_drew ?_ | refine blk_alloc ?_ _)); refine blk_put (cs := #[.int .i64 a2, .int .i64 0, .int .i64 x289000_2, .int .i64 x289001_2, .int .i64 x289002_2, .int .i64 x290005_2, .int .i64 x290006_2, .int .i64 x290007_2]) ?_ 5 _ rfl; (with_reducible repeat (first | refine blk_drewN ?_ _ | refine blk_drew ?_ | refine blk_alloc ?_ _)); refine blk_put (cs := #[.int .i64 a2, .int .i64 0, .int .i64 x289000_2, .int .i64 x289001_2, .int .i64 x290004_2, .int .i64 x290005_2, .int .i64 x290006_2, .int .i64 x290007_2]) ?_ 4 _ rfl; (with_reducible repeat (first | refine blk_drewN ?_ _ | refine blk_drew ?_ | refine blk_alloc ?_ _)); refine blk_put (cs := #[.int .i64 a2, .int .i64 0, .int .i64 x289000_2, .int .i64 x290003_2, .int .i64 x290004_2, .int .i64 x290005_2, .int .i64 x290006_2, .int .i64 x290007_2]) ?_ 3 _ rfl; (with_reducible repeat (first | refine blk_drewN ?_ _ | refine blk_drew ?_ | refine blk_alloc ?_ _)); refine blk_put (cs := #[.int .i64 a2, .int .i64 0, .int .i64 x290002_2, .int .i64 x290003_2, .int .i64 x290004_2, .int .i64 x290005_2, .int .i64 x290006_2, .int .i64 x290007_2]) ?_ 2 _ rfl; (with_reducible repeat (first | refine blk_drewN ?_ _ | refine blk_drew ?_ | refine blk_alloc ?_ _)); refine blk_put (cs := #[.int .i64 a2, .int .i64 x290001_2, .int .i64 x290002_2, .int .i64 x290003_2, .int .i64 x290004_2, .int .i64 x290005_2, .int .i64 x290006_2, .int .i64 x290007_2]) ?_ 1 _ rfl; (with_reducible repeat (first | refine blk_drewN ?_ _ | refine blk_drew ?_ | refine blk_alloc ?_ _)); refine blk_put (cs := #[.int .i64 x290000_2, .int .i64 x290001_2, .int .i64 x290002_2, .int .i64 x290003_2, .int .i64 x290004_2, .int .i64 x290005_2, .int .i64 x290006_2, .int .i64 x290007_2]) ?_ 0 _ rfl; (with_reducible repeat (first | refine blk_drewN ?_ _ | refine blk_drew ?_ | refine blk_alloc ?_ _)); exact BK289.out) Tryd.underlying62 rfl (by kernel_rfl)) rfl ?_
              exact ⟨by first | rfl | (simp [errW_none, errW_some] <;> rfl) | (simp [*, errW_none, errW_some] <;> rfl), by repeat (first | (with_reducible first | exact HB.out | apply below_alloc | apply pw_below_drewN | apply below_drew1 | refine below_set ?_ GE287.out | refine below_set ?_ GE288.out | refine below_set ?_ GE289.out) | exact HB.out)⟩
end Go.Proofs.YtbcddiaplpbhjaaDoor.MAi
namespace Go.Proofs.YtbcddiaplpbhjaaDoor.Tr
open Go Go.RowKit
set_option linter.unusedVariables false
end Go.Proofs.YtbcddiaplpbhjaaDoor.Tr
namespace Go.Proofs.YtbcddiaplpbhjaaDoor.Ap
open Go Go.RowKit Go.Proofs.YtbcddiaplpbhjaaDoorW.PrintMore Go.Proofs.YtbcddiaplpbhjaaDoorW.PrintWords Go.Proofs.YtbcddiaplpbhjaaDoor.MAi
set_option linter.unusedVariables false
set_option linter.unusedSimpArgs false
theorem w_in {x : Int} (h0 : -9223372036854775808 ≤ x) (h1 : x ≤ 9223372036854775807) : wrap64 x = x := by unfold wrap64; omega
theorem u_in {x : Int} (h0 : 0 ≤ x) (h1 : x ≤ 9223372036854775807) : IntKind.u64.wrap x = x := by rw [wrap_u64]; omega
theorem mul_in {a b : Int} {A B : Nat} (ha : -(A : Int) ≤ a ∧ a ≤ A) (hb : -(B : Int) ≤ b ∧ b ≤ B) : -((A * B : Nat) : Int) ≤ a * b ∧ a * b ≤ (A * B : Nat) := by
  have h : (a * b).natAbs ≤ A * B := by rw [Int.natAbs_mul]; exact Nat.mul_le_mul (by omega) (by omega)
  omega
theorem sq_nonneg' (x : Int) : 0 ≤ x * x := by
  rcases Int.le_total 0 x with h | h
  · exact Int.mul_nonneg h h
  · exact Int.mul_nonneg_of_nonpos_of_nonpos h h
theorem mul_nn {a b : Int} {B C : Int} (h0 : 0 ≤ a) (h1 : a ≤ B) (k0 : 0 ≤ b) (k1 : b ≤ C) : 0 ≤ a * b ∧ a * b ≤ B * C :=
  ⟨Int.mul_nonneg h0 k0, Int.le_trans (Int.mul_le_mul_of_nonneg_right h1 k0) (Int.mul_le_mul_of_nonneg_left k1 (by omega))⟩
def Bnd (W H Wa : Int) : Prop := 1 ≤ W ∧ W ≤ 64 ∧ 1 ≤ H ∧ H ≤ 64 ∧ 0 ≤ Wa ∧ Wa ≤ 255
instance (W H Wa : Int) : Decidable (Bnd W H Wa) := by unfold Bnd; infer_instance
def chk (W H Wa : Int) (l : List Int) : Int := if Bnd W H Wa then (if (l.length : Int) < (W + 1) * (H + 1) then 2 else if (l.length : Int) > (W + 1) * (H + 1) then 7 else 0) else 1
theorem chk_zero {W H Wa : Int} {l : List Int} (h : chk W H Wa l = 0) : Bnd W H Wa ∧ (l.length : Int) = (W + 1) * (H + 1) := by
  unfold chk at h
  split at h
  · rename_i hb
    split at h
    · omega
    · split at h
      · omega
      · exact ⟨hb, by omega⟩
  · omega
theorem chk_f (W H Wa : Int) (l : List Int) (k : Nat) : relief_Check.f (k + 1) W H Wa l = some (chk W H Wa l) := by
  have hj : relief_Check.j0 (k + 1) true W H Wa l = some 1 := by rw [relief_Check.j0, if_pos rfl]
  unfold relief_Check.f chk
  by_cases hb : Bnd W H Wa
  · rw [if_pos hb]
    unfold Bnd at hb
    have hm := mul_in (a := W + 1) (b := H + 1) (A := 65) (B := 65) (by omega) (by omega)
    rw [if_neg (by omega), if_neg (by omega), if_neg (by omega), if_neg (by omega), if_neg (by omega), decide_eq_false (by omega), relief_Check.j0, if_neg (by decide), w_in (x := W + 1) (by omega) (by omega), w_in (x := H + 1) (by omega) (by omega), w_in (by omega) (by omega)]
    repeat' split
    all_goals rfl
  · rw [if_neg hb]
    unfold Bnd at hb
    repeat' split
    all_goals first
      | exact hj
      | (rw [decide_eq_true (by omega)]; exact hj)
theorem rchk_f (W H Wa : Int) (l : List Int) (k : Nat) : bivouacref06_Check.f (k + 1) W H Wa l = some (chk W H Wa l) := by
  have hj : bivouacref06_Check.j0 (k + 1) true W H Wa l = some 1 := by rw [bivouacref06_Check.j0, if_pos rfl]
  unfold bivouacref06_Check.f chk
  by_cases hb : Bnd W H Wa
  · rw [if_pos hb]
    unfold Bnd at hb
    have hm := mul_in (a := W + 1) (b := H + 1) (A := 65) (B := 65) (by omega) (by omega)
    rw [if_pos (by omega), if_pos (by omega), if_pos (by omega), if_pos (by omega), if_pos (by omega), decide_eq_true (by omega), bivouacref06_Check.j0, if_neg (by decide), w_in (x := W + 1) (by omega) (by omega), w_in (x := H + 1) (by omega) (by omega), w_in (by omega) (by omega)]
    repeat' split
    all_goals rfl
  · rw [if_neg hb]
    unfold Bnd at hb
    repeat' split
    all_goals first
      | exact hj
      | (rw [decide_eq_false (by omega)]; exact hj)
def On (W H x y : Int) : Prop := 0 ≤ x ∧ x < W * 65536 ∧ 0 ≤ y ∧ y < H * 65536
instance (W H x y : Int) : Decidable (On W H x y) := by unfold On; infer_instance
theorem ron_f {W H Wa : Int} (l : List Int) (hb : Bnd W H Wa) (x y : Int) : bivouacref06_On.f W H Wa l x y = some (decide (On W H x y)) := by
  unfold Bnd at hb
  unfold bivouacref06_On.f
  rw [w_in (x := W * 65536) (by omega) (by omega), w_in (x := H * 65536) (by omega) (by omega)]
  by_cases h : On W H x y
  · rw [decide_eq_true h]
    unfold On at h
    rw [if_pos (by omega), if_pos (by omega), if_pos (by omega), decide_eq_true (by omega)]
  · rw [decide_eq_false h]
    unfold On at h
    repeat' split
    all_goals first
      | rfl
      | (congr 1; exact decide_eq_false (by omega))
theorem on_f (W H Wa : Int) (l : List Int) (x y : Int) (k : Nat) : relief_On.f (k + 1) W H Wa l x y = some (decide (chk W H Wa l = 0 ∧ On W H x y)) := by
  unfold relief_On.f
  rw [chk_f, Option.bind_some]
  by_cases hc : chk W H Wa l = 0
  · obtain ⟨hb, _⟩ := chk_zero hc
    rw [if_pos hc]
    unfold Bnd at hb
    rw [w_in (x := W * 65536) (by omega) (by omega), w_in (x := H * 65536) (by omega) (by omega)]
    by_cases h : On W H x y
    · rw [decide_eq_true (show chk W H Wa l = 0 ∧ On W H x y from ⟨hc, h⟩)]
      unfold On at h
      rw [if_pos (by omega), if_pos (by omega), if_pos (by omega), decide_eq_true (by omega)]
    · rw [decide_eq_false (show ¬ (chk W H Wa l = 0 ∧ On W H x y) from fun q => h q.2)]
      unfold On at h
      repeat' split
      all_goals first
        | rfl
        | (congr 1; exact decide_eq_false (by omega))
  · rw [if_neg hc, decide_eq_false (show ¬ (chk W H Wa l = 0 ∧ On W H x y) from fun q => hc q.1)]
def Bytes (l : List Int) : Prop := ∀ z ∈ l, 0 ≤ z ∧ z ≤ 255
theorem rd_byte {l : List Int} (h : Bytes l) (i : Int) : 0 ≤ rd l i ∧ rd l i ≤ 255 := by
  unfold rd
  by_cases hi : i.toNat < l.length
  · rw [List.getD_eq_getElem?_getD, List.getElem?_eq_getElem hi]
    exact h _ (List.getElem_mem hi)
  · rw [List.getD_eq_getElem?_getD, List.getElem?_eq_none (by omega)]
    simp
def cor (W x y : Int) : Int := (W + 1) * (y / 65536) + x / 65536
def hgt (W : Int) (l : List Int) (x y : Int) : Int :=
  (rd l (cor W x y) * (65536 - x % 65536) * (65536 - y % 65536) + rd l (cor W x y + 1) * (x % 65536) * (65536 - y % 65536) + rd l (cor W x y + (W + 1)) * (65536 - x % 65536) * (y % 65536) + rd l (cor W x y + (W + 1) + 1) * (x % 65536) * (y % 65536)) / 65536
theorem cor_in {W H Wa x y : Int} {l : List Int} (hc : chk W H Wa l = 0) (ho : On W H x y) :
    0 ≤ cor W x y ∧ cor W x y + (W + 1) + 1 < (l.length : Int) ∧ 0 ≤ (W + 1) * (y / 65536) ∧ (W + 1) * (y / 65536) ≤ 4225 ∧ (l.length : Int) ≤ 4225 := by
  obtain ⟨hb, hl⟩ := chk_zero hc
  unfold Bnd at hb
  unfold On at ho
  have hp := mul_nn (a := W + 1) (b := y / 65536) (B := 65) (C := 65) (by omega) (by omega) (by omega) (by omega)
  have hm : (W + 1) * (y / 65536) ≤ (W + 1) * (H - 1) := Int.mul_le_mul_of_nonneg_left (by omega) (by omega)
  have hm2 := mul_in (a := W + 1) (b := H + 1) (A := 65) (B := 65) (by omega) (by omega)
  have he : (W + 1) * (H + 1) = (W + 1) * (H - 1) + (W + 1) * 2 := by rw [← Int.mul_add]; congr 1; omega
  unfold cor
  omega
theorem part4 {c : Int} (h0 : 0 ≤ c) (h1 : c ≤ 255) {u v : Int} (u0 : 0 ≤ u) (u1 : u ≤ 65536) (v0 : 0 ≤ v) (v1 : v ≤ 65536) :
    0 ≤ c * u ∧ c * u ≤ 16711680 ∧ 0 ≤ c * u * v ∧ c * u * v ≤ 1095216660480 := by
  have a := mul_nn h0 h1 u0 u1
  have b := mul_nn a.1 a.2 v0 v1
  omega
set_option maxHeartbeats 1000000 in
theorem rhgt_f {W H Wa x y : Int} {l : List Int} (hc : chk W H Wa l = 0) (ho : On W H x y) (hl : Bytes l) : bivouacref06_Height.f W H Wa l x y = some (hgt W l x y) := by
  have hi := cor_in hc ho
  have hb := (chk_zero hc).1
  unfold Bnd at hb
  unfold On at ho
  have g : ∀ i j z, wrap64 (wrap64 (wrap64 (W + 1) * j) + i) = z → 0 ≤ z → z < (l.length : Int) → bivouacref06_Corner.f W H Wa l i j = some (rd l z) := by
    intro i j z hz z0 z1
    unfold bivouacref06_Corner.f
    rw [hz, if_pos z0, if_pos z1, w_in (by have := rd_byte hl z; omega) (by have := rd_byte hl z; omega)]
  have e1 : Int.tdiv x 65536 = x / 65536 := Int.tdiv_eq_ediv_of_nonneg ho.1
  have e2 : Int.tdiv y 65536 = y / 65536 := Int.tdiv_eq_ediv_of_nonneg ho.2.2.1
  have m1 : Int.tmod x 65536 = x % 65536 := Int.tmod_eq_emod_of_nonneg ho.1
  have m2 : Int.tmod y 65536 = y % 65536 := Int.tmod_eq_emod_of_nonneg ho.2.2.1
  have hs : (W + 1) * (y / 65536 + 1) = (W + 1) * (y / 65536) + (W + 1) := by rw [Int.mul_add, Int.mul_one]
  have hco : cor W x y = (W + 1) * (y / 65536) + x / 65536 := rfl
  unfold bivouacref06_Height.f
  rw [e1, e2, m1, m2, w_in (x := x / 65536) (by omega) (by omega), w_in (x := y / 65536) (by omega) (by omega), w_in (x := x / 65536 + 1) (by omega) (by omega), w_in (x := y / 65536 + 1) (by omega) (by omega)]
  rw [g _ _ (cor W x y) (by rw [w_in (x := W + 1) (by omega) (by omega), w_in (x := (W + 1) * (y / 65536)) (by omega) (by omega), w_in (by omega) (by omega)]; omega) (by omega) (by omega), Option.bind_some]
  rw [g _ _ (cor W x y + 1) (by rw [w_in (x := W + 1) (by omega) (by omega), w_in (x := (W + 1) * (y / 65536)) (by omega) (by omega), w_in (by omega) (by omega)]; omega) (by omega) (by omega), Option.bind_some]
  rw [g _ _ (cor W x y + (W + 1)) (by rw [w_in (x := W + 1) (by omega) (by omega), hs, w_in (x := (W + 1) * (y / 65536) + (W + 1)) (by omega) (by omega), w_in (by omega) (by omega)]; omega) (by omega) (by omega), Option.bind_some]
  rw [g _ _ (cor W x y + (W + 1) + 1) (by rw [w_in (x := W + 1) (by omega) (by omega), hs, w_in (x := (W + 1) * (y / 65536) + (W + 1)) (by omega) (by omega), w_in (by omega) (by omega)]; omega) (by omega) (by omega), Option.bind_some]
  unfold hgt
  have b0 := rd_byte hl (cor W x y)
  have b1 := rd_byte hl (cor W x y + 1)
  have b2 := rd_byte hl (cor W x y + (W + 1))
  have b3 := rd_byte hl (cor W x y + (W + 1) + 1)
  generalize rd l (cor W x y) = c0 at b0 ⊢
  generalize rd l (cor W x y + 1) = c1 at b1 ⊢
  generalize rd l (cor W x y + (W + 1)) = c2 at b2 ⊢
  generalize rd l (cor W x y + (W + 1) + 1) = c3 at b3 ⊢
  have u0 : 0 ≤ x % 65536 ∧ x % 65536 < 65536 := by omega
  have v0 : 0 ≤ y % 65536 ∧ y % 65536 < 65536 := by omega
  generalize x % 65536 = u at u0 ⊢
  generalize y % 65536 = v at v0 ⊢
  have q0 := part4 b0.1 b0.2 (u := 65536 - u) (v := 65536 - v) (by omega) (by omega) (by omega) (by omega)
  have q1 := part4 b1.1 b1.2 (u := u) (v := 65536 - v) (by omega) (by omega) (by omega) (by omega)
  have q2 := part4 b2.1 b2.2 (u := 65536 - u) (v := v) (by omega) (by omega) (by omega) (by omega)
  have q3 := part4 b3.1 b3.2 (u := u) (v := v) (by omega) (by omega) (by omega) (by omega)
  rw [w_in (x := 65536 - u) (by omega) (by omega), w_in (x := 65536 - v) (by omega) (by omega), w_in (x := c0 * (65536 - u)) (by omega) (by omega), w_in (x := c1 * u) (by omega) (by omega), w_in (x := c2 * (65536 - u)) (by omega) (by omega), w_in (x := c3 * u) (by omega) (by omega)]
  rw [w_in (x := c0 * (65536 - u) * (65536 - v)) (by omega) (by omega), w_in (x := c1 * u * (65536 - v)) (by omega) (by omega), w_in (x := c2 * (65536 - u) * v) (by omega) (by omega), w_in (x := c3 * u * v) (by omega) (by omega)]
  generalize c0 * (65536 - u) * (65536 - v) = p0 at q0 ⊢
  generalize c1 * u * (65536 - v) = p1 at q1 ⊢
  generalize c2 * (65536 - u) * v = p2 at q2 ⊢
  generalize c3 * u * v = p3 at q3 ⊢
  rw [w_in (x := p0 + p1) (by omega) (by omega), w_in (x := p0 + p1 + p2) (by omega) (by omega), w_in (x := p0 + p1 + p2 + p3) (by omega) (by omega), Int.tdiv_eq_ediv_of_nonneg (by omega), w_in (by omega) (by omega)]
set_option maxHeartbeats 1000000 in
theorem hgt_f {W H Wa x y : Int} {l : List Int} (hc : chk W H Wa l = 0) (ho : On W H x y) (hl : Bytes l) (k : Nat) : relief_Height.f (k + 1) W H Wa l x y = some (hgt W l x y, 0) := by
  have hi := cor_in hc ho
  have hb := (chk_zero hc).1
  unfold relief_Height.f
  rw [chk_f, Option.bind_some, if_pos hc, on_f, Option.bind_some, if_pos (decide_eq_true ⟨hc, ho⟩)]
  unfold fix_Whole.f fix_Part.f
  simp only [Option.bind_some, and_part]
  unfold Bnd at hb
  unfold On at ho
  have hco : cor W x y = (W + 1) * (y / 65536) + x / 65536 := rfl
  have hk : wrap64 (wrap64 (wrap64 (W + 1) * (y / 65536)) + x / 65536) = cor W x y := by
    rw [w_in (x := W + 1) (by omega) (by omega), w_in (x := (W + 1) * (y / 65536)) (by omega) (by omega), w_in (by omega) (by omega)]; omega
  have hd : wrap64 (wrap64 (cor W x y + W) + 1) = cor W x y + (W + 1) := by
    rw [w_in (x := cor W x y + W) (by omega) (by omega), w_in (by omega) (by omega)]; omega
  have b0 := rd_byte hl (cor W x y)
  have b1 := rd_byte hl (cor W x y + 1)
  have b2 := rd_byte hl (cor W x y + (W + 1))
  have b3 := rd_byte hl (cor W x y + (W + 1) + 1)
  unfold relief_corners.f
  rw [hk, hd, if_pos (by omega), if_pos (by omega), if_pos (by omega), if_pos (by omega), if_pos (by omega), w_in (x := rd l (cor W x y)) (by omega) (by omega), w_in (x := rd l (cor W x y + 1)) (by omega) (by omega), w_in (x := rd l (cor W x y + (W + 1))) (by omega) (by omega), w_in (x := rd l (cor W x y + (W + 1) + 1)) (by omega) (by omega), Option.bind_some]
  unfold hgt
  dsimp only
  generalize rd l (cor W x y) = c0 at b0 ⊢
  generalize rd l (cor W x y + 1) = c1 at b1 ⊢
  generalize rd l (cor W x y + (W + 1)) = c2 at b2 ⊢
  generalize rd l (cor W x y + (W + 1) + 1) = c3 at b3 ⊢
  have u0 : 0 ≤ x % 65536 ∧ x % 65536 < 65536 := by omega
  have v0 : 0 ≤ y % 65536 ∧ y % 65536 < 65536 := by omega
  generalize x % 65536 = u at u0 ⊢
  generalize y % 65536 = v at v0 ⊢
  have q0 := part4 b0.1 b0.2 (u := 65536 - u) (v := 65536 - v) (by omega) (by omega) (by omega) (by omega)
  have q1 := part4 b1.1 b1.2 (u := u) (v := 65536 - v) (by omega) (by omega) (by omega) (by omega)
  have q2 := part4 b2.1 b2.2 (u := 65536 - u) (v := v) (by omega) (by omega) (by omega) (by omega)
  have q3 := part4 b3.1 b3.2 (u := u) (v := v) (by omega) (by omega) (by omega) (by omega)
  rw [w_in (x := 65536 - u) (by omega) (by omega), w_in (x := 65536 - v) (by omega) (by omega), w_in (x := c0 * (65536 - u)) (by omega) (by omega), w_in (x := c1 * u) (by omega) (by omega), w_in (x := c2 * (65536 - u)) (by omega) (by omega), w_in (x := c3 * u) (by omega) (by omega)]
  rw [w_in (x := c0 * (65536 - u) + c1 * u) (by omega) (by omega), w_in (x := c2 * (65536 - u) + c3 * u) (by omega) (by omega), Int.add_mul, Int.add_mul]
  generalize c0 * (65536 - u) * (65536 - v) = p0 at q0 ⊢
  generalize c1 * u * (65536 - v) = p1 at q1 ⊢
  generalize c2 * (65536 - u) * v = p2 at q2 ⊢
  generalize c3 * u * v = p3 at q3 ⊢
  rw [w_in (x := p0 + p1) (by omega) (by omega), w_in (x := p2 + p3) (by omega) (by omega), w_in (by omega) (by omega)]
  congr 3
  omega
theorem hgt_off {W H Wa x y : Int} {l : List Int} (hc : chk W H Wa l = 0) (ho : ¬ On W H x y) (k : Nat) : relief_Height.f (k + 1) W H Wa l x y = some (0, 4) := by
  unfold relief_Height.f
  rw [chk_f, Option.bind_some, if_pos hc, on_f, Option.bind_some, if_neg (by simpa using fun _ => ho)]
def how (W H Wa : Int) (l : List Int) (x y z : Int) : Int := if On W H x y then (if z > hgt W l x y ∧ z > Wa * 65536 then 0 else if hgt W l x y ≥ Wa * 65536 then 1 else 2) else 3
theorem how_f {W H Wa : Int} {l : List Int} (hc : chk W H Wa l = 0) (hl : Bytes l) (x y z a b c : Int) (k : Nat) : shot_How.f (k + 1) W H Wa l x y z a b c = some (how W H Wa l x y z, 0) := by
  have hb := (chk_zero hc).1
  unfold Bnd at hb
  unfold shot_How.f how
  by_cases ho : On W H x y
  · rw [hgt_f hc ho hl, Option.bind_some, if_pos ho, if_neg (show ¬ (0 : Int) = 1 by decide), if_neg (show ¬ (0 : Int) = 4 by decide), w_in (x := Wa * 65536) (by omega) (by omega)]
    dsimp only
    unfold mx
    repeat' split
    all_goals first | rfl | (exfalso; omega)
  · rw [hgt_off hc ho, Option.bind_some, if_neg ho, if_neg (by decide), if_pos (by decide)]
theorem rhow_f {W H Wa : Int} {l : List Int} (hc : chk W H Wa l = 0) (hl : Bytes l) (x y z a b c : Int) (k : Nat) : bivouacref16_How.f (k + 1) W H Wa l x y z a b c = some (how W H Wa l x y z) := by
  have hb := (chk_zero hc).1
  unfold bivouacref16_How.f how
  rw [ron_f l hb, Option.bind_some]
  unfold Bnd at hb
  by_cases ho : On W H x y
  · rw [if_pos (decide_eq_true ho), if_pos ho, rhgt_f hc ho hl, Option.bind_some, w_in (x := Wa * 65536) (by omega) (by omega)]
    by_cases h1 : z > hgt W l x y
    · rw [if_pos h1, bivouacref16_How.j0]
      by_cases h2 : z > Wa * 65536
      · rw [if_pos (decide_eq_true h2), if_pos ⟨h1, h2⟩]
      · rw [if_neg (show ¬ decide (z > Wa * 65536) = true by simpa using h2), if_neg (show ¬ (z > hgt W l x y ∧ z > Wa * 65536) from fun q => h2 q.2)]
        split <;> rfl
    · rw [if_neg h1, bivouacref16_How.j0, if_neg (show ¬ (false = true) by decide), if_neg (show ¬ (z > hgt W l x y ∧ z > Wa * 65536) from fun q => h1 q.1)]
      split <;> rfl
  · rw [if_neg (by simpa using ho), if_neg ho]
theorem how_on {W H Wa : Int} {l : List Int} {x y z : Int} (h : how W H Wa l x y z = 1 ∨ how W H Wa l x y z = 2) : On W H x y := by
  unfold how at h
  by_cases ho : On W H x y
  · exact ho
  · rw [if_neg ho] at h; omega
end Go.Proofs.YtbcddiaplpbhjaaDoor.Ap
namespace Go.Proofs.YtbcddiaplpbhjaaDoor.MAi
open Go Go.RowKit Go.Proofs.YtbcddiaplpbhjaaDoorW.PrintWords Go.Proofs.YtbcddiaplpbhjaaDoorW.PrintLast Go.Proofs.YtbcddiaplpbhjaaDoorW.PrintMore
set_option linter.unusedVariables false
set_option linter.unusedSimpArgs false
noncomputable def aim_try (K : Nat) (W H Wa : Int) (l : List Int) (s0 s1 s2 s3 s4 s5 x y sp n : Int) : Option Bool :=
  (aim_Shot.f K s0 s1 s2 s3 s4 s5 x y sp n).bind fun t => (shot_Fly.f K W H Wa l t.1 t.2.1 t.2.2.1 t.2.2.2.1 t.2.2.2.2.1 t.2.2.2.2.2.1 1024).bind fun e =>
    some ((decide (e.2.1 = 1) || decide (e.2.1 = 2)) && (decide (e.2.2.1 / 65536 = x / 65536) && decide (e.2.2.2.1 / 65536 = y / 65536)))
set_option maxHeartbeats 4000000 in
set_option maxRecDepth 100000 in
theorem try_any (K : Nat) (W H Wa : Int) (A : Option Addr) (c : Nat) (l : List Int) (s0 s1 s2 s3 s4 s5 x y sp n : Int) (b : Bool) (w : World) (g1 g2 g3 g4 g5 : Nat) (hT : Tg.Tab w)
    (b1 : w.heap[g1]? = some (.cells #[.int .i64 s0, .int .i64 s1, .int .i64 s2, .int .i64 s3, .int .i64 s4, .int .i64 s5] 47 (0, 0)))
    (b2 : w.heap[g2]? = some (.cells #[.int .i64 x] 2 (0, 0))) (b3 : w.heap[g3]? = some (.cells #[.int .i64 y] 2 (0, 0))) (b4 : w.heap[g4]? = some (.cells #[.int .i64 sp] 2 (0, 0)))
    (b5 : w.heap[g5]? = some (.cells #[.int .i64 W, .int .i64 H, .int .i64 Wa, .slice A l.length c] 45 (0, 0)))
    (hr : Kd.C (Kd.int .u8) w A l.length l) (hc : l.length ≤ c) (h : aim_try K W H Wa l s0 s1 s2 s3 s4 s5 x y sp n = some b) :
    Calls Tryd.prog 57 #[.int .i64 n, .pointer (some ⟨g1, 0, none⟩), .pointer (some ⟨g2, 0, none⟩), .pointer (some ⟨g3, 0, none⟩), .pointer (some ⟨g4, 0, none⟩), .pointer (some ⟨g5, 0, none⟩)] w fun e w' => e = .returned (.bool b) ∧ Below w.heap.size w w' := by
  unfold aim_try at h
  obtain ⟨⟨t1, t2, t3, t4, t5, t6, te⟩, h1, h⟩ := Option.bind_eq_some_iff.mp h
  obtain ⟨⟨r1, r2, r3, r4, r5, r6, r7, r8, r9⟩, h2, h⟩ := Option.bind_eq_some_iff.mp h
  simp only [Option.some.injEq] at h
  have H1 := Lib.hid h1
  have H2 := Lib.hid h2
  have HR := Lib.hid hr
  have HC := Lib.hid hc
  have HT := Lib.hid hT
  have B1 := Lib.hid b1
  have B2 := Lib.hid b2
  have B3 := Lib.hid b3
  have B4 := Lib.hid b4
  have B5 := Lib.hid b5
  clear h1 h2 hr hc hT b1 b2 b3 b4 b5
  have hu := Tryd.underlying45
  have hu2 := Tryd.underlying47
  have hu3 := Tryd.underlying62
  have x0 := blk_cell B1.out 0
  have x1 := blk_cell B1.out 1
  have x2 := blk_cell B1.out 2
  have x3 := blk_cell B1.out 3
  have x4 := blk_cell B1.out 4
  have x5 := blk_cell B1.out 5
  have y2 := blk_cell B2.out 0
  have y3 := blk_cell B3.out 0
  have y4 := blk_cell B4.out 0
  simp only [List.getElem?_toArray, List.getElem?_cons_succ, List.getElem?_cons_zero] at x0 x1 x2 x3 x4 x5 y2 y3 y4
  have HH := Lib.hid h
  clear h
  go_enter Tryd.func57, Tryd.ntmps57
  go_wp2_with fail
  refine (aim_Shot.calls K s0 s1 s2 s3 s4 s5 x y sp n t1 t2 t3 t4 t5 t6 te _ HT.out H1.out).mono ?_
  rintro e w1 ⟨rfl, hb1⟩
  have D5 := Lib.hid (blk_below B5.out hb1)
  have z0 := blk_cell D5.out 0
  have z1 := blk_cell D5.out 1
  have z2 := blk_cell D5.out 2
  have z3 := blk_cell D5.out 3
  have D2 := Lib.hid (blk_below B2.out hb1)
  have D3 := Lib.hid (blk_below B3.out hb1)
  have HB1 := Lib.hid hb1
  simp only [List.getElem?_toArray, List.getElem?_cons_succ, List.getElem?_cons_zero] at z0 z1 z2 z3
  clear x0 x1 x2 x3 x4 x5 y2 y3 y4 hb1
  have L5 : g5 < w1.heap.size := blk_lt D5.out
  go_wp2_with fail
  refine (shot_Fly.calls K W H Wa A c l t1 t2 t3 t4 t5 t6 1024 r1 r2 r3 r4 r5 r6 r7 r8 r9 _ ?_ HC.out H2.out).mono ?_
  · exact Kd.C_below HR.out (below_alloc HB1.out _)
  · rintro e w2 ⟨rfl, hb2⟩
    have HB2 := Lib.hid (below_then (below_alloc HB1.out _) (below_alloc HB1.out _).size hb2)
    have E2 := Lib.hid (blk_below (blk_alloc D2.out _) hb2)
    have E3 := Lib.hid (blk_below (blk_alloc D3.out _) hb2)
    have v2 := blk_cell E2.out 0
    have v3 := blk_cell E3.out 0
    simp only [List.getElem?_toArray, List.getElem?_cons_succ, List.getElem?_cons_zero] at v2 v3
    clear z0 z1 z2 z3 hb2
    have L2 : g2 < w2.heap.size := blk_lt E2.out
    have L3 : g3 < w2.heap.size := blk_lt E3.out
    have HW : ∀ a q, a / 65536 = q → ∀ w', Calls Tryd.prog 58 #[.int .i64 a] w' fun e w'' => e = .returned (.int .i64 q) ∧ ∃ m, w'' = w'.drewN m := fun a q hq w' => (fix_Whole.calls a q w' (by rw [← hq]; rfl)).mono fun _ _ ⟨h1, h2⟩ => ⟨h1, h2.out⟩
    obtain ⟨q3, hq3⟩ : ∃ q, r3 / 65536 = q := ⟨_, rfl⟩
    obtain ⟨q4, hq4⟩ : ∃ q, r4 / 65536 = q := ⟨_, rfl⟩
    obtain ⟨qx, hqx⟩ : ∃ q, x / 65536 = q := ⟨_, rfl⟩
    obtain ⟨qy, hqy⟩ : ∃ q, y / 65536 = q := ⟨_, rfl⟩
    have C3 := Lib.hid (HW r3 q3 hq3)
    have C4 := Lib.hid (HW r4 q4 hq4)
    have CX := Lib.hid (HW x qx hqx)
    have CY := Lib.hid (HW y qy hqy)
    have HE := HH.out
    simp only [hq3, hq4, hqx, hqy] at HE
    clear HW hq3 hq4 hqx hqy HH
    have ends : ∀ (V : World), Below w2.heap.size w2 V → Below w.heap.size w V := fun V hV => below_then HB2.out HB2.out.size hV
    have HN := Lib.hid ends
    clear ends
    by_cases c1 : r2 = 1
    · subst c1
      by_cases d1 : q3 = qx
      · have d1' : (q3 == qx) = true := by simp [d1]
        by_cases d2 : q4 = qy
        · have d2' : (q4 == qy) = true := by simp [d2]
          obtain rfl : b = true := by rw [← HE]; simp [d1, d2]
          clear HE d1 d2
          go_wp2_with fail
          have N := blk_new w2 (Obj.cells #[Value.int IntKind.i64 r1, Value.int IntKind.i64 1, Value.int IntKind.i64 r3, Value.int IntKind.i64 r4, Value.int IntKind.i64 r5, Value.int IntKind.i64 r6, Value.int IntKind.i64 r7, Value.int IntKind.i64 r8] 62)
          have M := HN.out _ (below_alloc (Below.refl _ w2) (Obj.cells #[Value.int IntKind.i64 r1, Value.int IntKind.i64 1, Value.int IntKind.i64 r3, Value.int IntKind.i64 r4, Value.int IntKind.i64 r5, Value.int IntKind.i64 r6, Value.int IntKind.i64 r7, Value.int IntKind.i64 r8] 62))
          go_quiet ((first | exact Calls.quiet_of (C3.out _) | exact Calls.quiet_of (C4.out _) | exact Calls.quiet_of (CX.out _) | exact Calls.quiet_of (CY.out _)))
          go_wp2
          go_ret
          exact ⟨rfl, pw_below_drewN M nq⟩
        · have d2' : (q4 == qy) = false := by simp [d2]
          obtain rfl : b = false := by rw [← HE]; simp [d1, d2]
          clear HE d1 d2
          go_wp2_with fail
          have N := blk_new w2 (Obj.cells #[Value.int IntKind.i64 r1, Value.int IntKind.i64 1, Value.int IntKind.i64 r3, Value.int IntKind.i64 r4, Value.int IntKind.i64 r5, Value.int IntKind.i64 r6, Value.int IntKind.i64 r7, Value.int IntKind.i64 r8] 62)
          have M := HN.out _ (below_alloc (Below.refl _ w2) (Obj.cells #[Value.int IntKind.i64 r1, Value.int IntKind.i64 1, Value.int IntKind.i64 r3, Value.int IntKind.i64 r4, Value.int IntKind.i64 r5, Value.int IntKind.i64 r6, Value.int IntKind.i64 r7, Value.int IntKind.i64 r8] 62))
          go_quiet ((first | exact Calls.quiet_of (C3.out _) | exact Calls.quiet_of (C4.out _) | exact Calls.quiet_of (CX.out _) | exact Calls.quiet_of (CY.out _)))
          go_wp2
          go_ret
          exact ⟨rfl, pw_below_drewN M nq⟩
      · have d1' : (q3 == qx) = false := by simp [d1]
        obtain rfl : b = false := by rw [← HE]; simp [d1]
        clear HE d1
        go_wp2_with fail
        have N := blk_new w2 (Obj.cells #[Value.int IntKind.i64 r1, Value.int IntKind.i64 1, Value.int IntKind.i64 r3, Value.int IntKind.i64 r4, Value.int IntKind.i64 r5, Value.int IntKind.i64 r6, Value.int IntKind.i64 r7, Value.int IntKind.i64 r8] 62)
        have M := HN.out _ (below_alloc (Below.refl _ w2) (Obj.cells #[Value.int IntKind.i64 r1, Value.int IntKind.i64 1, Value.int IntKind.i64 r3, Value.int IntKind.i64 r4, Value.int IntKind.i64 r5, Value.int IntKind.i64 r6, Value.int IntKind.i64 r7, Value.int IntKind.i64 r8] 62))
        go_quiet ((first | exact Calls.quiet_of (C3.out _) | exact Calls.quiet_of (C4.out _) | exact Calls.quiet_of (CX.out _) | exact Calls.quiet_of (CY.out _)))
        go_wp2
        go_ret
        exact ⟨rfl, pw_below_drewN M nq⟩
    · by_cases c2 : r2 = 2
      · subst c2
        by_cases d1 : q3 = qx
        · have d1' : (q3 == qx) = true := by simp [d1]
          by_cases d2 : q4 = qy
          · have d2' : (q4 == qy) = true := by simp [d2]
            obtain rfl : b = true := by rw [← HE]; simp [d1, d2]
            clear HE d1 d2
            go_wp2_with fail
            have N := blk_new w2 (Obj.cells #[Value.int IntKind.i64 r1, Value.int IntKind.i64 2, Value.int IntKind.i64 r3, Value.int IntKind.i64 r4, Value.int IntKind.i64 r5, Value.int IntKind.i64 r6, Value.int IntKind.i64 r7, Value.int IntKind.i64 r8] 62)
            have M := HN.out _ (below_alloc (Below.refl _ w2) (Obj.cells #[Value.int IntKind.i64 r1, Value.int IntKind.i64 2, Value.int IntKind.i64 r3, Value.int IntKind.i64 r4, Value.int IntKind.i64 r5, Value.int IntKind.i64 r6, Value.int IntKind.i64 r7, Value.int IntKind.i64 r8] 62))
            go_quiet ((first | exact Calls.quiet_of (C3.out _) | exact Calls.quiet_of (C4.out _) | exact Calls.quiet_of (CX.out _) | exact Calls.quiet_of (CY.out _)))
            go_wp2
            go_ret
            exact ⟨rfl, pw_below_drewN M nq⟩
          · have d2' : (q4 == qy) = false := by simp [d2]
            obtain rfl : b = false := by rw [← HE]; simp [d1, d2]
            clear HE d1 d2
            go_wp2_with fail
            have N := blk_new w2 (Obj.cells #[Value.int IntKind.i64 r1, Value.int IntKind.i64 2, Value.int IntKind.i64 r3, Value.int IntKind.i64 r4, Value.int IntKind.i64 r5, Value.int IntKind.i64 r6, Value.int IntKind.i64 r7, Value.int IntKind.i64 r8] 62)
            have M := HN.out _ (below_alloc (Below.refl _ w2) (Obj.cells #[Value.int IntKind.i64 r1, Value.int IntKind.i64 2, Value.int IntKind.i64 r3, Value.int IntKind.i64 r4, Value.int IntKind.i64 r5, Value.int IntKind.i64 r6, Value.int IntKind.i64 r7, Value.int IntKind.i64 r8] 62))
            go_quiet ((first | exact Calls.quiet_of (C3.out _) | exact Calls.quiet_of (C4.out _) | exact Calls.quiet_of (CX.out _) | exact Calls.quiet_of (CY.out _)))
            go_wp2
            go_ret
            exact ⟨rfl, pw_below_drewN M nq⟩
        · have d1' : (q3 == qx) = false := by simp [d1]
          obtain rfl : b = false := by rw [← HE]; simp [d1]
          clear HE d1
          go_wp2_with fail
          have N := blk_new w2 (Obj.cells #[Value.int IntKind.i64 r1, Value.int IntKind.i64 2, Value.int IntKind.i64 r3, Value.int IntKind.i64 r4, Value.int IntKind.i64 r5, Value.int IntKind.i64 r6, Value.int IntKind.i64 r7, Value.int IntKind.i64 r8] 62)
          have M := HN.out _ (below_alloc (Below.refl _ w2) (Obj.cells #[Value.int IntKind.i64 r1, Value.int IntKind.i64 2, Value.int IntKind.i64 r3, Value.int IntKind.i64 r4, Value.int IntKind.i64 r5, Value.int IntKind.i64 r6, Value.int IntKind.i64 r7, Value.int IntKind.i64 r8] 62))
          go_quiet ((first | exact Calls.quiet_of (C3.out _) | exact Calls.quiet_of (C4.out _) | exact Calls.quiet_of (CX.out _) | exact Calls.quiet_of (CY.out _)))
          go_wp2
          go_ret
          exact ⟨rfl, pw_below_drewN M nq⟩
      · have c1' : (r2 == 1) = false := by simp [c1]
        have c2' : (r2 == 2) = false := by simp [c2]
        obtain rfl : b = false := by rw [← HE]; simp [c1, c2]
        clear HE c1 c2
        go_wp2_with fail
        have N := blk_new w2 (Obj.cells #[Value.int IntKind.i64 r1, Value.int IntKind.i64 r2, Value.int IntKind.i64 r3, Value.int IntKind.i64 r4, Value.int IntKind.i64 r5, Value.int IntKind.i64 r6, Value.int IntKind.i64 r7, Value.int IntKind.i64 r8] 62)
        have M := HN.out _ (below_alloc (Below.refl _ w2) (Obj.cells #[Value.int IntKind.i64 r1, Value.int IntKind.i64 r2, Value.int IntKind.i64 r3, Value.int IntKind.i64 r4, Value.int IntKind.i64 r5, Value.int IntKind.i64 r6, Value.int IntKind.i64 r7, Value.int IntKind.i64 r8] 62))
        go_quiet ((first | exact Calls.quiet_of (C3.out _) | exact Calls.quiet_of (C4.out _) | exact Calls.quiet_of (CX.out _) | exact Calls.quiet_of (CY.out _)))
        go_wp2
        go_ret
        exact ⟨rfl, pw_below_drewN M nq⟩
noncomputable def firstO (f : Int → Option Bool) (n : Int) : Nat → Int → Option (Int × Bool)
  | 0, _ => none
  | k + 1, j => if j < n then (f j).bind fun b => if b = true then some (j, true) else firstO f n k (j + 1) else some (0, false)
set_option maxHeartbeats 4000000 in
set_option maxRecDepth 100000 in
theorem first_any (f : Int → Option Bool) (p1 p2 p3 p4 p5 : Value) (r1 : Int) (r2 : Bool) (K : Nat) (w : World)
    (HC : ∀ j b w', Below w.heap.size w w' → f j = some b → Calls Tryd.prog 57 #[.int .i64 j, p1, p2, p3, p4, p5] w' fun e w'' => e = .returned (.bool b) ∧ Below w'.heap.size w' w'')
    (h : firstO f 65 K 0 = some (r1, r2)) :
    Calls Tryd.prog 56 #[.int .i64 65, .func (.func 57) #[] #[p1, p2, p3, p4, p5]] w fun e w' => e = .returned (.tuple #[.int .i64 r1, .bool r2]) ∧ Below w.heap.size w w' := by
  have H := Lib.hid h
  have HCC := Lib.hid HC
  clear h HC
  go_enter Tryd.func56, Tryd.ntmps56
  go_wp2
  go_loopw [8] (fun i wr => ∃ (j : Nat) (k : Nat), i = .int .i64 j ∧ j ≤ 65 ∧ Hid (firstO f 65 k j = some (r1, r2)) ∧ Hid (Below w.heap.size w wr)) (fun i _ => 65 - (intOf i).toNat)
  case atStart => exact ⟨0, K, rfl, by omega, H, Lib.hid (Below.refl _ _)⟩
  case round =>
    obtain ⟨j, k, rfl, hj, hk, hb⟩ := hrel
    have h1 := hk.out
    cases k with
    | zero => cases h1
    | succ k =>
      unfold firstO at h1
      by_cases hlt : j < 65
      · rw [if_pos (by omega)] at h1
        obtain ⟨b, h2, h3⟩ := Option.bind_eq_some_iff.mp h1
        have H2 := Lib.hid h2
        have H3 := Lib.hid h3
        clear h1 h2 h3 hk
        go_wp2_with fail
        refine (HCC.out _ b _ hb.out H2.out).mono ?_
        rintro e w1 ⟨rfl, hb1⟩
        have HB := Lib.hid (below_then hb.out hb.out.size hb1)
        have h3 := H3.out
        clear hb1 H3 H2
        cases b with
        | true =>
          obtain ⟨rfl, rfl⟩ : (j : Int) = r1 ∧ true = r2 := by simpa using h3
          clear h3
          go_wp2
          go_ret2
          exact ⟨rfl, HB.out⟩
        | false =>
          have H3 : Hid (firstO f 65 k (j + 1) = some (r1, r2)) := Lib.hid (by simpa using h3)
          clear h3
          go_wp2
          go_roundw
          case rel => exact ⟨j + 1, k, by go_num, by omega, H3, HB⟩
          case measure => simp [intOf]; omega
      · rw [if_neg (by omega)] at h1
        obtain ⟨rfl, rfl⟩ : 0 = r1 ∧ false = r2 := by simpa using h1
        clear h1 hk
        go_wp2
        go_ret2
        exact ⟨rfl, hb.out⟩
end Go.Proofs.YtbcddiaplpbhjaaDoor.MAi
namespace Go.Proofs.YtbcddiaplpbhjaaDoor.MAi
open Go Go.RowKit Go.Proofs.YtbcddiaplpbhjaaDoorW.PrintWords Go.Proofs.YtbcddiaplpbhjaaDoorW.PrintLast Go.Proofs.YtbcddiaplpbhjaaDoorW.PrintMore
set_option linter.unusedVariables false
set_option linter.unusedSimpArgs false
noncomputable def aim_Solve.f (K : Nat) (W H Wa : Int) (l : List Int) (s0 s1 s2 s3 s4 s5 x y sp : Int) : Option (Int × Int × Int × Int × Int × Int × Int × Int) :=
  (relief_On.f K W H Wa l s0 s1).bind fun o1 => if o1 = true then ((relief_On.f K W H Wa l x y).bind fun o2 => if o2 = true then (if s2 < 0 then some (0, 0, 0, 0, 0, 0, 0, 1) else (if s2 > 1073741824 then some (0, 0, 0, 0, 0, 0, 0, 1) else
    ((aim_fast.f sp).bind fun fa => if fa = true then ((firstO (aim_try K W H Wa l s0 s1 s2 s3 s4 s5 x y sp) 65 K 0).bind fun q => if q.2 = true then
      ((aim_Shot.f K s0 s1 s2 s3 s4 s5 x y sp q.1).bind fun t => some (t.1, t.2.1, t.2.2.1, t.2.2.2.1, t.2.2.2.2.1, t.2.2.2.2.2.1, q.1, 0)) else some (0, 0, 0, 0, 0, 0, 0, 6)) else some (0, 0, 0, 0, 0, 0, 0, 1)))) else some (0, 0, 0, 0, 0, 0, 0, 1)) else some (0, 0, 0, 0, 0, 0, 0, 1)
theorem aim_try.mono (W H Wa : Int) (l : List Int) (s0 s1 s2 s3 s4 s5 x y sp n : Int) (k : Nat) : LeO (aim_try k W H Wa l s0 s1 s2 s3 s4 s5 x y sp n) (aim_try (k + 1) W H Wa l s0 s1 s2 s3 s4 s5 x y sp n) := by
  unfold aim_try
  exact LeO.bind (aim_Shot.mono _ _ _ _ _ _ _ _ _ _ _) fun t => LeO.bind (shot_Fly.mono _ _ _ _ _ _ _ _ _ _ _ _) fun e => LeO.refl _
theorem firstO.mono {f g : Int → Option Bool} (h : ∀ j, LeO (f j) (g j)) (n : Int) : ∀ (k : Nat) (j : Int), LeO (firstO f n k j) (firstO g n (k + 1) j)
  | 0, j => LeO.none _
  | k + 1, j => by
    rw [firstO, firstO]
    exact LeO.ite (LeO.bind (h j) fun b => LeO.ite (LeO.refl _) (firstO.mono h n k (j + 1))) (LeO.refl _)
theorem aim_Solve.mono (W H Wa : Int) (l : List Int) (s0 s1 s2 s3 s4 s5 x y sp : Int) (k : Nat) : LeO (aim_Solve.f k W H Wa l s0 s1 s2 s3 s4 s5 x y sp) (aim_Solve.f (k + 1) W H Wa l s0 s1 s2 s3 s4 s5 x y sp) := by
  unfold aim_Solve.f
  exact LeO.bind (relief_On.mono _ _ _ _ _ _ _) fun o1 => LeO.ite (LeO.bind (relief_On.mono _ _ _ _ _ _ _) fun o2 => LeO.ite (LeO.ite (LeO.refl _) (LeO.ite (LeO.refl _) (LeO.bind (LeO.refl _) fun fa => LeO.ite
    (LeO.bind (firstO.mono (fun j => aim_try.mono _ _ _ _ _ _ _ _ _ _ _ _ _ j k) 65 k 0) fun q => LeO.ite (LeO.bind (aim_Shot.mono _ _ _ _ _ _ _ _ _ _ _) fun t => LeO.refl _) (LeO.refl _)) (LeO.refl _)))) (LeO.refl _)) (LeO.refl _)
set_option maxHeartbeats 8000000 in
set_option maxRecDepth 100000 in
theorem aim_Solve.calls (K : Nat) (W H Wa : Int) (A : Option Addr) (c : Nat) (l : List Int) (s0 s1 s2 s3 s4 s5 x y sp r1 r2 r3 r4 r5 r6 r7 r8 : Int) (w : World) (hr : Kd.C (Kd.int .u8) w A l.length l) (hc : l.length ≤ c) (hT : Tg.Tab w)
    (h : aim_Solve.f K W H Wa l s0 s1 s2 s3 s4 s5 x y sp = some (r1, r2, r3, r4, r5, r6, r7, r8)) :
    Calls Tryd.prog 25 #[.agg #[.int .i64 W, .int .i64 H, .int .i64 Wa, .slice A l.length c], .agg #[.int .i64 s0, .int .i64 s1, .int .i64 s2, .int .i64 s3, .int .i64 s4, .int .i64 s5], .int .i64 x, .int .i64 y, .int .i64 sp] w fun e w' =>
      e = .returned (.tuple #[.agg #[.int .i64 r1, .int .i64 r2, .int .i64 r3, .int .i64 r4, .int .i64 r5, .int .i64 r6], .int .i64 r7, .int .i64 r8]) ∧ Below w.heap.size w w' := by
  unfold aim_Solve.f at h
  obtain ⟨o1, h1, h⟩ := Option.bind_eq_some_iff.mp h
  have H1 := Lib.hid h1
  have HC := Lib.hid hc
  have HR := Lib.hid hr
  have HT := Lib.hid hT
  have HH := Lib.hid h
  clear h1 hc hr hT h
  have hu := Tryd.underlying45
  have hu2 := Tryd.underlying47
  have hmf : ∀ (fn : Fn) (first cap : Array Value) (w : World), (Instr.makeFunc fn first cap).run Tryd.prog w = .ok (.func fn first cap) w := fun _ _ _ _ => rfl
  go_enter Tryd.func25, Tryd.ntmps25
  go_wp2_with fail
  obtain ⟨V, hV⟩ : ∃ V_, ((((((w.alloc (Obj.cells #[Value.int IntKind.i64 W, Value.int IntKind.i64 H, Value.int IntKind.i64 Wa, Value.slice A l.length c] 45)).alloc (Obj.cells #[Value.int IntKind.i64 s0, Value.int IntKind.i64 s1, Value.int IntKind.i64 s2, Value.int IntKind.i64 s3, Value.int IntKind.i64 s4, Value.int IntKind.i64 s5] 47)).alloc (Obj.cells #[Value.int IntKind.i64 x] 2)).alloc (Obj.cells #[Value.int IntKind.i64 y] 2)).alloc (Obj.cells #[Value.int IntKind.i64 sp] 2)).alloc (Obj.cells #[Value.int IntKind.i64 0, Value.int IntKind.i64 0, Value.int IntKind.i64 0, Value.int IntKind.i64 0, Value.int IntKind.i64 0, Value.int IntKind.i64 0] 47)) = V_ := ⟨_, rfl⟩
  have hB : Below w.heap.size w V := by rw [← hV]; exact below_alloc (below_alloc (below_alloc (below_alloc (below_alloc (below_alloc (Below.refl _ _) _) _) _) _) _) _
  have b0 := blk_alloc (blk_alloc (blk_alloc (blk_alloc (blk_alloc (blk_new w (Obj.cells #[Value.int IntKind.i64 W, Value.int IntKind.i64 H, Value.int IntKind.i64 Wa, Value.slice A l.length c] 45)) (Obj.cells #[Value.int IntKind.i64 s0, Value.int IntKind.i64 s1, Value.int IntKind.i64 s2, Value.int IntKind.i64 s3, Value.int IntKind.i64 s4, Value.int IntKind.i64 s5] 47)) (Obj.cells #[Value.int IntKind.i64 x] 2)) (Obj.cells #[Value.int IntKind.i64 y] 2)) (Obj.cells #[Value.int IntKind.i64 sp] 2)) (Obj.cells #[Value.int IntKind.i64 0, Value.int IntKind.i64 0, Value.int IntKind.i64 0, Value.int IntKind.i64 0, Value.int IntKind.i64 0, Value.int IntKind.i64 0] 47)
  rw [hV] at b0
  have b1 := blk_alloc (blk_alloc (blk_alloc (blk_alloc (blk_new (w.alloc (Obj.cells #[Value.int IntKind.i64 W, Value.int IntKind.i64 H, Value.int IntKind.i64 Wa, Value.slice A l.length c] 45)) (Obj.cells #[Value.int IntKind.i64 s0, Value.int IntKind.i64 s1, Value.int IntKind.i64 s2, Value.int IntKind.i64 s3, Value.int IntKind.i64 s4, Value.int IntKind.i64 s5] 47)) (Obj.cells #[Value.int IntKind.i64 x] 2)) (Obj.cells #[Value.int IntKind.i64 y] 2)) (Obj.cells #[Value.int IntKind.i64 sp] 2)) (Obj.cells #[Value.int IntKind.i64 0, Value.int IntKind.i64 0, Value.int IntKind.i64 0, Value.int IntKind.i64 0, Value.int IntKind.i64 0, Value.int IntKind.i64 0] 47)
  rw [hV] at b1
  have zb1 : (w.alloc (Obj.cells #[Value.int IntKind.i64 W, Value.int IntKind.i64 H, Value.int IntKind.i64 Wa, Value.slice A l.length c] 45)).heap.size = w.heap.size + 1 := by simp
  rw [zb1] at b1
  clear zb1
  have b2 := blk_alloc (blk_alloc (blk_alloc (blk_new ((w.alloc (Obj.cells #[Value.int IntKind.i64 W, Value.int IntKind.i64 H, Value.int IntKind.i64 Wa, Value.slice A l.length c] 45)).alloc (Obj.cells #[Value.int IntKind.i64 s0, Value.int IntKind.i64 s1, Value.int IntKind.i64 s2, Value.int IntKind.i64 s3, Value.int IntKind.i64 s4, Value.int IntKind.i64 s5] 47)) (Obj.cells #[Value.int IntKind.i64 x] 2)) (Obj.cells #[Value.int IntKind.i64 y] 2)) (Obj.cells #[Value.int IntKind.i64 sp] 2)) (Obj.cells #[Value.int IntKind.i64 0, Value.int IntKind.i64 0, Value.int IntKind.i64 0, Value.int IntKind.i64 0, Value.int IntKind.i64 0, Value.int IntKind.i64 0] 47)
  rw [hV] at b2
  have zb2 : ((w.alloc (Obj.cells #[Value.int IntKind.i64 W, Value.int IntKind.i64 H, Value.int IntKind.i64 Wa, Value.slice A l.length c] 45)).alloc (Obj.cells #[Value.int IntKind.i64 s0, Value.int IntKind.i64 s1, Value.int IntKind.i64 s2, Value.int IntKind.i64 s3, Value.int IntKind.i64 s4, Value.int IntKind.i64 s5] 47)).heap.size = w.heap.size + 2 := by simp
  rw [zb2] at b2
  clear zb2
  have b3 := blk_alloc (blk_alloc (blk_new (((w.alloc (Obj.cells #[Value.int IntKind.i64 W, Value.int IntKind.i64 H, Value.int IntKind.i64 Wa, Value.slice A l.length c] 45)).alloc (Obj.cells #[Value.int IntKind.i64 s0, Value.int IntKind.i64 s1, Value.int IntKind.i64 s2, Value.int IntKind.i64 s3, Value.int IntKind.i64 s4, Value.int IntKind.i64 s5] 47)).alloc (Obj.cells #[Value.int IntKind.i64 x] 2)) (Obj.cells #[Value.int IntKind.i64 y] 2)) (Obj.cells #[Value.int IntKind.i64 sp] 2)) (Obj.cells #[Value.int IntKind.i64 0, Value.int IntKind.i64 0, Value.int IntKind.i64 0, Value.int IntKind.i64 0, Value.int IntKind.i64 0, Value.int IntKind.i64 0] 47)
  rw [hV] at b3
  have zb3 : (((w.alloc (Obj.cells #[Value.int IntKind.i64 W, Value.int IntKind.i64 H, Value.int IntKind.i64 Wa, Value.slice A l.length c] 45)).alloc (Obj.cells #[Value.int IntKind.i64 s0, Value.int IntKind.i64 s1, Value.int IntKind.i64 s2, Value.int IntKind.i64 s3, Value.int IntKind.i64 s4, Value.int IntKind.i64 s5] 47)).alloc (Obj.cells #[Value.int IntKind.i64 x] 2)).heap.size = w.heap.size + 3 := by simp
  rw [zb3] at b3
  clear zb3
  have b4 := blk_alloc (blk_new ((((w.alloc (Obj.cells #[Value.int IntKind.i64 W, Value.int IntKind.i64 H, Value.int IntKind.i64 Wa, Value.slice A l.length c] 45)).alloc (Obj.cells #[Value.int IntKind.i64 s0, Value.int IntKind.i64 s1, Value.int IntKind.i64 s2, Value.int IntKind.i64 s3, Value.int IntKind.i64 s4, Value.int IntKind.i64 s5] 47)).alloc (Obj.cells #[Value.int IntKind.i64 x] 2)).alloc (Obj.cells #[Value.int IntKind.i64 y] 2)) (Obj.cells #[Value.int IntKind.i64 sp] 2)) (Obj.cells #[Value.int IntKind.i64 0, Value.int IntKind.i64 0, Value.int IntKind.i64 0, Value.int IntKind.i64 0, Value.int IntKind.i64 0, Value.int IntKind.i64 0] 47)
  rw [hV] at b4
  have zb4 : ((((w.alloc (Obj.cells #[Value.int IntKind.i64 W, Value.int IntKind.i64 H, Value.int IntKind.i64 Wa, Value.slice A l.length c] 45)).alloc (Obj.cells #[Value.int IntKind.i64 s0, Value.int IntKind.i64 s1, Value.int IntKind.i64 s2, Value.int IntKind.i64 s3, Value.int IntKind.i64 s4, Value.int IntKind.i64 s5] 47)).alloc (Obj.cells #[Value.int IntKind.i64 x] 2)).alloc (Obj.cells #[Value.int IntKind.i64 y] 2)).heap.size = w.heap.size + 4 := by simp
  rw [zb4] at b4
  clear zb4
  have b5 := blk_new (((((w.alloc (Obj.cells #[Value.int IntKind.i64 W, Value.int IntKind.i64 H, Value.int IntKind.i64 Wa, Value.slice A l.length c] 45)).alloc (Obj.cells #[Value.int IntKind.i64 s0, Value.int IntKind.i64 s1, Value.int IntKind.i64 s2, Value.int IntKind.i64 s3, Value.int IntKind.i64 s4, Value.int IntKind.i64 s5] 47)).alloc (Obj.cells #[Value.int IntKind.i64 x] 2)).alloc (Obj.cells #[Value.int IntKind.i64 y] 2)).alloc (Obj.cells #[Value.int IntKind.i64 sp] 2)) (Obj.cells #[Value.int IntKind.i64 0, Value.int IntKind.i64 0, Value.int IntKind.i64 0, Value.int IntKind.i64 0, Value.int IntKind.i64 0, Value.int IntKind.i64 0] 47)
  rw [hV] at b5
  have zb5 : (((((w.alloc (Obj.cells #[Value.int IntKind.i64 W, Value.int IntKind.i64 H, Value.int IntKind.i64 Wa, Value.slice A l.length c] 45)).alloc (Obj.cells #[Value.int IntKind.i64 s0, Value.int IntKind.i64 s1, Value.int IntKind.i64 s2, Value.int IntKind.i64 s3, Value.int IntKind.i64 s4, Value.int IntKind.i64 s5] 47)).alloc (Obj.cells #[Value.int IntKind.i64 x] 2)).alloc (Obj.cells #[Value.int IntKind.i64 y] 2)).alloc (Obj.cells #[Value.int IntKind.i64 sp] 2)).heap.size = w.heap.size + 5 := by simp
  rw [zb5] at b5
  clear zb5
  rw [hV]
  clear hV
  have m0 := blk_cell b0 0
  have m1 := blk_cell b0 1
  have m2 := blk_cell b0 2
  have m3 := blk_cell b0 3
  simp only [List.getElem?_toArray, List.getElem?_cons_succ, List.getElem?_cons_zero] at m0 m1 m2 m3
  have t0 := blk_cell b1 0
  have t1 := blk_cell b1 1
  have t2 := blk_cell b1 2
  have t3 := blk_cell b1 3
  have t4 := blk_cell b1 4
  have t5 := blk_cell b1 5
  simp only [List.getElem?_toArray, List.getElem?_cons_succ, List.getElem?_cons_zero] at t0 t1 t2 t3 t4 t5
  refine (relief_On.calls K W H Wa A c l s0 s1 o1 V (Kd.C_below HR.out hB) HC.out H1.out).mono ?_
  rintro e w1 ⟨rfl, hb1⟩
  have HB1 := Lib.hid (below_then hB hB.size hb1)
  have LW : w.heap.size ≤ w1.heap.size := HB1.out.size
  have HH' := HH.out
  clear HH
  cases o1 with
  | false =>
    obtain ⟨rfl, rfl, rfl, rfl, rfl, rfl, rfl, rfl⟩ : 0 = r1 ∧ 0 = r2 ∧ 0 = r3 ∧ 0 = r4 ∧ 0 = r5 ∧ 0 = r6 ∧ 0 = r7 ∧ 1 = r8 := by simpa using HH'
    clear HH'
    have f5 := blk_frozen (blk_below b5 hb1)
    have Z5 := blk_below b5 hb1
    have hBB := HB1.out
    have q0 := blk_cell Z5 0
    have q1 := blk_cell Z5 1
    have q2 := blk_cell Z5 2
    have q3 := blk_cell Z5 3
    have q4 := blk_cell Z5 4
    have q5 := blk_cell Z5 5
    simp only [List.getElem?_toArray, List.getElem?_cons_succ, List.getElem?_cons_zero] at q0 q1 q2 q3 q4 q5
    go_wp2
    have e := blk_set (blk_set (blk_set (blk_set (blk_set (blk_set (Z5) 0 (.int .i64 0)) 1 (.int .i64 0)) 2 (.int .i64 0)) 3 (.int .i64 0)) 4 (.int .i64 0)) 5 (.int .i64 0)
    have hB3 := below_set (g := w.heap.size + 5) (j := 5) (v := .int .i64 0) (below_set (g := w.heap.size + 5) (j := 4) (v := .int .i64 0) (below_set (g := w.heap.size + 5) (j := 3) (v := .int .i64 0) (below_set (g := w.heap.size + 5) (j := 2) (v := .int .i64 0) (below_set (g := w.heap.size + 5) (j := 1) (v := .int .i64 0) (below_set (g := w.heap.size + 5) (j := 0) (v := .int .i64 0) (hBB) (by omega)) (by omega)) (by omega)) (by omega)) (by omega)) (by omega)
    generalize ((((((w1.setCell ⟨w.heap.size + 5, 0, none⟩ (.int .i64 0)).setCell ⟨w.heap.size + 5, 1, none⟩ (.int .i64 0)).setCell ⟨w.heap.size + 5, 2, none⟩ (.int .i64 0)).setCell ⟨w.heap.size + 5, 3, none⟩ (.int .i64 0)).setCell ⟨w.heap.size + 5, 4, none⟩ (.int .i64 0)).setCell ⟨w.heap.size + 5, 5, none⟩ (.int .i64 0)) = V3 at e hB3 ⊢
    have e0 := blk_cell e 0
    have e1 := blk_cell e 1
    have e2 := blk_cell e 2
    have e3 := blk_cell e 3
    have e4 := blk_cell e 4
    have e5 := blk_cell e 5
    simp only [List.setIfInBounds_toArray, List.set_cons_zero, List.set_cons_succ, List.getElem?_toArray, List.getElem?_cons_succ, List.getElem?_cons_zero] at e0 e1 e2 e3 e4 e5
    exact bodyPost_ret (v := .tuple #[.agg #[.int .i64 0, .int .i64 0, .int .i64 0, .int .i64 0, .int .i64 0, .int .i64 0], .int .i64 0, .int .i64 1]) (by simp [results, Tryd.results25, go_sem, e0, e1, e2, e3, e4, e5]) rfl ⟨rfl, hB3⟩
  | true =>
    obtain ⟨o2, h2, HH2⟩ := Option.bind_eq_some_iff.mp (show ((relief_On.f K W H Wa l x y).bind _) = some _ by simpa only [if_true] using HH')
    have H2 := Lib.hid h2
    clear HH' h2
    have C0 := blk_below b0 hb1
    have C1 := blk_below b1 hb1
    have C2 := blk_below b2 hb1
    have C3 := blk_below b3 hb1
    have C4 := blk_below b4 hb1
    have C5 := blk_below b5 hb1
    clear b0 b1 b2 b3 b4 b5 m0 m1 m2 m3 t0 t1 t2 t3 t4 t5 hb1 hB H1
    have m0 := blk_cell C0 0
    have m1 := blk_cell C0 1
    have m2 := blk_cell C0 2
    have m3 := blk_cell C0 3
    simp only [List.getElem?_toArray, List.getElem?_cons_succ, List.getElem?_cons_zero] at m0 m1 m2 m3
    have x0 := blk_cell C2 0
    simp only [List.getElem?_toArray, List.getElem?_cons_succ, List.getElem?_cons_zero] at x0
    have y0 := blk_cell C3 0
    simp only [List.getElem?_toArray, List.getElem?_cons_succ, List.getElem?_cons_zero] at y0
    go_wp2_with fail
    refine (relief_On.calls K W H Wa A c l x y o2 w1 (Kd.C_below HR.out HB1.out) HC.out H2.out).mono ?_
    rintro e w2 ⟨rfl, hb2⟩
    have HB2 := Lib.hid (below_then HB1.out HB1.out.size hb2)
    have LW2 : w.heap.size ≤ w2.heap.size := HB2.out.size
    clear m0 m1 m2 m3 x0 y0
    have D0 := blk_below C0 hb2
    have D1 := blk_below C1 hb2
    have D2 := blk_below C2 hb2
    have D3 := blk_below C3 hb2
    have D4 := blk_below C4 hb2
    have D5 := blk_below C5 hb2
    clear C0 C1 C2 C3 C4 C5 hb2 H2 HB1 LW
    cases o2 with
    | false =>
      obtain ⟨rfl, rfl, rfl, rfl, rfl, rfl, rfl, rfl⟩ : 0 = r1 ∧ 0 = r2 ∧ 0 = r3 ∧ 0 = r4 ∧ 0 = r5 ∧ 0 = r6 ∧ 0 = r7 ∧ 1 = r8 := by simpa using HH2
      clear HH2
      have f5 := blk_frozen (D5)
      have Z5 := D5
      have hBB := HB2.out
      have q0 := blk_cell Z5 0
      have q1 := blk_cell Z5 1
      have q2 := blk_cell Z5 2
      have q3 := blk_cell Z5 3
      have q4 := blk_cell Z5 4
      have q5 := blk_cell Z5 5
      simp only [List.getElem?_toArray, List.getElem?_cons_succ, List.getElem?_cons_zero] at q0 q1 q2 q3 q4 q5
      go_wp2
      have e := blk_set (blk_set (blk_set (blk_set (blk_set (blk_set (Z5) 0 (.int .i64 0)) 1 (.int .i64 0)) 2 (.int .i64 0)) 3 (.int .i64 0)) 4 (.int .i64 0)) 5 (.int .i64 0)
      have hB3 := below_set (g := w.heap.size + 5) (j := 5) (v := .int .i64 0) (below_set (g := w.heap.size + 5) (j := 4) (v := .int .i64 0) (below_set (g := w.heap.size + 5) (j := 3) (v := .int .i64 0) (below_set (g := w.heap.size + 5) (j := 2) (v := .int .i64 0) (below_set (g := w.heap.size + 5) (j := 1) (v := .int .i64 0) (below_set (g := w.heap.size + 5) (j := 0) (v := .int .i64 0) (hBB) (by omega)) (by omega)) (by omega)) (by omega)) (by omega)) (by omega)
      generalize ((((((w2.setCell ⟨w.heap.size + 5, 0, none⟩ (.int .i64 0)).setCell ⟨w.heap.size + 5, 1, none⟩ (.int .i64 0)).setCell ⟨w.heap.size + 5, 2, none⟩ (.int .i64 0)).setCell ⟨w.heap.size + 5, 3, none⟩ (.int .i64 0)).setCell ⟨w.heap.size + 5, 4, none⟩ (.int .i64 0)).setCell ⟨w.heap.size + 5, 5, none⟩ (.int .i64 0)) = V3 at e hB3 ⊢
      have e0 := blk_cell e 0
      have e1 := blk_cell e 1
      have e2 := blk_cell e 2
      have e3 := blk_cell e 3
      have e4 := blk_cell e 4
      have e5 := blk_cell e 5
      simp only [List.setIfInBounds_toArray, List.set_cons_zero, List.set_cons_succ, List.getElem?_toArray, List.getElem?_cons_succ, List.getElem?_cons_zero] at e0 e1 e2 e3 e4 e5
      exact bodyPost_ret (v := .tuple #[.agg #[.int .i64 0, .int .i64 0, .int .i64 0, .int .i64 0, .int .i64 0, .int .i64 0], .int .i64 0, .int .i64 1]) (by simp [results, Tryd.results25, go_sem, e0, e1, e2, e3, e4, e5]) rfl ⟨rfl, hB3⟩
    | true =>
      simp only [if_true] at HH2
      have t0 := blk_cell D1 0
      have t1 := blk_cell D1 1
      have t2 := blk_cell D1 2
      have t3 := blk_cell D1 3
      have t4 := blk_cell D1 4
      have t5 := blk_cell D1 5
      simp only [List.getElem?_toArray, List.getElem?_cons_succ, List.getElem?_cons_zero] at t0 t1 t2 t3 t4 t5
      have p0 := blk_cell D4 0
      simp only [List.getElem?_toArray, List.getElem?_cons_succ, List.getElem?_cons_zero] at p0
      by_cases c1 : s2 < 0
      · rw [if_pos c1] at HH2
        obtain ⟨rfl, rfl, rfl, rfl, rfl, rfl, rfl, rfl⟩ : 0 = r1 ∧ 0 = r2 ∧ 0 = r3 ∧ 0 = r4 ∧ 0 = r5 ∧ 0 = r6 ∧ 0 = r7 ∧ 1 = r8 := by simpa using HH2
        clear HH2
        have f5 := blk_frozen (D5)
        have Z5 := D5
        have hBB := HB2.out
        have q0 := blk_cell Z5 0
        have q1 := blk_cell Z5 1
        have q2 := blk_cell Z5 2
        have q3 := blk_cell Z5 3
        have q4 := blk_cell Z5 4
        have q5 := blk_cell Z5 5
        simp only [List.getElem?_toArray, List.getElem?_cons_succ, List.getElem?_cons_zero] at q0 q1 q2 q3 q4 q5
        go_wp2
        have e := blk_set (blk_set (blk_set (blk_set (blk_set (blk_set (Z5) 0 (.int .i64 0)) 1 (.int .i64 0)) 2 (.int .i64 0)) 3 (.int .i64 0)) 4 (.int .i64 0)) 5 (.int .i64 0)
        have hB3 := below_set (g := w.heap.size + 5) (j := 5) (v := .int .i64 0) (below_set (g := w.heap.size + 5) (j := 4) (v := .int .i64 0) (below_set (g := w.heap.size + 5) (j := 3) (v := .int .i64 0) (below_set (g := w.heap.size + 5) (j := 2) (v := .int .i64 0) (below_set (g := w.heap.size + 5) (j := 1) (v := .int .i64 0) (below_set (g := w.heap.size + 5) (j := 0) (v := .int .i64 0) (hBB) (by omega)) (by omega)) (by omega)) (by omega)) (by omega)) (by omega)
        generalize ((((((w2.setCell ⟨w.heap.size + 5, 0, none⟩ (.int .i64 0)).setCell ⟨w.heap.size + 5, 1, none⟩ (.int .i64 0)).setCell ⟨w.heap.size + 5, 2, none⟩ (.int .i64 0)).setCell ⟨w.heap.size + 5, 3, none⟩ (.int .i64 0)).setCell ⟨w.heap.size + 5, 4, none⟩ (.int .i64 0)).setCell ⟨w.heap.size + 5, 5, none⟩ (.int .i64 0)) = V3 at e hB3 ⊢
        have e0 := blk_cell e 0
        have e1 := blk_cell e 1
        have e2 := blk_cell e 2
        have e3 := blk_cell e 3
        have e4 := blk_cell e 4
        have e5 := blk_cell e 5
        simp only [List.setIfInBounds_toArray, List.set_cons_zero, List.set_cons_succ, List.getElem?_toArray, List.getElem?_cons_succ, List.getElem?_cons_zero] at e0 e1 e2 e3 e4 e5
        exact bodyPost_ret (v := .tuple #[.agg #[.int .i64 0, .int .i64 0, .int .i64 0, .int .i64 0, .int .i64 0, .int .i64 0], .int .i64 0, .int .i64 1]) (by simp [results, Tryd.results25, go_sem, e0, e1, e2, e3, e4, e5]) rfl ⟨rfl, hB3⟩
      rw [if_neg c1] at HH2
      by_cases c2 : s2 > 1073741824
      · rw [if_pos c2] at HH2
        obtain ⟨rfl, rfl, rfl, rfl, rfl, rfl, rfl, rfl⟩ : 0 = r1 ∧ 0 = r2 ∧ 0 = r3 ∧ 0 = r4 ∧ 0 = r5 ∧ 0 = r6 ∧ 0 = r7 ∧ 1 = r8 := by simpa using HH2
        clear HH2
        have c2' : 1073741824 < s2 := c2
        have f5 := blk_frozen (D5)
        have Z5 := D5
        have hBB := HB2.out
        have q0 := blk_cell Z5 0
        have q1 := blk_cell Z5 1
        have q2 := blk_cell Z5 2
        have q3 := blk_cell Z5 3
        have q4 := blk_cell Z5 4
        have q5 := blk_cell Z5 5
        simp only [List.getElem?_toArray, List.getElem?_cons_succ, List.getElem?_cons_zero] at q0 q1 q2 q3 q4 q5
        go_wp2
        have e := blk_set (blk_set (blk_set (blk_set (blk_set (blk_set (Z5) 0 (.int .i64 0)) 1 (.int .i64 0)) 2 (.int .i64 0)) 3 (.int .i64 0)) 4 (.int .i64 0)) 5 (.int .i64 0)
        have hB3 := below_set (g := w.heap.size + 5) (j := 5) (v := .int .i64 0) (below_set (g := w.heap.size + 5) (j := 4) (v := .int .i64 0) (below_set (g := w.heap.size + 5) (j := 3) (v := .int .i64 0) (below_set (g := w.heap.size + 5) (j := 2) (v := .int .i64 0) (below_set (g := w.heap.size + 5) (j := 1) (v := .int .i64 0) (below_set (g := w.heap.size + 5) (j := 0) (v := .int .i64 0) (hBB) (by omega)) (by omega)) (by omega)) (by omega)) (by omega)) (by omega)
        generalize ((((((w2.setCell ⟨w.heap.size + 5, 0, none⟩ (.int .i64 0)).setCell ⟨w.heap.size + 5, 1, none⟩ (.int .i64 0)).setCell ⟨w.heap.size + 5, 2, none⟩ (.int .i64 0)).setCell ⟨w.heap.size + 5, 3, none⟩ (.int .i64 0)).setCell ⟨w.heap.size + 5, 4, none⟩ (.int .i64 0)).setCell ⟨w.heap.size + 5, 5, none⟩ (.int .i64 0)) = V3 at e hB3 ⊢
        have e0 := blk_cell e 0
        have e1 := blk_cell e 1
        have e2 := blk_cell e 2
        have e3 := blk_cell e 3
        have e4 := blk_cell e 4
        have e5 := blk_cell e 5
        simp only [List.setIfInBounds_toArray, List.set_cons_zero, List.set_cons_succ, List.getElem?_toArray, List.getElem?_cons_succ, List.getElem?_cons_zero] at e0 e1 e2 e3 e4 e5
        exact bodyPost_ret (v := .tuple #[.agg #[.int .i64 0, .int .i64 0, .int .i64 0, .int .i64 0, .int .i64 0, .int .i64 0], .int .i64 0, .int .i64 1]) (by simp [results, Tryd.results25, go_sem, e0, e1, e2, e3, e4, e5]) rfl ⟨rfl, hB3⟩
      rw [if_neg c2] at HH2
      obtain ⟨fa, h3, HH3⟩ := Option.bind_eq_some_iff.mp HH2
      have H3 := Lib.hid h3
      have HH4 := Lib.hid HH3
      clear HH2 h3 HH3
      have c2' : s2 ≤ 1073741824 := by omega
      go_wp2_with fail
      refine (aim_fast.calls sp fa _ H3.out).mono ?_
      rintro e w3 ⟨rfl, hd⟩
      have hb3 := hd.below
      have HB3 := Lib.hid (below_then HB2.out HB2.out.size hb3)
      have LW3 : w.heap.size ≤ w3.heap.size := HB3.out.size
      have E0 := Lib.hid (blk_below D0 hb3)
      have E1 := Lib.hid (blk_below D1 hb3)
      have E2 := Lib.hid (blk_below D2 hb3)
      have E3 := Lib.hid (blk_below D3 hb3)
      have E4 := Lib.hid (blk_below D4 hb3)
      have E5 := Lib.hid (blk_below D5 hb3)
      clear D0 D1 D2 D3 D4 D5 hb3 hd H3 HB2 LW2 t0 t1 t2 t3 t4 t5 p0
      have HH5 := HH4.out
      clear HH4
      cases fa with
      | false =>
        obtain ⟨rfl, rfl, rfl, rfl, rfl, rfl, rfl, rfl⟩ : 0 = r1 ∧ 0 = r2 ∧ 0 = r3 ∧ 0 = r4 ∧ 0 = r5 ∧ 0 = r6 ∧ 0 = r7 ∧ 1 = r8 := by simpa using HH5
        clear HH5
        have f5 := blk_frozen (E5.out)
        have Z5 := E5.out
        have hBB := HB3.out
        have q0 := blk_cell Z5 0
        have q1 := blk_cell Z5 1
        have q2 := blk_cell Z5 2
        have q3 := blk_cell Z5 3
        have q4 := blk_cell Z5 4
        have q5 := blk_cell Z5 5
        simp only [List.getElem?_toArray, List.getElem?_cons_succ, List.getElem?_cons_zero] at q0 q1 q2 q3 q4 q5
        go_wp2
        have e := blk_set (blk_set (blk_set (blk_set (blk_set (blk_set (Z5) 0 (.int .i64 0)) 1 (.int .i64 0)) 2 (.int .i64 0)) 3 (.int .i64 0)) 4 (.int .i64 0)) 5 (.int .i64 0)
        have hB3 := below_set (g := w.heap.size + 5) (j := 5) (v := .int .i64 0) (below_set (g := w.heap.size + 5) (j := 4) (v := .int .i64 0) (below_set (g := w.heap.size + 5) (j := 3) (v := .int .i64 0) (below_set (g := w.heap.size + 5) (j := 2) (v := .int .i64 0) (below_set (g := w.heap.size + 5) (j := 1) (v := .int .i64 0) (below_set (g := w.heap.size + 5) (j := 0) (v := .int .i64 0) (hBB) (by omega)) (by omega)) (by omega)) (by omega)) (by omega)) (by omega)
        generalize ((((((w3.setCell ⟨w.heap.size + 5, 0, none⟩ (.int .i64 0)).setCell ⟨w.heap.size + 5, 1, none⟩ (.int .i64 0)).setCell ⟨w.heap.size + 5, 2, none⟩ (.int .i64 0)).setCell ⟨w.heap.size + 5, 3, none⟩ (.int .i64 0)).setCell ⟨w.heap.size + 5, 4, none⟩ (.int .i64 0)).setCell ⟨w.heap.size + 5, 5, none⟩ (.int .i64 0)) = V3 at e hB3 ⊢
        have e0 := blk_cell e 0
        have e1 := blk_cell e 1
        have e2 := blk_cell e 2
        have e3 := blk_cell e 3
        have e4 := blk_cell e 4
        have e5 := blk_cell e 5
        simp only [List.setIfInBounds_toArray, List.set_cons_zero, List.set_cons_succ, List.getElem?_toArray, List.getElem?_cons_succ, List.getElem?_cons_zero] at e0 e1 e2 e3 e4 e5
        exact bodyPost_ret (v := .tuple #[.agg #[.int .i64 0, .int .i64 0, .int .i64 0, .int .i64 0, .int .i64 0, .int .i64 0], .int .i64 0, .int .i64 1]) (by simp [results, Tryd.results25, go_sem, e0, e1, e2, e3, e4, e5]) rfl ⟨rfl, hB3⟩
      | true =>
        obtain ⟨⟨q1, q2⟩, h4, HH6⟩ := Option.bind_eq_some_iff.mp (show ((firstO (aim_try K W H Wa l s0 s1 s2 s3 s4 s5 x y sp) 65 K 0).bind _) = some _ by simpa only [if_true] using HH5)
        have H4 := Lib.hid h4
        have HH7 := Lib.hid HH6
        clear HH5 h4 HH6
        go_wp2_with fail
        refine (first_any (aim_try K W H Wa l s0 s1 s2 s3 s4 s5 x y sp) (.pointer (some ⟨w.heap.size + 1, 0, none⟩)) (.pointer (some ⟨w.heap.size + 2, 0, none⟩)) (.pointer (some ⟨w.heap.size + 3, 0, none⟩)) (.pointer (some ⟨w.heap.size + 4, 0, none⟩)) (.pointer (some ⟨w.heap.size, 0, none⟩)) q1 q2 K w3
          (fun j b w4 hbw hj => try_any K W H Wa A c l s0 s1 s2 s3 s4 s5 x y sp j b w4 _ _ _ _ _ (HT.out.below (below_then HB3.out HB3.out.size hbw)) (blk_below E1.out hbw) (blk_below E2.out hbw) (blk_below E3.out hbw) (blk_below E4.out hbw) (blk_below E0.out hbw) (Kd.C_below HR.out (below_then HB3.out HB3.out.size hbw)) HC.out hj) H4.out).mono ?_
        rintro e w4 ⟨rfl, hb4⟩
        have HB4 := Lib.hid (below_then HB3.out HB3.out.size hb4)
        have LW4 : w.heap.size ≤ w4.heap.size := HB4.out.size
        have F1 := blk_below E1.out hb4
        have F2 := blk_below E2.out hb4
        have F3 := blk_below E3.out hb4
        have F4 := blk_below E4.out hb4
        have F5 := Lib.hid (blk_below E5.out hb4)
        clear E0 E1 E2 E3 E4 E5 hb4 H4 HB3 LW3
        have HH8 := HH7.out
        clear HH7
        cases q2 with
        | false =>
          obtain ⟨rfl, rfl, rfl, rfl, rfl, rfl, rfl, rfl⟩ : 0 = r1 ∧ 0 = r2 ∧ 0 = r3 ∧ 0 = r4 ∧ 0 = r5 ∧ 0 = r6 ∧ 0 = r7 ∧ 6 = r8 := by simpa using HH8
          clear HH8
          have f5 := blk_frozen (F5.out)
          have Z5 := F5.out
          have hBB := HB4.out
          have q0 := blk_cell Z5 0
          have q1 := blk_cell Z5 1
          have q2 := blk_cell Z5 2
          have q3 := blk_cell Z5 3
          have q4 := blk_cell Z5 4
          have q5 := blk_cell Z5 5
          simp only [List.getElem?_toArray, List.getElem?_cons_succ, List.getElem?_cons_zero] at q0 q1 q2 q3 q4 q5
          go_wp2
          have e := blk_set (blk_set (blk_set (blk_set (blk_set (blk_set (Z5) 0 (.int .i64 0)) 1 (.int .i64 0)) 2 (.int .i64 0)) 3 (.int .i64 0)) 4 (.int .i64 0)) 5 (.int .i64 0)
          have hB3 := below_set (g := w.heap.size + 5) (j := 5) (v := .int .i64 0) (below_set (g := w.heap.size + 5) (j := 4) (v := .int .i64 0) (below_set (g := w.heap.size + 5) (j := 3) (v := .int .i64 0) (below_set (g := w.heap.size + 5) (j := 2) (v := .int .i64 0) (below_set (g := w.heap.size + 5) (j := 1) (v := .int .i64 0) (below_set (g := w.heap.size + 5) (j := 0) (v := .int .i64 0) (hBB) (by omega)) (by omega)) (by omega)) (by omega)) (by omega)) (by omega)
          generalize ((((((w4.setCell ⟨w.heap.size + 5, 0, none⟩ (.int .i64 0)).setCell ⟨w.heap.size + 5, 1, none⟩ (.int .i64 0)).setCell ⟨w.heap.size + 5, 2, none⟩ (.int .i64 0)).setCell ⟨w.heap.size + 5, 3, none⟩ (.int .i64 0)).setCell ⟨w.heap.size + 5, 4, none⟩ (.int .i64 0)).setCell ⟨w.heap.size + 5, 5, none⟩ (.int .i64 0)) = V3 at e hB3 ⊢
          have e0 := blk_cell e 0
          have e1 := blk_cell e 1
          have e2 := blk_cell e 2
          have e3 := blk_cell e 3
          have e4 := blk_cell e 4
          have e5 := blk_cell e 5
          simp only [List.setIfInBounds_toArray, List.set_cons_zero, List.set_cons_succ, List.getElem?_toArray, List.getElem?_cons_succ, List.getElem?_cons_zero] at e0 e1 e2 e3 e4 e5
          exact bodyPost_ret (v := .tuple #[.agg #[.int .i64 0, .int .i64 0, .int .i64 0, .int .i64 0, .int .i64 0, .int .i64 0], .int .i64 0, .int .i64 6]) (by simp [results, Tryd.results25, go_sem, e0, e1, e2, e3, e4, e5]) rfl ⟨rfl, hB3⟩
        | true =>
          obtain ⟨⟨t1, t2, t3, t4, t5, t6, te⟩, h5, HH9⟩ := Option.bind_eq_some_iff.mp (show ((aim_Shot.f K s0 s1 s2 s3 s4 s5 x y sp q1).bind _) = some _ by simpa only [if_true] using HH8)
          obtain ⟨rfl, rfl, rfl, rfl, rfl, rfl, rfl, rfl⟩ : t1 = r1 ∧ t2 = r2 ∧ t3 = r3 ∧ t4 = r4 ∧ t5 = r5 ∧ t6 = r6 ∧ q1 = r7 ∧ 0 = r8 := by simpa using HH9
          have H5 := Lib.hid h5
          clear HH8 HH9 h5
          have m0 := blk_cell F1 0
          have m1 := blk_cell F1 1
          have m2 := blk_cell F1 2
          have m3 := blk_cell F1 3
          have m4 := blk_cell F1 4
          have m5 := blk_cell F1 5
          simp only [List.getElem?_toArray, List.getElem?_cons_succ, List.getElem?_cons_zero] at m0 m1 m2 m3 m4 m5
          have x0 := blk_cell F2 0
          simp only [List.getElem?_toArray, List.getElem?_cons_succ, List.getElem?_cons_zero] at x0
          have y0 := blk_cell F3 0
          simp only [List.getElem?_toArray, List.getElem?_cons_succ, List.getElem?_cons_zero] at y0
          have p0 := blk_cell F4 0
          simp only [List.getElem?_toArray, List.getElem?_cons_succ, List.getElem?_cons_zero] at p0
          go_wp2_with fail
          refine (aim_Shot.calls K s0 s1 s2 s3 s4 s5 x y sp q1 t1 t2 t3 t4 t5 t6 te w4 (HT.out.below HB4.out) H5.out).mono ?_
          rintro e w5 ⟨rfl, hb5⟩
          have HB5 := Lib.hid (below_then HB4.out HB4.out.size hb5)
          have LW5 : w.heap.size ≤ w5.heap.size := HB5.out.size
          have LL5 : w.heap.size + 5 < w5.heap.size := blk_lt (blk_below F5.out hb5)
          have Z5 := blk_below F5.out hb5
          have f5 := blk_frozen Z5
          clear F1 F2 F3 F4 F5 hb5 H5 HB4 LW4 m0 m1 m2 m3 m4 m5 x0 y0 p0
          have hBB := HB5.out
          have qz0 := blk_cell Z5 0
          have qz1 := blk_cell Z5 1
          have qz2 := blk_cell Z5 2
          have qz3 := blk_cell Z5 3
          have qz4 := blk_cell Z5 4
          have qz5 := blk_cell Z5 5
          simp only [List.getElem?_toArray, List.getElem?_cons_succ, List.getElem?_cons_zero] at qz0 qz1 qz2 qz3 qz4 qz5
          go_wp2
          have e := blk_set (blk_set (blk_set (blk_set (blk_set (blk_set (Z5) 0 (.int .i64 t1)) 1 (.int .i64 t2)) 2 (.int .i64 t3)) 3 (.int .i64 t4)) 4 (.int .i64 t5)) 5 (.int .i64 t6)
          have hB3 := below_set (g := w.heap.size + 5) (j := 5) (v := .int .i64 t6) (below_set (g := w.heap.size + 5) (j := 4) (v := .int .i64 t5) (below_set (g := w.heap.size + 5) (j := 3) (v := .int .i64 t4) (below_set (g := w.heap.size + 5) (j := 2) (v := .int .i64 t3) (below_set (g := w.heap.size + 5) (j := 1) (v := .int .i64 t2) (below_set (g := w.heap.size + 5) (j := 0) (v := .int .i64 t1) (hBB) (by omega)) (by omega)) (by omega)) (by omega)) (by omega)) (by omega)
          generalize ((((((w5.setCell ⟨w.heap.size + 5, 0, none⟩ (.int .i64 t1)).setCell ⟨w.heap.size + 5, 1, none⟩ (.int .i64 t2)).setCell ⟨w.heap.size + 5, 2, none⟩ (.int .i64 t3)).setCell ⟨w.heap.size + 5, 3, none⟩ (.int .i64 t4)).setCell ⟨w.heap.size + 5, 4, none⟩ (.int .i64 t5)).setCell ⟨w.heap.size + 5, 5, none⟩ (.int .i64 t6)) = V3 at e hB3 ⊢
          have e0 := blk_cell e 0
          have e1 := blk_cell e 1
          have e2 := blk_cell e 2
          have e3 := blk_cell e 3
          have e4 := blk_cell e 4
          have e5 := blk_cell e 5
          simp only [List.setIfInBounds_toArray, List.set_cons_zero, List.set_cons_succ, List.getElem?_toArray, List.getElem?_cons_succ, List.getElem?_cons_zero] at e0 e1 e2 e3 e4 e5
          have L3 := blk_lt e
          exact bodyPost_ret (v := .tuple #[.agg #[.int .i64 t1, .int .i64 t2, .int .i64 t3, .int .i64 t4, .int .i64 t5, .int .i64 t6], .int .i64 q1, .int .i64 0]) (by simp [results, Tryd.results25, go_sem, e0, e1, e2, e3, e4, e5, L3]) rfl ⟨rfl, below_alloc hB3 _⟩
end Go.Proofs.YtbcddiaplpbhjaaDoor.MAi
namespace Go.Proofs.YtbcddiaplpbhjaaDoor.MAi
open Go Go.RowKit Go.Proofs.YtbcddiaplpbhjaaDoorW.PrintWords Go.Proofs.YtbcddiaplpbhjaaDoorW.PrintLast Go.Proofs.YtbcddiaplpbhjaaDoorW.PrintMore
set_option linter.unusedVariables false
set_option linter.unusedSimpArgs false
noncomputable def bivouaclaw17_awake.f (K : Nat) : Option Bool :=
  (aim_Solve.f K 9 9 0 (List.replicate 100 0) 0 0 65536 0 0 0 425984 0 32768).bind fun a => (aim_Solve.f K 9 9 0 (List.replicate 100 0) 0 0 0 0 0 0 425984 0 32768).bind fun b => (aim_Solve.f K 9 9 0 (List.replicate 100 0) 0 0 0 0 0 0 0 0 1).bind fun c =>
    (aim_InReach.f K 0 0 196608 0 3).bind fun d => (aim_InReach.f K 0 0 196608 0 2).bind fun e => if a.2.2.2.2.2.2 = (0, 0) then (if b.2.2.2.2.2.2 = (8, 0) then (if c.2.2.2.2.2.2 = (0, 0) then (if d = true then (if e = false then some true else none) else none) else none) else none) else none
theorem bivouaclaw17_awake.mono (k : Nat) : LeO (bivouaclaw17_awake.f k) (bivouaclaw17_awake.f (k + 1)) := by
  unfold bivouaclaw17_awake.f
  exact LeO.bind (aim_Solve.mono _ _ _ _ _ _ _ _ _ _ _ _ _ _) fun a => LeO.bind (aim_Solve.mono _ _ _ _ _ _ _ _ _ _ _ _ _ _) fun b => LeO.bind (aim_Solve.mono _ _ _ _ _ _ _ _ _ _ _ _ _ _) fun c =>
    LeO.bind (aim_InReach.mono _ _ _ _ _ _) fun d => LeO.bind (aim_InReach.mono _ _ _ _ _ _) fun e => LeO.refl _
set_option maxHeartbeats 8000000 in
set_option maxRecDepth 100000 in
theorem bivouaclaw17_awake.calls (K : Nat) (r : Bool) (w : World) (hT : Tg.Tab w) (h : bivouaclaw17_awake.f K = some r) :
    Calls Tryd.prog 22 #[] w fun e w' => e = .returned (.bool r) ∧ Below w.heap.size w w' := by
  unfold bivouaclaw17_awake.f at h
  obtain ⟨⟨a1, a2, a3, a4, a5, a6, a7, a8⟩, h1, h⟩ := Option.bind_eq_some_iff.mp h
  obtain ⟨⟨b1, b2, b3, b4, b5, b6, b7, b8⟩, h2, h⟩ := Option.bind_eq_some_iff.mp h
  obtain ⟨⟨c1, c2, c3, c4, c5, c6, c7, c8⟩, h3, h⟩ := Option.bind_eq_some_iff.mp h
  obtain ⟨d, h4, h⟩ := Option.bind_eq_some_iff.mp h
  obtain ⟨e, h5, h⟩ := Option.bind_eq_some_iff.mp h
  simp only at h
  split at h
  rotate_left
  · cases h
  rename_i g1
  split at h
  rotate_left
  · cases h
  rename_i g2
  split at h
  rotate_left
  · cases h
  rename_i g3
  split at h
  rotate_left
  · cases h
  rename_i g4
  split at h
  rotate_left
  · cases h
  rename_i g5
  obtain rfl := Option.some.inj h
  obtain ⟨rfl, rfl⟩ := Prod.mk.inj g1
  obtain ⟨rfl, rfl⟩ := Prod.mk.inj g2
  obtain ⟨rfl, rfl⟩ := Prod.mk.inj g3
  subst g4 g5
  have hF := bivouaclaw16_Flat.calls 9 9 0 (List.replicate 100 0) w (by unfold bivouaclaw16_Flat.f; rw [if_pos (by omega)])
  obtain ⟨L, hL⟩ : ∃ L, List.replicate 100 (0 : Int) = L := ⟨_, rfl⟩
  rw [hL] at h1 h2 h3 hF
  have HF := Lib.hid hF
  have H1 := Lib.hid h1
  have H2 := Lib.hid h2
  have H3 := Lib.hid h3
  have H4 := Lib.hid h4
  have H5 := Lib.hid h5
  have HT := Lib.hid hT
  clear h1 h2 h3 h4 h5 hT h g1 g2 g3 hF hL
  have hu := Tryd.underlying45
  have hu2 := Tryd.underlying47
  go_enter Tryd.func22, Tryd.ntmps22
  go_wp2_with fail
  refine HF.out.mono ?_
  rintro e w1 ⟨v, rfl, hr, hb1⟩
  obtain ⟨A, c, rfl, hc, hC⟩ := Kd.R_reads hr
  have HC := Lib.hid hc
  have HR := Lib.hid hC
  have HB1 := Lib.hid hb1
  clear hr hc hC hb1 HF
  go_wp2_with fail
  have hB2 := below_alloc HB1.out (Obj.cells #[Value.int IntKind.i64 9, Value.int IntKind.i64 9, Value.int IntKind.i64 0, Value.slice A L.length c] 45)
  have b0 := blk_new w1 (Obj.cells #[Value.int IntKind.i64 9, Value.int IntKind.i64 9, Value.int IntKind.i64 0, Value.slice A L.length c] 45)
  generalize hV : w1.alloc (Obj.cells #[Value.int IntKind.i64 9, Value.int IntKind.i64 9, Value.int IntKind.i64 0, Value.slice A L.length c] 45) = V at hB2 b0 ⊢
  have HB2 := Lib.hid hB2
  have B0 := Lib.hid b0
  have LV : w1.heap.size < V.heap.size := blk_lt b0
  have LB : w.heap.size ≤ w1.heap.size := HB1.out.size
  have hbv : Below w1.heap.size w1 V := by rw [← hV]; exact below_alloc (Below.refl _ _) _
  have HR2 := Lib.hid (Kd.C_below HR.out hbv)
  clear hB2 b0 hV HR hbv
  have zz := B0.out
  have m0 := blk_cell zz 0
  have m1 := blk_cell zz 1
  have m2 := blk_cell zz 2
  have m3 := blk_cell zz 3
  simp only [List.getElem?_toArray, List.getElem?_cons_succ, List.getElem?_cons_zero] at m0 m1 m2 m3
  clear zz
  refine (aim_Solve.calls K 9 9 0 A c L 0 0 65536 0 0 0 425984 0 32768 a1 a2 a3 a4 a5 a6 0 0 _ (Kd.C_below HR2.out (Below.refl _ _)) HC.out (HT.out.below (HB2.out)) H1.out).mono ?_
  rintro e wa ⟨rfl, hb⟩
  have KBx := Lib.hid hb
  have HBa := Lib.hid (below_then HB2.out HB2.out.size hb)
  have KB0 := Lib.hid hb
  have Ba := Lib.hid (blk_below B0.out hb)
  have La : w1.heap.size < wa.heap.size := blk_lt Ba.out
  clear hb m0 m1 m2 m3 KBx
  have zz := Ba.out
  have m0 := blk_cell zz 0
  have m1 := blk_cell zz 1
  have m2 := blk_cell zz 2
  have m3 := blk_cell zz 3
  simp only [List.getElem?_toArray, List.getElem?_cons_succ, List.getElem?_cons_zero] at m0 m1 m2 m3
  clear zz
  go_wp2_with fail
  refine (aim_Solve.calls K 9 9 0 A c L 0 0 0 0 0 0 425984 0 32768 b1 b2 b3 b4 b5 b6 8 0 _ (Kd.C_below HR2.out (below_alloc KB0.out _)) HC.out (HT.out.below (below_alloc HBa.out _)) H2.out).mono ?_
  rintro e wb ⟨rfl, hb⟩
  have HBb := Lib.hid (below_then (below_alloc HBa.out _) (below_alloc HBa.out _).size hb)
  have KB1 := Lib.hid (below_then (below_alloc KB0.out _) (below_alloc KB0.out _).size hb)
  have Bb := Lib.hid (blk_below (blk_alloc Ba.out _) hb)
  have Lb : w1.heap.size < wb.heap.size := blk_lt Bb.out
  clear hb m0 m1 m2 m3
  have zz := Bb.out
  have m0 := blk_cell zz 0
  have m1 := blk_cell zz 1
  have m2 := blk_cell zz 2
  have m3 := blk_cell zz 3
  simp only [List.getElem?_toArray, List.getElem?_cons_succ, List.getElem?_cons_zero] at m0 m1 m2 m3
  clear zz
  go_wp2_with fail
  refine (aim_Solve.calls K 9 9 0 A c L 0 0 0 0 0 0 0 0 1 c1 c2 c3 c4 c5 c6 0 0 _ (Kd.C_below HR2.out (below_alloc KB1.out _)) HC.out (HT.out.below (below_alloc HBb.out _)) H3.out).mono ?_
  rintro e wc ⟨rfl, hb⟩
  have HBc := Lib.hid (below_then (below_alloc HBb.out _) (below_alloc HBb.out _).size hb)
  have KB2 := Lib.hid (below_then (below_alloc KB1.out _) (below_alloc KB1.out _).size hb)
  have Bc := Lib.hid (blk_below (blk_alloc Bb.out _) hb)
  have Lc : w1.heap.size < wc.heap.size := blk_lt Bc.out
  clear hb m0 m1 m2 m3
  go_wp2_with fail
  refine (aim_InReach.calls K 0 0 196608 0 3 true _ H4.out).mono ?_
  rintro e wd ⟨rfl, hb⟩
  have HBd := Lib.hid (below_then (below_alloc HBc.out _) (below_alloc HBc.out _).size hb)
  clear hb
  go_wp2_with fail
  refine (aim_InReach.calls K 0 0 196608 0 2 false _ H5.out).mono ?_
  rintro e we ⟨rfl, hb⟩
  have HBe := Lib.hid (below_then HBd.out HBd.out.size hb)
  clear hb
  go_wp2
  go_ret
  exact ⟨rfl, HBe.out⟩
end Go.Proofs.YtbcddiaplpbhjaaDoor.MAi
namespace Go.Proofs.YtbcddiaplpbhjaaDoor.Ap
open Go Go.RowKit Go.Proofs.YtbcddiaplpbhjaaDoorW.PrintMore Go.Proofs.YtbcddiaplpbhjaaDoorW.PrintWords Go.Proofs.YtbcddiaplpbhjaaDoor.MAi
set_option linter.unusedVariables false
set_option linter.unusedSimpArgs false
structure Sh where (x y z u v t : Int)
def Small (s : Sh) : Prop := 0 ≤ s.x ∧ s.x ≤ 4194304 ∧ 0 ≤ s.y ∧ s.y ≤ 4194304 ∧ 0 ≤ s.z ∧ s.z ≤ 1073741824 ∧ -262144 ≤ s.u ∧ s.u ≤ 262144 ∧ -262144 ≤ s.v ∧ s.v ≤ 262144 ∧ -262144 ≤ s.t ∧ s.t ≤ 262144
def at_ (s : Sh) (n : Int) : Sh := ⟨s.x + n * s.u, s.y + n * s.v, s.z + n * s.t - 512 * (n * (n - 1)), s.u, s.v, s.t - 1024 * n⟩
theorem sq_in {n : Int} (h0 : 0 ≤ n) (h1 : n ≤ 1024) : -1024 ≤ n * (n - 1) ∧ n * (n - 1) ≤ 1048576 := by
  have a := mul_in (a := n) (b := n) (A := 1024) (B := 1024) (by omega) (by omega)
  have b := sq_nonneg' n
  rw [Int.mul_sub, Int.mul_one]
  omega
theorem rat_f {s : Sh} (hs : Small s) {n : Int} (h0 : 0 ≤ n) (h1 : n ≤ 1024) :
    bivouacref16_At.f s.x s.y s.z s.u s.v s.t n = some ((at_ s n).x, (at_ s n).y, (at_ s n).z, (at_ s n).u, (at_ s n).v, (at_ s n).t) := by
  unfold Small at hs
  have a := mul_in (a := n) (b := s.u) (A := 1024) (B := 262144) (by omega) (by omega)
  have b := mul_in (a := n) (b := s.v) (A := 1024) (B := 262144) (by omega) (by omega)
  have c := mul_in (a := n) (b := s.t) (A := 1024) (B := 262144) (by omega) (by omega)
  have d := sq_in h0 h1
  have e : 512 * n * (n - 1) = 512 * (n * (n - 1)) := Int.mul_assoc _ _ _
  unfold bivouacref16_At.f at_
  rw [w_in (x := n * s.u) (by omega) (by omega), w_in (x := n * s.v) (by omega) (by omega), w_in (x := n * s.t) (by omega) (by omega), w_in (x := 512 * n) (by omega) (by omega), w_in (x := n - 1) (by omega) (by omega), e, w_in (x := 512 * (n * (n - 1))) (by omega) (by omega),
    w_in (x := 1024 * n) (by omega) (by omega), w_in (x := s.x + n * s.u) (by omega) (by omega), w_in (x := s.y + n * s.v) (by omega) (by omega), w_in (x := s.z + n * s.t) (by omega) (by omega), w_in (x := s.z + n * s.t - 512 * (n * (n - 1))) (by omega) (by omega), w_in (x := s.t - 1024 * n) (by omega) (by omega)]
theorem tick_f {s : Sh} (hs : Small s) {n : Int} (h0 : 0 ≤ n) (h1 : n < 1024) :
    shot_tick.f (at_ s n).x (at_ s n).y (at_ s n).z (at_ s n).u (at_ s n).v (at_ s n).t = some ((at_ s (n + 1)).x, (at_ s (n + 1)).y, (at_ s (n + 1)).z, (at_ s (n + 1)).u, (at_ s (n + 1)).v, (at_ s (n + 1)).t) := by
  unfold Small at hs
  have a := mul_in (a := n) (b := s.u) (A := 1024) (B := 262144) (by omega) (by omega)
  have b := mul_in (a := n) (b := s.v) (A := 1024) (B := 262144) (by omega) (by omega)
  have c := mul_in (a := n) (b := s.t) (A := 1024) (B := 262144) (by omega) (by omega)
  have d := sq_in h0 (by omega)
  have ea : (n + 1) * s.u = n * s.u + s.u := by rw [Int.add_mul, Int.one_mul]
  have eb : (n + 1) * s.v = n * s.v + s.v := by rw [Int.add_mul, Int.one_mul]
  have ec : (n + 1) * s.t = n * s.t + s.t := by rw [Int.add_mul, Int.one_mul]
  have ed : (n + 1) * (n + 1 - 1) = n * (n - 1) + 2 * n := by rw [show n + 1 - 1 = n by omega, Int.add_mul, Int.mul_sub]; omega
  unfold shot_tick.f at_
  dsimp only
  rw [ea, eb, ec, ed]
  generalize n * s.u = p1 at a ⊢
  generalize n * s.v = p2 at b ⊢
  generalize n * s.t = p3 at c ⊢
  generalize n * (n - 1) = p4 at d ⊢
  rw [w_in (by omega) (by omega), w_in (by omega) (by omega), w_in (by omega) (by omega), w_in (by omega) (by omega)]
  congr 1
  simp only [Prod.mk.injEq]
  refine ⟨?_, ?_, ?_, trivial, trivial, ?_⟩ <;> omega
theorem at_zero (s : Sh) : at_ s 0 = s := by unfold at_; simp
section
variable (W H Wa : Int) (l : List Int)
def fly (s : Sh) : Nat → Int → Int × Int × Sh
  | 0, _ => (1024, 0, at_ s 1024)
  | f + 1, n => if how W H Wa l (at_ s n).x (at_ s n).y (at_ s n).z = 0 then fly s f (n + 1) else (n, how W H Wa l (at_ s n).x (at_ s n).y (at_ s n).z, at_ s n)
def flat (e : Int × Int × Sh) : Int × Int × Int × Int × Int × Int × Int × Int := (e.1, e.2.1, e.2.2.x, e.2.2.y, e.2.2.z, e.2.2.u, e.2.2.v, e.2.2.t)
end
variable {W H Wa : Int} {l : List Int}
theorem rfly_l (hc : chk W H Wa l = 0) (hl : Bytes l) {s : Sh} (hs : Small s) (f : Nat) : ∀ (n : Int) (K : Nat), n + f = 1025 → 1 ≤ n → f + 2 ≤ K →
    bivouacref16_Fly.l0 K 1024 n W H Wa l s.x s.y s.z s.u s.v s.t = some (flat (fly W H Wa l s f n)) := by
  induction f with
  | zero =>
    intro n K h h1 hK
    obtain ⟨K, rfl⟩ : ∃ m, K = m + 1 := ⟨K - 1, by omega⟩
    rw [bivouacref16_Fly.l0, if_neg (by omega), rat_f hs (by omega) (by omega), Option.bind_some]
    rfl
  | succ f ih =>
    intro n K h h1 hK
    obtain ⟨K, rfl⟩ : ∃ m, K = m + 2 := ⟨K - 2, by omega⟩
    rw [show K + 2 = (K + 1) + 1 from rfl, bivouacref16_Fly.l0, if_pos (by omega), rat_f hs (by omega) (by omega), Option.bind_some]
    dsimp only
    rw [rhow_f hc hl, Option.bind_some, fly]
    by_cases hw : how W H Wa l (at_ s n).x (at_ s n).y (at_ s n).z = 0
    · rw [if_pos hw, if_pos hw, w_in (by omega) (by omega), ih (n + 1) (K + 1) (by omega) (by omega) (by omega)]
    · rw [if_neg hw, if_neg hw, Option.bind_some]
      rfl
theorem fly_l (hc : chk W H Wa l = 0) (hl : Bytes l) {s : Sh} (hs : Small s) (f : Nat) : ∀ (n : Int) (K : Nat), n + f = 1024 → 0 ≤ n → f + 2 ≤ K →
    shot_Fly.l0 K 1024 1024 n W H Wa l (at_ s n).x (at_ s n).y (at_ s n).z (at_ s n).u (at_ s n).v (at_ s n).t =
      some ((fly W H Wa l s f (n + 1)).1, (fly W H Wa l s f (n + 1)).2.1, (fly W H Wa l s f (n + 1)).2.2.x, (fly W H Wa l s f (n + 1)).2.2.y, (fly W H Wa l s f (n + 1)).2.2.z, (fly W H Wa l s f (n + 1)).2.2.u, (fly W H Wa l s f (n + 1)).2.2.v, (fly W H Wa l s f (n + 1)).2.2.t, 0) := by
  induction f with
  | zero =>
    intro n K h h1 hK
    obtain rfl : n = 1024 := by omega
    obtain ⟨K, rfl⟩ : ∃ m, K = m + 1 := ⟨K - 1, by omega⟩
    rw [shot_Fly.l0, if_neg (by omega)]
    rfl
  | succ f ih =>
    intro n K h h1 hK
    obtain ⟨K, rfl⟩ : ∃ m, K = m + 2 := ⟨K - 2, by omega⟩
    rw [show K + 2 = (K + 1) + 1 from rfl, shot_Fly.l0, if_pos (by omega), tick_f hs (by omega) (by omega), Option.bind_some]
    dsimp only
    rw [how_f hc hl, Option.bind_some, fly]
    by_cases hw : how W H Wa l (at_ s (n + 1)).x (at_ s (n + 1)).y (at_ s (n + 1)).z = 0
    · rw [if_pos hw, if_pos hw, w_in (by omega) (by omega), ih (n + 1) (K + 1) (by omega) (by omega) (by omega)]
    · rw [if_neg hw, if_neg hw, w_in (by omega) (by omega)]
theorem fly_on {s : Sh} (f : Nat) : ∀ n, (fly W H Wa l s f n).2.1 = 1 ∨ (fly W H Wa l s f n).2.1 = 2 → On W H (fly W H Wa l s f n).2.2.x (fly W H Wa l s f n).2.2.y := by
  induction f with
  | zero => intro n h; rw [fly] at h; simp at h
  | succ f ih =>
    intro n h
    rw [fly] at h ⊢
    by_cases hw : how W H Wa l (at_ s n).x (at_ s n).y (at_ s n).z = 0
    · rw [if_pos hw] at h ⊢; exact ih _ h
    · rw [if_neg hw] at h ⊢; exact how_on h
def allIn (lo hi : Int) (xs : List Int) : Bool := xs.all fun a => decide (lo ≤ a) && decide (a ≤ hi)
theorem within_l (lo hi : Int) : ∀ (ys pre : List Int) (K : Nat), ((pre ++ ys).length : Int) ≤ 1000 → ys.length < K →
    shot_within.l0 K lo hi (pre ++ ys) ((pre ++ ys).length : Int) (pre.length : Int) = some (allIn lo hi ys)
  | [], pre, K, hn, hK => by
    obtain ⟨K, rfl⟩ : ∃ m, K = m + 1 := ⟨K - 1, by omega⟩
    rw [shot_within.l0, if_neg (by simp)]
    rfl
  | a :: ys, pre, K, hn, hK => by
    obtain ⟨K, rfl⟩ : ∃ m, K = m + 1 := ⟨K - 1, by omega⟩
    have hlen : ((pre ++ a :: ys).length : Int) = pre.length + 1 + ys.length := by simp; omega
    have hrd : rd (pre ++ a :: ys) (pre.length : Int) = a := by unfold rd; simp
    have ih := within_l lo hi ys (pre ++ [a]) K (by simpa using hn) (by simpa using hK)
    rw [show pre ++ [a] ++ ys = pre ++ a :: ys by simp, show ((pre ++ [a]).length : Int) = pre.length + 1 by simp] at ih
    rw [shot_within.l0, if_pos (by omega), if_pos (by omega), if_pos (by omega), hrd]
    unfold allIn
    rw [List.all_cons]
    by_cases h1 : a < lo
    · rw [if_pos h1, decide_eq_false (show ¬ lo ≤ a by omega)]; rfl
    · rw [if_neg h1, decide_eq_true (show lo ≤ a by omega)]
      by_cases h2 : a > hi
      · rw [if_pos h2, decide_eq_false (show ¬ a ≤ hi by omega)]; rfl
      · rw [if_neg h2, decide_eq_true (show a ≤ hi by omega), w_in (by omega) (by omega), ih]; rfl
theorem inside_l : ∀ (ys pre : List Int) (K : Nat), ((pre ++ ys).length : Int) ≤ 1000 → ys.length < K →
    aim_inside.l0 K (pre ++ ys) ((pre ++ ys).length : Int) (pre.length : Int) = some (allIn 0 4194304 ys)
  | [], pre, K, hn, hK => by
    obtain ⟨K, rfl⟩ : ∃ m, K = m + 1 := ⟨K - 1, by omega⟩
    rw [aim_inside.l0, if_neg (by simp)]
    rfl
  | a :: ys, pre, K, hn, hK => by
    obtain ⟨K, rfl⟩ : ∃ m, K = m + 1 := ⟨K - 1, by omega⟩
    have hlen : ((pre ++ a :: ys).length : Int) = pre.length + 1 + ys.length := by simp; omega
    have hrd : rd (pre ++ a :: ys) (pre.length : Int) = a := by unfold rd; simp
    have ih := inside_l ys (pre ++ [a]) K (by simpa using hn) (by simpa using hK)
    rw [show pre ++ [a] ++ ys = pre ++ a :: ys by simp, show ((pre ++ [a]).length : Int) = pre.length + 1 by simp] at ih
    rw [aim_inside.l0, if_pos (by omega), if_pos (by omega), if_pos (by omega), hrd]
    unfold allIn
    rw [List.all_cons]
    by_cases h1 : a < 0
    · rw [if_pos h1, decide_eq_false (show ¬ 0 ≤ a by omega)]; rfl
    · rw [if_neg h1, decide_eq_true (show 0 ≤ a by omega)]
      by_cases h2 : a > 4194304
      · rw [if_pos h2, decide_eq_false (show ¬ a ≤ 4194304 by omega)]; rfl
      · rw [if_neg h2, decide_eq_true (show a ≤ 4194304 by omega), w_in (by omega) (by omega), ih]; rfl
theorem inside4 (a b c d : Int) (K : Nat) : aim_inside.f (K + 5) [a, b, c, d] = some (decide (0 ≤ a ∧ a ≤ 4194304 ∧ 0 ≤ b ∧ b ≤ 4194304 ∧ 0 ≤ c ∧ c ≤ 4194304 ∧ 0 ≤ d ∧ d ≤ 4194304)) := by
  unfold aim_inside.f
  have h := inside_l [a, b, c, d] [] (K + 5) (by simp) (by simp)
  simp only [List.nil_append, List.length_nil] at h
  rw [show ((0 : Nat) : Int) = 0 from rfl] at h
  rw [h]
  congr 1
  unfold allIn
  simp only [List.all_cons, List.all_nil, Bool.and_true]
  rw [Bool.eq_iff_iff]
  simp only [Bool.and_eq_true, decide_eq_true_eq]
  constructor <;> intro q <;> simp only [q, and_self]
theorem within1 (lo hi a : Int) (K : Nat) : shot_within.f (K + 4) lo hi [a] = some (decide (lo ≤ a ∧ a ≤ hi)) := by
  unfold shot_within.f
  have h := within_l lo hi [a] [] (K + 4) (by simp) (by simp)
  simp only [List.nil_append, List.length_nil] at h
  rw [show ((0 : Nat) : Int) = 0 from rfl] at h
  rw [h]
  congr 1
  unfold allIn
  simp only [List.all_cons, List.all_nil, Bool.and_true]
  rw [Bool.eq_iff_iff]
  simp only [Bool.and_eq_true, decide_eq_true_eq]
theorem within3 (lo hi a b c : Int) (K : Nat) : shot_within.f (K + 4) lo hi [a, b, c] = some (decide (lo ≤ a ∧ a ≤ hi ∧ lo ≤ b ∧ b ≤ hi ∧ lo ≤ c ∧ c ≤ hi)) := by
  unfold shot_within.f
  have h := within_l lo hi [a, b, c] [] (K + 4) (by simp) (by simp)
  simp only [List.nil_append, List.length_nil] at h
  rw [show ((0 : Nat) : Int) = 0 from rfl] at h
  rw [h]
  congr 1
  unfold allIn
  simp only [List.all_cons, List.all_nil, Bool.and_true]
  rw [Bool.eq_iff_iff]
  simp only [Bool.and_eq_true, decide_eq_true_eq]
  constructor <;> intro q <;> simp only [q, and_self]
theorem on_small (hc : chk W H Wa l = 0) {x y : Int} (ho : On W H x y) : 0 ≤ x ∧ x ≤ 4194304 ∧ 0 ≤ y ∧ y ≤ 4194304 := by
  have hb := (chk_zero hc).1
  unfold Bnd at hb
  unfold On at ho
  omega
theorem fly_f (hc : chk W H Wa l = 0) (hl : Bytes l) {s : Sh} (hs : Small s) (ho : On W H s.x s.y) (K : Nat) :
    shot_Fly.f (K + 1030) W H Wa l s.x s.y s.z s.u s.v s.t 1024 = some ((fly W H Wa l s 1024 1).1, (fly W H Wa l s 1024 1).2.1, (fly W H Wa l s 1024 1).2.2.x, (fly W H Wa l s 1024 1).2.2.y, (fly W H Wa l s 1024 1).2.2.z, (fly W H Wa l s 1024 1).2.2.u, (fly W H Wa l s 1024 1).2.2.v, (fly W H Wa l s 1024 1).2.2.t, 0) := by
  have h := fly_l hc hl hs 1024 0 (K + 1029) (by omega) (by omega) (by omega)
  rw [at_zero] at h
  unfold Small at hs
  unfold shot_Fly.f shot_May.f
  rw [show K + 1030 = (K + 1029) + 1 from rfl, on_f, Option.bind_some, if_pos (decide_eq_true ⟨hc, ho⟩), show K + 1029 + 1 = (K + 1026) + 4 from rfl, within1, Option.bind_some, if_pos (decide_eq_true (by omega)), within3, Option.bind_some, decide_eq_true (by omega), Option.bind_some, if_pos rfl, if_neg (by omega), decide_eq_false (by omega),
    show K + 1026 + 4 = (K + 1029) + 1 from rfl, shot_Fly.j0, if_neg (by decide), h]
  rfl
theorem rfly_f (hc : chk W H Wa l = 0) (hl : Bytes l) {s : Sh} (hs : Small s) (K : Nat) : bivouacref16_Fly.f (K + 1030) W H Wa l s.x s.y s.z s.u s.v s.t 1024 = some (flat (fly W H Wa l s 1024 1)) := by
  unfold bivouacref16_Fly.f
  exact rfly_l hc hl hs 1024 1 (K + 1030) (by omega) (by omega) (by omega)
end Go.Proofs.YtbcddiaplpbhjaaDoor.Ap
