/- What the law's own function does: written by a program of this claim. -/
import Derived.Test.YtikhgdbbbingbaaQ4
namespace Go.Proofs.Ytikhgdbbbingbaa.MPu
open Go.RowKit Go.Proofs.YtikhgdbbbingbaaW.PrintWords Go.Proofs.YtikhgdbbbingbaaW.PrintLast Go.Proofs.YtikhgdbbbingbaaW.PrintMore
attribute [local go_sem] max2_int min2_int max_two min_two max_three min_three max_four min_four
set_option linter.unusedVariables false
set_option linter.unusedSimpArgs false
attribute [local go_sem high] eqA48 eqA59
mutual
noncomputable def bivouaclaw19_PurseServes.j0 : Nat → List (S48) → Int → List (S48) → Int → Bool → Int → Int → Int → Int → Int → Int → Int → Int → Int → Int → Option (Bool)
  | 0, _, _, _, _, _, _, _, _, _, _, _, _, _, _, _ => none
  | k + 1, x2, x8, x9, x10, x43, x144000, x144001, x144002, x144003, x145000, x145001, x158000, x158001, x158002, x158003 => if x43 = true then (if (x158000 == 0 && (x158001 == 0 && (x158002 == 0 && (x158003 == 0)))) = true then (if x8 = 0 then (if (x9.length : Int) = 0 then (if x10 = 1 then ((bivouaclaw19_awake.f k).bind fun t163 => (some t163)) else (some false)) else (some false)) else (some false)) else (some false)) else ((bivouacref19_Serve.f k x144000 x144001 x144002 x144003 x145000 x145001 x2).bind fun bt164 => (if (!(x158000 == bt164.1) || (!(x158001 == bt164.2.1) || (!(x158002 == bt164.2.2.1) || (!(x158003 == bt164.2.2.2.1))))) = true then (bivouaclaw19_PurseServes.j1 k x9 bt164.2.2.2.2.2 true) else (if x8 = bt164.2.2.2.2.1 then (if (x9.length : Int) = (bt164.2.2.2.2.2.length : Int) then (bivouaclaw19_PurseServes.j1 k x9 bt164.2.2.2.2.2 (x10 != 0)) else (bivouaclaw19_PurseServes.j1 k x9 bt164.2.2.2.2.2 true)) else (bivouaclaw19_PurseServes.j1 k x9 bt164.2.2.2.2.2 true))))
noncomputable def bivouaclaw19_PurseServes.j1 : Nat → List (S48) → List (S48) → Bool → Option (Bool)
  | 0, _, _, _ => none
  | k + 1, x9, x13, x89 => if x89 = true then (some false) else (bivouaclaw19_PurseServes.l0 k x9 x13 0)
noncomputable def bivouaclaw19_PurseServes.l0 : Nat → List (S48) → List (S48) → Int → Option (Bool)
  | 0, _, _, _ => none
  | k + 1, x9, x13, x14 => if x14 < (x9.length : Int) then (if 0 ≤ x14 then (if x14 < (x13.length : Int) then (if (!(((rd_T48 x9 x14).f0) == ((rd_T48 x13 x14).f0)) || (!(((rd_T48 x9 x14).f1) == ((rd_T48 x13 x14).f1)))) = true then (some false) else (bivouaclaw19_PurseServes.l0 k x9 x13 (wrap64 (x14 + 1)))) else (none)) else (none)) else ((bivouaclaw19_awake.f k).bind fun t173 => (some t173))
end
noncomputable def bivouaclaw19_PurseServes.f (k : Nat) (a0_0 : Int) (a0_1 : Int) (a0_2 : Int) (a0_3 : Int) (a1_0 : Int) (a1_1 : Int) (l2 : List (S48)) : Option (Bool) := (bivouaclaw19_few.f l2).bind fun t145 => ((purse_Serve.f a0_0 a0_1 a0_2 a0_3 a1_0 a1_1 t145).bind fun bt148 => ((purse_May.f a0_0 a0_1 a0_2 a0_3).bind fun t158 => ((bivouacref19_May.f a0_0 a0_1 a0_2 a0_3).bind fun t159 => (if (t158 != t159) = true then (some false) else ((bivouacref19_May.f a0_0 a0_1 a0_2 a0_3).bind fun t160 => (if t160 = true then ((bivouacref19_Wish.f a1_0 a1_1).bind fun t161 => (if t161 = true then ((bivouaclaw19_may.f k t145).bind fun t162 => (bivouaclaw19_PurseServes.j0 k t145 bt148.2.2.2.2.1 bt148.2.2.2.2.2.1 bt148.2.2.2.2.2.2 (!t162) a0_0 a0_1 a0_2 a0_3 a1_0 a1_1 bt148.1 bt148.2.1 bt148.2.2.1 bt148.2.2.2.1)) else (bivouaclaw19_PurseServes.j0 k t145 bt148.2.2.2.2.1 bt148.2.2.2.2.2.1 bt148.2.2.2.2.2.2 true a0_0 a0_1 a0_2 a0_3 a1_0 a1_1 bt148.1 bt148.2.1 bt148.2.2.1 bt148.2.2.2.1))) else (bivouaclaw19_PurseServes.j0 k t145 bt148.2.2.2.2.1 bt148.2.2.2.2.2.1 bt148.2.2.2.2.2.2 true a0_0 a0_1 a0_2 a0_3 a1_0 a1_1 bt148.1 bt148.2.1 bt148.2.2.1 bt148.2.2.2.1)))))))
theorem bivouaclaw19_PurseServes.mono_l : ∀ k, (∀ y0 y1 y2 y3 y4 y5 y6 y7 y8 y9 y10 y11 y12 y13 y14, LeO (bivouaclaw19_PurseServes.j0 k y0 y1 y2 y3 y4 y5 y6 y7 y8 y9 y10 y11 y12 y13 y14) (bivouaclaw19_PurseServes.j0 (k + 1) y0 y1 y2 y3 y4 y5 y6 y7 y8 y9 y10 y11 y12 y13 y14)) ∧ (∀ y0 y1 y2, LeO (bivouaclaw19_PurseServes.j1 k y0 y1 y2) (bivouaclaw19_PurseServes.j1 (k + 1) y0 y1 y2)) ∧ (∀ y0 y1 y2, LeO (bivouaclaw19_PurseServes.l0 k y0 y1 y2) (bivouaclaw19_PurseServes.l0 (k + 1) y0 y1 y2))
  | 0 => ⟨fun _ _ _ _ _ _ _ _ _ _ _ _ _ _ _ r h => by simp [bivouaclaw19_PurseServes.j0] at h, fun _ _ _ r h => by simp [bivouaclaw19_PurseServes.j1] at h, fun _ _ _ r h => by simp [bivouaclaw19_PurseServes.l0] at h⟩
  | k + 1 => by
    obtain ⟨ih0, ih1, ih2⟩ := bivouaclaw19_PurseServes.mono_l k
    refine ⟨?_, ?_, ?_⟩
    · intro y0 y1 y2 y3 y4 y5 y6 y7 y8 y9 y10 y11 y12 y13 y14
      unfold bivouaclaw19_PurseServes.j0
      repeat' first
      | (with_reducible exact ih0 _ _ _ _ _ _ _ _ _ _ _ _ _ _ _)
      | (with_reducible exact ih1 _ _ _)
      | (with_reducible exact ih2 _ _ _)
      | (with_reducible exact bivouaclaw19_awake.mono _)
      | (with_reducible exact bivouaclaw19_may.mono _ _)
      | (with_reducible exact bivouacref19_Serve.mono _ _ _ _ _ _ _ _)
      | (with_reducible exact LeO.refl _)
      | (with_reducible exact LeO.none _)
      | (with_reducible refine LeO.ite ?_ ?_)
      | (with_reducible refine LeO.bind ?_ (fun _ => ?_))
      | exact ih0 _ _ _ _ _ _ _ _ _ _ _ _ _ _ _
      | exact ih1 _ _ _
      | exact ih2 _ _ _
      | exact bivouaclaw19_awake.mono _
      | exact bivouaclaw19_may.mono _ _
      | exact bivouacref19_Serve.mono _ _ _ _ _ _ _ _
      | exact LeO.none _
      | refine LeO.ite ?_ ?_
      | refine LeO.bind ?_ (fun _ => ?_)
    · intro y0 y1 y2
      unfold bivouaclaw19_PurseServes.j1
      repeat' first
      | (with_reducible exact ih0 _ _ _ _ _ _ _ _ _ _ _ _ _ _ _)
      | (with_reducible exact ih1 _ _ _)
      | (with_reducible exact ih2 _ _ _)
      | (with_reducible exact bivouaclaw19_awake.mono _)
      | (with_reducible exact bivouaclaw19_may.mono _ _)
      | (with_reducible exact bivouacref19_Serve.mono _ _ _ _ _ _ _ _)
      | (with_reducible exact LeO.refl _)
      | (with_reducible exact LeO.none _)
      | (with_reducible refine LeO.ite ?_ ?_)
      | (with_reducible refine LeO.bind ?_ (fun _ => ?_))
      | exact ih0 _ _ _ _ _ _ _ _ _ _ _ _ _ _ _
      | exact ih1 _ _ _
      | exact ih2 _ _ _
      | exact bivouaclaw19_awake.mono _
      | exact bivouaclaw19_may.mono _ _
      | exact bivouacref19_Serve.mono _ _ _ _ _ _ _ _
      | exact LeO.none _
      | refine LeO.ite ?_ ?_
      | refine LeO.bind ?_ (fun _ => ?_)
    · intro y0 y1 y2
      unfold bivouaclaw19_PurseServes.l0
      repeat' first
      | (with_reducible exact ih0 _ _ _ _ _ _ _ _ _ _ _ _ _ _ _)
      | (with_reducible exact ih1 _ _ _)
      | (with_reducible exact ih2 _ _ _)
      | (with_reducible exact bivouaclaw19_awake.mono _)
      | (with_reducible exact bivouaclaw19_may.mono _ _)
      | (with_reducible exact bivouacref19_Serve.mono _ _ _ _ _ _ _ _)
      | (with_reducible exact LeO.refl _)
      | (with_reducible exact LeO.none _)
      | (with_reducible refine LeO.ite ?_ ?_)
      | (with_reducible refine LeO.bind ?_ (fun _ => ?_))
      | exact ih0 _ _ _ _ _ _ _ _ _ _ _ _ _ _ _
      | exact ih1 _ _ _
      | exact ih2 _ _ _
      | exact bivouaclaw19_awake.mono _
      | exact bivouaclaw19_may.mono _ _
      | exact bivouacref19_Serve.mono _ _ _ _ _ _ _ _
      | exact LeO.none _
      | refine LeO.ite ?_ ?_
      | refine LeO.bind ?_ (fun _ => ?_)
theorem bivouaclaw19_PurseServes.mono : ∀ a0 a1 a2 a3 a4 a5 a6 k, LeO (bivouaclaw19_PurseServes.f k a0 a1 a2 a3 a4 a5 a6) (bivouaclaw19_PurseServes.f (k + 1) a0 a1 a2 a3 a4 a5 a6) := by
  intro a0 a1 a2 a3 a4 a5 a6 k
  obtain ⟨ih0, ih1, ih2⟩ := bivouaclaw19_PurseServes.mono_l k
  unfold bivouaclaw19_PurseServes.f
  repeat' first
      | (with_reducible exact ih0 _ _ _ _ _ _ _ _ _ _ _ _ _ _ _)
      | (with_reducible exact ih1 _ _ _)
      | (with_reducible exact ih2 _ _ _)
      | (with_reducible exact bivouaclaw19_awake.mono _)
      | (with_reducible exact bivouaclaw19_may.mono _ _)
      | (with_reducible exact bivouacref19_Serve.mono _ _ _ _ _ _ _ _)
      | (with_reducible exact LeO.refl _)
      | (with_reducible exact LeO.none _)
      | (with_reducible refine LeO.ite ?_ ?_)
      | (with_reducible refine LeO.bind ?_ (fun _ => ?_))
      | exact ih0 _ _ _ _ _ _ _ _ _ _ _ _ _ _ _
      | exact ih1 _ _ _
      | exact ih2 _ _ _
      | exact bivouaclaw19_awake.mono _
      | exact bivouaclaw19_may.mono _ _
      | exact bivouacref19_Serve.mono _ _ _ _ _ _ _ _
      | exact LeO.none _
      | refine LeO.ite ?_ ?_
      | refine LeO.bind ?_ (fun _ => ?_)
def bivouaclaw19_PurseServes.T13 : Bool × List (List Nat × List Nat) := (true, [([], []), ([], []), ([0, 1], [0, 1]), ([2], [2]), ([], []), ([], []), ([4, 5], [4, 5]), ([6], [6]), ([3, 7], [3, 7])])
def bivouaclaw19_PurseServes.B13 : List Nat := [0, 0, 3, 7, 0, 0, 48, 112, 255]
theorem bivouaclaw19_PurseServes.tab13 : rtab .any (opsOf Try.f18 13) = bivouaclaw19_PurseServes.T13 := by kernel_rfl
theorem bivouaclaw19_PurseServes.bits13 : waitsOk bivouaclaw19_PurseServes.T13.2 bivouaclaw19_PurseServes.B13 = true := by kernel_rfl
set_option maxHeartbeats 8000000 in
set_option maxRecDepth 100000 in
theorem bivouaclaw19_PurseServes.calls (k : Nat) (a0_0 : Int) (a0_1 : Int) (a0_2 : Int) (a0_3 : Int) (a1_0 : Int) (a1_1 : Int) (A2 : Option Addr) (c2 : Nat) (l2 : List (S48)) (w : World) (hr2 : Kd.C k48 w A2 l2.length l2) (hc2 : l2.length ≤ c2) (h : bivouaclaw19_PurseServes.f k a0_0 a0_1 a0_2 a0_3 a1_0 a1_1 l2 = some true) :
    Calls Try.prog 18 #[.agg #[.int .i64 a0_0, .int .i64 a0_1, .int .i64 a0_2, .int .i64 a0_3], .agg #[.int .i64 a1_0, .int .i64 a1_1], .slice A2 l2.length c2] w fun e w' => e = .returned (.bool true) ∧ Below w.heap.size w w' := by
  have hu59 := Try.underlying59
  have hu48 := Try.underlying48
  have HR2 := Aside0.mk hr2
  have HC2 := Aside0.mk hc2
  clear hr2 hc2
  have HB := Aside0.mk (Below.refl w.heap.size w)
  have H : ((bivouaclaw19_few.f l2).bind fun t145 => ((purse_Serve.f a0_0 a0_1 a0_2 a0_3 a1_0 a1_1 t145).bind fun bt148 => ((purse_May.f a0_0 a0_1 a0_2 a0_3).bind fun t158 => ((bivouacref19_May.f a0_0 a0_1 a0_2 a0_3).bind fun t159 => (if (t158 != t159) = true then (some false) else ((bivouacref19_May.f a0_0 a0_1 a0_2 a0_3).bind fun t160 => (if t160 = true then ((bivouacref19_Wish.f a1_0 a1_1).bind fun t161 => (if t161 = true then ((bivouaclaw19_may.f k t145).bind fun t162 => (bivouaclaw19_PurseServes.j0 k t145 bt148.2.2.2.2.1 bt148.2.2.2.2.2.1 bt148.2.2.2.2.2.2 (!t162) a0_0 a0_1 a0_2 a0_3 a1_0 a1_1 bt148.1 bt148.2.1 bt148.2.2.1 bt148.2.2.2.1)) else (bivouaclaw19_PurseServes.j0 k t145 bt148.2.2.2.2.1 bt148.2.2.2.2.2.1 bt148.2.2.2.2.2.2 true a0_0 a0_1 a0_2 a0_3 a1_0 a1_1 bt148.1 bt148.2.1 bt148.2.2.1 bt148.2.2.2.1))) else (bivouaclaw19_PurseServes.j0 k t145 bt148.2.2.2.2.1 bt148.2.2.2.2.2.1 bt148.2.2.2.2.2.2 true a0_0 a0_1 a0_2 a0_3 a1_0 a1_1 bt148.1 bt148.2.1 bt148.2.2.1 bt148.2.2.2.1)))))))) = some true := h
  clear h
  replace H := Option.bind_eq_some_iff.mp H
  obtain ⟨t145, A40, H⟩ := H
  replace H : ((purse_Serve.f a0_0 a0_1 a0_2 a0_3 a1_0 a1_1 t145).bind fun bt148 => ((purse_May.f a0_0 a0_1 a0_2 a0_3).bind fun t158 => ((bivouacref19_May.f a0_0 a0_1 a0_2 a0_3).bind fun t159 => (if (t158 != t159) = true then (some false) else ((bivouacref19_May.f a0_0 a0_1 a0_2 a0_3).bind fun t160 => (if t160 = true then ((bivouacref19_Wish.f a1_0 a1_1).bind fun t161 => (if t161 = true then ((bivouaclaw19_may.f k t145).bind fun t162 => (bivouaclaw19_PurseServes.j0 k t145 bt148.2.2.2.2.1 bt148.2.2.2.2.2.1 bt148.2.2.2.2.2.2 (!t162) a0_0 a0_1 a0_2 a0_3 a1_0 a1_1 bt148.1 bt148.2.1 bt148.2.2.1 bt148.2.2.2.1)) else (bivouaclaw19_PurseServes.j0 k t145 bt148.2.2.2.2.1 bt148.2.2.2.2.2.1 bt148.2.2.2.2.2.2 true a0_0 a0_1 a0_2 a0_3 a1_0 a1_1 bt148.1 bt148.2.1 bt148.2.2.1 bt148.2.2.2.1))) else (bivouaclaw19_PurseServes.j0 k t145 bt148.2.2.2.2.1 bt148.2.2.2.2.2.1 bt148.2.2.2.2.2.2 true a0_0 a0_1 a0_2 a0_3 a1_0 a1_1 bt148.1 bt148.2.1 bt148.2.2.1 bt148.2.2.2.1))))))) = some true := H
  have A4 := Aside0.mk A40
  clear A40
  replace H := Option.bind_eq_some_iff.mp H
  obtain ⟨⟨t148, t149, t150, t151, t152, t153, t156⟩, A50, H⟩ := H
  replace H : ((purse_May.f a0_0 a0_1 a0_2 a0_3).bind fun t158 => ((bivouacref19_May.f a0_0 a0_1 a0_2 a0_3).bind fun t159 => (if (t158 != t159) = true then (some false) else ((bivouacref19_May.f a0_0 a0_1 a0_2 a0_3).bind fun t160 => (if t160 = true then ((bivouacref19_Wish.f a1_0 a1_1).bind fun t161 => (if t161 = true then ((bivouaclaw19_may.f k t145).bind fun t162 => (bivouaclaw19_PurseServes.j0 k t145 t152 t153 t156 (!t162) a0_0 a0_1 a0_2 a0_3 a1_0 a1_1 t148 t149 t150 t151)) else (bivouaclaw19_PurseServes.j0 k t145 t152 t153 t156 true a0_0 a0_1 a0_2 a0_3 a1_0 a1_1 t148 t149 t150 t151))) else (bivouaclaw19_PurseServes.j0 k t145 t152 t153 t156 true a0_0 a0_1 a0_2 a0_3 a1_0 a1_1 t148 t149 t150 t151)))))) = some true := H
  have A5 := Aside0.mk A50
  clear A50
  replace H := Option.bind_eq_some_iff.mp H
  obtain ⟨t158, A60, H⟩ := H
  replace H : ((bivouacref19_May.f a0_0 a0_1 a0_2 a0_3).bind fun t159 => (if (t158 != t159) = true then (some false) else ((bivouacref19_May.f a0_0 a0_1 a0_2 a0_3).bind fun t160 => (if t160 = true then ((bivouacref19_Wish.f a1_0 a1_1).bind fun t161 => (if t161 = true then ((bivouaclaw19_may.f k t145).bind fun t162 => (bivouaclaw19_PurseServes.j0 k t145 t152 t153 t156 (!t162) a0_0 a0_1 a0_2 a0_3 a1_0 a1_1 t148 t149 t150 t151)) else (bivouaclaw19_PurseServes.j0 k t145 t152 t153 t156 true a0_0 a0_1 a0_2 a0_3 a1_0 a1_1 t148 t149 t150 t151))) else (bivouaclaw19_PurseServes.j0 k t145 t152 t153 t156 true a0_0 a0_1 a0_2 a0_3 a1_0 a1_1 t148 t149 t150 t151))))) = some true := H
  have A6 := Aside0.mk A60
  clear A60
  replace H := Option.bind_eq_some_iff.mp H
  obtain ⟨t159, A70, H⟩ := H
  replace H : (if (t158 != t159) = true then (some false) else ((bivouacref19_May.f a0_0 a0_1 a0_2 a0_3).bind fun t160 => (if t160 = true then ((bivouacref19_Wish.f a1_0 a1_1).bind fun t161 => (if t161 = true then ((bivouaclaw19_may.f k t145).bind fun t162 => (bivouaclaw19_PurseServes.j0 k t145 t152 t153 t156 (!t162) a0_0 a0_1 a0_2 a0_3 a1_0 a1_1 t148 t149 t150 t151)) else (bivouaclaw19_PurseServes.j0 k t145 t152 t153 t156 true a0_0 a0_1 a0_2 a0_3 a1_0 a1_1 t148 t149 t150 t151))) else (bivouaclaw19_PurseServes.j0 k t145 t152 t153 t156 true a0_0 a0_1 a0_2 a0_3 a1_0 a1_1 t148 t149 t150 t151)))) = some true := H
  have A7 := Aside0.mk A70
  clear A70
  by_cases c8 : (t158 != t159) = true
  · rw [if_pos c8] at H
    exact absurd H (by simp)
  · rw [if_neg c8] at H
    have c8b0 : (t158 != t159) = false := by simpa using c8
    (try (have c8b1 : decide (t158 = t159) = true := by simpa using c8))
    (try (have c8b2 : (t158 == t159) = true := by simpa using c8))
    clear c8
    have HC9 := Aside0.mk H
    clear H
    go_enter Try.func18, Try.ntmps18
    try go_wp2_with (first | ((with_reducible refine gate_dst (N := 3) rfl ?_); (try (refine gate_guard (by rfl) ?_; dsimp only)); refine box_event ?hg (N := 3) ?hd (cs := #[.int .i64 a0_0, .int .i64 a0_1, .int .i64 a0_2, .int .i64 a0_3]) (t := 59) ?hr ?_; (case hd => rfl); (case hg => rfl); (case hr => first | (go_simp; done) | (go_simp; rfl)); intro gb143 hg w10 hbox hb; have n0_ := Aside0.mk (below_step (by repeat (first | (with_reducible first | exact HB.out | apply below_alloc | apply pw_below_drewN | apply below_drew1) | exact HB.out)) hb); have n1_ := Aside0.mk (hbox); have n2_ := Aside0.mk ((by rw [hg]; exact (below_size (by repeat (first | (with_reducible first | exact HB.out | apply below_alloc | apply pw_below_drewN | apply below_drew1) | exact HB.out))) : w.heap.size ≤ gb143)); have n3_ := Aside0.mk ((by rw [hg]; exact (below_size (by repeat (first | (with_reducible first | exact HB.out | apply below_alloc | apply pw_below_drewN | apply below_drew1) | exact HB.out))) : w.heap.size ≤ gb143)); clear HB; have HB := n0_; have BK143 := n1_; have GW143 := n2_; have GE143 := n3_; clear n0_ n1_ n2_ n3_; clear hb hbox hg) | ((with_reducible refine gate_dst (N := 4) rfl ?_); (try (refine gate_guard (by rfl) ?_; dsimp only)); refine box_event ?hg (N := 4) ?hd (cs := #[.int .i64 a1_0, .int .i64 a1_1]) (t := 48) ?hr ?_; (case hd => rfl); (case hg => rfl); (case hr => first | (go_simp; done) | (go_simp; rfl)); intro gb144 hg w11 hbox hb; have n0_ := Aside0.mk (blk_below (g := gb143) (o := .cells #[.int .i64 a0_0, .int .i64 a0_1, .int .i64 a0_2, .int .i64 a0_3] 59 (0, 0)) (by (with_reducible repeat (first | refine blk_drewN ?_ _ | refine blk_drew ?_ | refine blk_alloc ?_ _)); exact BK143.out) hb); have n1_ := Aside0.mk (below_step (by repeat (first | (with_reducible first | exact HB.out | apply below_alloc | apply pw_below_drewN | apply below_drew1 | refine below_set ?_ GE143.out) | exact HB.out)) hb); have n2_ := Aside0.mk (hbox); have n3_ := Aside0.mk ((by rw [hg]; exact (below_size (by repeat (first | (with_reducible first | exact HB.out | apply below_alloc | apply pw_below_drewN | apply below_drew1 | refine below_set ?_ GE143.out) | exact HB.out))) : w.heap.size ≤ gb144)); have n4_ := Aside0.mk ((by rw [hg]; exact (below_size (by repeat (first | (with_reducible first | exact HB.out | apply below_alloc | apply pw_below_drewN | apply below_drew1 | refine below_set ?_ GE143.out) | exact HB.out))) : w.heap.size ≤ gb144)); have n5_ := Aside0.mk ((by rw [hg]; exact Nat.ne_of_lt (blk_lt (g := gb143) (o := .cells #[.int .i64 a0_0, .int .i64 a0_1, .int .i64 a0_2, .int .i64 a0_3] 59 (0, 0)) (by (with_reducible repeat (first | refine blk_drewN ?_ _ | refine blk_drew ?_ | refine blk_alloc ?_ _)); exact BK143.out)) : gb143 ≠ gb144)); have n6_ := Aside0.mk ((by rw [hg]; exact Nat.ne_of_gt (blk_lt (g := gb143) (o := .cells #[.int .i64 a0_0, .int .i64 a0_1, .int .i64 a0_2, .int .i64 a0_3] 59 (0, 0)) (by (with_reducible repeat (first | refine blk_drewN ?_ _ | refine blk_drew ?_ | refine blk_alloc ?_ _)); exact BK143.out)) : gb144 ≠ gb143)); clear BK143; clear HB; have BK143 := n0_; have HB := n1_; have BK144 := n2_; have GW144 := n3_; have GE144 := n4_; have NB143_144 := n5_; have NB144_143 := n6_; clear n0_ n1_ n2_ n3_ n4_ n5_ n6_; clear hb hbox hg) | ((with_reducible refine gate_callee (f := 58) rfl ?_); refine goesL_ (some 16) rfl rfl Try.func58 (by kernel_rfl) rfl #[.slice A2 l2.length c2] rfl (by (try simp only [List.map_toArray, List.map_cons, List.map_nil]); first | done | rfl | (simp only [List.length_drop, List.length_take]; rfl)) ?_; (with_reducible refine (bivouaclaw19_few.calls (fun k_ => k_ < w.heap.size) _ _ l2 t145 _ ?side1 A4.out).mono ?_); (case side1 => exact Kd.V_mk HC2.out (Kd.F_below (Kd.C_F k48_heap HR2.out) (by repeat (first | (with_reducible first | exact HB.out | apply below_alloc | apply pw_below_drewN | apply below_drew1 | refine below_set ?_ GE143.out | refine below_set ?_ GE144.out) | exact HB.out)))); rintro e w12 ⟨v146, rfl, ho0, hb⟩; refine ⟨_, rfl, ?_⟩; have n0_ := Aside0.mk (Kd.V_lower (Kd.V_mono (ok' := fun k_ => k_ ≠ gb143 ∧ k_ ≠ gb144) ho0 (fun k_ hk_ => ⟨Or.elim hk_ (fun hs_ => fun e_ => Nat.not_le.2 hs_ (by rw [e_]; exact GW143.out)) (fun hn_ => (Kd.freshB (g := gb143) (o := .cells #[.int .i64 a0_0, .int .i64 a0_1, .int .i64 a0_2, .int .i64 a0_3] 59 (0, 0)) (by (with_reducible repeat (first | refine blk_drewN ?_ _ | refine blk_drew ?_ | refine blk_alloc ?_ _)); exact BK143.out) k_ hn_)), Or.elim hk_ (fun hs_ => fun e_ => Nat.not_le.2 hs_ (by rw [e_]; exact GW144.out)) (fun hn_ => (Kd.freshB (g := gb144) (o := .cells #[.int .i64 a1_0, .int .i64 a1_1] 48 (0, 0)) (by (with_reducible repeat (first | refine blk_drewN ?_ _ | refine blk_drew ?_ | refine blk_alloc ?_ _)); exact BK144.out) k_ hn_))⟩)) (below_size (by repeat (first | (with_reducible first | exact HB.out | apply below_alloc | apply pw_below_drewN | apply below_drew1 | refine below_set ?_ GE143.out | refine below_set ?_ GE144.out) | exact HB.out)))); have n1_ := Aside0.mk (blk_below (g := gb143) (o := .cells #[.int .i64 a0_0, .int .i64 a0_1, .int .i64 a0_2, .int .i64 a0_3] 59 (0, 0)) (by (with_reducible repeat (first | refine blk_drewN ?_ _ | refine blk_drew ?_ | refine blk_alloc ?_ _)); exact BK143.out) hb); have n2_ := Aside0.mk (blk_below (g := gb144) (o := .cells #[.int .i64 a1_0, .int .i64 a1_1] 48 (0, 0)) (by (with_reducible repeat (first | refine blk_drewN ?_ _ | refine blk_drew ?_ | refine blk_alloc ?_ _)); exact BK144.out) hb); have n3_ := Aside0.mk (below_step (by repeat (first | (with_reducible first | exact HB.out | apply below_alloc | apply pw_below_drewN | apply below_drew1 | refine below_set ?_ GE143.out | refine below_set ?_ GE144.out) | exact HB.out)) hb); clear BK143; clear BK144; clear HB; have HO147 := n0_; have BK143 := n1_; have BK144 := n2_; have HB := n3_; clear n0_ n1_ n2_ n3_; (try clear hb); (try clear hb2); (try clear hk); (try clear hi); (try clear ho0); have hnb13 := NB143_144.out; have hnc13 := NB144_143.out; have hcz14_0 : w12.cell? ⟨gb143, 0, none⟩ = some (.int .i64 a0_0) := (blk_cell BK143.out 0).trans rfl; have hcz14_1 : w12.cell? ⟨gb143, 1, none⟩ = some (.int .i64 a0_1) := (blk_cell BK143.out 1).trans rfl; have hcz14_2 : w12.cell? ⟨gb143, 2, none⟩ = some (.int .i64 a0_2) := (blk_cell BK143.out 2).trans rfl; have hcz14_3 : w12.cell? ⟨gb143, 3, none⟩ = some (.int .i64 a0_3) := (blk_cell BK143.out 3).trans rfl; have hfz14_0 := blk_frozen BK143.out 0; have hfz14_1 := blk_frozen BK143.out 1; have hfz14_2 := blk_frozen BK143.out 2; have hfz14_3 := blk_frozen BK143.out 3; have hcz15_0 : w12.cell? ⟨gb144, 0, none⟩ = some (.int .i64 a1_0) := (blk_cell BK144.out 0).trans rfl; have hcz15_1 : w12.cell? ⟨gb144, 1, none⟩ = some (.int .i64 a1_1) := (blk_cell BK144.out 1).trans rfl; have hfz15_0 := blk_frozen BK144.out 0; have hfz15_1 := blk_frozen BK144.out 1; obtain ⟨Ao16, co16, eo16⟩ := Kd.V_slice HO147.out; subst eo16) | ((with_reducible refine gate_callee (f := 59) rfl ?_); refine goesL_ (some 21) rfl rfl Try.func59 (by kernel_rfl) rfl #[.agg #[.int .i64 a0_0, .int .i64 a0_1, .int .i64 a0_2, .int .i64 a0_3], .agg #[.int .i64 a1_0, .int .i64 a1_1], .slice Ao16 t145.length co16] rfl (by (try simp only [List.map_toArray, List.map_cons, List.map_nil]); first | done | rfl | (simp only [List.length_drop, List.length_take]; rfl)) ?_; (with_reducible refine (purse_Serve.calls a0_0 a0_1 a0_2 a0_3 a1_0 a1_1 _ _ t145 t148 t149 t150 t151 t152 t153 t156 _ ?side1 ?side2 A5.out).mono ?_); (case side1 => repeat (first | exact (Kd.V_reads' HO147.out).2.2 | (with_reducible refine Kd.C_alloc ?_ _) | (with_reducible refine Kd.C_drewN ?_ _) | (with_reducible refine Kd.C_drew ?_))); (case side2 => exact (Kd.V_reads' HO147.out).2.1); rintro e w17 ⟨v154, rfl, ho0, hb⟩; refine ⟨_, rfl, ?_⟩; have n0_ := Aside0.mk (Kd.V_elder' (by (with_reducible repeat (first | apply Kd.V_alloc | apply Kd.V_drewN | apply Kd.V_drew)); exact HO147.out) (Kd.R_base ho0) hb); have n1_ := Aside0.mk (Kd.R_lower (Kd.R_newB ho0 (g := gb144) (o := .cells #[.int .i64 a1_0, .int .i64 a1_1] 48 (0, 0)) (by (with_reducible repeat (first | refine blk_drewN ?_ _ | refine blk_drew ?_ | refine blk_alloc ?_ _)); exact BK144.out)) (below_size (by repeat (first | (with_reducible first | exact HB.out | apply below_alloc | apply pw_below_drewN | apply below_drew1 | refine below_set ?_ GE143.out | refine below_set ?_ GE144.out) | exact HB.out)))); have n2_ := Aside0.mk (blk_below (g := gb143) (o := .cells #[.int .i64 a0_0, .int .i64 a0_1, .int .i64 a0_2, .int .i64 a0_3] 59 (0, 0)) (by (with_reducible repeat (first | refine blk_drewN ?_ _ | refine blk_drew ?_ | refine blk_alloc ?_ _)); exact BK143.out) hb); have n3_ := Aside0.mk (blk_below (g := gb144) (o := .cells #[.int .i64 a1_0, .int .i64 a1_1] 48 (0, 0)) (by (with_reducible repeat (first | refine blk_drewN ?_ _ | refine blk_drew ?_ | refine blk_alloc ?_ _)); exact BK144.out) hb); have n4_ := Aside0.mk (below_step (by repeat (first | (with_reducible first | exact HB.out | apply below_alloc | apply pw_below_drewN | apply below_drew1 | refine below_set ?_ GE143.out | refine below_set ?_ GE144.out) | exact HB.out)) hb); clear HO147; clear BK143; clear BK144; clear HB; have HO147 := n0_; have HO155 := n1_; have BK143 := n2_; have BK144 := n3_; have HB := n4_; clear n0_ n1_ n2_ n3_ n4_; (try clear hb); (try clear hb2); (try clear hk); (try clear hi); (try clear ho0)) | ((with_reducible refine gate_dst (N := 7) rfl ?_); (try (refine gate_guard (by rfl) ?_; dsimp only)); refine box_event ?hg (N := 7) ?hd (cs := #[.int .i64 0, .int .i64 0, .int .i64 0, .int .i64 0]) (t := 59) ?hr ?_; (case hd => rfl); (case hg => rfl); (case hr => first | (go_simp; done) | (go_simp; rfl)); intro gb157 hg w18 hbox hb; have n0_ := Aside0.mk (Kd.V_below (Kd.V_elderB (by (with_reducible repeat (first | apply Kd.V_alloc | apply Kd.V_drewN | apply Kd.V_drew)); exact HO147.out) gb157 (Nat.le_of_eq hg.symm)) hb); have n1_ := Aside0.mk (Kd.R_below (by (with_reducible repeat (first | apply Kd.R_alloc | apply Kd.R_drewN | apply Kd.R_drew)); exact HO155.out) hb); have n2_ := Aside0.mk (blk_below (g := gb143) (o := .cells #[.int .i64 a0_0, .int .i64 a0_1, .int .i64 a0_2, .int .i64 a0_3] 59 (0, 0)) (by (with_reducible repeat (first | refine blk_drewN ?_ _ | refine blk_drew ?_ | refine blk_alloc ?_ _)); exact BK143.out) hb); have n3_ := Aside0.mk (blk_below (g := gb144) (o := .cells #[.int .i64 a1_0, .int .i64 a1_1] 48 (0, 0)) (by (with_reducible repeat (first | refine blk_drewN ?_ _ | refine blk_drew ?_ | refine blk_alloc ?_ _)); exact BK144.out) hb); have n4_ := Aside0.mk (below_step (by repeat (first | (with_reducible first | exact HB.out | apply below_alloc | apply pw_below_drewN | apply below_drew1 | refine below_set ?_ GE143.out | refine below_set ?_ GE144.out) | exact HB.out)) hb); have n5_ := Aside0.mk (hbox); have n6_ := Aside0.mk ((by rw [hg]; exact (below_size (by repeat (first | (with_reducible first | exact HB.out | apply below_alloc | apply pw_below_drewN | apply below_drew1 | refine below_set ?_ GE143.out | refine below_set ?_ GE144.out) | exact HB.out))) : w.heap.size ≤ gb157)); have n7_ := Aside0.mk ((by rw [hg]; exact (below_size (by repeat (first | (with_reducible first | exact HB.out | apply below_alloc | apply pw_below_drewN | apply below_drew1 | refine below_set ?_ GE143.out | refine below_set ?_ GE144.out) | exact HB.out))) : w.heap.size ≤ gb157)); have n8_ := Aside0.mk ((by rw [hg]; exact Nat.ne_of_lt (blk_lt (g := gb143) (o := .cells #[.int .i64 a0_0, .int .i64 a0_1, .int .i64 a0_2, .int .i64 a0_3] 59 (0, 0)) (by (with_reducible repeat (first | refine blk_drewN ?_ _ | refine blk_drew ?_ | refine blk_alloc ?_ _)); exact BK143.out)) : gb143 ≠ gb157)); have n9_ := Aside0.mk ((by rw [hg]; exact Nat.ne_of_gt (blk_lt (g := gb143) (o := .cells #[.int .i64 a0_0, .int .i64 a0_1, .int .i64 a0_2, .int .i64 a0_3] 59 (0, 0)) (by (with_reducible repeat (first | refine blk_drewN ?_ _ | refine blk_drew ?_ | refine blk_alloc ?_ _)); exact BK143.out)) : gb157 ≠ gb143)); have n10_ := Aside0.mk ((by rw [hg]; exact Nat.ne_of_lt (blk_lt (g := gb144) (o := .cells #[.int .i64 a1_0, .int .i64 a1_1] 48 (0, 0)) (by (with_reducible repeat (first | refine blk_drewN ?_ _ | refine blk_drew ?_ | refine blk_alloc ?_ _)); exact BK144.out)) : gb144 ≠ gb157)); have n11_ := Aside0.mk ((by rw [hg]; exact Nat.ne_of_gt (blk_lt (g := gb144) (o := .cells #[.int .i64 a1_0, .int .i64 a1_1] 48 (0, 0)) (by (with_reducible repeat (first | refine blk_drewN ?_ _ | refine blk_drew ?_ | refine blk_alloc ?_ _)); exact BK144.out)) : gb157 ≠ gb144)); clear HO147; clear HO155; clear BK143; clear BK144; clear HB; have HO147 := n0_; have HO155 := n1_; have BK143 := n2_; have BK144 := n3_; have HB := n4_; have BK157 := n5_; have GW157 := n6_; have GE157 := n7_; have NB143_157 := n8_; have NB157_143 := n9_; have NB144_157 := n10_; have NB157_144 := n11_; clear n0_ n1_ n2_ n3_ n4_ n5_ n6_ n7_ n8_ n9_ n10_ n11_; clear hb hbox hg; have hnb19 := NB157_143.out; have hnc19 := NB143_157.out; have hnb20 := NB157_144.out; have hnc20 := NB144_157.out; have hcz21_0 : w18.cell? ⟨gb157, 0, none⟩ = some (.int .i64 0) := (blk_cell BK157.out 0).trans rfl; have hcz21_1 : w18.cell? ⟨gb157, 1, none⟩ = some (.int .i64 0) := (blk_cell BK157.out 1).trans rfl; have hcz21_2 : w18.cell? ⟨gb157, 2, none⟩ = some (.int .i64 0) := (blk_cell BK157.out 2).trans rfl; have hcz21_3 : w18.cell? ⟨gb157, 3, none⟩ = some (.int .i64 0) := (blk_cell BK157.out 3).trans rfl; have hfz21_0 := blk_frozen BK157.out 0; have hfz21_1 := blk_frozen BK157.out 1; have hfz21_2 := blk_frozen BK157.out 2; have hfz21_3 := blk_frozen BK157.out 3))
    have n0_ : Aside0 (Kd.V k48 48 ((((w18.setCell ⟨gb157, 0, none⟩ (.int .i64 t148)).setCell ⟨gb157, 1, none⟩ (.int .i64 t149)).setCell ⟨gb157, 2, none⟩ (.int .i64 t150)).setCell ⟨gb157, 3, none⟩ (.int .i64 t151)) w.heap.size (fun k_ => some k_ ≠ (v154 : Value).ownBlock ∧ k_ ≠ gb143 ∧ k_ ≠ gb144 ∧ k_ ≠ gb157) (.slice Ao16 t145.length co16) t145) := ⟨by (with_reducible repeat (first | apply Kd.V_alloc | apply Kd.V_drewN | apply Kd.V_drew)); exact Kd.V_mono (Kd.V_far (p := ⟨gb157, 3, none⟩) (Kd.V_far (p := ⟨gb157, 2, none⟩) (Kd.V_far (p := ⟨gb157, 1, none⟩) (Kd.V_far (p := ⟨gb157, 0, none⟩) (Kd.V_mono HO147.out (fun k_ hk => (⟨hk, hk.2⟩ : _ ∧ k_ ≠ gb157))) (fun _ hk => hk.2) (.int .i64 t148)) (fun _ hk => hk.2) (.int .i64 t149)) (fun _ hk => hk.2) (.int .i64 t150)) (fun _ hk => hk.2) (.int .i64 t151)) (fun _ hk => ⟨hk.1.1.2, ⟨hk.1.1.1.1, ⟨hk.1.1.1.2, hk.1.2⟩⟩⟩)⟩
    have n1_ : Aside0 (Kd.R k48 48 ((((w18.setCell ⟨gb157, 0, none⟩ (.int .i64 t148)).setCell ⟨gb157, 1, none⟩ (.int .i64 t149)).setCell ⟨gb157, 2, none⟩ (.int .i64 t150)).setCell ⟨gb157, 3, none⟩ (.int .i64 t151)) w.heap.size (fun k_ => k_ ≠ gb144) v154 t153) := ⟨by (with_reducible repeat (first | apply Kd.R_alloc | apply Kd.R_drewN | apply Kd.R_drew)); exact Kd.R_mono (Kd.R_far (p := ⟨gb157, 3, none⟩) (Kd.R_far (p := ⟨gb157, 2, none⟩) (Kd.R_far (p := ⟨gb157, 1, none⟩) (Kd.R_far (p := ⟨gb157, 0, none⟩) (Kd.R_types HO155.out BK157.out (by decide)) (fun _ hk => hk.2) (.int .i64 t148)) (fun _ hk => hk.2) (.int .i64 t149)) (fun _ hk => hk.2) (.int .i64 t150)) (fun _ hk => hk.2) (.int .i64 t151)) (fun _ hk => hk.1.2)⟩
    have n2_ : Aside0 (((((w18.setCell ⟨gb157, 0, none⟩ (.int .i64 t148)).setCell ⟨gb157, 1, none⟩ (.int .i64 t149)).setCell ⟨gb157, 2, none⟩ (.int .i64 t150)).setCell ⟨gb157, 3, none⟩ (.int .i64 t151)).heap[gb143]? = some (.cells #[.int .i64 a0_0, .int .i64 a0_1, .int .i64 a0_2, .int .i64 a0_3] 59 (0, 0))) := ⟨by (with_reducible repeat (first | refine blk_drewN ?_ _ | refine blk_drew ?_ | refine blk_alloc ?_ _)); refine blk_far ?_ NB143_157.out _; (with_reducible repeat (first | refine blk_drewN ?_ _ | refine blk_drew ?_ | refine blk_alloc ?_ _)); refine blk_far ?_ NB143_157.out _; (with_reducible repeat (first | refine blk_drewN ?_ _ | refine blk_drew ?_ | refine blk_alloc ?_ _)); refine blk_far ?_ NB143_157.out _; (with_reducible repeat (first | refine blk_drewN ?_ _ | refine blk_drew ?_ | refine blk_alloc ?_ _)); refine blk_far ?_ NB143_157.out _; (with_reducible repeat (first | refine blk_drewN ?_ _ | refine blk_drew ?_ | refine blk_alloc ?_ _)); exact BK143.out⟩
    have n3_ : Aside0 (((((w18.setCell ⟨gb157, 0, none⟩ (.int .i64 t148)).setCell ⟨gb157, 1, none⟩ (.int .i64 t149)).setCell ⟨gb157, 2, none⟩ (.int .i64 t150)).setCell ⟨gb157, 3, none⟩ (.int .i64 t151)).heap[gb144]? = some (.cells #[.int .i64 a1_0, .int .i64 a1_1] 48 (0, 0))) := ⟨by (with_reducible repeat (first | refine blk_drewN ?_ _ | refine blk_drew ?_ | refine blk_alloc ?_ _)); refine blk_far ?_ NB144_157.out _; (with_reducible repeat (first | refine blk_drewN ?_ _ | refine blk_drew ?_ | refine blk_alloc ?_ _)); refine blk_far ?_ NB144_157.out _; (with_reducible repeat (first | refine blk_drewN ?_ _ | refine blk_drew ?_ | refine blk_alloc ?_ _)); refine blk_far ?_ NB144_157.out _; (with_reducible repeat (first | refine blk_drewN ?_ _ | refine blk_drew ?_ | refine blk_alloc ?_ _)); refine blk_far ?_ NB144_157.out _; (with_reducible repeat (first | refine blk_drewN ?_ _ | refine blk_drew ?_ | refine blk_alloc ?_ _)); exact BK144.out⟩
    have n4_ : Aside0 (((((w18.setCell ⟨gb157, 0, none⟩ (.int .i64 t148)).setCell ⟨gb157, 1, none⟩ (.int .i64 t149)).setCell ⟨gb157, 2, none⟩ (.int .i64 t150)).setCell ⟨gb157, 3, none⟩ (.int .i64 t151)).heap[gb157]? = some (.cells #[.int .i64 t148, .int .i64 t149, .int .i64 t150, .int .i64 t151] 59 (0, 0))) := ⟨by (with_reducible repeat (first | refine blk_drewN ?_ _ | refine blk_drew ?_ | refine blk_alloc ?_ _)); refine blk_put (cs := #[.int .i64 t148, .int .i64 t149, .int .i64 t150, .int .i64 0]) ?_ 3 _ rfl; (with_reducible repeat (first | refine blk_drewN ?_ _ | refine blk_drew ?_ | refine blk_alloc ?_ _)); refine blk_put (cs := #[.int .i64 t148, .int .i64 t149, .int .i64 0, .int .i64 0]) ?_ 2 _ rfl; (with_reducible repeat (first | refine blk_drewN ?_ _ | refine blk_drew ?_ | refine blk_alloc ?_ _)); refine blk_put (cs := #[.int .i64 t148, .int .i64 0, .int .i64 0, .int .i64 0]) ?_ 1 _ rfl; (with_reducible repeat (first | refine blk_drewN ?_ _ | refine blk_drew ?_ | refine blk_alloc ?_ _)); refine blk_put (cs := #[.int .i64 0, .int .i64 0, .int .i64 0, .int .i64 0]) ?_ 0 _ rfl; (with_reducible repeat (first | refine blk_drewN ?_ _ | refine blk_drew ?_ | refine blk_alloc ?_ _)); exact BK157.out⟩
    have n5_ : Aside0 (Below w.heap.size w ((((w18.setCell ⟨gb157, 0, none⟩ (.int .i64 t148)).setCell ⟨gb157, 1, none⟩ (.int .i64 t149)).setCell ⟨gb157, 2, none⟩ (.int .i64 t150)).setCell ⟨gb157, 3, none⟩ (.int .i64 t151))) := ⟨by repeat (first | (with_reducible first | exact HB.out | apply below_alloc | apply pw_below_drewN | apply below_drew1 | refine below_set ?_ GE143.out | refine below_set ?_ GE144.out | refine below_set ?_ GE157.out) | exact HB.out)⟩
    (try clear HO147)
    (try clear HO155)
    (try clear BK143)
    (try clear BK144)
    (try clear BK157)
    (try clear HB)
    generalize ((((w18.setCell ⟨gb157, 0, none⟩ (.int .i64 t148)).setCell ⟨gb157, 1, none⟩ (.int .i64 t149)).setCell ⟨gb157, 2, none⟩ (.int .i64 t150)).setCell ⟨gb157, 3, none⟩ (.int .i64 t151)) = w22 at n0_ n1_ n2_ n3_ n4_ n5_ ⊢
    have HO147 := n0_
    have HO155 := n1_
    have BK143 := n2_
    have BK144 := n3_
    have BK157 := n4_
    have HB := n5_
    clear n0_ n1_ n2_ n3_ n4_ n5_
    have n0_ := Aside0.mk (Kd.V_drew HO147.out)
    have n1_ := Aside0.mk (Kd.R_drew HO155.out)
    have n2_ := Aside0.mk (blk_drew BK143.out)
    have n3_ := Aside0.mk (blk_drew BK144.out)
    have n4_ := Aside0.mk (blk_drew BK157.out)
    have n5_ := Aside0.mk (below_drew1 HB.out)
    clear HO147
    clear HO155
    clear BK143
    clear BK144
    clear BK157
    clear HB
    have HO147 := n0_
    have HO155 := n1_
    have BK143 := n2_
    have BK144 := n3_
    have BK157 := n4_
    have HB := n5_
    clear n0_ n1_ n2_ n3_ n4_ n5_
    refine start_ (n := 5) (S := fun w' => w'.cell? ⟨gb143, 0, none⟩ = some (.int .i64 a0_0) ∧ w'.cell? ⟨gb143, 1, none⟩ = some (.int .i64 a0_1) ∧ w'.cell? ⟨gb143, 2, none⟩ = some (.int .i64 a0_2) ∧ w'.cell? ⟨gb143, 3, none⟩ = some (.int .i64 a0_3)) (ds := []) #[false, false, false, false, false] (by kernel_rfl) rfl rfl ⟨(blk_cell BK143.out 0).trans rfl, (blk_cell BK143.out 1).trans rfl, (blk_cell BK143.out 2).trans rfl, (blk_cell BK143.out 3).trans rfl⟩ (fun hHeld => ?_)
    generalize w22.drew = w23 at HO147 HO155 BK143 BK144 BK157 HB hHeld ⊢
    refine take_ (i := 0) (N := some 26) (v := ?_) (a' := ?_) #[true, false, false, false, false] rfl rfl (by kernel_rfl) (fun _ _ _ h => h) (Or.inl ⟨by rfl, ?_⟩) hHeld ?_ ?_
    rotate_left
    · rintro w' ⟨s0, s1, s2, s3⟩
      go_simp
      with_reducible rfl
    rotate_left
    · simp only [Act.put, List.setIfInBounds_toArray, List.set_cons_zero, List.set_cons_succ, i64_w, i32_w]
      rfl
    refine take_ (i := 2) (N := some 28) (v := ?_) (a' := ?_) #[true, false, true, false, false] rfl rfl (by kernel_rfl) (fun _ _ _ h => h) (Or.inl ⟨by rfl, ?_⟩) hHeld ?_ ?_
    rotate_left
    · rintro w' ⟨s0, s1, s2, s3⟩
      go_simp
      with_reducible rfl
    rotate_left
    · simp only [Act.put, List.setIfInBounds_toArray, List.set_cons_zero, List.set_cons_succ, i64_w, i32_w]
      rfl
    refine one_ (i := 1) (N := some 27) #[true, true, true, false, false] rfl rfl (by kernel_rfl) (by decide) (fun K hK => ?_)
    refine goes_ Try.func60 (by kernel_rfl) rfl #[.agg #[.int .i64 a0_0, .int .i64 a0_1, .int .i64 a0_2, .int .i64 a0_3]] (by rfl) rfl rfl (by (try simp only [List.map_toArray, List.map_cons, List.map_nil]); first | done | rfl | (simp only [List.length_drop, List.length_take]; rfl)) ?_
    with_reducible refine (purse_May.calls a0_0 a0_1 a0_2 a0_3 t158 _ A6.out).mono ?_
    rintro e w24 ⟨rfl, hb⟩
    refine ⟨_, rfl, ?_⟩
    have n0_ := Aside0.mk (Kd.V_below (by (with_reducible repeat (first | apply Kd.V_alloc | apply Kd.V_drewN | apply Kd.V_drew)); exact HO147.out) hb)
    have n1_ := Aside0.mk (Kd.R_below (by (with_reducible repeat (first | apply Kd.R_alloc | apply Kd.R_drewN | apply Kd.R_drew)); exact HO155.out) hb)
    have n2_ := Aside0.mk (blk_below (g := gb143) (o := .cells #[.int .i64 a0_0, .int .i64 a0_1, .int .i64 a0_2, .int .i64 a0_3] 59 (0, 0)) (by (with_reducible repeat (first | refine blk_drewN ?_ _ | refine blk_drew ?_ | refine blk_alloc ?_ _)); exact BK143.out) hb)
    have n3_ := Aside0.mk (blk_below (g := gb144) (o := .cells #[.int .i64 a1_0, .int .i64 a1_1] 48 (0, 0)) (by (with_reducible repeat (first | refine blk_drewN ?_ _ | refine blk_drew ?_ | refine blk_alloc ?_ _)); exact BK144.out) hb)
    have n4_ := Aside0.mk (blk_below (g := gb157) (o := .cells #[.int .i64 t148, .int .i64 t149, .int .i64 t150, .int .i64 t151] 59 (0, 0)) (by (with_reducible repeat (first | refine blk_drewN ?_ _ | refine blk_drew ?_ | refine blk_alloc ?_ _)); exact BK157.out) hb)
    have n5_ := Aside0.mk (below_step (by repeat (first | (with_reducible first | exact HB.out | apply below_alloc | apply pw_below_drewN | apply below_drew1 | refine below_set ?_ GE143.out | refine below_set ?_ GE144.out | refine below_set ?_ GE157.out) | exact HB.out)) hb)
    clear HO147
    clear HO155
    clear BK143
    clear BK144
    clear BK157
    clear HB
    have HO147 := n0_
    have HO155 := n1_
    have BK143 := n2_
    have BK144 := n3_
    have BK157 := n4_
    have HB := n5_
    clear n0_ n1_ n2_ n3_ n4_ n5_
    (try clear hb)
    (try clear hb2)
    (try clear hk)
    (try clear hi)
    refine hK.out _ _ ⟨(blk_cell BK143.out 0).trans rfl, (blk_cell BK143.out 1).trans rfl, (blk_cell BK143.out 2).trans rfl, (blk_cell BK143.out 3).trans rfl⟩ (fun hHeld => ?_)
    clear hK K
    refine norm_ (a' := ?_) ?_ ?_
    rotate_left
    · show Act.put _ (some 27) _ = _
      simp only [Act.put, List.setIfInBounds_toArray, List.set_cons_zero, List.set_cons_succ, i64_w, i32_w]
      rfl
    refine one_ (i := 3) (N := some 29) #[true, true, true, true, false] rfl rfl (by kernel_rfl) (by decide) (fun K hK => ?_)
    refine goes_ Try.func61 (by kernel_rfl) rfl #[.agg #[.int .i64 a0_0, .int .i64 a0_1, .int .i64 a0_2, .int .i64 a0_3]] (by rfl) rfl rfl (by (try simp only [List.map_toArray, List.map_cons, List.map_nil]); first | done | rfl | (simp only [List.length_drop, List.length_take]; rfl)) ?_
    with_reducible refine (bivouacref19_May.calls a0_0 a0_1 a0_2 a0_3 t159 _ A7.out).mono ?_
    rintro e w25 ⟨rfl, hb⟩
    refine ⟨_, rfl, ?_⟩
    have n0_ := Aside0.mk (Kd.V_below (by (with_reducible repeat (first | apply Kd.V_alloc | apply Kd.V_drewN | apply Kd.V_drew)); exact HO147.out) hb)
    have n1_ := Aside0.mk (Kd.R_below (by (with_reducible repeat (first | apply Kd.R_alloc | apply Kd.R_drewN | apply Kd.R_drew)); exact HO155.out) hb)
    have n2_ := Aside0.mk (blk_below (g := gb143) (o := .cells #[.int .i64 a0_0, .int .i64 a0_1, .int .i64 a0_2, .int .i64 a0_3] 59 (0, 0)) (by (with_reducible repeat (first | refine blk_drewN ?_ _ | refine blk_drew ?_ | refine blk_alloc ?_ _)); exact BK143.out) hb)
    have n3_ := Aside0.mk (blk_below (g := gb144) (o := .cells #[.int .i64 a1_0, .int .i64 a1_1] 48 (0, 0)) (by (with_reducible repeat (first | refine blk_drewN ?_ _ | refine blk_drew ?_ | refine blk_alloc ?_ _)); exact BK144.out) hb)
    have n4_ := Aside0.mk (blk_below (g := gb157) (o := .cells #[.int .i64 t148, .int .i64 t149, .int .i64 t150, .int .i64 t151] 59 (0, 0)) (by (with_reducible repeat (first | refine blk_drewN ?_ _ | refine blk_drew ?_ | refine blk_alloc ?_ _)); exact BK157.out) hb)
    have n5_ := Aside0.mk (below_step (by repeat (first | (with_reducible first | exact HB.out | apply below_alloc | apply pw_below_drewN | apply below_drew1 | refine below_set ?_ GE143.out | refine below_set ?_ GE144.out | refine below_set ?_ GE157.out) | exact HB.out)) hb)
    clear HO147
    clear HO155
    clear BK143
    clear BK144
    clear BK157
    clear HB
    have HO147 := n0_
    have HO155 := n1_
    have BK143 := n2_
    have BK144 := n3_
    have BK157 := n4_
    have HB := n5_
    clear n0_ n1_ n2_ n3_ n4_ n5_
    (try clear hb)
    (try clear hb2)
    (try clear hk)
    (try clear hi)
    refine hK.out _ _ ⟨(blk_cell BK143.out 0).trans rfl, (blk_cell BK143.out 1).trans rfl, (blk_cell BK143.out 2).trans rfl, (blk_cell BK143.out 3).trans rfl⟩ (fun hHeld => ?_)
    clear hK K
    refine norm_ (a' := ?_) ?_ ?_
    rotate_left
    · show Act.put _ (some 29) _ = _
      simp only [Act.put, List.setIfInBounds_toArray, List.set_cons_zero, List.set_cons_succ, i64_w, i32_w]
      rfl
    refine pure_ (i := 4) (N := some 30) (v := ?_) (a' := ?_) #[true, true, true, true, true] rfl rfl (by kernel_rfl) (fun _ _ _ h => h) (Or.inl ⟨by rfl, ?_⟩) ?_ ?_
    rotate_left
    · intro w'
      go_simp
      with_reducible rfl
    rotate_left
    · simp only [Act.put, List.setIfInBounds_toArray, List.set_cons_zero, List.set_cons_succ, i64_w, i32_w]
      rfl
    refine done_ (by kernel_rfl) ?_
    go_upto_region 5 with (fail)
    go_cut [43] (fun v43 wc => ∃ (kq : Nat) (x43_8 : Bool), v43 = .bool x43_8 ∧ Aside0 (bivouaclaw19_PurseServes.j0 kq t145 t152 t153 t156 x43_8 a0_0 a0_1 a0_2 a0_3 a1_0 a1_1 t148 t149 t150 t151 = some true) ∧ Aside0 (kq ≤ k) ∧ Aside0 (Kd.V k48 48 wc w.heap.size (fun k_ => some k_ ≠ (v154 : Value).ownBlock ∧ k_ ≠ gb143 ∧ k_ ≠ gb144 ∧ k_ ≠ gb157) (.slice Ao16 t145.length co16) t145) ∧ Aside0 (Kd.R k48 48 wc w.heap.size (fun k_ => k_ ≠ gb144) v154 t153) ∧ Aside0 (wc.heap[gb143]? = some (.cells #[.int .i64 a0_0, .int .i64 a0_1, .int .i64 a0_2, .int .i64 a0_3] 59 (0, 0))) ∧ Aside0 (wc.heap[gb144]? = some (.cells #[.int .i64 a1_0, .int .i64 a1_1] 48 (0, 0))) ∧ Aside0 (wc.heap[gb157]? = some (.cells #[.int .i64 t148, .int .i64 t149, .int .i64 t150, .int .i64 t151] 59 (0, 0))) ∧ Aside0 (Below w.heap.size w wc))
    case first =>
      have H := HC9.out
      clear HC9
      replace H := Option.bind_eq_some_iff.mp H
      obtain ⟨t160_q, A260, H⟩ := H
      obtain rfl : t159 = t160_q := Option.some.inj (A7.out.symm.trans A260)
      replace H : (if t159 = true then ((bivouacref19_Wish.f a1_0 a1_1).bind fun t161 => (if t161 = true then ((bivouaclaw19_may.f k t145).bind fun t162 => (bivouaclaw19_PurseServes.j0 k t145 t152 t153 t156 (!t162) a0_0 a0_1 a0_2 a0_3 a1_0 a1_1 t148 t149 t150 t151)) else (bivouaclaw19_PurseServes.j0 k t145 t152 t153 t156 true a0_0 a0_1 a0_2 a0_3 a1_0 a1_1 t148 t149 t150 t151))) else (bivouaclaw19_PurseServes.j0 k t145 t152 t153 t156 true a0_0 a0_1 a0_2 a0_3 a1_0 a1_1 t148 t149 t150 t151)) = some true := H
      have A26 := Aside0.mk A260
      clear A260
      by_cases c27 : t159 = true
      · subst c27
        have H1 : ((bivouacref19_Wish.f a1_0 a1_1).bind fun t161 => (if t161 = true then ((bivouaclaw19_may.f k t145).bind fun t162 => (bivouaclaw19_PurseServes.j0 k t145 t152 t153 t156 (!t162) a0_0 a0_1 a0_2 a0_3 a1_0 a1_1 t148 t149 t150 t151)) else (bivouaclaw19_PurseServes.j0 k t145 t152 t153 t156 true a0_0 a0_1 a0_2 a0_3 a1_0 a1_1 t148 t149 t150 t151))) = some true := by rw [if_pos rfl] at H; exact H
        clear H
        have H := H1
        clear H1
        replace H := Option.bind_eq_some_iff.mp H
        obtain ⟨t161, A280, H⟩ := H
        replace H : (if t161 = true then ((bivouaclaw19_may.f k t145).bind fun t162 => (bivouaclaw19_PurseServes.j0 k t145 t152 t153 t156 (!t162) a0_0 a0_1 a0_2 a0_3 a1_0 a1_1 t148 t149 t150 t151)) else (bivouaclaw19_PurseServes.j0 k t145 t152 t153 t156 true a0_0 a0_1 a0_2 a0_3 a1_0 a1_1 t148 t149 t150 t151)) = some true := H
        have A28 := Aside0.mk A280
        clear A280
        by_cases c29 : t161 = true
        · subst c29
          have H1 : ((bivouaclaw19_may.f k t145).bind fun t162 => (bivouaclaw19_PurseServes.j0 k t145 t152 t153 t156 (!t162) a0_0 a0_1 a0_2 a0_3 a1_0 a1_1 t148 t149 t150 t151)) = some true := by rw [if_pos rfl] at H; exact H
          clear H
          have H := H1
          clear H1
          replace H := Option.bind_eq_some_iff.mp H
          obtain ⟨t162, A300, H⟩ := H
          replace H : (bivouaclaw19_PurseServes.j0 k t145 t152 t153 t156 (!t162) a0_0 a0_1 a0_2 a0_3 a1_0 a1_1 t148 t149 t150 t151) = some true := H
          have A30 := Aside0.mk A300
          clear A300
          have H' := Aside0.mk H
          clear H
          have hnb31 := NB143_144.out
          have hnc31 := NB144_143.out
          have hnb32 := NB143_157.out
          have hnc32 := NB157_143.out
          have hcz33_0 : w25.cell? ⟨gb143, 0, none⟩ = some (.int .i64 a0_0) := (blk_cell BK143.out 0).trans rfl
          have hcz33_1 : w25.cell? ⟨gb143, 1, none⟩ = some (.int .i64 a0_1) := (blk_cell BK143.out 1).trans rfl
          have hcz33_2 : w25.cell? ⟨gb143, 2, none⟩ = some (.int .i64 a0_2) := (blk_cell BK143.out 2).trans rfl
          have hcz33_3 : w25.cell? ⟨gb143, 3, none⟩ = some (.int .i64 a0_3) := (blk_cell BK143.out 3).trans rfl
          have hfz33_0 := blk_frozen BK143.out 0
          have hfz33_1 := blk_frozen BK143.out 1
          have hfz33_2 := blk_frozen BK143.out 2
          have hfz33_3 := blk_frozen BK143.out 3
          go_wp2_with (first | ((with_reducible refine gate_callee (f := 61) rfl ?_); refine goesL_ (some 32) rfl rfl Try.func61 (by kernel_rfl) rfl #[.agg #[.int .i64 a0_0, .int .i64 a0_1, .int .i64 a0_2, .int .i64 a0_3]] rfl (by (try simp only [List.map_toArray, List.map_cons, List.map_nil]); first | done | rfl | (simp only [List.length_drop, List.length_take]; rfl)) ?_; (with_reducible refine (bivouacref19_May.calls a0_0 a0_1 a0_2 a0_3 true _ A26.out).mono ?_); rintro e w34 ⟨rfl, hb⟩; refine ⟨_, rfl, ?_⟩; have n0_ := Aside0.mk (Kd.V_below (by (with_reducible repeat (first | apply Kd.V_alloc | apply Kd.V_drewN | apply Kd.V_drew)); exact HO147.out) hb); have n1_ := Aside0.mk (Kd.R_below (by (with_reducible repeat (first | apply Kd.R_alloc | apply Kd.R_drewN | apply Kd.R_drew)); exact HO155.out) hb); have n2_ := Aside0.mk (blk_below (g := gb143) (o := .cells #[.int .i64 a0_0, .int .i64 a0_1, .int .i64 a0_2, .int .i64 a0_3] 59 (0, 0)) (by (with_reducible repeat (first | refine blk_drewN ?_ _ | refine blk_drew ?_ | refine blk_alloc ?_ _)); exact BK143.out) hb); have n3_ := Aside0.mk (blk_below (g := gb144) (o := .cells #[.int .i64 a1_0, .int .i64 a1_1] 48 (0, 0)) (by (with_reducible repeat (first | refine blk_drewN ?_ _ | refine blk_drew ?_ | refine blk_alloc ?_ _)); exact BK144.out) hb); have n4_ := Aside0.mk (blk_below (g := gb157) (o := .cells #[.int .i64 t148, .int .i64 t149, .int .i64 t150, .int .i64 t151] 59 (0, 0)) (by (with_reducible repeat (first | refine blk_drewN ?_ _ | refine blk_drew ?_ | refine blk_alloc ?_ _)); exact BK157.out) hb); have n5_ := Aside0.mk (below_step (by repeat (first | (with_reducible first | exact HB.out | apply below_alloc | apply pw_below_drewN | apply below_drew1 | refine below_set ?_ GE143.out | refine below_set ?_ GE144.out | refine below_set ?_ GE157.out) | exact HB.out)) hb); clear HO147; clear HO155; clear BK143; clear BK144; clear BK157; clear HB; have HO147 := n0_; have HO155 := n1_; have BK143 := n2_; have BK144 := n3_; have BK157 := n4_; have HB := n5_; clear n0_ n1_ n2_ n3_ n4_ n5_; (try clear hb); (try clear hb2); (try clear hk); (try clear hi); have hnb35 := NB144_157.out; have hnc35 := NB157_144.out; have hcz36_0 : w34.cell? ⟨gb144, 0, none⟩ = some (.int .i64 a1_0) := (blk_cell BK144.out 0).trans rfl; have hcz36_1 : w34.cell? ⟨gb144, 1, none⟩ = some (.int .i64 a1_1) := (blk_cell BK144.out 1).trans rfl; have hfz36_0 := blk_frozen BK144.out 0; have hfz36_1 := blk_frozen BK144.out 1) | (go_at_call 55; (with_reducible refine (bivouacref19_Wish.calls a1_0 a1_1 true _ A28.out).mono ?_); rintro e w37 ⟨rfl, hb⟩; have n0_ := Aside0.mk (Kd.V_below (by (with_reducible repeat (first | apply Kd.V_alloc | apply Kd.V_drewN | apply Kd.V_drew)); exact HO147.out) hb); have n1_ := Aside0.mk (Kd.R_below (by (with_reducible repeat (first | apply Kd.R_alloc | apply Kd.R_drewN | apply Kd.R_drew)); exact HO155.out) hb); have n2_ := Aside0.mk (blk_below (g := gb143) (o := .cells #[.int .i64 a0_0, .int .i64 a0_1, .int .i64 a0_2, .int .i64 a0_3] 59 (0, 0)) (by (with_reducible repeat (first | refine blk_drewN ?_ _ | refine blk_drew ?_ | refine blk_alloc ?_ _)); exact BK143.out) hb); have n3_ := Aside0.mk (blk_below (g := gb144) (o := .cells #[.int .i64 a1_0, .int .i64 a1_1] 48 (0, 0)) (by (with_reducible repeat (first | refine blk_drewN ?_ _ | refine blk_drew ?_ | refine blk_alloc ?_ _)); exact BK144.out) hb); have n4_ := Aside0.mk (blk_below (g := gb157) (o := .cells #[.int .i64 t148, .int .i64 t149, .int .i64 t150, .int .i64 t151] 59 (0, 0)) (by (with_reducible repeat (first | refine blk_drewN ?_ _ | refine blk_drew ?_ | refine blk_alloc ?_ _)); exact BK157.out) hb); have n5_ := Aside0.mk (below_step (by repeat (first | (with_reducible first | exact HB.out | apply below_alloc | apply pw_below_drewN | apply below_drew1 | refine below_set ?_ GE143.out | refine below_set ?_ GE144.out | refine below_set ?_ GE157.out) | exact HB.out)) hb); clear HO147; clear HO155; clear BK143; clear BK144; clear BK157; clear HB; have HO147 := n0_; have HO155 := n1_; have BK143 := n2_; have BK144 := n3_; have BK157 := n4_; have HB := n5_; clear n0_ n1_ n2_ n3_ n4_ n5_; (try clear hb); (try clear hb2); (try clear hk); (try clear hi)) | (go_at_call 62; (with_reducible refine (bivouaclaw19_may.calls k _ _ t145 t162 _ ?side1 ?side2 A30.out).mono ?_); (case side1 => repeat (first | exact (Kd.V_reads' HO147.out).2.2 | (with_reducible refine Kd.C_alloc ?_ _) | (with_reducible refine Kd.C_drewN ?_ _) | (with_reducible refine Kd.C_drew ?_))); (case side2 => exact (Kd.V_reads' HO147.out).2.1); rintro e w38 ⟨rfl, hb⟩; have n0_ := Aside0.mk (Kd.V_below (by (with_reducible repeat (first | apply Kd.V_alloc | apply Kd.V_drewN | apply Kd.V_drew)); exact HO147.out) hb); have n1_ := Aside0.mk (Kd.R_below (by (with_reducible repeat (first | apply Kd.R_alloc | apply Kd.R_drewN | apply Kd.R_drew)); exact HO155.out) hb); have n2_ := Aside0.mk (blk_below (g := gb143) (o := .cells #[.int .i64 a0_0, .int .i64 a0_1, .int .i64 a0_2, .int .i64 a0_3] 59 (0, 0)) (by (with_reducible repeat (first | refine blk_drewN ?_ _ | refine blk_drew ?_ | refine blk_alloc ?_ _)); exact BK143.out) hb); have n3_ := Aside0.mk (blk_below (g := gb144) (o := .cells #[.int .i64 a1_0, .int .i64 a1_1] 48 (0, 0)) (by (with_reducible repeat (first | refine blk_drewN ?_ _ | refine blk_drew ?_ | refine blk_alloc ?_ _)); exact BK144.out) hb); have n4_ := Aside0.mk (blk_below (g := gb157) (o := .cells #[.int .i64 t148, .int .i64 t149, .int .i64 t150, .int .i64 t151] 59 (0, 0)) (by (with_reducible repeat (first | refine blk_drewN ?_ _ | refine blk_drew ?_ | refine blk_alloc ?_ _)); exact BK157.out) hb); have n5_ := Aside0.mk (below_step (by repeat (first | (with_reducible first | exact HB.out | apply below_alloc | apply pw_below_drewN | apply below_drew1 | refine below_set ?_ GE143.out | refine below_set ?_ GE144.out | refine below_set ?_ GE157.out) | exact HB.out)) hb); clear HO147; clear HO155; clear BK143; clear BK144; clear BK157; clear HB; have HO147 := n0_; have HO155 := n1_; have BK143 := n2_; have BK144 := n3_; have BK157 := n4_; have HB := n5_; clear n0_ n1_ n2_ n3_ n4_ n5_; (try clear hb); (try clear hb2); (try clear hk); (try clear hi)))
          go_meet
          case rel => exact ⟨_, (!t162), (by first | rfl | (simp; done) | (simp [*]; done)), H', ⟨by first | omega | exact Nat.le_refl _⟩, ⟨by (with_reducible repeat (first | apply Kd.V_alloc | apply Kd.V_drewN | apply Kd.V_drew)); exact HO147.out⟩, ⟨by (with_reducible repeat (first | apply Kd.R_alloc | apply Kd.R_drewN | apply Kd.R_drew)); exact HO155.out⟩, ⟨by (with_reducible repeat (first | refine blk_drewN ?_ _ | refine blk_drew ?_ | refine blk_alloc ?_ _)); exact BK143.out⟩, ⟨by (with_reducible repeat (first | refine blk_drewN ?_ _ | refine blk_drew ?_ | refine blk_alloc ?_ _)); exact BK144.out⟩, ⟨by (with_reducible repeat (first | refine blk_drewN ?_ _ | refine blk_drew ?_ | refine blk_alloc ?_ _)); exact BK157.out⟩, ⟨by repeat (first | (with_reducible first | exact HB.out | apply below_alloc | apply pw_below_drewN | apply below_drew1 | refine below_set ?_ GE143.out | refine below_set ?_ GE144.out | refine below_set ?_ GE157.out) | exact HB.out)⟩⟩
        · replace c29 := Bool.eq_false_iff.mpr c29
          subst c29
          have H1 : (bivouaclaw19_PurseServes.j0 k t145 t152 t153 t156 true a0_0 a0_1 a0_2 a0_3 a1_0 a1_1 t148 t149 t150 t151) = some true := by rw [if_neg (show ¬ (false = true) by decide)] at H; exact H
          clear H
          have H := H1
          clear H1
          have H' := Aside0.mk H
          clear H
          have hnb39 := NB143_144.out
          have hnc39 := NB144_143.out
          have hnb40 := NB143_157.out
          have hnc40 := NB157_143.out
          have hcz41_0 : w25.cell? ⟨gb143, 0, none⟩ = some (.int .i64 a0_0) := (blk_cell BK143.out 0).trans rfl
          have hcz41_1 : w25.cell? ⟨gb143, 1, none⟩ = some (.int .i64 a0_1) := (blk_cell BK143.out 1).trans rfl
          have hcz41_2 : w25.cell? ⟨gb143, 2, none⟩ = some (.int .i64 a0_2) := (blk_cell BK143.out 2).trans rfl
          have hcz41_3 : w25.cell? ⟨gb143, 3, none⟩ = some (.int .i64 a0_3) := (blk_cell BK143.out 3).trans rfl
          have hfz41_0 := blk_frozen BK143.out 0
          have hfz41_1 := blk_frozen BK143.out 1
          have hfz41_2 := blk_frozen BK143.out 2
          have hfz41_3 := blk_frozen BK143.out 3
          go_wp2_with (first | ((with_reducible refine gate_callee (f := 61) rfl ?_); refine goesL_ (some 32) rfl rfl Try.func61 (by kernel_rfl) rfl #[.agg #[.int .i64 a0_0, .int .i64 a0_1, .int .i64 a0_2, .int .i64 a0_3]] rfl (by (try simp only [List.map_toArray, List.map_cons, List.map_nil]); first | done | rfl | (simp only [List.length_drop, List.length_take]; rfl)) ?_; (with_reducible refine (bivouacref19_May.calls a0_0 a0_1 a0_2 a0_3 true _ A26.out).mono ?_); rintro e w42 ⟨rfl, hb⟩; refine ⟨_, rfl, ?_⟩; have n0_ := Aside0.mk (Kd.V_below (by (with_reducible repeat (first | apply Kd.V_alloc | apply Kd.V_drewN | apply Kd.V_drew)); exact HO147.out) hb); have n1_ := Aside0.mk (Kd.R_below (by (with_reducible repeat (first | apply Kd.R_alloc | apply Kd.R_drewN | apply Kd.R_drew)); exact HO155.out) hb); have n2_ := Aside0.mk (blk_below (g := gb143) (o := .cells #[.int .i64 a0_0, .int .i64 a0_1, .int .i64 a0_2, .int .i64 a0_3] 59 (0, 0)) (by (with_reducible repeat (first | refine blk_drewN ?_ _ | refine blk_drew ?_ | refine blk_alloc ?_ _)); exact BK143.out) hb); have n3_ := Aside0.mk (blk_below (g := gb144) (o := .cells #[.int .i64 a1_0, .int .i64 a1_1] 48 (0, 0)) (by (with_reducible repeat (first | refine blk_drewN ?_ _ | refine blk_drew ?_ | refine blk_alloc ?_ _)); exact BK144.out) hb); have n4_ := Aside0.mk (blk_below (g := gb157) (o := .cells #[.int .i64 t148, .int .i64 t149, .int .i64 t150, .int .i64 t151] 59 (0, 0)) (by (with_reducible repeat (first | refine blk_drewN ?_ _ | refine blk_drew ?_ | refine blk_alloc ?_ _)); exact BK157.out) hb); have n5_ := Aside0.mk (below_step (by repeat (first | (with_reducible first | exact HB.out | apply below_alloc | apply pw_below_drewN | apply below_drew1 | refine below_set ?_ GE143.out | refine below_set ?_ GE144.out | refine below_set ?_ GE157.out) | exact HB.out)) hb); clear HO147; clear HO155; clear BK143; clear BK144; clear BK157; clear HB; have HO147 := n0_; have HO155 := n1_; have BK143 := n2_; have BK144 := n3_; have BK157 := n4_; have HB := n5_; clear n0_ n1_ n2_ n3_ n4_ n5_; (try clear hb); (try clear hb2); (try clear hk); (try clear hi); have hnb43 := NB144_157.out; have hnc43 := NB157_144.out; have hcz44_0 : w42.cell? ⟨gb144, 0, none⟩ = some (.int .i64 a1_0) := (blk_cell BK144.out 0).trans rfl; have hcz44_1 : w42.cell? ⟨gb144, 1, none⟩ = some (.int .i64 a1_1) := (blk_cell BK144.out 1).trans rfl; have hfz44_0 := blk_frozen BK144.out 0; have hfz44_1 := blk_frozen BK144.out 1) | (go_at_call 55; (with_reducible refine (bivouacref19_Wish.calls a1_0 a1_1 false _ A28.out).mono ?_); rintro e w45 ⟨rfl, hb⟩; have n0_ := Aside0.mk (Kd.V_below (by (with_reducible repeat (first | apply Kd.V_alloc | apply Kd.V_drewN | apply Kd.V_drew)); exact HO147.out) hb); have n1_ := Aside0.mk (Kd.R_below (by (with_reducible repeat (first | apply Kd.R_alloc | apply Kd.R_drewN | apply Kd.R_drew)); exact HO155.out) hb); have n2_ := Aside0.mk (blk_below (g := gb143) (o := .cells #[.int .i64 a0_0, .int .i64 a0_1, .int .i64 a0_2, .int .i64 a0_3] 59 (0, 0)) (by (with_reducible repeat (first | refine blk_drewN ?_ _ | refine blk_drew ?_ | refine blk_alloc ?_ _)); exact BK143.out) hb); have n3_ := Aside0.mk (blk_below (g := gb144) (o := .cells #[.int .i64 a1_0, .int .i64 a1_1] 48 (0, 0)) (by (with_reducible repeat (first | refine blk_drewN ?_ _ | refine blk_drew ?_ | refine blk_alloc ?_ _)); exact BK144.out) hb); have n4_ := Aside0.mk (blk_below (g := gb157) (o := .cells #[.int .i64 t148, .int .i64 t149, .int .i64 t150, .int .i64 t151] 59 (0, 0)) (by (with_reducible repeat (first | refine blk_drewN ?_ _ | refine blk_drew ?_ | refine blk_alloc ?_ _)); exact BK157.out) hb); have n5_ := Aside0.mk (below_step (by repeat (first | (with_reducible first | exact HB.out | apply below_alloc | apply pw_below_drewN | apply below_drew1 | refine below_set ?_ GE143.out | refine below_set ?_ GE144.out | refine below_set ?_ GE157.out) | exact HB.out)) hb); clear HO147; clear HO155; clear BK143; clear BK144; clear BK157; clear HB; have HO147 := n0_; have HO155 := n1_; have BK143 := n2_; have BK144 := n3_; have BK157 := n4_; have HB := n5_; clear n0_ n1_ n2_ n3_ n4_ n5_; (try clear hb); (try clear hb2); (try clear hk); (try clear hi)))
          go_meet
          case rel => exact ⟨_, (true), (by first | rfl | (simp; done) | (simp [*]; done)), H', ⟨by first | omega | exact Nat.le_refl _⟩, ⟨by (with_reducible repeat (first | apply Kd.V_alloc | apply Kd.V_drewN | apply Kd.V_drew)); exact HO147.out⟩, ⟨by (with_reducible repeat (first | apply Kd.R_alloc | apply Kd.R_drewN | apply Kd.R_drew)); exact HO155.out⟩, ⟨by (with_reducible repeat (first | refine blk_drewN ?_ _ | refine blk_drew ?_ | refine blk_alloc ?_ _)); exact BK143.out⟩, ⟨by (with_reducible repeat (first | refine blk_drewN ?_ _ | refine blk_drew ?_ | refine blk_alloc ?_ _)); exact BK144.out⟩, ⟨by (with_reducible repeat (first | refine blk_drewN ?_ _ | refine blk_drew ?_ | refine blk_alloc ?_ _)); exact BK157.out⟩, ⟨by repeat (first | (with_reducible first | exact HB.out | apply below_alloc | apply pw_below_drewN | apply below_drew1 | refine below_set ?_ GE143.out | refine below_set ?_ GE144.out | refine below_set ?_ GE157.out) | exact HB.out)⟩⟩
      · replace c27 := Bool.eq_false_iff.mpr c27
        subst c27
        have H1 : (bivouaclaw19_PurseServes.j0 k t145 t152 t153 t156 true a0_0 a0_1 a0_2 a0_3 a1_0 a1_1 t148 t149 t150 t151) = some true := by rw [if_neg (show ¬ (false = true) by decide)] at H; exact H
        clear H
        have H := H1
        clear H1
        have H' := Aside0.mk H
        clear H
        have hnb46 := NB143_144.out
        have hnc46 := NB144_143.out
        have hnb47 := NB143_157.out
        have hnc47 := NB157_143.out
        have hcz48_0 : w25.cell? ⟨gb143, 0, none⟩ = some (.int .i64 a0_0) := (blk_cell BK143.out 0).trans rfl
        have hcz48_1 : w25.cell? ⟨gb143, 1, none⟩ = some (.int .i64 a0_1) := (blk_cell BK143.out 1).trans rfl
        have hcz48_2 : w25.cell? ⟨gb143, 2, none⟩ = some (.int .i64 a0_2) := (blk_cell BK143.out 2).trans rfl
        have hcz48_3 : w25.cell? ⟨gb143, 3, none⟩ = some (.int .i64 a0_3) := (blk_cell BK143.out 3).trans rfl
        have hfz48_0 := blk_frozen BK143.out 0
        have hfz48_1 := blk_frozen BK143.out 1
        have hfz48_2 := blk_frozen BK143.out 2
        have hfz48_3 := blk_frozen BK143.out 3
        go_wp2_with (first | ((with_reducible refine gate_callee (f := 61) rfl ?_); refine goesL_ (some 32) rfl rfl Try.func61 (by kernel_rfl) rfl #[.agg #[.int .i64 a0_0, .int .i64 a0_1, .int .i64 a0_2, .int .i64 a0_3]] rfl (by (try simp only [List.map_toArray, List.map_cons, List.map_nil]); first | done | rfl | (simp only [List.length_drop, List.length_take]; rfl)) ?_; (with_reducible refine (bivouacref19_May.calls a0_0 a0_1 a0_2 a0_3 false _ A26.out).mono ?_); rintro e w49 ⟨rfl, hb⟩; refine ⟨_, rfl, ?_⟩; have n0_ := Aside0.mk (Kd.V_below (by (with_reducible repeat (first | apply Kd.V_alloc | apply Kd.V_drewN | apply Kd.V_drew)); exact HO147.out) hb); have n1_ := Aside0.mk (Kd.R_below (by (with_reducible repeat (first | apply Kd.R_alloc | apply Kd.R_drewN | apply Kd.R_drew)); exact HO155.out) hb); have n2_ := Aside0.mk (blk_below (g := gb143) (o := .cells #[.int .i64 a0_0, .int .i64 a0_1, .int .i64 a0_2, .int .i64 a0_3] 59 (0, 0)) (by (with_reducible repeat (first | refine blk_drewN ?_ _ | refine blk_drew ?_ | refine blk_alloc ?_ _)); exact BK143.out) hb); have n3_ := Aside0.mk (blk_below (g := gb144) (o := .cells #[.int .i64 a1_0, .int .i64 a1_1] 48 (0, 0)) (by (with_reducible repeat (first | refine blk_drewN ?_ _ | refine blk_drew ?_ | refine blk_alloc ?_ _)); exact BK144.out) hb); have n4_ := Aside0.mk (blk_below (g := gb157) (o := .cells #[.int .i64 t148, .int .i64 t149, .int .i64 t150, .int .i64 t151] 59 (0, 0)) (by (with_reducible repeat (first | refine blk_drewN ?_ _ | refine blk_drew ?_ | refine blk_alloc ?_ _)); exact BK157.out) hb); have n5_ := Aside0.mk (below_step (by repeat (first | (with_reducible first | exact HB.out | apply below_alloc | apply pw_below_drewN | apply below_drew1 | refine below_set ?_ GE143.out | refine below_set ?_ GE144.out | refine below_set ?_ GE157.out) | exact HB.out)) hb); clear HO147; clear HO155; clear BK143; clear BK144; clear BK157; clear HB; have HO147 := n0_; have HO155 := n1_; have BK143 := n2_; have BK144 := n3_; have BK157 := n4_; have HB := n5_; clear n0_ n1_ n2_ n3_ n4_ n5_; (try clear hb); (try clear hb2); (try clear hk); (try clear hi)))
        go_meet
        case rel => exact ⟨_, (true), (by first | rfl | (simp; done) | (simp [*]; done)), H', ⟨by first | omega | exact Nat.le_refl _⟩, ⟨by (with_reducible repeat (first | apply Kd.V_alloc | apply Kd.V_drewN | apply Kd.V_drew)); exact HO147.out⟩, ⟨by (with_reducible repeat (first | apply Kd.R_alloc | apply Kd.R_drewN | apply Kd.R_drew)); exact HO155.out⟩, ⟨by (with_reducible repeat (first | refine blk_drewN ?_ _ | refine blk_drew ?_ | refine blk_alloc ?_ _)); exact BK143.out⟩, ⟨by (with_reducible repeat (first | refine blk_drewN ?_ _ | refine blk_drew ?_ | refine blk_alloc ?_ _)); exact BK144.out⟩, ⟨by (with_reducible repeat (first | refine blk_drewN ?_ _ | refine blk_drew ?_ | refine blk_alloc ?_ _)); exact BK157.out⟩, ⟨by repeat (first | (with_reducible first | exact HB.out | apply below_alloc | apply pw_below_drewN | apply below_drew1 | refine below_set ?_ GE143.out | refine below_set ?_ GE144.out | refine below_set ?_ GE157.out) | exact HB.out)⟩⟩
    case rest =>
      clear HC9
      try clear c1
      try clear c2
      try clear p2
      try clear c3
      try clear c4
      try clear c5
      try clear c6
      try clear c8
      try clear c8b0
      try clear c8b1
      try clear c8b2
      try clear c13
      try clear c18
      try clear c19
      try clear c20
      try clear c27
      try clear c29
      try clear c31
      try clear c32
      try clear c35
      try clear c39
      try clear c40
      try clear c43
      try clear c46
      try clear c47
      try clear hcz14_0
      try clear hcz14_1
      try clear hcz14_2
      try clear hcz14_3
      try clear hcz15_0
      try clear hcz15_1
      try clear hcz21_0
      try clear hcz21_1
      try clear hcz21_2
      try clear hcz21_3
      try clear hcz33_0
      try clear hcz33_1
      try clear hcz33_2
      try clear hcz33_3
      try clear hcz36_0
      try clear hcz36_1
      try clear hcz41_0
      try clear hcz41_1
      try clear hcz41_2
      try clear hcz41_3
      try clear hcz44_0
      try clear hcz44_1
      try clear hcz48_0
      try clear hcz48_1
      try clear hcz48_2
      try clear hcz48_3
      try clear hfz14_0
      try clear hfz14_1
      try clear hfz14_2
      try clear hfz14_3
      try clear hfz15_0
      try clear hfz15_1
      try clear hfz21_0
      try clear hfz21_1
      try clear hfz21_2
      try clear hfz21_3
      try clear hfz33_0
      try clear hfz33_1
      try clear hfz33_2
      try clear hfz33_3
      try clear hfz36_0
      try clear hfz36_1
      try clear hfz41_0
      try clear hfz41_1
      try clear hfz41_2
      try clear hfz41_3
      try clear hfz44_0
      try clear hfz44_1
      try clear hfz48_0
      try clear hfz48_1
      try clear hfz48_2
      try clear hfz48_3
      obtain ⟨kq, x43_8, rfl, HA, HJ8, HO_2, HO_9, BK143, BK144, BK157, HB⟩ := hcut
      cases kq with
      | zero => exact absurd HA.out (by simp [bivouaclaw19_PurseServes.j0])
      | succ kj8 =>
        have H := HA.out
        clear HA
        simp only [bivouaclaw19_PurseServes.j0] at H
        by_cases c50 : x43_8 = true
        · subst c50
          have H1 : (if (t148 == 0 && (t149 == 0 && (t150 == 0 && (t151 == 0)))) = true then (if t152 = 0 then (if (t153.length : Int) = 0 then (if t156 = 1 then ((bivouaclaw19_awake.f kj8).bind fun t163 => (some t163)) else (some false)) else (some false)) else (some false)) else (some false)) = some true := by rw [if_pos rfl] at H; exact H
          clear H
          have H := H1
          clear H1
          by_cases c51 : (t148 == 0 && (t149 == 0 && (t150 == 0 && (t151 == 0)))) = true
          · rw [if_pos c51] at H
            have c51b0 : (t148 == 0 && (t149 == 0 && (t150 == 0 && (t151 == 0)))) = true := c51
            (try (have c51b1 : decide (t148 = 0 && (t149 == 0 && (t150 == 0 && (t151 == 0)))) = true := by simpa using c51))
            (try (have c51b2 : (t148 == 0 && (t149 == 0 && (t150 == 0 && (t151 == 0)))) = true := by simpa using c51))
            clear c51
            by_cases c52 : t152 = 0
            · rw [if_pos c52] at H
              have c52b0 : (t152 == 0) = true := beq_iff_eq.mpr c52
              have c52b1 : (t152 != 0) = false := bne_eq_false_iff_eq.mpr c52
              clear c52
              by_cases c53 : (t153.length : Int) = 0
              · rw [if_pos c53] at H
                have c53b0 : ((t153.length : Int) == 0) = true := beq_iff_eq.mpr c53
                have c53b1 : ((t153.length : Int) != 0) = false := bne_eq_false_iff_eq.mpr c53
                clear c53
                by_cases c54 : t156 = 1
                · rw [if_pos c54] at H
                  have c54b0 : (t156 == 1) = true := beq_iff_eq.mpr c54
                  have c54b1 : (t156 != 1) = false := bne_eq_false_iff_eq.mpr c54
                  clear c54
                  replace H := Option.bind_eq_some_iff.mp H
                  obtain ⟨t163, A550, H⟩ := H
                  replace H : (some t163) = some true := H
                  have A55 := Aside0.mk A550
                  clear A550
                  have HRES := Aside0.mk (Option.some.inj H)
                  clear H
                  have hnb56 := NB157_143.out
                  have hnc56 := NB143_157.out
                  have hnb57 := NB157_144.out
                  have hnc57 := NB144_157.out
                  have hcz58_0 : wc.cell? ⟨gb157, 0, none⟩ = some (.int .i64 t148) := (blk_cell BK157.out 0).trans rfl
                  have hcz58_1 : wc.cell? ⟨gb157, 1, none⟩ = some (.int .i64 t149) := (blk_cell BK157.out 1).trans rfl
                  have hcz58_2 : wc.cell? ⟨gb157, 2, none⟩ = some (.int .i64 t150) := (blk_cell BK157.out 2).trans rfl
                  have hcz58_3 : wc.cell? ⟨gb157, 3, none⟩ = some (.int .i64 t151) := (blk_cell BK157.out 3).trans rfl
                  have hfz58_0 := blk_frozen BK157.out 0
                  have hfz58_1 := blk_frozen BK157.out 1
                  have hfz58_2 := blk_frozen BK157.out 2
                  have hfz58_3 := blk_frozen BK157.out 3
                  obtain ⟨Ao59, co59, eo59⟩ := Kd.R_slice HO_9.out
                  subst eo59
                  go_wp2_with (first | (go_at_call 56; (with_reducible refine (bivouaclaw19_awake.calls kj8  t163 _ A55.out).mono ?_); rintro e w60 ⟨rfl, hb⟩; have n0_ := Aside0.mk (Kd.V_below (by (with_reducible repeat (first | apply Kd.V_alloc | apply Kd.V_drewN | apply Kd.V_drew)); exact HO_2.out) hb); have n1_ := Aside0.mk (Kd.R_below (by (with_reducible repeat (first | apply Kd.R_alloc | apply Kd.R_drewN | apply Kd.R_drew)); exact HO_9.out) hb); have n2_ := Aside0.mk (blk_below (g := gb143) (o := .cells #[.int .i64 a0_0, .int .i64 a0_1, .int .i64 a0_2, .int .i64 a0_3] 59 (0, 0)) (by (with_reducible repeat (first | refine blk_drewN ?_ _ | refine blk_drew ?_ | refine blk_alloc ?_ _)); exact BK143.out) hb); have n3_ := Aside0.mk (blk_below (g := gb144) (o := .cells #[.int .i64 a1_0, .int .i64 a1_1] 48 (0, 0)) (by (with_reducible repeat (first | refine blk_drewN ?_ _ | refine blk_drew ?_ | refine blk_alloc ?_ _)); exact BK144.out) hb); have n4_ := Aside0.mk (blk_below (g := gb157) (o := .cells #[.int .i64 t148, .int .i64 t149, .int .i64 t150, .int .i64 t151] 59 (0, 0)) (by (with_reducible repeat (first | refine blk_drewN ?_ _ | refine blk_drew ?_ | refine blk_alloc ?_ _)); exact BK157.out) hb); have n5_ := Aside0.mk (below_step (by repeat (first | (with_reducible first | exact HB.out | apply below_alloc | apply pw_below_drewN | apply below_drew1 | refine below_set ?_ GE143.out | refine below_set ?_ GE144.out | refine below_set ?_ GE157.out) | exact HB.out)) hb); clear HO_2; clear HO_9; clear BK143; clear BK144; clear BK157; clear HB; have HO_2 := n0_; have HO_9 := n1_; have BK143 := n2_; have BK144 := n3_; have BK157 := n4_; have HB := n5_; clear n0_ n1_ n2_ n3_ n4_ n5_; (try clear hb); (try clear hb2); (try clear hk); (try clear hi)))
                  go_ret
                  exact ⟨by first | rfl | (exact congrArg (fun b_ => Ending.returned (Value.bool b_)) HRES.out) | (simp [errW_none, errW_some] <;> rfl) | (simp [*, errW_none, errW_some] <;> rfl), by repeat (first | (with_reducible first | exact HB.out | apply below_alloc | apply pw_below_drewN | apply below_drew1 | refine below_set ?_ GE143.out | refine below_set ?_ GE144.out | refine below_set ?_ GE157.out) | exact HB.out)⟩
                · rw [if_neg c54] at H
                  exact absurd H (by simp)
              · rw [if_neg c53] at H
                exact absurd H (by simp)
            · rw [if_neg c52] at H
              exact absurd H (by simp)
          · rw [if_neg c51] at H
            exact absurd H (by simp)
        · replace c50 := Bool.eq_false_iff.mpr c50
          subst c50
          have H1 : ((bivouacref19_Serve.f kj8 a0_0 a0_1 a0_2 a0_3 a1_0 a1_1 t145).bind fun bt164 => (if (!(t148 == bt164.1) || (!(t149 == bt164.2.1) || (!(t150 == bt164.2.2.1) || (!(t151 == bt164.2.2.2.1))))) = true then (bivouaclaw19_PurseServes.j1 kj8 t153 bt164.2.2.2.2.2 true) else (if t152 = bt164.2.2.2.2.1 then (if (t153.length : Int) = (bt164.2.2.2.2.2.length : Int) then (bivouaclaw19_PurseServes.j1 kj8 t153 bt164.2.2.2.2.2 (t156 != 0)) else (bivouaclaw19_PurseServes.j1 kj8 t153 bt164.2.2.2.2.2 true)) else (bivouaclaw19_PurseServes.j1 kj8 t153 bt164.2.2.2.2.2 true)))) = some true := by rw [if_neg (show ¬ (false = true) by decide)] at H; exact H
          clear H
          have H := H1
          clear H1
          replace H := Option.bind_eq_some_iff.mp H
          obtain ⟨⟨t164, t165, t166, t167, t168, t169⟩, A610, H⟩ := H
          replace H : (if (!(t148 == t164) || (!(t149 == t165) || (!(t150 == t166) || (!(t151 == t167))))) = true then (bivouaclaw19_PurseServes.j1 kj8 t153 t169 true) else (if t152 = t168 then (if (t153.length : Int) = (t169.length : Int) then (bivouaclaw19_PurseServes.j1 kj8 t153 t169 (t156 != 0)) else (bivouaclaw19_PurseServes.j1 kj8 t153 t169 true)) else (bivouaclaw19_PurseServes.j1 kj8 t153 t169 true))) = some true := H
          have A61 := Aside0.mk A610
          clear A610
          have HC62 := Aside0.mk H
          clear H
          have hnb63 := NB143_144.out
          have hnc63 := NB144_143.out
          have hnb64 := NB143_157.out
          have hnc64 := NB157_143.out
          have hcz65_0 : wc.cell? ⟨gb143, 0, none⟩ = some (.int .i64 a0_0) := (blk_cell BK143.out 0).trans rfl
          have hcz65_1 : wc.cell? ⟨gb143, 1, none⟩ = some (.int .i64 a0_1) := (blk_cell BK143.out 1).trans rfl
          have hcz65_2 : wc.cell? ⟨gb143, 2, none⟩ = some (.int .i64 a0_2) := (blk_cell BK143.out 2).trans rfl
          have hcz65_3 : wc.cell? ⟨gb143, 3, none⟩ = some (.int .i64 a0_3) := (blk_cell BK143.out 3).trans rfl
          have hfz65_0 := blk_frozen BK143.out 0
          have hfz65_1 := blk_frozen BK143.out 1
          have hfz65_2 := blk_frozen BK143.out 2
          have hfz65_3 := blk_frozen BK143.out 3
          have hnb66 := NB144_157.out
          have hnc66 := NB157_144.out
          have hcz67_0 : wc.cell? ⟨gb144, 0, none⟩ = some (.int .i64 a1_0) := (blk_cell BK144.out 0).trans rfl
          have hcz67_1 : wc.cell? ⟨gb144, 1, none⟩ = some (.int .i64 a1_1) := (blk_cell BK144.out 1).trans rfl
          have hfz67_0 := blk_frozen BK144.out 0
          have hfz67_1 := blk_frozen BK144.out 1
          go_upto_region 8 with (first | ((with_reducible refine gate_callee (f := 63) rfl ?_); refine goesL_ (some 67) rfl rfl Try.func63 (by kernel_rfl) rfl #[.agg #[.int .i64 a0_0, .int .i64 a0_1, .int .i64 a0_2, .int .i64 a0_3], .agg #[.int .i64 a1_0, .int .i64 a1_1], .slice Ao16 t145.length co16] rfl (by (try simp only [List.map_toArray, List.map_cons, List.map_nil]); first | done | rfl | (simp only [List.length_drop, List.length_take]; rfl)) ?_; (with_reducible refine (bivouacref19_Serve.calls kj8 a0_0 a0_1 a0_2 a0_3 a1_0 a1_1 _ _ t145 t164 t165 t166 t167 t168 t169 _ ?side1 ?side2 A61.out).mono ?_); (case side1 => repeat (first | exact (Kd.V_reads' HO_2.out).2.2 | (with_reducible refine Kd.C_alloc ?_ _) | (with_reducible refine Kd.C_drewN ?_ _) | (with_reducible refine Kd.C_drew ?_))); (case side2 => exact (Kd.V_reads' HO_2.out).2.1); rintro e w68 ⟨v170, rfl, ho0, hb⟩; refine ⟨_, rfl, ?_⟩; have n0_ := Aside0.mk (Kd.V_elder' (by (with_reducible repeat (first | apply Kd.V_alloc | apply Kd.V_drewN | apply Kd.V_drew)); exact HO_2.out) (Kd.R_base ho0) hb); have n1_ := Aside0.mk (Kd.R_elder' (by (with_reducible repeat (first | apply Kd.R_alloc | apply Kd.R_drewN | apply Kd.R_drew)); exact HO_9.out) (Kd.R_base ho0) hb); have n2_ := Aside0.mk (Kd.R_lower (Kd.R_newB (Kd.R_new' ho0 (Kd.R_lt (by (with_reducible repeat (first | apply Kd.R_alloc | apply Kd.R_drewN | apply Kd.R_drew)); exact HO_9.out))) (g := gb144) (o := .cells #[.int .i64 a1_0, .int .i64 a1_1] 48 (0, 0)) (by (with_reducible repeat (first | refine blk_drewN ?_ _ | refine blk_drew ?_ | refine blk_alloc ?_ _)); exact BK144.out)) (below_size (by repeat (first | (with_reducible first | exact HB.out | apply below_alloc | apply pw_below_drewN | apply below_drew1 | refine below_set ?_ GE143.out | refine below_set ?_ GE144.out | refine below_set ?_ GE157.out) | exact HB.out)))); have n3_ := Aside0.mk (blk_below (g := gb143) (o := .cells #[.int .i64 a0_0, .int .i64 a0_1, .int .i64 a0_2, .int .i64 a0_3] 59 (0, 0)) (by (with_reducible repeat (first | refine blk_drewN ?_ _ | refine blk_drew ?_ | refine blk_alloc ?_ _)); exact BK143.out) hb); have n4_ := Aside0.mk (blk_below (g := gb144) (o := .cells #[.int .i64 a1_0, .int .i64 a1_1] 48 (0, 0)) (by (with_reducible repeat (first | refine blk_drewN ?_ _ | refine blk_drew ?_ | refine blk_alloc ?_ _)); exact BK144.out) hb); have n5_ := Aside0.mk (blk_below (g := gb157) (o := .cells #[.int .i64 t148, .int .i64 t149, .int .i64 t150, .int .i64 t151] 59 (0, 0)) (by (with_reducible repeat (first | refine blk_drewN ?_ _ | refine blk_drew ?_ | refine blk_alloc ?_ _)); exact BK157.out) hb); have n6_ := Aside0.mk (below_step (by repeat (first | (with_reducible first | exact HB.out | apply below_alloc | apply pw_below_drewN | apply below_drew1 | refine below_set ?_ GE143.out | refine below_set ?_ GE144.out | refine below_set ?_ GE157.out) | exact HB.out)) hb); clear HO_2; clear HO_9; clear BK143; clear BK144; clear BK157; clear HB; have HO_2 := n0_; have HO_9 := n1_; have HO171 := n2_; have BK143 := n3_; have BK144 := n4_; have BK157 := n5_; have HB := n6_; clear n0_ n1_ n2_ n3_ n4_ n5_ n6_; (try clear hb); (try clear hb2); (try clear hk); (try clear hi); (try clear ho0)) | ((with_reducible refine gate_dst (N := 11) rfl ?_); (try (refine gate_guard (by rfl) ?_; dsimp only)); refine box_event ?hg (N := 11) ?hd (cs := #[.int .i64 0, .int .i64 0, .int .i64 0, .int .i64 0]) (t := 59) ?hr ?_; (case hd => rfl); (case hg => rfl); (case hr => first | (go_simp; done) | (go_simp; rfl)); intro gb172 hg w69 hbox hb; have n0_ := Aside0.mk (Kd.V_below (Kd.V_elderB (by (with_reducible repeat (first | apply Kd.V_alloc | apply Kd.V_drewN | apply Kd.V_drew)); exact HO_2.out) gb172 (Nat.le_of_eq hg.symm)) hb); have n1_ := Aside0.mk (Kd.R_below (by (with_reducible repeat (first | apply Kd.R_alloc | apply Kd.R_drewN | apply Kd.R_drew)); exact HO_9.out) hb); have n2_ := Aside0.mk (Kd.R_below (by (with_reducible repeat (first | apply Kd.R_alloc | apply Kd.R_drewN | apply Kd.R_drew)); exact HO171.out) hb); have n3_ := Aside0.mk (blk_below (g := gb143) (o := .cells #[.int .i64 a0_0, .int .i64 a0_1, .int .i64 a0_2, .int .i64 a0_3] 59 (0, 0)) (by (with_reducible repeat (first | refine blk_drewN ?_ _ | refine blk_drew ?_ | refine blk_alloc ?_ _)); exact BK143.out) hb); have n4_ := Aside0.mk (blk_below (g := gb144) (o := .cells #[.int .i64 a1_0, .int .i64 a1_1] 48 (0, 0)) (by (with_reducible repeat (first | refine blk_drewN ?_ _ | refine blk_drew ?_ | refine blk_alloc ?_ _)); exact BK144.out) hb); have n5_ := Aside0.mk (blk_below (g := gb157) (o := .cells #[.int .i64 t148, .int .i64 t149, .int .i64 t150, .int .i64 t151] 59 (0, 0)) (by (with_reducible repeat (first | refine blk_drewN ?_ _ | refine blk_drew ?_ | refine blk_alloc ?_ _)); exact BK157.out) hb); have n6_ := Aside0.mk (below_step (by repeat (first | (with_reducible first | exact HB.out | apply below_alloc | apply pw_below_drewN | apply below_drew1 | refine below_set ?_ GE143.out | refine below_set ?_ GE144.out | refine below_set ?_ GE157.out) | exact HB.out)) hb); have n7_ := Aside0.mk (hbox); have n8_ := Aside0.mk ((by rw [hg]; exact (below_size (by repeat (first | (with_reducible first | exact HB.out | apply below_alloc | apply pw_below_drewN | apply below_drew1 | refine below_set ?_ GE143.out | refine below_set ?_ GE144.out | refine below_set ?_ GE157.out) | exact HB.out))) : w.heap.size ≤ gb172)); have n9_ := Aside0.mk ((by rw [hg]; exact (below_size (by repeat (first | (with_reducible first | exact HB.out | apply below_alloc | apply pw_below_drewN | apply below_drew1 | refine below_set ?_ GE143.out | refine below_set ?_ GE144.out | refine below_set ?_ GE157.out) | exact HB.out))) : w.heap.size ≤ gb172)); have n10_ := Aside0.mk ((by rw [hg]; exact Nat.ne_of_lt (blk_lt (g := gb143) (o := .cells #[.int .i64 a0_0, .int .i64 a0_1, .int .i64 a0_2, .int .i64 a0_3] 59 (0, 0)) (by (with_reducible repeat (first | refine blk_drewN ?_ _ | refine blk_drew ?_ | refine blk_alloc ?_ _)); exact BK143.out)) : gb143 ≠ gb172)); have n11_ := Aside0.mk ((by rw [hg]; exact Nat.ne_of_gt (blk_lt (g := gb143) (o := .cells #[.int .i64 a0_0, .int .i64 a0_1, .int .i64 a0_2, .int .i64 a0_3] 59 (0, 0)) (by (with_reducible repeat (first | refine blk_drewN ?_ _ | refine blk_drew ?_ | refine blk_alloc ?_ _)); exact BK143.out)) : gb172 ≠ gb143)); have n12_ := Aside0.mk ((by rw [hg]; exact Nat.ne_of_lt (blk_lt (g := gb144) (o := .cells #[.int .i64 a1_0, .int .i64 a1_1] 48 (0, 0)) (by (with_reducible repeat (first | refine blk_drewN ?_ _ | refine blk_drew ?_ | refine blk_alloc ?_ _)); exact BK144.out)) : gb144 ≠ gb172)); have n13_ := Aside0.mk ((by rw [hg]; exact Nat.ne_of_gt (blk_lt (g := gb144) (o := .cells #[.int .i64 a1_0, .int .i64 a1_1] 48 (0, 0)) (by (with_reducible repeat (first | refine blk_drewN ?_ _ | refine blk_drew ?_ | refine blk_alloc ?_ _)); exact BK144.out)) : gb172 ≠ gb144)); have n14_ := Aside0.mk ((by rw [hg]; exact Nat.ne_of_lt (blk_lt (g := gb157) (o := .cells #[.int .i64 t148, .int .i64 t149, .int .i64 t150, .int .i64 t151] 59 (0, 0)) (by (with_reducible repeat (first | refine blk_drewN ?_ _ | refine blk_drew ?_ | refine blk_alloc ?_ _)); exact BK157.out)) : gb157 ≠ gb172)); have n15_ := Aside0.mk ((by rw [hg]; exact Nat.ne_of_gt (blk_lt (g := gb157) (o := .cells #[.int .i64 t148, .int .i64 t149, .int .i64 t150, .int .i64 t151] 59 (0, 0)) (by (with_reducible repeat (first | refine blk_drewN ?_ _ | refine blk_drew ?_ | refine blk_alloc ?_ _)); exact BK157.out)) : gb172 ≠ gb157)); clear HO_2; clear HO_9; clear HO171; clear BK143; clear BK144; clear BK157; clear HB; have HO_2 := n0_; have HO_9 := n1_; have HO171 := n2_; have BK143 := n3_; have BK144 := n4_; have BK157 := n5_; have HB := n6_; have BK172 := n7_; have GW172 := n8_; have GE172 := n9_; have NB143_172 := n10_; have NB172_143 := n11_; have NB144_172 := n12_; have NB172_144 := n13_; have NB157_172 := n14_; have NB172_157 := n15_; clear n0_ n1_ n2_ n3_ n4_ n5_ n6_ n7_ n8_ n9_ n10_ n11_ n12_ n13_ n14_ n15_; clear hb hbox hg; have hnb70 := NB172_143.out; have hnc70 := NB143_172.out; have hnb71 := NB172_144.out; have hnc71 := NB144_172.out; have hnb72 := NB172_157.out; have hnc72 := NB157_172.out; have hcz73_0 : w69.cell? ⟨gb172, 0, none⟩ = some (.int .i64 0) := (blk_cell BK172.out 0).trans rfl; have hcz73_1 : w69.cell? ⟨gb172, 1, none⟩ = some (.int .i64 0) := (blk_cell BK172.out 1).trans rfl; have hcz73_2 : w69.cell? ⟨gb172, 2, none⟩ = some (.int .i64 0) := (blk_cell BK172.out 2).trans rfl; have hcz73_3 : w69.cell? ⟨gb172, 3, none⟩ = some (.int .i64 0) := (blk_cell BK172.out 3).trans rfl; have hfz73_0 := blk_frozen BK172.out 0; have hfz73_1 := blk_frozen BK172.out 1; have hfz73_2 := blk_frozen BK172.out 2; have hfz73_3 := blk_frozen BK172.out 3))
          (try simp only [Act.put, List.setIfInBounds_toArray, List.set_cons_zero, List.set_cons_succ])
          go_cut [89] (fun v89 wc => ∃ (kq : Nat) (x89_61 : Bool), v89 = .bool x89_61 ∧ Aside0 (bivouaclaw19_PurseServes.j1 kq t153 t169 x89_61 = some true) ∧ Aside0 (kq ≤ kj8) ∧ Aside0 (Kd.R k48 48 wc w.heap.size (fun k_ => some k_ ≠ (v170 : Value).ownBlock ∧ k_ ≠ gb144) v154 t153) ∧ Aside0 (Kd.R k48 48 wc w.heap.size (fun k_ => some k_ ≠ (v154 : Value).ownBlock ∧ k_ ≠ gb144) v170 t169) ∧ Aside0 (wc.heap[gb143]? = some (.cells #[.int .i64 a0_0, .int .i64 a0_1, .int .i64 a0_2, .int .i64 a0_3] 59 (0, 0))) ∧ Aside0 (wc.heap[gb144]? = some (.cells #[.int .i64 a1_0, .int .i64 a1_1] 48 (0, 0))) ∧ Aside0 (wc.heap[gb157]? = some (.cells #[.int .i64 t148, .int .i64 t149, .int .i64 t150, .int .i64 t151] 59 (0, 0))) ∧ Aside0 (wc.heap[gb172]? = some (.cells #[.int .i64 t164, .int .i64 t165, .int .i64 t166, .int .i64 t167] 59 (0, 0))) ∧ Aside0 (Below w.heap.size w wc))
          case first =>
            have H := HC62.out
            clear HC62
            by_cases c74 : (!(t148 == t164) || (!(t149 == t165) || (!(t150 == t166) || (!(t151 == t167))))) = true
            · rw [if_pos c74] at H
              have c74b0 : (!(t148 == t164) || (!(t149 == t165) || (!(t150 == t166) || (!(t151 == t167))))) = true := c74
              clear c74
              (first | rw [c74b0] | (simp only [i64_w, i32_w]; rw [c74b0]) | skip)
              have H' := Aside0.mk H
              clear H
              have hnb75 := NB157_143.out
              have hnc75 := NB143_157.out
              have hnb76 := NB157_144.out
              have hnc76 := NB144_157.out
              have hnb77 := NB157_172.out
              have hnc77 := NB172_157.out
              have hcz78_0 : w69.cell? ⟨gb157, 0, none⟩ = some (.int .i64 t148) := (blk_cell BK157.out 0).trans rfl
              have hcz78_1 : w69.cell? ⟨gb157, 1, none⟩ = some (.int .i64 t149) := (blk_cell BK157.out 1).trans rfl
              have hcz78_2 : w69.cell? ⟨gb157, 2, none⟩ = some (.int .i64 t150) := (blk_cell BK157.out 2).trans rfl
              have hcz78_3 : w69.cell? ⟨gb157, 3, none⟩ = some (.int .i64 t151) := (blk_cell BK157.out 3).trans rfl
              have hfz78_0 := blk_frozen BK157.out 0
              have hfz78_1 := blk_frozen BK157.out 1
              have hfz78_2 := blk_frozen BK157.out 2
              have hfz78_3 := blk_frozen BK157.out 3
              have hnb79 := NB172_143.out
              have hnc79 := NB143_172.out
              have hnb80 := NB172_144.out
              have hnc80 := NB144_172.out
              have hcz81_0 : w69.cell? ⟨gb172, 0, none⟩ = some (.int .i64 0) := (blk_cell BK172.out 0).trans rfl
              have hcz81_1 : w69.cell? ⟨gb172, 1, none⟩ = some (.int .i64 0) := (blk_cell BK172.out 1).trans rfl
              have hcz81_2 : w69.cell? ⟨gb172, 2, none⟩ = some (.int .i64 0) := (blk_cell BK172.out 2).trans rfl
              have hcz81_3 : w69.cell? ⟨gb172, 3, none⟩ = some (.int .i64 0) := (blk_cell BK172.out 3).trans rfl
              have hfz81_0 := blk_frozen BK172.out 0
              have hfz81_1 := blk_frozen BK172.out 1
              have hfz81_2 := blk_frozen BK172.out 2
              have hfz81_3 := blk_frozen BK172.out 3
              go_wp2
              go_meet
              case rel => exact ⟨_, (true), (by first | rfl | (simp; done) | (simp [*]; done)), H', ⟨by have := HJ8.out; first | omega | exact Nat.le_refl _⟩, ⟨by (with_reducible repeat (first | apply Kd.R_alloc | apply Kd.R_drewN | apply Kd.R_drew)); exact Kd.R_mono (Kd.R_far (p := ⟨gb172, 3, none⟩) (Kd.R_far (p := ⟨gb172, 2, none⟩) (Kd.R_far (p := ⟨gb172, 1, none⟩) (Kd.R_far (p := ⟨gb172, 0, none⟩) (Kd.R_types HO_9.out BK172.out (by decide)) (fun _ hk => hk.2) (.int .i64 t164)) (fun _ hk => hk.2) (.int .i64 t165)) (fun _ hk => hk.2) (.int .i64 t166)) (fun _ hk => hk.2) (.int .i64 t167)) (fun _ hk => ⟨hk.1.2, hk.1.1⟩)⟩, ⟨by (with_reducible repeat (first | apply Kd.R_alloc | apply Kd.R_drewN | apply Kd.R_drew)); exact Kd.R_mono (Kd.R_far (p := ⟨gb172, 3, none⟩) (Kd.R_far (p := ⟨gb172, 2, none⟩) (Kd.R_far (p := ⟨gb172, 1, none⟩) (Kd.R_far (p := ⟨gb172, 0, none⟩) (Kd.R_types HO171.out BK172.out (by decide)) (fun _ hk => hk.2) (.int .i64 t164)) (fun _ hk => hk.2) (.int .i64 t165)) (fun _ hk => hk.2) (.int .i64 t166)) (fun _ hk => hk.2) (.int .i64 t167)) (fun _ hk => ⟨hk.1.1.2, hk.1.2⟩)⟩, ⟨by (with_reducible repeat (first | refine blk_drewN ?_ _ | refine blk_drew ?_ | refine blk_alloc ?_ _)); refine blk_far ?_ NB143_172.out _; (with_reducible repeat (first | refine blk_drewN ?_ _ | refine blk_drew ?_ | refine blk_alloc ?_ _)); refine blk_far ?_ NB143_172.out _; (with_reducible repeat (first | refine blk_drewN ?_ _ | refine blk_drew ?_ | refine blk_alloc ?_ _)); refine blk_far ?_ NB143_172.out _; (with_reducible repeat (first | refine blk_drewN ?_ _ | refine blk_drew ?_ | refine blk_alloc ?_ _)); refine blk_far ?_ NB143_172.out _; (with_reducible repeat (first | refine blk_drewN ?_ _ | refine blk_drew ?_ | refine blk_alloc ?_ _)); exact BK143.out⟩, ⟨by (with_reducible repeat (first | refine blk_drewN ?_ _ | refine blk_drew ?_ | refine blk_alloc ?_ _)); refine blk_far ?_ NB144_172.out _; (with_reducible repeat (first | refine blk_drewN ?_ _ | refine blk_drew ?_ | refine blk_alloc ?_ _)); refine blk_far ?_ NB144_172.out _; (with_reducible repeat (first | refine blk_drewN ?_ _ | refine blk_drew ?_ | refine blk_alloc ?_ _)); refine blk_far ?_ NB144_172.out _; (with_reducible repeat (first | refine blk_drewN ?_ _ | refine blk_drew ?_ | refine blk_alloc ?_ _)); refine blk_far ?_ NB144_172.out _; (with_reducible repeat (first | refine blk_drewN ?_ _ | refine blk_drew ?_ | refine blk_alloc ?_ _)); exact BK144.out⟩, ⟨by (with_reducible repeat (first | refine blk_drewN ?_ _ | refine blk_drew ?_ | refine blk_alloc ?_ _)); refine blk_far ?_ NB157_172.out _; (with_reducible repeat (first | refine blk_drewN ?_ _ | refine blk_drew ?_ | refine blk_alloc ?_ _)); refine blk_far ?_ NB157_172.out _; (with_reducible repeat (first | refine blk_drewN ?_ _ | refine blk_drew ?_ | refine blk_alloc ?_ _)); refine blk_far ?_ NB157_172.out _; (with_reducible repeat (first | refine blk_drewN ?_ _ | refine blk_drew ?_ | refine blk_alloc ?_ _)); refine blk_far ?_ NB157_172.out _; (with_reducible repeat (first | refine blk_drewN ?_ _ | refine blk_drew ?_ | refine blk_alloc ?_ _)); exact BK157.out⟩, ⟨by (with_reducible repeat (first | refine blk_drewN ?_ _ | refine blk_drew ?_ | refine blk_alloc ?_ _)); refine blk_put (cs := #[.int .i64 t164, .int .i64 t165, .int .i64 t166, .int .i64 0]) ?_ 3 _ rfl; (with_reducible repeat (first | refine blk_drewN ?_ _ | refine blk_drew ?_ | refine blk_alloc ?_ _)); refine blk_put (cs := #[.int .i64 t164, .int .i64 t165, .int .i64 0, .int .i64 0]) ?_ 2 _ rfl; (with_reducible repeat (first | refine blk_drewN ?_ _ | refine blk_drew ?_ | refine blk_alloc ?_ _)); refine blk_put (cs := #[.int .i64 t164, .int .i64 0, .int .i64 0, .int .i64 0]) ?_ 1 _ rfl; (with_reducible repeat (first | refine blk_drewN ?_ _ | refine blk_drew ?_ | refine blk_alloc ?_ _)); refine blk_put (cs := #[.int .i64 0, .int .i64 0, .int .i64 0, .int .i64 0]) ?_ 0 _ rfl; (with_reducible repeat (first | refine blk_drewN ?_ _ | refine blk_drew ?_ | refine blk_alloc ?_ _)); exact BK172.out⟩, ⟨by repeat (first | (with_reducible first | exact HB.out | apply below_alloc | apply pw_below_drewN | apply below_drew1 | refine below_set ?_ GE143.out | refine below_set ?_ GE144.out | refine below_set ?_ GE157.out | refine below_set ?_ GE172.out) | exact HB.out)⟩⟩
            · rw [if_neg c74] at H
              have c74b0 : (!(t148 == t164) || (!(t149 == t165) || (!(t150 == t166) || (!(t151 == t167))))) = false := by simpa using c74
              clear c74
              (first | rw [c74b0] | (simp only [i64_w, i32_w]; rw [c74b0]) | skip)
              by_cases c82 : t152 = t168
              · rw [if_pos c82] at H
                have c82b0 : (t152 == t168) = true := beq_iff_eq.mpr c82
                have c82b1 : (t152 != t168) = false := bne_eq_false_iff_eq.mpr c82
                clear c82
                by_cases c83 : (t153.length : Int) = (t169.length : Int)
                · rw [if_pos c83] at H
                  have c83b0 : ((t153.length : Int) == (t169.length : Int)) = true := beq_iff_eq.mpr c83
                  have c83b1 : ((t153.length : Int) != (t169.length : Int)) = false := bne_eq_false_iff_eq.mpr c83
                  have c83b2 : (t153.length == t169.length) = true := by first | simpa using c83 | (simp at c83 ⊢; omega)
                  clear c83
                  have H' := Aside0.mk H
                  clear H
                  have hnb84 := NB157_143.out
                  have hnc84 := NB143_157.out
                  have hnb85 := NB157_144.out
                  have hnc85 := NB144_157.out
                  have hnb86 := NB157_172.out
                  have hnc86 := NB172_157.out
                  have hcz87_0 : w69.cell? ⟨gb157, 0, none⟩ = some (.int .i64 t148) := (blk_cell BK157.out 0).trans rfl
                  have hcz87_1 : w69.cell? ⟨gb157, 1, none⟩ = some (.int .i64 t149) := (blk_cell BK157.out 1).trans rfl
                  have hcz87_2 : w69.cell? ⟨gb157, 2, none⟩ = some (.int .i64 t150) := (blk_cell BK157.out 2).trans rfl
                  have hcz87_3 : w69.cell? ⟨gb157, 3, none⟩ = some (.int .i64 t151) := (blk_cell BK157.out 3).trans rfl
                  have hfz87_0 := blk_frozen BK157.out 0
                  have hfz87_1 := blk_frozen BK157.out 1
                  have hfz87_2 := blk_frozen BK157.out 2
                  have hfz87_3 := blk_frozen BK157.out 3
                  have hnb88 := NB172_143.out
                  have hnc88 := NB143_172.out
                  have hnb89 := NB172_144.out
                  have hnc89 := NB144_172.out
                  have hcz90_0 : w69.cell? ⟨gb172, 0, none⟩ = some (.int .i64 0) := (blk_cell BK172.out 0).trans rfl
                  have hcz90_1 : w69.cell? ⟨gb172, 1, none⟩ = some (.int .i64 0) := (blk_cell BK172.out 1).trans rfl
                  have hcz90_2 : w69.cell? ⟨gb172, 2, none⟩ = some (.int .i64 0) := (blk_cell BK172.out 2).trans rfl
                  have hcz90_3 : w69.cell? ⟨gb172, 3, none⟩ = some (.int .i64 0) := (blk_cell BK172.out 3).trans rfl
                  have hfz90_0 := blk_frozen BK172.out 0
                  have hfz90_1 := blk_frozen BK172.out 1
                  have hfz90_2 := blk_frozen BK172.out 2
                  have hfz90_3 := blk_frozen BK172.out 3
                  obtain ⟨Ao91, co91, eo91⟩ := Kd.R_slice HO_9.out
                  subst eo91
                  obtain ⟨Ao92, co92, eo92⟩ := Kd.R_slice HO171.out
                  subst eo92
                  go_wp2
                  go_meet
                  case rel => exact ⟨_, ((t156 != 0)), (by first | rfl | (simp; done) | (simp [*]; done)), H', ⟨by have := HJ8.out; first | omega | exact Nat.le_refl _⟩, ⟨by (with_reducible repeat (first | apply Kd.R_alloc | apply Kd.R_drewN | apply Kd.R_drew)); exact Kd.R_mono (Kd.R_far (p := ⟨gb172, 3, none⟩) (Kd.R_far (p := ⟨gb172, 2, none⟩) (Kd.R_far (p := ⟨gb172, 1, none⟩) (Kd.R_far (p := ⟨gb172, 0, none⟩) (Kd.R_types HO_9.out BK172.out (by decide)) (fun _ hk => hk.2) (.int .i64 t164)) (fun _ hk => hk.2) (.int .i64 t165)) (fun _ hk => hk.2) (.int .i64 t166)) (fun _ hk => hk.2) (.int .i64 t167)) (fun _ hk => ⟨hk.1.2, hk.1.1⟩)⟩, ⟨by (with_reducible repeat (first | apply Kd.R_alloc | apply Kd.R_drewN | apply Kd.R_drew)); exact Kd.R_mono (Kd.R_far (p := ⟨gb172, 3, none⟩) (Kd.R_far (p := ⟨gb172, 2, none⟩) (Kd.R_far (p := ⟨gb172, 1, none⟩) (Kd.R_far (p := ⟨gb172, 0, none⟩) (Kd.R_types HO171.out BK172.out (by decide)) (fun _ hk => hk.2) (.int .i64 t164)) (fun _ hk => hk.2) (.int .i64 t165)) (fun _ hk => hk.2) (.int .i64 t166)) (fun _ hk => hk.2) (.int .i64 t167)) (fun _ hk => ⟨hk.1.1.2, hk.1.2⟩)⟩, ⟨by (with_reducible repeat (first | refine blk_drewN ?_ _ | refine blk_drew ?_ | refine blk_alloc ?_ _)); refine blk_far ?_ NB143_172.out _; (with_reducible repeat (first | refine blk_drewN ?_ _ | refine blk_drew ?_ | refine blk_alloc ?_ _)); refine blk_far ?_ NB143_172.out _; (with_reducible repeat (first | refine blk_drewN ?_ _ | refine blk_drew ?_ | refine blk_alloc ?_ _)); refine blk_far ?_ NB143_172.out _; (with_reducible repeat (first | refine blk_drewN ?_ _ | refine blk_drew ?_ | refine blk_alloc ?_ _)); refine blk_far ?_ NB143_172.out _; (with_reducible repeat (first | refine blk_drewN ?_ _ | refine blk_drew ?_ | refine blk_alloc ?_ _)); exact BK143.out⟩, ⟨by (with_reducible repeat (first | refine blk_drewN ?_ _ | refine blk_drew ?_ | refine blk_alloc ?_ _)); refine blk_far ?_ NB144_172.out _; (with_reducible repeat (first | refine blk_drewN ?_ _ | refine blk_drew ?_ | refine blk_alloc ?_ _)); refine blk_far ?_ NB144_172.out _; (with_reducible repeat (first | refine blk_drewN ?_ _ | refine blk_drew ?_ | refine blk_alloc ?_ _)); refine blk_far ?_ NB144_172.out _; (with_reducible repeat (first | refine blk_drewN ?_ _ | refine blk_drew ?_ | refine blk_alloc ?_ _)); refine blk_far ?_ NB144_172.out _; (with_reducible repeat (first | refine blk_drewN ?_ _ | refine blk_drew ?_ | refine blk_alloc ?_ _)); exact BK144.out⟩, ⟨by (with_reducible repeat (first | refine blk_drewN ?_ _ | refine blk_drew ?_ | refine blk_alloc ?_ _)); refine blk_far ?_ NB157_172.out _; (with_reducible repeat (first | refine blk_drewN ?_ _ | refine blk_drew ?_ | refine blk_alloc ?_ _)); refine blk_far ?_ NB157_172.out _; (with_reducible repeat (first | refine blk_drewN ?_ _ | refine blk_drew ?_ | refine blk_alloc ?_ _)); refine blk_far ?_ NB157_172.out _; (with_reducible repeat (first | refine blk_drewN ?_ _ | refine blk_drew ?_ | refine blk_alloc ?_ _)); refine blk_far ?_ NB157_172.out _; (with_reducible repeat (first | refine blk_drewN ?_ _ | refine blk_drew ?_ | refine blk_alloc ?_ _)); exact BK157.out⟩, ⟨by (with_reducible repeat (first | refine blk_drewN ?_ _ | refine blk_drew ?_ | refine blk_alloc ?_ _)); refine blk_put (cs := #[.int .i64 t164, .int .i64 t165, .int .i64 t166, .int .i64 0]) ?_ 3 _ rfl; (with_reducible repeat (first | refine blk_drewN ?_ _ | refine blk_drew ?_ | refine blk_alloc ?_ _)); refine blk_put (cs := #[.int .i64 t164, .int .i64 t165, .int .i64 0, .int .i64 0]) ?_ 2 _ rfl; (with_reducible repeat (first | refine blk_drewN ?_ _ | refine blk_drew ?_ | refine blk_alloc ?_ _)); refine blk_put (cs := #[.int .i64 t164, .int .i64 0, .int .i64 0, .int .i64 0]) ?_ 1 _ rfl; (with_reducible repeat (first | refine blk_drewN ?_ _ | refine blk_drew ?_ | refine blk_alloc ?_ _)); refine blk_put (cs := #[.int .i64 0, .int .i64 0, .int .i64 0, .int .i64 0]) ?_ 0 _ rfl; (with_reducible repeat (first | refine blk_drewN ?_ _ | refine blk_drew ?_ | refine blk_alloc ?_ _)); exact BK172.out⟩, ⟨by repeat (first | (with_reducible first | exact HB.out | apply below_alloc | apply pw_below_drewN | apply below_drew1 | refine below_set ?_ GE143.out | refine below_set ?_ GE144.out | refine below_set ?_ GE157.out | refine below_set ?_ GE172.out) | exact HB.out)⟩⟩
                · rw [if_neg c83] at H
                  have c83b0 : ((t153.length : Int) == (t169.length : Int)) = false := beq_eq_false_iff_ne.mpr c83
                  have c83b1 : ((t153.length : Int) != (t169.length : Int)) = true := bne_iff_ne.mpr c83
                  have c83b2 : (t153.length == t169.length) = false := by first | simpa using c83 | (simp at c83 ⊢; omega)
                  have H' := Aside0.mk H
                  clear H
                  have hnb93 := NB157_143.out
                  have hnc93 := NB143_157.out
                  have hnb94 := NB157_144.out
                  have hnc94 := NB144_157.out
                  have hnb95 := NB157_172.out
                  have hnc95 := NB172_157.out
                  have hcz96_0 : w69.cell? ⟨gb157, 0, none⟩ = some (.int .i64 t148) := (blk_cell BK157.out 0).trans rfl
                  have hcz96_1 : w69.cell? ⟨gb157, 1, none⟩ = some (.int .i64 t149) := (blk_cell BK157.out 1).trans rfl
                  have hcz96_2 : w69.cell? ⟨gb157, 2, none⟩ = some (.int .i64 t150) := (blk_cell BK157.out 2).trans rfl
                  have hcz96_3 : w69.cell? ⟨gb157, 3, none⟩ = some (.int .i64 t151) := (blk_cell BK157.out 3).trans rfl
                  have hfz96_0 := blk_frozen BK157.out 0
                  have hfz96_1 := blk_frozen BK157.out 1
                  have hfz96_2 := blk_frozen BK157.out 2
                  have hfz96_3 := blk_frozen BK157.out 3
                  have hnb97 := NB172_143.out
                  have hnc97 := NB143_172.out
                  have hnb98 := NB172_144.out
                  have hnc98 := NB144_172.out
                  have hcz99_0 : w69.cell? ⟨gb172, 0, none⟩ = some (.int .i64 0) := (blk_cell BK172.out 0).trans rfl
                  have hcz99_1 : w69.cell? ⟨gb172, 1, none⟩ = some (.int .i64 0) := (blk_cell BK172.out 1).trans rfl
                  have hcz99_2 : w69.cell? ⟨gb172, 2, none⟩ = some (.int .i64 0) := (blk_cell BK172.out 2).trans rfl
                  have hcz99_3 : w69.cell? ⟨gb172, 3, none⟩ = some (.int .i64 0) := (blk_cell BK172.out 3).trans rfl
                  have hfz99_0 := blk_frozen BK172.out 0
                  have hfz99_1 := blk_frozen BK172.out 1
                  have hfz99_2 := blk_frozen BK172.out 2
                  have hfz99_3 := blk_frozen BK172.out 3
                  obtain ⟨Ao100, co100, eo100⟩ := Kd.R_slice HO_9.out
                  subst eo100
                  obtain ⟨Ao101, co101, eo101⟩ := Kd.R_slice HO171.out
                  subst eo101
                  go_wp2
                  go_meet
                  case rel => exact ⟨_, (true), (by first | rfl | (simp; done) | (simp [*]; done)), H', ⟨by have := HJ8.out; first | omega | exact Nat.le_refl _⟩, ⟨by (with_reducible repeat (first | apply Kd.R_alloc | apply Kd.R_drewN | apply Kd.R_drew)); exact Kd.R_mono (Kd.R_far (p := ⟨gb172, 3, none⟩) (Kd.R_far (p := ⟨gb172, 2, none⟩) (Kd.R_far (p := ⟨gb172, 1, none⟩) (Kd.R_far (p := ⟨gb172, 0, none⟩) (Kd.R_types HO_9.out BK172.out (by decide)) (fun _ hk => hk.2) (.int .i64 t164)) (fun _ hk => hk.2) (.int .i64 t165)) (fun _ hk => hk.2) (.int .i64 t166)) (fun _ hk => hk.2) (.int .i64 t167)) (fun _ hk => ⟨hk.1.2, hk.1.1⟩)⟩, ⟨by (with_reducible repeat (first | apply Kd.R_alloc | apply Kd.R_drewN | apply Kd.R_drew)); exact Kd.R_mono (Kd.R_far (p := ⟨gb172, 3, none⟩) (Kd.R_far (p := ⟨gb172, 2, none⟩) (Kd.R_far (p := ⟨gb172, 1, none⟩) (Kd.R_far (p := ⟨gb172, 0, none⟩) (Kd.R_types HO171.out BK172.out (by decide)) (fun _ hk => hk.2) (.int .i64 t164)) (fun _ hk => hk.2) (.int .i64 t165)) (fun _ hk => hk.2) (.int .i64 t166)) (fun _ hk => hk.2) (.int .i64 t167)) (fun _ hk => ⟨hk.1.1.2, hk.1.2⟩)⟩, ⟨by (with_reducible repeat (first | refine blk_drewN ?_ _ | refine blk_drew ?_ | refine blk_alloc ?_ _)); refine blk_far ?_ NB143_172.out _; (with_reducible repeat (first | refine blk_drewN ?_ _ | refine blk_drew ?_ | refine blk_alloc ?_ _)); refine blk_far ?_ NB143_172.out _; (with_reducible repeat (first | refine blk_drewN ?_ _ | refine blk_drew ?_ | refine blk_alloc ?_ _)); refine blk_far ?_ NB143_172.out _; (with_reducible repeat (first | refine blk_drewN ?_ _ | refine blk_drew ?_ | refine blk_alloc ?_ _)); refine blk_far ?_ NB143_172.out _; (with_reducible repeat (first | refine blk_drewN ?_ _ | refine blk_drew ?_ | refine blk_alloc ?_ _)); exact BK143.out⟩, ⟨by (with_reducible repeat (first | refine blk_drewN ?_ _ | refine blk_drew ?_ | refine blk_alloc ?_ _)); refine blk_far ?_ NB144_172.out _; (with_reducible repeat (first | refine blk_drewN ?_ _ | refine blk_drew ?_ | refine blk_alloc ?_ _)); refine blk_far ?_ NB144_172.out _; (with_reducible repeat (first | refine blk_drewN ?_ _ | refine blk_drew ?_ | refine blk_alloc ?_ _)); refine blk_far ?_ NB144_172.out _; (with_reducible repeat (first | refine blk_drewN ?_ _ | refine blk_drew ?_ | refine blk_alloc ?_ _)); refine blk_far ?_ NB144_172.out _; (with_reducible repeat (first | refine blk_drewN ?_ _ | refine blk_drew ?_ | refine blk_alloc ?_ _)); exact BK144.out⟩, ⟨by (with_reducible repeat (first | refine blk_drewN ?_ _ | refine blk_drew ?_ | refine blk_alloc ?_ _)); refine blk_far ?_ NB157_172.out _; (with_reducible repeat (first | refine blk_drewN ?_ _ | refine blk_drew ?_ | refine blk_alloc ?_ _)); refine blk_far ?_ NB157_172.out _; (with_reducible repeat (first | refine blk_drewN ?_ _ | refine blk_drew ?_ | refine blk_alloc ?_ _)); refine blk_far ?_ NB157_172.out _; (with_reducible repeat (first | refine blk_drewN ?_ _ | refine blk_drew ?_ | refine blk_alloc ?_ _)); refine blk_far ?_ NB157_172.out _; (with_reducible repeat (first | refine blk_drewN ?_ _ | refine blk_drew ?_ | refine blk_alloc ?_ _)); exact BK157.out⟩, ⟨by (with_reducible repeat (first | refine blk_drewN ?_ _ | refine blk_drew ?_ | refine blk_alloc ?_ _)); refine blk_put (cs := #[.int .i64 t164, .int .i64 t165, .int .i64 t166, .int .i64 0]) ?_ 3 _ rfl; (with_reducible repeat (first | refine blk_drewN ?_ _ | refine blk_drew ?_ | refine blk_alloc ?_ _)); refine blk_put (cs := #[.int .i64 t164, .int .i64 t165, .int .i64 0, .int .i64 0]) ?_ 2 _ rfl; (with_reducible repeat (first | refine blk_drewN ?_ _ | refine blk_drew ?_ | refine blk_alloc ?_ _)); refine blk_put (cs := #[.int .i64 t164, .int .i64 0, .int .i64 0, .int .i64 0]) ?_ 1 _ rfl; (with_reducible repeat (first | refine blk_drewN ?_ _ | refine blk_drew ?_ | refine blk_alloc ?_ _)); refine blk_put (cs := #[.int .i64 0, .int .i64 0, .int .i64 0, .int .i64 0]) ?_ 0 _ rfl; (with_reducible repeat (first | refine blk_drewN ?_ _ | refine blk_drew ?_ | refine blk_alloc ?_ _)); exact BK172.out⟩, ⟨by repeat (first | (with_reducible first | exact HB.out | apply below_alloc | apply pw_below_drewN | apply below_drew1 | refine below_set ?_ GE143.out | refine below_set ?_ GE144.out | refine below_set ?_ GE157.out | refine below_set ?_ GE172.out) | exact HB.out)⟩⟩
              · rw [if_neg c82] at H
                have c82b0 : (t152 == t168) = false := beq_eq_false_iff_ne.mpr c82
                have c82b1 : (t152 != t168) = true := bne_iff_ne.mpr c82
                have H' := Aside0.mk H
                clear H
                have hnb102 := NB157_143.out
                have hnc102 := NB143_157.out
                have hnb103 := NB157_144.out
                have hnc103 := NB144_157.out
                have hnb104 := NB157_172.out
                have hnc104 := NB172_157.out
                have hcz105_0 : w69.cell? ⟨gb157, 0, none⟩ = some (.int .i64 t148) := (blk_cell BK157.out 0).trans rfl
                have hcz105_1 : w69.cell? ⟨gb157, 1, none⟩ = some (.int .i64 t149) := (blk_cell BK157.out 1).trans rfl
                have hcz105_2 : w69.cell? ⟨gb157, 2, none⟩ = some (.int .i64 t150) := (blk_cell BK157.out 2).trans rfl
                have hcz105_3 : w69.cell? ⟨gb157, 3, none⟩ = some (.int .i64 t151) := (blk_cell BK157.out 3).trans rfl
                have hfz105_0 := blk_frozen BK157.out 0
                have hfz105_1 := blk_frozen BK157.out 1
                have hfz105_2 := blk_frozen BK157.out 2
                have hfz105_3 := blk_frozen BK157.out 3
                have hnb106 := NB172_143.out
                have hnc106 := NB143_172.out
                have hnb107 := NB172_144.out
                have hnc107 := NB144_172.out
                have hcz108_0 : w69.cell? ⟨gb172, 0, none⟩ = some (.int .i64 0) := (blk_cell BK172.out 0).trans rfl
                have hcz108_1 : w69.cell? ⟨gb172, 1, none⟩ = some (.int .i64 0) := (blk_cell BK172.out 1).trans rfl
                have hcz108_2 : w69.cell? ⟨gb172, 2, none⟩ = some (.int .i64 0) := (blk_cell BK172.out 2).trans rfl
                have hcz108_3 : w69.cell? ⟨gb172, 3, none⟩ = some (.int .i64 0) := (blk_cell BK172.out 3).trans rfl
                have hfz108_0 := blk_frozen BK172.out 0
                have hfz108_1 := blk_frozen BK172.out 1
                have hfz108_2 := blk_frozen BK172.out 2
                have hfz108_3 := blk_frozen BK172.out 3
                go_wp2
                go_meet
                case rel => exact ⟨_, (true), (by first | rfl | (simp; done) | (simp [*]; done)), H', ⟨by have := HJ8.out; first | omega | exact Nat.le_refl _⟩, ⟨by (with_reducible repeat (first | apply Kd.R_alloc | apply Kd.R_drewN | apply Kd.R_drew)); exact Kd.R_mono (Kd.R_far (p := ⟨gb172, 3, none⟩) (Kd.R_far (p := ⟨gb172, 2, none⟩) (Kd.R_far (p := ⟨gb172, 1, none⟩) (Kd.R_far (p := ⟨gb172, 0, none⟩) (Kd.R_types HO_9.out BK172.out (by decide)) (fun _ hk => hk.2) (.int .i64 t164)) (fun _ hk => hk.2) (.int .i64 t165)) (fun _ hk => hk.2) (.int .i64 t166)) (fun _ hk => hk.2) (.int .i64 t167)) (fun _ hk => ⟨hk.1.2, hk.1.1⟩)⟩, ⟨by (with_reducible repeat (first | apply Kd.R_alloc | apply Kd.R_drewN | apply Kd.R_drew)); exact Kd.R_mono (Kd.R_far (p := ⟨gb172, 3, none⟩) (Kd.R_far (p := ⟨gb172, 2, none⟩) (Kd.R_far (p := ⟨gb172, 1, none⟩) (Kd.R_far (p := ⟨gb172, 0, none⟩) (Kd.R_types HO171.out BK172.out (by decide)) (fun _ hk => hk.2) (.int .i64 t164)) (fun _ hk => hk.2) (.int .i64 t165)) (fun _ hk => hk.2) (.int .i64 t166)) (fun _ hk => hk.2) (.int .i64 t167)) (fun _ hk => ⟨hk.1.1.2, hk.1.2⟩)⟩, ⟨by (with_reducible repeat (first | refine blk_drewN ?_ _ | refine blk_drew ?_ | refine blk_alloc ?_ _)); refine blk_far ?_ NB143_172.out _; (with_reducible repeat (first | refine blk_drewN ?_ _ | refine blk_drew ?_ | refine blk_alloc ?_ _)); refine blk_far ?_ NB143_172.out _; (with_reducible repeat (first | refine blk_drewN ?_ _ | refine blk_drew ?_ | refine blk_alloc ?_ _)); refine blk_far ?_ NB143_172.out _; (with_reducible repeat (first | refine blk_drewN ?_ _ | refine blk_drew ?_ | refine blk_alloc ?_ _)); refine blk_far ?_ NB143_172.out _; (with_reducible repeat (first | refine blk_drewN ?_ _ | refine blk_drew ?_ | refine blk_alloc ?_ _)); exact BK143.out⟩, ⟨by (with_reducible repeat (first | refine blk_drewN ?_ _ | refine blk_drew ?_ | refine blk_alloc ?_ _)); refine blk_far ?_ NB144_172.out _; (with_reducible repeat (first | refine blk_drewN ?_ _ | refine blk_drew ?_ | refine blk_alloc ?_ _)); refine blk_far ?_ NB144_172.out _; (with_reducible repeat (first | refine blk_drewN ?_ _ | refine blk_drew ?_ | refine blk_alloc ?_ _)); refine blk_far ?_ NB144_172.out _; (with_reducible repeat (first | refine blk_drewN ?_ _ | refine blk_drew ?_ | refine blk_alloc ?_ _)); refine blk_far ?_ NB144_172.out _; (with_reducible repeat (first | refine blk_drewN ?_ _ | refine blk_drew ?_ | refine blk_alloc ?_ _)); exact BK144.out⟩, ⟨by (with_reducible repeat (first | refine blk_drewN ?_ _ | refine blk_drew ?_ | refine blk_alloc ?_ _)); refine blk_far ?_ NB157_172.out _; (with_reducible repeat (first | refine blk_drewN ?_ _ | refine blk_drew ?_ | refine blk_alloc ?_ _)); refine blk_far ?_ NB157_172.out _; (with_reducible repeat (first | refine blk_drewN ?_ _ | refine blk_drew ?_ | refine blk_alloc ?_ _)); refine blk_far ?_ NB157_172.out _; (with_reducible repeat (first | refine blk_drewN ?_ _ | refine blk_drew ?_ | refine blk_alloc ?_ _)); refine blk_far ?_ NB157_172.out _; (with_reducible repeat (first | refine blk_drewN ?_ _ | refine blk_drew ?_ | refine blk_alloc ?_ _)); exact BK157.out⟩, ⟨by (with_reducible repeat (first | refine blk_drewN ?_ _ | refine blk_drew ?_ | refine blk_alloc ?_ _)); refine blk_put (cs := #[.int .i64 t164, .int .i64 t165, .int .i64 t166, .int .i64 0]) ?_ 3 _ rfl; (with_reducible repeat (first | refine blk_drewN ?_ _ | refine blk_drew ?_ | refine blk_alloc ?_ _)); refine blk_put (cs := #[.int .i64 t164, .int .i64 t165, .int .i64 0, .int .i64 0]) ?_ 2 _ rfl; (with_reducible repeat (first | refine blk_drewN ?_ _ | refine blk_drew ?_ | refine blk_alloc ?_ _)); refine blk_put (cs := #[.int .i64 t164, .int .i64 0, .int .i64 0, .int .i64 0]) ?_ 1 _ rfl; (with_reducible repeat (first | refine blk_drewN ?_ _ | refine blk_drew ?_ | refine blk_alloc ?_ _)); refine blk_put (cs := #[.int .i64 0, .int .i64 0, .int .i64 0, .int .i64 0]) ?_ 0 _ rfl; (with_reducible repeat (first | refine blk_drewN ?_ _ | refine blk_drew ?_ | refine blk_alloc ?_ _)); exact BK172.out⟩, ⟨by repeat (first | (with_reducible first | exact HB.out | apply below_alloc | apply pw_below_drewN | apply below_drew1 | refine below_set ?_ GE143.out | refine below_set ?_ GE144.out | refine below_set ?_ GE157.out | refine below_set ?_ GE172.out) | exact HB.out)⟩⟩
          case rest =>
            clear HC62
            try clear c1
            try clear c2
            try clear p2
            try clear c3
            try clear c4
            try clear c5
            try clear c6
            try clear c7
            try clear c8
            try clear c8b0
            try clear c8b1
            try clear c8b2
            try clear c9
            try clear c10
            try clear c13
            try clear c18
            try clear c19
            try clear c20
            try clear c27
            try clear c29
            try clear c31
            try clear c32
            try clear c35
            try clear c39
            try clear c40
            try clear c43
            try clear c46
            try clear c47
            try clear c50
            try clear c51
            try clear c51b0
            try clear c51b1
            try clear c51b2
            try clear c52
            try clear c52b0
            try clear c52b1
            try clear c53
            try clear c53b0
            try clear c53b1
            try clear c54
            try clear c54b0
            try clear c54b1
            try clear c56
            try clear c57
            try clear c58
            try clear c59
            try clear c60
            try clear c61
            try clear c63
            try clear c64
            try clear c66
            try clear c70
            try clear c71
            try clear c72
            try clear c74
            try clear c74b0
            try clear c75
            try clear c76
            try clear c77
            try clear c79
            try clear c80
            try clear c82
            try clear c82b0
            try clear c82b1
            try clear c83
            try clear c83b0
            try clear c83b1
            try clear c83b2
            try clear c84
            try clear c85
            try clear c86
            try clear c88
            try clear c89
            try clear c93
            try clear c94
            try clear c95
            try clear c97
            try clear c98
            try clear c102
            try clear c103
            try clear c104
            try clear c106
            try clear c107
            try clear hcz105_0
            try clear hcz105_1
            try clear hcz105_2
            try clear hcz105_3
            try clear hcz108_0
            try clear hcz108_1
            try clear hcz108_2
            try clear hcz108_3
            try clear hcz14_0
            try clear hcz14_1
            try clear hcz14_2
            try clear hcz14_3
            try clear hcz15_0
            try clear hcz15_1
            try clear hcz21_0
            try clear hcz21_1
            try clear hcz21_2
            try clear hcz21_3
            try clear hcz33_0
            try clear hcz33_1
            try clear hcz33_2
            try clear hcz33_3
            try clear hcz36_0
            try clear hcz36_1
            try clear hcz41_0
            try clear hcz41_1
            try clear hcz41_2
            try clear hcz41_3
            try clear hcz44_0
            try clear hcz44_1
            try clear hcz48_0
            try clear hcz48_1
            try clear hcz48_2
            try clear hcz48_3
            try clear hcz58_0
            try clear hcz58_1
            try clear hcz58_2
            try clear hcz58_3
            try clear hcz65_0
            try clear hcz65_1
            try clear hcz65_2
            try clear hcz65_3
            try clear hcz67_0
            try clear hcz67_1
            try clear hcz73_0
            try clear hcz73_1
            try clear hcz73_2
            try clear hcz73_3
            try clear hcz78_0
            try clear hcz78_1
            try clear hcz78_2
            try clear hcz78_3
            try clear hcz81_0
            try clear hcz81_1
            try clear hcz81_2
            try clear hcz81_3
            try clear hcz87_0
            try clear hcz87_1
            try clear hcz87_2
            try clear hcz87_3
            try clear hcz90_0
            try clear hcz90_1
            try clear hcz90_2
            try clear hcz90_3
            try clear hcz96_0
            try clear hcz96_1
            try clear hcz96_2
            try clear hcz96_3
            try clear hcz99_0
            try clear hcz99_1
            try clear hcz99_2
            try clear hcz99_3
            try clear hfz105_0
            try clear hfz105_1
            try clear hfz105_2
            try clear hfz105_3
            try clear hfz108_0
            try clear hfz108_1
            try clear hfz108_2
            try clear hfz108_3
            try clear hfz14_0
            try clear hfz14_1
            try clear hfz14_2
            try clear hfz14_3
            try clear hfz15_0
            try clear hfz15_1
            try clear hfz21_0
            try clear hfz21_1
            try clear hfz21_2
            try clear hfz21_3
            try clear hfz33_0
            try clear hfz33_1
            try clear hfz33_2
            try clear hfz33_3
            try clear hfz36_0
            try clear hfz36_1
            try clear hfz41_0
            try clear hfz41_1
            try clear hfz41_2
            try clear hfz41_3
            try clear hfz44_0
            try clear hfz44_1
            try clear hfz48_0
            try clear hfz48_1
            try clear hfz48_2
            try clear hfz48_3
            try clear hfz58_0
            try clear hfz58_1
            try clear hfz58_2
            try clear hfz58_3
            try clear hfz65_0
            try clear hfz65_1
            try clear hfz65_2
            try clear hfz65_3
            try clear hfz67_0
            try clear hfz67_1
            try clear hfz73_0
            try clear hfz73_1
            try clear hfz73_2
            try clear hfz73_3
            try clear hfz78_0
            try clear hfz78_1
            try clear hfz78_2
            try clear hfz78_3
            try clear hfz81_0
            try clear hfz81_1
            try clear hfz81_2
            try clear hfz81_3
            try clear hfz87_0
            try clear hfz87_1
            try clear hfz87_2
            try clear hfz87_3
            try clear hfz90_0
            try clear hfz90_1
            try clear hfz90_2
            try clear hfz90_3
            try clear hfz96_0
            try clear hfz96_1
            try clear hfz96_2
            try clear hfz96_3
            try clear hfz99_0
            try clear hfz99_1
            try clear hfz99_2
            try clear hfz99_3
            try clear p2
            obtain ⟨kq, x89_61, rfl, HA, HJ61, HO_9, HO_13, BK143, BK144, BK157, BK172, HB⟩ := hcut
            cases kq with
            | zero => exact absurd HA.out (by simp [bivouaclaw19_PurseServes.j1])
            | succ kj61 =>
              have H := HA.out
              clear HA
              simp only [bivouaclaw19_PurseServes.j1] at H
              by_cases c109 : x89_61 = true
              · subst c109
                have H1 : (some false) = some true := by rw [if_pos rfl] at H; exact H
                clear H
                have H := H1
                clear H1
                exact absurd H (by simp)
              · replace c109 := Bool.eq_false_iff.mpr c109
                subst c109
                have H1 : (bivouaclaw19_PurseServes.l0 kj61 t153 t169 0) = some true := by rw [if_neg (show ¬ (false = true) by decide)] at H; exact H
                clear H
                have H := H1
                clear H1
                have H' := Aside0.mk H
                clear H
                go_wp2
                go_loopg [14] kj61 (fun kq v14 w' => ∃ (x14_3 : Int), v14 = .int .i64 x14_3 ∧ Aside0 (bivouaclaw19_PurseServes.l0 kq t153 t169 x14_3 = some true) ∧ Aside0 (kq ≤ kj61) ∧ Aside0 (Kd.R k48 48 w' w.heap.size (fun k_ => some k_ ≠ (v170 : Value).ownBlock ∧ k_ ≠ gb144) v154 t153) ∧ Aside0 (Kd.R k48 48 w' w.heap.size (fun k_ => some k_ ≠ (v154 : Value).ownBlock ∧ k_ ≠ gb144) v170 t169) ∧ Aside0 (w'.heap[gb143]? = some (.cells #[.int .i64 a0_0, .int .i64 a0_1, .int .i64 a0_2, .int .i64 a0_3] 59 (0, 0))) ∧ Aside0 (w'.heap[gb144]? = some (.cells #[.int .i64 a1_0, .int .i64 a1_1] 48 (0, 0))) ∧ Aside0 (w'.heap[gb157]? = some (.cells #[.int .i64 t148, .int .i64 t149, .int .i64 t150, .int .i64 t151] 59 (0, 0))) ∧ Aside0 (w'.heap[gb172]? = some (.cells #[.int .i64 t164, .int .i64 t165, .int .i64 t166, .int .i64 t167] 59 (0, 0))) ∧ Aside0 (Below w.heap.size w w'))
                case atStart => exact ⟨(0), (by first | rfl | (simp; done) | (simp [*]; done)), H', ⟨Nat.le_refl _⟩, ⟨by (with_reducible repeat (first | apply Kd.R_alloc | apply Kd.R_drewN | apply Kd.R_drew)); exact HO_9.out⟩, ⟨by (with_reducible repeat (first | apply Kd.R_alloc | apply Kd.R_drewN | apply Kd.R_drew)); exact HO_13.out⟩, ⟨by (with_reducible repeat (first | refine blk_drewN ?_ _ | refine blk_drew ?_ | refine blk_alloc ?_ _)); exact BK143.out⟩, ⟨by (with_reducible repeat (first | refine blk_drewN ?_ _ | refine blk_drew ?_ | refine blk_alloc ?_ _)); exact BK144.out⟩, ⟨by (with_reducible repeat (first | refine blk_drewN ?_ _ | refine blk_drew ?_ | refine blk_alloc ?_ _)); exact BK157.out⟩, ⟨by (with_reducible repeat (first | refine blk_drewN ?_ _ | refine blk_drew ?_ | refine blk_alloc ?_ _)); exact BK172.out⟩, ⟨by repeat (first | (with_reducible first | exact HB.out | apply below_alloc | apply pw_below_drewN | apply below_drew1 | refine below_set ?_ GE143.out | refine below_set ?_ GE144.out | refine below_set ?_ GE157.out | refine below_set ?_ GE172.out) | exact HB.out)⟩⟩
                case round =>
                  clear H'
                  try clear c1
                  try clear c2
                  try clear p2
                  try clear c3
                  try clear c4
                  try clear c5
                  try clear c6
                  try clear c7
                  try clear c8
                  try clear c8b0
                  try clear c8b1
                  try clear c8b2
                  try clear c9
                  try clear c10
                  try clear c13
                  try clear c18
                  try clear c19
                  try clear c20
                  try clear c27
                  try clear c29
                  try clear c31
                  try clear c32
                  try clear c35
                  try clear c39
                  try clear c40
                  try clear c43
                  try clear c46
                  try clear c47
                  try clear c50
                  try clear c51
                  try clear c51b0
                  try clear c51b1
                  try clear c51b2
                  try clear c52
                  try clear c52b0
                  try clear c52b1
                  try clear c53
                  try clear c53b0
                  try clear c53b1
                  try clear c54
                  try clear c54b0
                  try clear c54b1
                  try clear c56
                  try clear c57
                  try clear c58
                  try clear c59
                  try clear c60
                  try clear c61
                  try clear c63
                  try clear c64
                  try clear c66
                  try clear c70
                  try clear c71
                  try clear c72
                  try clear c74
                  try clear c74b0
                  try clear c75
                  try clear c76
                  try clear c77
                  try clear c79
                  try clear c80
                  try clear c82
                  try clear c82b0
                  try clear c82b1
                  try clear c83
                  try clear c83b0
                  try clear c83b1
                  try clear c83b2
                  try clear c84
                  try clear c85
                  try clear c86
                  try clear c88
                  try clear c89
                  try clear c93
                  try clear c94
                  try clear c95
                  try clear c97
                  try clear c98
                  try clear c102
                  try clear c103
                  try clear c104
                  try clear c106
                  try clear c107
                  try clear c109
                  try clear hcz105_0
                  try clear hcz105_1
                  try clear hcz105_2
                  try clear hcz105_3
                  try clear hcz108_0
                  try clear hcz108_1
                  try clear hcz108_2
                  try clear hcz108_3
                  try clear hcz14_0
                  try clear hcz14_1
                  try clear hcz14_2
                  try clear hcz14_3
                  try clear hcz15_0
                  try clear hcz15_1
                  try clear hcz21_0
                  try clear hcz21_1
                  try clear hcz21_2
                  try clear hcz21_3
                  try clear hcz33_0
                  try clear hcz33_1
                  try clear hcz33_2
                  try clear hcz33_3
                  try clear hcz36_0
                  try clear hcz36_1
                  try clear hcz41_0
                  try clear hcz41_1
                  try clear hcz41_2
                  try clear hcz41_3
                  try clear hcz44_0
                  try clear hcz44_1
                  try clear hcz48_0
                  try clear hcz48_1
                  try clear hcz48_2
                  try clear hcz48_3
                  try clear hcz58_0
                  try clear hcz58_1
                  try clear hcz58_2
                  try clear hcz58_3
                  try clear hcz65_0
                  try clear hcz65_1
                  try clear hcz65_2
                  try clear hcz65_3
                  try clear hcz67_0
                  try clear hcz67_1
                  try clear hcz73_0
                  try clear hcz73_1
                  try clear hcz73_2
                  try clear hcz73_3
                  try clear hcz78_0
                  try clear hcz78_1
                  try clear hcz78_2
                  try clear hcz78_3
                  try clear hcz81_0
                  try clear hcz81_1
                  try clear hcz81_2
                  try clear hcz81_3
                  try clear hcz87_0
                  try clear hcz87_1
                  try clear hcz87_2
                  try clear hcz87_3
                  try clear hcz90_0
                  try clear hcz90_1
                  try clear hcz90_2
                  try clear hcz90_3
                  try clear hcz96_0
                  try clear hcz96_1
                  try clear hcz96_2
                  try clear hcz96_3
                  try clear hcz99_0
                  try clear hcz99_1
                  try clear hcz99_2
                  try clear hcz99_3
                  try clear hfz105_0
                  try clear hfz105_1
                  try clear hfz105_2
                  try clear hfz105_3
                  try clear hfz108_0
                  try clear hfz108_1
                  try clear hfz108_2
                  try clear hfz108_3
                  try clear hfz14_0
                  try clear hfz14_1
                  try clear hfz14_2
                  try clear hfz14_3
                  try clear hfz15_0
                  try clear hfz15_1
                  try clear hfz21_0
                  try clear hfz21_1
                  try clear hfz21_2
                  try clear hfz21_3
                  try clear hfz33_0
                  try clear hfz33_1
                  try clear hfz33_2
                  try clear hfz33_3
                  try clear hfz36_0
                  try clear hfz36_1
                  try clear hfz41_0
                  try clear hfz41_1
                  try clear hfz41_2
                  try clear hfz41_3
                  try clear hfz44_0
                  try clear hfz44_1
                  try clear hfz48_0
                  try clear hfz48_1
                  try clear hfz48_2
                  try clear hfz48_3
                  try clear hfz58_0
                  try clear hfz58_1
                  try clear hfz58_2
                  try clear hfz58_3
                  try clear hfz65_0
                  try clear hfz65_1
                  try clear hfz65_2
                  try clear hfz65_3
                  try clear hfz67_0
                  try clear hfz67_1
                  try clear hfz73_0
                  try clear hfz73_1
                  try clear hfz73_2
                  try clear hfz73_3
                  try clear hfz78_0
                  try clear hfz78_1
                  try clear hfz78_2
                  try clear hfz78_3
                  try clear hfz81_0
                  try clear hfz81_1
                  try clear hfz81_2
                  try clear hfz81_3
                  try clear hfz87_0
                  try clear hfz87_1
                  try clear hfz87_2
                  try clear hfz87_3
                  try clear hfz90_0
                  try clear hfz90_1
                  try clear hfz90_2
                  try clear hfz90_3
                  try clear hfz96_0
                  try clear hfz96_1
                  try clear hfz96_2
                  try clear hfz96_3
                  try clear hfz99_0
                  try clear hfz99_1
                  try clear hfz99_2
                  try clear hfz99_3
                  try clear p2
                  obtain ⟨x14_3, rfl, HA, HK3, HO_9, HO_13, BK143, BK144, BK157, BK172, HB⟩ := hrel
                  cases gk with
                  | zero => exact absurd HA.out (by simp [bivouaclaw19_PurseServes.l0])
                  | succ k3 =>
                    have H := HA.out
                    clear HA
                    simp only [bivouaclaw19_PurseServes.l0] at H
                    by_cases c110 : x14_3 < (t153.length : Int)
                    · rw [if_pos c110] at H
                      have c110b0 : decide (x14_3 < (t153.length : Int)) = true := decide_eq_true c110
                      clear c110
                      by_cases c111 : 0 ≤ x14_3
                      · rw [if_pos c111] at H
                        have c111b0 : decide (0 ≤ x14_3) = true := decide_eq_true c111
                        clear c111
                        by_cases c112 : x14_3 < (t169.length : Int)
                        · rw [if_pos c112] at H
                          have c112b0 : decide (x14_3 < (t169.length : Int)) = true := decide_eq_true c112
                          clear c112
                          by_cases c113 : (!(((rd_T48 t153 x14_3).f0) == ((rd_T48 t169 x14_3).f0)) || (!(((rd_T48 t153 x14_3).f1) == ((rd_T48 t169 x14_3).f1)))) = true
                          · rw [if_pos c113] at H
                            exact absurd H (by simp)
                          · rw [if_neg c113] at H
                            have c113b0 : (!(((rd_T48 t153 x14_3).f0) == ((rd_T48 t169 x14_3).f0)) || (!(((rd_T48 t153 x14_3).f1) == ((rd_T48 t169 x14_3).f1)))) = false := by simpa using c113
                            clear c113
                            have H' := Aside0.mk H
                            clear H
                            obtain ⟨Ao114, co114, eo114⟩ := Kd.R_slice HO_9.out
                            subst eo114
                            try go_wp2
                            have n0_ := Aside0.mk (Kd.R_drew HO_9.out)
                            have n1_ := Aside0.mk (Kd.R_drew HO_13.out)
                            have n2_ := Aside0.mk (blk_drew BK143.out)
                            have n3_ := Aside0.mk (blk_drew BK144.out)
                            have n4_ := Aside0.mk (blk_drew BK157.out)
                            have n5_ := Aside0.mk (blk_drew BK172.out)
                            have n6_ := Aside0.mk (below_drew1 HB.out)
                            clear HO_9
                            clear HO_13
                            clear BK143
                            clear BK144
                            clear BK157
                            clear BK172
                            clear HB
                            have HO_9 := n0_
                            have HO_13 := n1_
                            have BK143 := n2_
                            have BK144 := n3_
                            have BK157 := n4_
                            have BK172 := n5_
                            have HB := n6_
                            clear n0_ n1_ n2_ n3_ n4_ n5_ n6_
                            have p174 : 0 ≤ (x14_3 : Int) := of_decide_eq_true (by first | (with_reducible assumption) | assumption)
                            have q174 : x14_3 < (t153.length : Int) := of_decide_eq_true (by first | (with_reducible assumption) | assumption)
                            obtain ⟨ad174, e174, hx174_0, hx174_1⟩ := at_T48 (Kd.R_reads' HO_9.out).2.2 x14_3 p174 q174
                            cases e174
                            replace p174 := eq_true p174
                            replace q174 := eq_true q174
                            obtain ⟨Ao116, co116, eo116⟩ := Kd.R_slice HO_13.out
                            (first | subst eo116 | (injection eo116 with f1_ f2_ f3_; have f4_ := f1_.symm; have f5_ := f3_.symm; clear f1_ f2_ f3_; subst f4_; subst f5_))
                            have p175 : 0 ≤ (x14_3 : Int) := of_decide_eq_true (by first | (with_reducible assumption) | assumption)
                            have q175 : x14_3 < (t169.length : Int) := of_decide_eq_true (by first | (with_reducible assumption) | assumption)
                            obtain ⟨ad175, e175, hx175_0, hx175_1⟩ := at_T48 (Kd.R_reads' HO_13.out).2.2 x14_3 p175 q175
                            cases e175
                            replace p175 := eq_true p175
                            replace q175 := eq_true q175
                            refine start_ (n := 9) (S := fun w' => w'.cell? (ad174.add ((x14_3).toNat * 2)) = some (.int .i64 ((rd_T48 t153 x14_3).f0)) ∧ w'.cell? ⟨(ad174.add ((x14_3).toNat * 2)).block, (ad174.add ((x14_3).toNat * 2)).off + 1, none⟩ = some (.int .i64 ((rd_T48 t153 x14_3).f1)) ∧ w'.cell? (ad175.add ((x14_3).toNat * 2)) = some (.int .i64 ((rd_T48 t169 x14_3).f0)) ∧ w'.cell? ⟨(ad175.add ((x14_3).toNat * 2)).block, (ad175.add ((x14_3).toNat * 2)).off + 1, none⟩ = some (.int .i64 ((rd_T48 t169 x14_3).f1))) (ds := []) #[false, false, false, false, false, false, false, false, false] (by kernel_rfl) rfl rfl ⟨hx174_0, hx174_1, hx175_0, hx175_1⟩ (fun hHeld => ?_); refine with_tabW bivouaclaw19_PurseServes.tab13 bivouaclaw19_PurseServes.bits13 (fun HT_ HW_ => ?_)
                            generalize wr.drew = w115 at HO_9 HO_13 BK143 BK144 BK157 BK172 HB hx174_0 hx174_1 hx175_0 hx175_1 hHeld ⊢
                            refine pure_ (i := 0) (N := some 96) (v := ?_) (a' := ?_) #[true, false, false, false, false, false, false, false, false] rfl rfl (any_of HT_.out (by kernel_rfl)) (fun _ _ _ h => h) (Or.inl ⟨by rfl, ?_⟩) ?_ ?_
                            rotate_left
                            · intro w'
                              go_simp
                              with_reducible rfl
                            rotate_left
                            · simp only [Act.put, List.setIfInBounds_toArray, List.set_cons_zero, List.set_cons_succ, i64_w, i32_w]
                              rfl
                            refine pure_ (i := 1) (N := some 97) (v := ?_) (a' := ?_) #[true, true, false, false, false, false, false, false, false] rfl rfl (any_of HT_.out (by kernel_rfl)) (fun _ _ _ h => h) (Or.inl ⟨by rfl, ?_⟩) ?_ ?_
                            rotate_left
                            · intro w'
                              go_simp
                              with_reducible rfl
                            rotate_left
                            · simp only [Act.put, List.setIfInBounds_toArray, List.set_cons_zero, List.set_cons_succ, i64_w, i32_w]
                              rfl
                            refine pure_ (i := 2) (N := some 98) (v := ?_) (a' := ?_) #[true, true, true, false, false, false, false, false, false] rfl rfl (any_of HT_.out (by kernel_rfl)) (fun _ _ _ h => h) (Or.inl ⟨by rfl, ?_⟩) ?_ ?_
                            rotate_left
                            · intro w'
                              go_simp
                              with_reducible rfl
                            rotate_left
                            · simp only [Act.put, List.setIfInBounds_toArray, List.set_cons_zero, List.set_cons_succ, i64_w, i32_w]
                              rfl
                            refine pure_ (i := 4) (N := some 100) (v := ?_) (a' := ?_) #[true, true, true, false, true, false, false, false, false] rfl rfl (any_of HT_.out (by kernel_rfl)) (fun _ _ _ h => h) (Or.inl ⟨by rfl, ?_⟩) ?_ ?_
                            rotate_left
                            · intro w'
                              go_simp
                              with_reducible rfl
                            rotate_left
                            · simp only [Act.put, List.setIfInBounds_toArray, List.set_cons_zero, List.set_cons_succ, i64_w, i32_w]
                              rfl
                            refine pure_ (i := 5) (N := some 101) (v := ?_) (a' := ?_) #[true, true, true, false, true, true, false, false, false] rfl rfl (any_of HT_.out (by kernel_rfl)) (fun _ _ _ h => h) (Or.inl ⟨by rfl, ?_⟩) ?_ ?_
                            rotate_left
                            · intro w'
                              go_simp
                              with_reducible rfl
                            rotate_left
                            · simp only [Act.put, List.setIfInBounds_toArray, List.set_cons_zero, List.set_cons_succ, i64_w, i32_w]
                              rfl
                            refine pure_ (i := 6) (N := some 102) (v := ?_) (a' := ?_) #[true, true, true, false, true, true, true, false, false] rfl rfl (any_of HT_.out (by kernel_rfl)) (fun _ _ _ h => h) (Or.inl ⟨by rfl, ?_⟩) ?_ ?_
                            rotate_left
                            · intro w'
                              go_simp
                              with_reducible rfl
                            rotate_left
                            · simp only [Act.put, List.setIfInBounds_toArray, List.set_cons_zero, List.set_cons_succ, i64_w, i32_w]
                              rfl
                            refine take_ (i := 3) (N := some 99) (v := ?_) (a' := ?_) #[true, true, true, true, true, true, true, false, false] rfl rfl (take_ofW HT_.out HW_.out (by kernel_rfl)) (fun _ _ _ h => h) (Or.inl ⟨by rfl, ?_⟩) hHeld ?_ ?_
                            rotate_left
                            · rintro w' ⟨s0, s1, s2, s3⟩
                              go_simp
                              with_reducible rfl
                            rotate_left
                            · simp only [Act.put, List.setIfInBounds_toArray, List.set_cons_zero, List.set_cons_succ, i64_w, i32_w]
                              rfl
                            refine take_ (i := 7) (N := some 103) (v := ?_) (a' := ?_) #[true, true, true, true, true, true, true, true, false] rfl rfl (take_ofW HT_.out HW_.out (by kernel_rfl)) (fun _ _ _ h => h) (Or.inl ⟨by rfl, ?_⟩) hHeld ?_ ?_
                            rotate_left
                            · rintro w' ⟨s0, s1, s2, s3⟩
                              go_simp
                              with_reducible rfl
                            rotate_left
                            · simp only [Act.put, List.setIfInBounds_toArray, List.set_cons_zero, List.set_cons_succ, i64_w, i32_w]
                              rfl
                            refine pure_ (i := 8) (N := some 104) (v := ?_) (a' := ?_) #[true, true, true, true, true, true, true, true, true] rfl rfl (any_of HT_.out (by kernel_rfl)) (fun _ _ _ h => h) (Or.inl ⟨by rfl, ?_⟩) ?_ ?_
                            rotate_left
                            · intro w'
                              go_simp
                              with_reducible rfl
                            rotate_left
                            · simp only [Act.put, List.setIfInBounds_toArray, List.set_cons_zero, List.set_cons_succ, i64_w, i32_w]
                              rfl
                            refine done_ (done_of HT_.out (by kernel_rfl)) ?_
                            try go_wp2
                            go_roundg k3
                            case measure => have := HJ8.out; have := HJ61.out; have := HK3.out; omega
                            case rel => exact ⟨(wrap64 (x14_3 + 1)), (by first | rfl | (simp; done) | (simp [*]; done)), H', ⟨by have := HJ8.out; have := HJ61.out; have := HK3.out; omega⟩, ⟨by (with_reducible repeat (first | apply Kd.R_alloc | apply Kd.R_drewN | apply Kd.R_drew)); exact HO_9.out⟩, ⟨by (with_reducible repeat (first | apply Kd.R_alloc | apply Kd.R_drewN | apply Kd.R_drew)); exact HO_13.out⟩, ⟨by (with_reducible repeat (first | refine blk_drewN ?_ _ | refine blk_drew ?_ | refine blk_alloc ?_ _)); exact BK143.out⟩, ⟨by (with_reducible repeat (first | refine blk_drewN ?_ _ | refine blk_drew ?_ | refine blk_alloc ?_ _)); exact BK144.out⟩, ⟨by (with_reducible repeat (first | refine blk_drewN ?_ _ | refine blk_drew ?_ | refine blk_alloc ?_ _)); exact BK157.out⟩, ⟨by (with_reducible repeat (first | refine blk_drewN ?_ _ | refine blk_drew ?_ | refine blk_alloc ?_ _)); exact BK172.out⟩, ⟨by repeat (first | (with_reducible first | exact HB.out | apply below_alloc | apply pw_below_drewN | apply below_drew1 | refine below_set ?_ GE143.out | refine below_set ?_ GE144.out | refine below_set ?_ GE157.out | refine below_set ?_ GE172.out) | exact HB.out)⟩⟩
                        · rw [if_neg c112] at H
                          exact absurd H (by simp)
                      · rw [if_neg c111] at H
                        exact absurd H (by simp)
                    · rw [if_neg c110] at H
                      have c110b0 : decide (x14_3 < (t153.length : Int)) = false := decide_eq_false c110
                      clear c110
                      replace H := Option.bind_eq_some_iff.mp H
                      obtain ⟨t173, A1170, H⟩ := H
                      replace H : (some t173) = some true := H
                      have A117 := Aside0.mk A1170
                      clear A1170
                      have HRES := Aside0.mk (Option.some.inj H)
                      clear H
                      obtain ⟨Ao118, co118, eo118⟩ := Kd.R_slice HO_9.out
                      subst eo118
                      go_wp2_with (first | ((with_reducible refine gate_callee (f := 56) rfl ?_); refine goesL_ (some 105) rfl rfl Try.func56 (by kernel_rfl) rfl #[] rfl (by (try simp only [List.map_toArray, List.map_cons, List.map_nil]); first | done | rfl | (simp only [List.length_drop, List.length_take]; rfl)) ?_; (with_reducible refine (bivouaclaw19_awake.calls k3  t173 _ A117.out).mono ?_); rintro e w119 ⟨rfl, hb⟩; refine ⟨_, rfl, ?_⟩; have n0_ := Aside0.mk (Kd.R_below (by (with_reducible repeat (first | apply Kd.R_alloc | apply Kd.R_drewN | apply Kd.R_drew)); exact HO_9.out) hb); have n1_ := Aside0.mk (Kd.R_below (by (with_reducible repeat (first | apply Kd.R_alloc | apply Kd.R_drewN | apply Kd.R_drew)); exact HO_13.out) hb); have n2_ := Aside0.mk (blk_below (g := gb143) (o := .cells #[.int .i64 a0_0, .int .i64 a0_1, .int .i64 a0_2, .int .i64 a0_3] 59 (0, 0)) (by (with_reducible repeat (first | refine blk_drewN ?_ _ | refine blk_drew ?_ | refine blk_alloc ?_ _)); exact BK143.out) hb); have n3_ := Aside0.mk (blk_below (g := gb144) (o := .cells #[.int .i64 a1_0, .int .i64 a1_1] 48 (0, 0)) (by (with_reducible repeat (first | refine blk_drewN ?_ _ | refine blk_drew ?_ | refine blk_alloc ?_ _)); exact BK144.out) hb); have n4_ := Aside0.mk (blk_below (g := gb157) (o := .cells #[.int .i64 t148, .int .i64 t149, .int .i64 t150, .int .i64 t151] 59 (0, 0)) (by (with_reducible repeat (first | refine blk_drewN ?_ _ | refine blk_drew ?_ | refine blk_alloc ?_ _)); exact BK157.out) hb); have n5_ := Aside0.mk (blk_below (g := gb172) (o := .cells #[.int .i64 t164, .int .i64 t165, .int .i64 t166, .int .i64 t167] 59 (0, 0)) (by (with_reducible repeat (first | refine blk_drewN ?_ _ | refine blk_drew ?_ | refine blk_alloc ?_ _)); exact BK172.out) hb); have n6_ := Aside0.mk (below_step (by repeat (first | (with_reducible first | exact HB.out | apply below_alloc | apply pw_below_drewN | apply below_drew1 | refine below_set ?_ GE143.out | refine below_set ?_ GE144.out | refine below_set ?_ GE157.out | refine below_set ?_ GE172.out) | exact HB.out)) hb); clear HO_9; clear HO_13; clear BK143; clear BK144; clear BK157; clear BK172; clear HB; have HO_9 := n0_; have HO_13 := n1_; have BK143 := n2_; have BK144 := n3_; have BK157 := n4_; have BK172 := n5_; have HB := n6_; clear n0_ n1_ n2_ n3_ n4_ n5_ n6_; (try clear hb); (try clear hb2); (try clear hk); (try clear hi)))
                      go_ret
                      exact ⟨by first | rfl | (exact congrArg (fun b_ => Ending.returned (Value.bool b_)) HRES.out) | (simp [errW_none, errW_some] <;> rfl) | (simp [*, errW_none, errW_some] <;> rfl), by repeat (first | (with_reducible first | exact HB.out | apply below_alloc | apply pw_below_drewN | apply below_drew1 | refine below_set ?_ GE143.out | refine below_set ?_ GE144.out | refine below_set ?_ GE157.out | refine below_set ?_ GE172.out) | exact HB.out)⟩
end Go.Proofs.Ytikhgdbbbingbaa.MPu
