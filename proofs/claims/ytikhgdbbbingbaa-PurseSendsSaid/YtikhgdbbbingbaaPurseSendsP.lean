/- What the law's own function does: written by a program of this claim. -/
import Derived.Test.YtikhgdbbbingbaaQ4
namespace Go.Proofs.Ytikhgdbbbingbaa.MPu
open Go.RowKit Go.Proofs.YtikhgdbbbingbaaW.PrintWords Go.Proofs.YtikhgdbbbingbaaW.PrintLast Go.Proofs.YtikhgdbbbingbaaW.PrintMore
attribute [local go_sem] max2_int min2_int max_two min_two max_three min_three max_four min_four
set_option linter.unusedVariables false
set_option linter.unusedSimpArgs false
attribute [local go_sem high] eqA59
mutual
noncomputable def bivouaclaw19_PurseSends.j0 : Nat → Int → Bool → Int → Int → Int → Int → Int → Int → Int → Int → Int → Int → Int → Int → Int → Int → Int → Int → Int → Int → Option (Bool)
  | 0, _, _, _, _, _, _, _, _, _, _, _, _, _, _, _, _, _, _, _, _ => none
  | k + 1, x9, x30, x247000, x247001, x247002, x247003, x248000, x248001, x248002, x248003, x249000, x249001, x259000, x259001, x259002, x259003, x260000, x260001, x260002, x260003 => if x30 = true then (if (x259000 == 0 && (x259001 == 0 && (x259002 == 0 && (x259003 == 0)))) = true then (if (x260000 == 0 && (x260001 == 0 && (x260002 == 0 && (x260003 == 0)))) = true then (if x9 = 1 then ((bivouaclaw19_awake.f k).bind fun t263 => (some t263)) else (some false)) else (some false)) else (some false)) else (if x247000 < x249000 then (bivouaclaw19_PurseSends.j1 k x9 true x247000 x247001 x247002 x247003 x248000 x248001 x248002 x248003 x249000 x249001 x259000 x259001 x259002 x259003 x260000 x260001 x260002 x260003) else (bivouaclaw19_PurseSends.j1 k x9 (decide (x247001 < x249001)) x247000 x247001 x247002 x247003 x248000 x248001 x248002 x248003 x249000 x249001 x259000 x259001 x259002 x259003 x260000 x260001 x260002 x260003))
noncomputable def bivouaclaw19_PurseSends.j1 : Nat → Int → Bool → Int → Int → Int → Int → Int → Int → Int → Int → Int → Int → Int → Int → Int → Int → Int → Int → Int → Int → Option (Bool)
  | 0, _, _, _, _, _, _, _, _, _, _, _, _, _, _, _, _, _, _, _, _ => none
  | k + 1, x9, x57, x247000, x247001, x247002, x247003, x248000, x248001, x248002, x248003, x249000, x249001, x259000, x259001, x259002, x259003, x260000, x260001, x260002, x260003 => if x57 = true then (if (x259000 == 0 && (x259001 == 0 && (x259002 == 0 && (x259003 == 0)))) = true then (if (x260000 == 0 && (x260001 == 0 && (x260002 == 0 && (x260003 == 0)))) = true then (if x9 = 6 then ((bivouaclaw19_awake.f k).bind fun t264 => (some t264)) else (some false)) else (some false)) else (some false)) else (if (wrap64 (x248000 + x249000)) > x248002 then (bivouaclaw19_PurseSends.j2 k x9 (wrap64 (x247000 - x249000)) (wrap64 (x247001 - x249001)) x247002 x247003 x248002 (wrap64 (x248001 + x249001)) x248002 x248003 x259000 x259001 x259002 x259003 x260000 x260001 x260002 x260003) else (bivouaclaw19_PurseSends.j2 k x9 (wrap64 (x247000 - x249000)) (wrap64 (x247001 - x249001)) x247002 x247003 (wrap64 (x248000 + x249000)) (wrap64 (x248001 + x249001)) x248002 x248003 x259000 x259001 x259002 x259003 x260000 x260001 x260002 x260003))
noncomputable def bivouaclaw19_PurseSends.j2 : Nat → Int → Int → Int → Int → Int → Int → Int → Int → Int → Int → Int → Int → Int → Int → Int → Int → Int → Option (Bool)
  | 0, _, _, _, _, _, _, _, _, _, _, _, _, _, _, _, _, _ => none
  | k + 1, x9, x247000, x247001, x247002, x247003, x248000, x248001, x248002, x248003, x259000, x259001, x259002, x259003, x260000, x260001, x260002, x260003 => if x248001 > x248003 then (bivouaclaw19_PurseSends.j3 k x9 x247000 x247001 x247002 x247003 x248000 x248003 x248002 x248003 x259000 x259001 x259002 x259003 x260000 x260001 x260002 x260003) else (bivouaclaw19_PurseSends.j3 k x9 x247000 x247001 x247002 x247003 x248000 x248001 x248002 x248003 x259000 x259001 x259002 x259003 x260000 x260001 x260002 x260003)
noncomputable def bivouaclaw19_PurseSends.j3 : Nat → Int → Int → Int → Int → Int → Int → Int → Int → Int → Int → Int → Int → Int → Int → Int → Int → Int → Option (Bool)
  | 0, _, _, _, _, _, _, _, _, _, _, _, _, _, _, _, _, _ => none
  | k + 1, x9, x247000, x247001, x247002, x247003, x248000, x248001, x248002, x248003, x259000, x259001, x259002, x259003, x260000, x260001, x260002, x260003 => if (x259000 == x247000 && (x259001 == x247001 && (x259002 == x247002 && (x259003 == x247003)))) = true then (if (x260000 == x248000 && (x260001 == x248001 && (x260002 == x248002 && (x260003 == x248003)))) = true then (if x9 = 0 then ((bivouacref19_May.f x259000 x259001 x259002 x259003).bind fun t265 => (if t265 = true then ((bivouacref19_May.f x260000 x260001 x260002 x260003).bind fun t266 => (if t266 = true then ((bivouaclaw19_awake.f k).bind fun t267 => (some t267)) else (some false))) else (some false))) else (some false)) else (some false)) else (some false)
end
noncomputable def bivouaclaw19_PurseSends.f (k : Nat) (a0_0 : Int) (a0_1 : Int) (a0_2 : Int) (a0_3 : Int) (a1_0 : Int) (a1_1 : Int) (a1_2 : Int) (a1_3 : Int) (a2_0 : Int) (a2_1 : Int) : Option (Bool) := (purse_Send.f k a0_0 a0_1 a0_2 a0_3 a1_0 a1_1 a1_2 a1_3 a2_0 a2_1).bind fun bt249 => ((bivouacref19_May.f a0_0 a0_1 a0_2 a0_3).bind fun t260 => (if t260 = true then ((bivouacref19_May.f a1_0 a1_1 a1_2 a1_3).bind fun t261 => (if t261 = true then ((bivouacref19_Wish.f a2_0 a2_1).bind fun t262 => (bivouaclaw19_PurseSends.j0 k bt249.2.2.2.2.2.2.2.2 (!t262) a0_0 a0_1 a0_2 a0_3 a1_0 a1_1 a1_2 a1_3 a2_0 a2_1 bt249.1 bt249.2.1 bt249.2.2.1 bt249.2.2.2.1 bt249.2.2.2.2.1 bt249.2.2.2.2.2.1 bt249.2.2.2.2.2.2.1 bt249.2.2.2.2.2.2.2.1)) else (bivouaclaw19_PurseSends.j0 k bt249.2.2.2.2.2.2.2.2 true a0_0 a0_1 a0_2 a0_3 a1_0 a1_1 a1_2 a1_3 a2_0 a2_1 bt249.1 bt249.2.1 bt249.2.2.1 bt249.2.2.2.1 bt249.2.2.2.2.1 bt249.2.2.2.2.2.1 bt249.2.2.2.2.2.2.1 bt249.2.2.2.2.2.2.2.1))) else (bivouaclaw19_PurseSends.j0 k bt249.2.2.2.2.2.2.2.2 true a0_0 a0_1 a0_2 a0_3 a1_0 a1_1 a1_2 a1_3 a2_0 a2_1 bt249.1 bt249.2.1 bt249.2.2.1 bt249.2.2.2.1 bt249.2.2.2.2.1 bt249.2.2.2.2.2.1 bt249.2.2.2.2.2.2.1 bt249.2.2.2.2.2.2.2.1)))
theorem bivouaclaw19_PurseSends.mono_l : ∀ k, (∀ y0 y1 y2 y3 y4 y5 y6 y7 y8 y9 y10 y11 y12 y13 y14 y15 y16 y17 y18 y19, LeO (bivouaclaw19_PurseSends.j0 k y0 y1 y2 y3 y4 y5 y6 y7 y8 y9 y10 y11 y12 y13 y14 y15 y16 y17 y18 y19) (bivouaclaw19_PurseSends.j0 (k + 1) y0 y1 y2 y3 y4 y5 y6 y7 y8 y9 y10 y11 y12 y13 y14 y15 y16 y17 y18 y19)) ∧ (∀ y0 y1 y2 y3 y4 y5 y6 y7 y8 y9 y10 y11 y12 y13 y14 y15 y16 y17 y18 y19, LeO (bivouaclaw19_PurseSends.j1 k y0 y1 y2 y3 y4 y5 y6 y7 y8 y9 y10 y11 y12 y13 y14 y15 y16 y17 y18 y19) (bivouaclaw19_PurseSends.j1 (k + 1) y0 y1 y2 y3 y4 y5 y6 y7 y8 y9 y10 y11 y12 y13 y14 y15 y16 y17 y18 y19)) ∧ (∀ y0 y1 y2 y3 y4 y5 y6 y7 y8 y9 y10 y11 y12 y13 y14 y15 y16, LeO (bivouaclaw19_PurseSends.j2 k y0 y1 y2 y3 y4 y5 y6 y7 y8 y9 y10 y11 y12 y13 y14 y15 y16) (bivouaclaw19_PurseSends.j2 (k + 1) y0 y1 y2 y3 y4 y5 y6 y7 y8 y9 y10 y11 y12 y13 y14 y15 y16)) ∧ (∀ y0 y1 y2 y3 y4 y5 y6 y7 y8 y9 y10 y11 y12 y13 y14 y15 y16, LeO (bivouaclaw19_PurseSends.j3 k y0 y1 y2 y3 y4 y5 y6 y7 y8 y9 y10 y11 y12 y13 y14 y15 y16) (bivouaclaw19_PurseSends.j3 (k + 1) y0 y1 y2 y3 y4 y5 y6 y7 y8 y9 y10 y11 y12 y13 y14 y15 y16))
  | 0 => ⟨fun _ _ _ _ _ _ _ _ _ _ _ _ _ _ _ _ _ _ _ _ r h => by simp [bivouaclaw19_PurseSends.j0] at h, fun _ _ _ _ _ _ _ _ _ _ _ _ _ _ _ _ _ _ _ _ r h => by simp [bivouaclaw19_PurseSends.j1] at h, fun _ _ _ _ _ _ _ _ _ _ _ _ _ _ _ _ _ r h => by simp [bivouaclaw19_PurseSends.j2] at h, fun _ _ _ _ _ _ _ _ _ _ _ _ _ _ _ _ _ r h => by simp [bivouaclaw19_PurseSends.j3] at h⟩
  | k + 1 => by
    obtain ⟨ih0, ih1, ih2, ih3⟩ := bivouaclaw19_PurseSends.mono_l k
    refine ⟨?_, ?_, ?_, ?_⟩
    · intro y0 y1 y2 y3 y4 y5 y6 y7 y8 y9 y10 y11 y12 y13 y14 y15 y16 y17 y18 y19
      unfold bivouaclaw19_PurseSends.j0
      repeat' first
      | (with_reducible exact ih0 _ _ _ _ _ _ _ _ _ _ _ _ _ _ _ _ _ _ _ _)
      | (with_reducible exact ih1 _ _ _ _ _ _ _ _ _ _ _ _ _ _ _ _ _ _ _ _)
      | (with_reducible exact ih2 _ _ _ _ _ _ _ _ _ _ _ _ _ _ _ _ _)
      | (with_reducible exact ih3 _ _ _ _ _ _ _ _ _ _ _ _ _ _ _ _ _)
      | (with_reducible exact bivouaclaw19_awake.mono _)
      | (with_reducible exact purse_Send.mono _ _ _ _ _ _ _ _ _ _ _)
      | (with_reducible exact LeO.refl _)
      | (with_reducible exact LeO.none _)
      | (with_reducible refine LeO.ite ?_ ?_)
      | (with_reducible refine LeO.bind ?_ (fun _ => ?_))
      | exact ih0 _ _ _ _ _ _ _ _ _ _ _ _ _ _ _ _ _ _ _ _
      | exact ih1 _ _ _ _ _ _ _ _ _ _ _ _ _ _ _ _ _ _ _ _
      | exact ih2 _ _ _ _ _ _ _ _ _ _ _ _ _ _ _ _ _
      | exact ih3 _ _ _ _ _ _ _ _ _ _ _ _ _ _ _ _ _
      | exact bivouaclaw19_awake.mono _
      | exact purse_Send.mono _ _ _ _ _ _ _ _ _ _ _
      | exact LeO.none _
      | refine LeO.ite ?_ ?_
      | refine LeO.bind ?_ (fun _ => ?_)
    · intro y0 y1 y2 y3 y4 y5 y6 y7 y8 y9 y10 y11 y12 y13 y14 y15 y16 y17 y18 y19
      unfold bivouaclaw19_PurseSends.j1
      repeat' first
      | (with_reducible exact ih0 _ _ _ _ _ _ _ _ _ _ _ _ _ _ _ _ _ _ _ _)
      | (with_reducible exact ih1 _ _ _ _ _ _ _ _ _ _ _ _ _ _ _ _ _ _ _ _)
      | (with_reducible exact ih2 _ _ _ _ _ _ _ _ _ _ _ _ _ _ _ _ _)
      | (with_reducible exact ih3 _ _ _ _ _ _ _ _ _ _ _ _ _ _ _ _ _)
      | (with_reducible exact bivouaclaw19_awake.mono _)
      | (with_reducible exact purse_Send.mono _ _ _ _ _ _ _ _ _ _ _)
      | (with_reducible exact LeO.refl _)
      | (with_reducible exact LeO.none _)
      | (with_reducible refine LeO.ite ?_ ?_)
      | (with_reducible refine LeO.bind ?_ (fun _ => ?_))
      | exact ih0 _ _ _ _ _ _ _ _ _ _ _ _ _ _ _ _ _ _ _ _
      | exact ih1 _ _ _ _ _ _ _ _ _ _ _ _ _ _ _ _ _ _ _ _
      | exact ih2 _ _ _ _ _ _ _ _ _ _ _ _ _ _ _ _ _
      | exact ih3 _ _ _ _ _ _ _ _ _ _ _ _ _ _ _ _ _
      | exact bivouaclaw19_awake.mono _
      | exact purse_Send.mono _ _ _ _ _ _ _ _ _ _ _
      | exact LeO.none _
      | refine LeO.ite ?_ ?_
      | refine LeO.bind ?_ (fun _ => ?_)
    · intro y0 y1 y2 y3 y4 y5 y6 y7 y8 y9 y10 y11 y12 y13 y14 y15 y16
      unfold bivouaclaw19_PurseSends.j2
      repeat' first
      | (with_reducible exact ih0 _ _ _ _ _ _ _ _ _ _ _ _ _ _ _ _ _ _ _ _)
      | (with_reducible exact ih1 _ _ _ _ _ _ _ _ _ _ _ _ _ _ _ _ _ _ _ _)
      | (with_reducible exact ih2 _ _ _ _ _ _ _ _ _ _ _ _ _ _ _ _ _)
      | (with_reducible exact ih3 _ _ _ _ _ _ _ _ _ _ _ _ _ _ _ _ _)
      | (with_reducible exact bivouaclaw19_awake.mono _)
      | (with_reducible exact purse_Send.mono _ _ _ _ _ _ _ _ _ _ _)
      | (with_reducible exact LeO.refl _)
      | (with_reducible exact LeO.none _)
      | (with_reducible refine LeO.ite ?_ ?_)
      | (with_reducible refine LeO.bind ?_ (fun _ => ?_))
      | exact ih0 _ _ _ _ _ _ _ _ _ _ _ _ _ _ _ _ _ _ _ _
      | exact ih1 _ _ _ _ _ _ _ _ _ _ _ _ _ _ _ _ _ _ _ _
      | exact ih2 _ _ _ _ _ _ _ _ _ _ _ _ _ _ _ _ _
      | exact ih3 _ _ _ _ _ _ _ _ _ _ _ _ _ _ _ _ _
      | exact bivouaclaw19_awake.mono _
      | exact purse_Send.mono _ _ _ _ _ _ _ _ _ _ _
      | exact LeO.none _
      | refine LeO.ite ?_ ?_
      | refine LeO.bind ?_ (fun _ => ?_)
    · intro y0 y1 y2 y3 y4 y5 y6 y7 y8 y9 y10 y11 y12 y13 y14 y15 y16
      unfold bivouaclaw19_PurseSends.j3
      repeat' first
      | (with_reducible exact ih0 _ _ _ _ _ _ _ _ _ _ _ _ _ _ _ _ _ _ _ _)
      | (with_reducible exact ih1 _ _ _ _ _ _ _ _ _ _ _ _ _ _ _ _ _ _ _ _)
      | (with_reducible exact ih2 _ _ _ _ _ _ _ _ _ _ _ _ _ _ _ _ _)
      | (with_reducible exact ih3 _ _ _ _ _ _ _ _ _ _ _ _ _ _ _ _ _)
      | (with_reducible exact bivouaclaw19_awake.mono _)
      | (with_reducible exact purse_Send.mono _ _ _ _ _ _ _ _ _ _ _)
      | (with_reducible exact LeO.refl _)
      | (with_reducible exact LeO.none _)
      | (with_reducible refine LeO.ite ?_ ?_)
      | (with_reducible refine LeO.bind ?_ (fun _ => ?_))
      | exact ih0 _ _ _ _ _ _ _ _ _ _ _ _ _ _ _ _ _ _ _ _
      | exact ih1 _ _ _ _ _ _ _ _ _ _ _ _ _ _ _ _ _ _ _ _
      | exact ih2 _ _ _ _ _ _ _ _ _ _ _ _ _ _ _ _ _
      | exact ih3 _ _ _ _ _ _ _ _ _ _ _ _ _ _ _ _ _
      | exact bivouaclaw19_awake.mono _
      | exact purse_Send.mono _ _ _ _ _ _ _ _ _ _ _
      | exact LeO.none _
      | refine LeO.ite ?_ ?_
      | refine LeO.bind ?_ (fun _ => ?_)
theorem bivouaclaw19_PurseSends.mono : ∀ a0 a1 a2 a3 a4 a5 a6 a7 a8 a9 k, LeO (bivouaclaw19_PurseSends.f k a0 a1 a2 a3 a4 a5 a6 a7 a8 a9) (bivouaclaw19_PurseSends.f (k + 1) a0 a1 a2 a3 a4 a5 a6 a7 a8 a9) := by
  intro a0 a1 a2 a3 a4 a5 a6 a7 a8 a9 k
  obtain ⟨ih0, ih1, ih2, ih3⟩ := bivouaclaw19_PurseSends.mono_l k
  unfold bivouaclaw19_PurseSends.f
  repeat' first
      | (with_reducible exact ih0 _ _ _ _ _ _ _ _ _ _ _ _ _ _ _ _ _ _ _ _)
      | (with_reducible exact ih1 _ _ _ _ _ _ _ _ _ _ _ _ _ _ _ _ _ _ _ _)
      | (with_reducible exact ih2 _ _ _ _ _ _ _ _ _ _ _ _ _ _ _ _ _)
      | (with_reducible exact ih3 _ _ _ _ _ _ _ _ _ _ _ _ _ _ _ _ _)
      | (with_reducible exact bivouaclaw19_awake.mono _)
      | (with_reducible exact purse_Send.mono _ _ _ _ _ _ _ _ _ _ _)
      | (with_reducible exact LeO.refl _)
      | (with_reducible exact LeO.none _)
      | (with_reducible refine LeO.ite ?_ ?_)
      | (with_reducible refine LeO.bind ?_ (fun _ => ?_))
      | exact ih0 _ _ _ _ _ _ _ _ _ _ _ _ _ _ _ _ _ _ _ _
      | exact ih1 _ _ _ _ _ _ _ _ _ _ _ _ _ _ _ _ _ _ _ _
      | exact ih2 _ _ _ _ _ _ _ _ _ _ _ _ _ _ _ _ _
      | exact ih3 _ _ _ _ _ _ _ _ _ _ _ _ _ _ _ _ _
      | exact bivouaclaw19_awake.mono _
      | exact purse_Send.mono _ _ _ _ _ _ _ _ _ _ _
      | exact LeO.none _
      | refine LeO.ite ?_ ?_
      | refine LeO.bind ?_ (fun _ => ?_)
set_option maxHeartbeats 8000000 in
set_option maxRecDepth 100000 in
theorem bivouaclaw19_PurseSends.calls (k : Nat) (a0_0 : Int) (a0_1 : Int) (a0_2 : Int) (a0_3 : Int) (a1_0 : Int) (a1_1 : Int) (a1_2 : Int) (a1_3 : Int) (a2_0 : Int) (a2_1 : Int) (w : World) (h : bivouaclaw19_PurseSends.f k a0_0 a0_1 a0_2 a0_3 a1_0 a1_1 a1_2 a1_3 a2_0 a2_1 = some true) :
    Calls Try.prog 21 #[.agg #[.int .i64 a0_0, .int .i64 a0_1, .int .i64 a0_2, .int .i64 a0_3], .agg #[.int .i64 a1_0, .int .i64 a1_1, .int .i64 a1_2, .int .i64 a1_3], .agg #[.int .i64 a2_0, .int .i64 a2_1]] w fun e w' => e = .returned (.bool true) ∧ Below w.heap.size w w' := by
  have hu59 := Try.underlying59
  have hu48 := Try.underlying48
  have HB := Aside0.mk (Below.refl w.heap.size w)
  have H : ((purse_Send.f k a0_0 a0_1 a0_2 a0_3 a1_0 a1_1 a1_2 a1_3 a2_0 a2_1).bind fun bt249 => ((bivouacref19_May.f a0_0 a0_1 a0_2 a0_3).bind fun t260 => (if t260 = true then ((bivouacref19_May.f a1_0 a1_1 a1_2 a1_3).bind fun t261 => (if t261 = true then ((bivouacref19_Wish.f a2_0 a2_1).bind fun t262 => (bivouaclaw19_PurseSends.j0 k bt249.2.2.2.2.2.2.2.2 (!t262) a0_0 a0_1 a0_2 a0_3 a1_0 a1_1 a1_2 a1_3 a2_0 a2_1 bt249.1 bt249.2.1 bt249.2.2.1 bt249.2.2.2.1 bt249.2.2.2.2.1 bt249.2.2.2.2.2.1 bt249.2.2.2.2.2.2.1 bt249.2.2.2.2.2.2.2.1)) else (bivouaclaw19_PurseSends.j0 k bt249.2.2.2.2.2.2.2.2 true a0_0 a0_1 a0_2 a0_3 a1_0 a1_1 a1_2 a1_3 a2_0 a2_1 bt249.1 bt249.2.1 bt249.2.2.1 bt249.2.2.2.1 bt249.2.2.2.2.1 bt249.2.2.2.2.2.1 bt249.2.2.2.2.2.2.1 bt249.2.2.2.2.2.2.2.1))) else (bivouaclaw19_PurseSends.j0 k bt249.2.2.2.2.2.2.2.2 true a0_0 a0_1 a0_2 a0_3 a1_0 a1_1 a1_2 a1_3 a2_0 a2_1 bt249.1 bt249.2.1 bt249.2.2.1 bt249.2.2.2.1 bt249.2.2.2.2.1 bt249.2.2.2.2.2.1 bt249.2.2.2.2.2.2.1 bt249.2.2.2.2.2.2.2.1)))) = some true := h
  clear h
  replace H := Option.bind_eq_some_iff.mp H
  obtain ⟨⟨t249, t250, t251, t252, t253, t254, t255, t256, t257⟩, A40, H⟩ := H
  replace H : ((bivouacref19_May.f a0_0 a0_1 a0_2 a0_3).bind fun t260 => (if t260 = true then ((bivouacref19_May.f a1_0 a1_1 a1_2 a1_3).bind fun t261 => (if t261 = true then ((bivouacref19_Wish.f a2_0 a2_1).bind fun t262 => (bivouaclaw19_PurseSends.j0 k t257 (!t262) a0_0 a0_1 a0_2 a0_3 a1_0 a1_1 a1_2 a1_3 a2_0 a2_1 t249 t250 t251 t252 t253 t254 t255 t256)) else (bivouaclaw19_PurseSends.j0 k t257 true a0_0 a0_1 a0_2 a0_3 a1_0 a1_1 a1_2 a1_3 a2_0 a2_1 t249 t250 t251 t252 t253 t254 t255 t256))) else (bivouaclaw19_PurseSends.j0 k t257 true a0_0 a0_1 a0_2 a0_3 a1_0 a1_1 a1_2 a1_3 a2_0 a2_1 t249 t250 t251 t252 t253 t254 t255 t256))) = some true := H
  have A4 := Aside0.mk A40
  clear A40
  have HC5 := Aside0.mk H
  clear H
  go_enter Try.func21, Try.ntmps21
  go_upto_region 2 with (first | ((with_reducible refine gate_dst (N := 3) rfl ?_); refine box_event ?hg (N := 3) ?hd (cs := #[.int .i64 a0_0, .int .i64 a0_1, .int .i64 a0_2, .int .i64 a0_3]) (t := 59) ?hr ?_; (case hd => rfl); (case hg => rfl); (case hr => first | (go_simp; done) | (go_simp; rfl)); intro gb246 hg w6 hbox hb; have n0_ := Aside0.mk (below_step (by repeat (first | (with_reducible first | exact HB.out | apply below_alloc | apply pw_below_drewN | apply below_drew1) | exact HB.out)) hb); have n1_ := Aside0.mk (hbox); have n2_ := Aside0.mk ((by rw [hg]; exact (below_size (by repeat (first | (with_reducible first | exact HB.out | apply below_alloc | apply pw_below_drewN | apply below_drew1) | exact HB.out))) : w.heap.size ≤ gb246)); have n3_ := Aside0.mk ((by rw [hg]; exact (below_size (by repeat (first | (with_reducible first | exact HB.out | apply below_alloc | apply pw_below_drewN | apply below_drew1) | exact HB.out))) : w.heap.size ≤ gb246)); clear HB; have HB := n0_; have BK246 := n1_; have GW246 := n2_; have GE246 := n3_; clear n0_ n1_ n2_ n3_; clear hb hbox hg) | ((with_reducible refine gate_dst (N := 4) rfl ?_); refine box_event ?hg (N := 4) ?hd (cs := #[.int .i64 a1_0, .int .i64 a1_1, .int .i64 a1_2, .int .i64 a1_3]) (t := 59) ?hr ?_; (case hd => rfl); (case hg => rfl); (case hr => first | (go_simp; done) | (go_simp; rfl)); intro gb247 hg w7 hbox hb; have n0_ := Aside0.mk (blk_below (g := gb246) (o := .cells #[.int .i64 a0_0, .int .i64 a0_1, .int .i64 a0_2, .int .i64 a0_3] 59 (0, 0)) (by (with_reducible repeat (first | refine blk_drewN ?_ _ | refine blk_drew ?_ | refine blk_alloc ?_ _)); exact BK246.out) hb); have n1_ := Aside0.mk (below_step (by repeat (first | (with_reducible first | exact HB.out | apply below_alloc | apply pw_below_drewN | apply below_drew1 | refine below_set ?_ GE246.out) | exact HB.out)) hb); have n2_ := Aside0.mk (hbox); have n3_ := Aside0.mk ((by rw [hg]; exact (below_size (by repeat (first | (with_reducible first | exact HB.out | apply below_alloc | apply pw_below_drewN | apply below_drew1 | refine below_set ?_ GE246.out) | exact HB.out))) : w.heap.size ≤ gb247)); have n4_ := Aside0.mk ((by rw [hg]; exact (below_size (by repeat (first | (with_reducible first | exact HB.out | apply below_alloc | apply pw_below_drewN | apply below_drew1 | refine below_set ?_ GE246.out) | exact HB.out))) : w.heap.size ≤ gb247)); have n5_ := Aside0.mk ((by rw [hg]; exact Nat.ne_of_lt (blk_lt (g := gb246) (o := .cells #[.int .i64 a0_0, .int .i64 a0_1, .int .i64 a0_2, .int .i64 a0_3] 59 (0, 0)) (by (with_reducible repeat (first | refine blk_drewN ?_ _ | refine blk_drew ?_ | refine blk_alloc ?_ _)); exact BK246.out)) : gb246 ≠ gb247)); have n6_ := Aside0.mk ((by rw [hg]; exact Nat.ne_of_gt (blk_lt (g := gb246) (o := .cells #[.int .i64 a0_0, .int .i64 a0_1, .int .i64 a0_2, .int .i64 a0_3] 59 (0, 0)) (by (with_reducible repeat (first | refine blk_drewN ?_ _ | refine blk_drew ?_ | refine blk_alloc ?_ _)); exact BK246.out)) : gb247 ≠ gb246)); clear BK246; clear HB; have BK246 := n0_; have HB := n1_; have BK247 := n2_; have GW247 := n3_; have GE247 := n4_; have NB246_247 := n5_; have NB247_246 := n6_; clear n0_ n1_ n2_ n3_ n4_ n5_ n6_; clear hb hbox hg) | ((with_reducible refine gate_dst (N := 5) rfl ?_); refine box_event ?hg (N := 5) ?hd (cs := #[.int .i64 a2_0, .int .i64 a2_1]) (t := 48) ?hr ?_; (case hd => rfl); (case hg => rfl); (case hr => first | (go_simp; done) | (go_simp; rfl)); intro gb248 hg w8 hbox hb; have n0_ := Aside0.mk (blk_below (g := gb246) (o := .cells #[.int .i64 a0_0, .int .i64 a0_1, .int .i64 a0_2, .int .i64 a0_3] 59 (0, 0)) (by (with_reducible repeat (first | refine blk_drewN ?_ _ | refine blk_drew ?_ | refine blk_alloc ?_ _)); exact BK246.out) hb); have n1_ := Aside0.mk (blk_below (g := gb247) (o := .cells #[.int .i64 a1_0, .int .i64 a1_1, .int .i64 a1_2, .int .i64 a1_3] 59 (0, 0)) (by (with_reducible repeat (first | refine blk_drewN ?_ _ | refine blk_drew ?_ | refine blk_alloc ?_ _)); exact BK247.out) hb); have n2_ := Aside0.mk (below_step (by repeat (first | (with_reducible first | exact HB.out | apply below_alloc | apply pw_below_drewN | apply below_drew1 | refine below_set ?_ GE246.out | refine below_set ?_ GE247.out) | exact HB.out)) hb); have n3_ := Aside0.mk (hbox); have n4_ := Aside0.mk ((by rw [hg]; exact (below_size (by repeat (first | (with_reducible first | exact HB.out | apply below_alloc | apply pw_below_drewN | apply below_drew1 | refine below_set ?_ GE246.out | refine below_set ?_ GE247.out) | exact HB.out))) : w.heap.size ≤ gb248)); have n5_ := Aside0.mk ((by rw [hg]; exact (below_size (by repeat (first | (with_reducible first | exact HB.out | apply below_alloc | apply pw_below_drewN | apply below_drew1 | refine below_set ?_ GE246.out | refine below_set ?_ GE247.out) | exact HB.out))) : w.heap.size ≤ gb248)); have n6_ := Aside0.mk ((by rw [hg]; exact Nat.ne_of_lt (blk_lt (g := gb246) (o := .cells #[.int .i64 a0_0, .int .i64 a0_1, .int .i64 a0_2, .int .i64 a0_3] 59 (0, 0)) (by (with_reducible repeat (first | refine blk_drewN ?_ _ | refine blk_drew ?_ | refine blk_alloc ?_ _)); exact BK246.out)) : gb246 ≠ gb248)); have n7_ := Aside0.mk ((by rw [hg]; exact Nat.ne_of_gt (blk_lt (g := gb246) (o := .cells #[.int .i64 a0_0, .int .i64 a0_1, .int .i64 a0_2, .int .i64 a0_3] 59 (0, 0)) (by (with_reducible repeat (first | refine blk_drewN ?_ _ | refine blk_drew ?_ | refine blk_alloc ?_ _)); exact BK246.out)) : gb248 ≠ gb246)); have n8_ := Aside0.mk ((by rw [hg]; exact Nat.ne_of_lt (blk_lt (g := gb247) (o := .cells #[.int .i64 a1_0, .int .i64 a1_1, .int .i64 a1_2, .int .i64 a1_3] 59 (0, 0)) (by (with_reducible repeat (first | refine blk_drewN ?_ _ | refine blk_drew ?_ | refine blk_alloc ?_ _)); exact BK247.out)) : gb247 ≠ gb248)); have n9_ := Aside0.mk ((by rw [hg]; exact Nat.ne_of_gt (blk_lt (g := gb247) (o := .cells #[.int .i64 a1_0, .int .i64 a1_1, .int .i64 a1_2, .int .i64 a1_3] 59 (0, 0)) (by (with_reducible repeat (first | refine blk_drewN ?_ _ | refine blk_drew ?_ | refine blk_alloc ?_ _)); exact BK247.out)) : gb248 ≠ gb247)); clear BK246; clear BK247; clear HB; have BK246 := n0_; have BK247 := n1_; have HB := n2_; have BK248 := n3_; have GW248 := n4_; have GE248 := n5_; have NB246_248 := n6_; have NB248_246 := n7_; have NB247_248 := n8_; have NB248_247 := n9_; clear n0_ n1_ n2_ n3_ n4_ n5_ n6_ n7_ n8_ n9_; clear hb hbox hg; have hnb9 := NB246_247.out; have hnc9 := NB247_246.out; have hnb10 := NB246_248.out; have hnc10 := NB248_246.out; have hcz11_0 : w8.cell? ⟨gb246, 0, none⟩ = some (.int .i64 a0_0) := (blk_cell BK246.out 0).trans rfl; have hcz11_1 : w8.cell? ⟨gb246, 1, none⟩ = some (.int .i64 a0_1) := (blk_cell BK246.out 1).trans rfl; have hcz11_2 : w8.cell? ⟨gb246, 2, none⟩ = some (.int .i64 a0_2) := (blk_cell BK246.out 2).trans rfl; have hcz11_3 : w8.cell? ⟨gb246, 3, none⟩ = some (.int .i64 a0_3) := (blk_cell BK246.out 3).trans rfl; have hfz11_0 := blk_frozen BK246.out 0; have hfz11_1 := blk_frozen BK246.out 1; have hfz11_2 := blk_frozen BK246.out 2; have hfz11_3 := blk_frozen BK246.out 3; have hnb12 := NB247_248.out; have hnc12 := NB248_247.out; have hcz13_0 : w8.cell? ⟨gb247, 0, none⟩ = some (.int .i64 a1_0) := (blk_cell BK247.out 0).trans rfl; have hcz13_1 : w8.cell? ⟨gb247, 1, none⟩ = some (.int .i64 a1_1) := (blk_cell BK247.out 1).trans rfl; have hcz13_2 : w8.cell? ⟨gb247, 2, none⟩ = some (.int .i64 a1_2) := (blk_cell BK247.out 2).trans rfl; have hcz13_3 : w8.cell? ⟨gb247, 3, none⟩ = some (.int .i64 a1_3) := (blk_cell BK247.out 3).trans rfl; have hfz13_0 := blk_frozen BK247.out 0; have hfz13_1 := blk_frozen BK247.out 1; have hfz13_2 := blk_frozen BK247.out 2; have hfz13_3 := blk_frozen BK247.out 3; have hcz14_0 : w8.cell? ⟨gb248, 0, none⟩ = some (.int .i64 a2_0) := (blk_cell BK248.out 0).trans rfl; have hcz14_1 : w8.cell? ⟨gb248, 1, none⟩ = some (.int .i64 a2_1) := (blk_cell BK248.out 1).trans rfl; have hfz14_0 := blk_frozen BK248.out 0; have hfz14_1 := blk_frozen BK248.out 1) | ((with_reducible refine gate_callee (f := 65) rfl ?_); refine goesL_ (some 14) rfl rfl Try.func65 (by kernel_rfl) rfl #[.agg #[.int .i64 a0_0, .int .i64 a0_1, .int .i64 a0_2, .int .i64 a0_3], .agg #[.int .i64 a1_0, .int .i64 a1_1, .int .i64 a1_2, .int .i64 a1_3], .agg #[.int .i64 a2_0, .int .i64 a2_1]] rfl (by (try simp only [List.map_toArray, List.map_cons, List.map_nil]); first | done | rfl | (simp only [List.length_drop, List.length_take]; rfl)) ?_; (with_reducible refine (purse_Send.calls k a0_0 a0_1 a0_2 a0_3 a1_0 a1_1 a1_2 a1_3 a2_0 a2_1 t249 t250 t251 t252 t253 t254 t255 t256 t257 _ A4.out).mono ?_); rintro e w15 ⟨rfl, hb⟩; refine ⟨_, rfl, ?_⟩; have n0_ := Aside0.mk (blk_below (g := gb246) (o := .cells #[.int .i64 a0_0, .int .i64 a0_1, .int .i64 a0_2, .int .i64 a0_3] 59 (0, 0)) (by (with_reducible repeat (first | refine blk_drewN ?_ _ | refine blk_drew ?_ | refine blk_alloc ?_ _)); exact BK246.out) hb); have n1_ := Aside0.mk (blk_below (g := gb247) (o := .cells #[.int .i64 a1_0, .int .i64 a1_1, .int .i64 a1_2, .int .i64 a1_3] 59 (0, 0)) (by (with_reducible repeat (first | refine blk_drewN ?_ _ | refine blk_drew ?_ | refine blk_alloc ?_ _)); exact BK247.out) hb); have n2_ := Aside0.mk (blk_below (g := gb248) (o := .cells #[.int .i64 a2_0, .int .i64 a2_1] 48 (0, 0)) (by (with_reducible repeat (first | refine blk_drewN ?_ _ | refine blk_drew ?_ | refine blk_alloc ?_ _)); exact BK248.out) hb); have n3_ := Aside0.mk (below_step (by repeat (first | (with_reducible first | exact HB.out | apply below_alloc | apply pw_below_drewN | apply below_drew1 | refine below_set ?_ GE246.out | refine below_set ?_ GE247.out | refine below_set ?_ GE248.out) | exact HB.out)) hb); clear BK246; clear BK247; clear BK248; clear HB; have BK246 := n0_; have BK247 := n1_; have BK248 := n2_; have HB := n3_; clear n0_ n1_ n2_ n3_; (try clear hb); (try clear hb2); (try clear hk); (try clear hi)) | ((with_reducible refine gate_dst (N := 7) rfl ?_); refine box_event ?hg (N := 7) ?hd (cs := #[.int .i64 0, .int .i64 0, .int .i64 0, .int .i64 0]) (t := 59) ?hr ?_; (case hd => rfl); (case hg => rfl); (case hr => first | (go_simp; done) | (go_simp; rfl)); intro gb258 hg w16 hbox hb; have n0_ := Aside0.mk (blk_below (g := gb246) (o := .cells #[.int .i64 a0_0, .int .i64 a0_1, .int .i64 a0_2, .int .i64 a0_3] 59 (0, 0)) (by (with_reducible repeat (first | refine blk_drewN ?_ _ | refine blk_drew ?_ | refine blk_alloc ?_ _)); exact BK246.out) hb); have n1_ := Aside0.mk (blk_below (g := gb247) (o := .cells #[.int .i64 a1_0, .int .i64 a1_1, .int .i64 a1_2, .int .i64 a1_3] 59 (0, 0)) (by (with_reducible repeat (first | refine blk_drewN ?_ _ | refine blk_drew ?_ | refine blk_alloc ?_ _)); exact BK247.out) hb); have n2_ := Aside0.mk (blk_below (g := gb248) (o := .cells #[.int .i64 a2_0, .int .i64 a2_1] 48 (0, 0)) (by (with_reducible repeat (first | refine blk_drewN ?_ _ | refine blk_drew ?_ | refine blk_alloc ?_ _)); exact BK248.out) hb); have n3_ := Aside0.mk (below_step (by repeat (first | (with_reducible first | exact HB.out | apply below_alloc | apply pw_below_drewN | apply below_drew1 | refine below_set ?_ GE246.out | refine below_set ?_ GE247.out | refine below_set ?_ GE248.out) | exact HB.out)) hb); have n4_ := Aside0.mk (hbox); have n5_ := Aside0.mk ((by rw [hg]; exact (below_size (by repeat (first | (with_reducible first | exact HB.out | apply below_alloc | apply pw_below_drewN | apply below_drew1 | refine below_set ?_ GE246.out | refine below_set ?_ GE247.out | refine below_set ?_ GE248.out) | exact HB.out))) : w.heap.size ≤ gb258)); have n6_ := Aside0.mk ((by rw [hg]; exact (below_size (by repeat (first | (with_reducible first | exact HB.out | apply below_alloc | apply pw_below_drewN | apply below_drew1 | refine below_set ?_ GE246.out | refine below_set ?_ GE247.out | refine below_set ?_ GE248.out) | exact HB.out))) : w.heap.size ≤ gb258)); have n7_ := Aside0.mk ((by rw [hg]; exact Nat.ne_of_lt (blk_lt (g := gb246) (o := .cells #[.int .i64 a0_0, .int .i64 a0_1, .int .i64 a0_2, .int .i64 a0_3] 59 (0, 0)) (by (with_reducible repeat (first | refine blk_drewN ?_ _ | refine blk_drew ?_ | refine blk_alloc ?_ _)); exact BK246.out)) : gb246 ≠ gb258)); have n8_ := Aside0.mk ((by rw [hg]; exact Nat.ne_of_gt (blk_lt (g := gb246) (o := .cells #[.int .i64 a0_0, .int .i64 a0_1, .int .i64 a0_2, .int .i64 a0_3] 59 (0, 0)) (by (with_reducible repeat (first | refine blk_drewN ?_ _ | refine blk_drew ?_ | refine blk_alloc ?_ _)); exact BK246.out)) : gb258 ≠ gb246)); have n9_ := Aside0.mk ((by rw [hg]; exact Nat.ne_of_lt (blk_lt (g := gb247) (o := .cells #[.int .i64 a1_0, .int .i64 a1_1, .int .i64 a1_2, .int .i64 a1_3] 59 (0, 0)) (by (with_reducible repeat (first | refine blk_drewN ?_ _ | refine blk_drew ?_ | refine blk_alloc ?_ _)); exact BK247.out)) : gb247 ≠ gb258)); have n10_ := Aside0.mk ((by rw [hg]; exact Nat.ne_of_gt (blk_lt (g := gb247) (o := .cells #[.int .i64 a1_0, .int .i64 a1_1, .int .i64 a1_2, .int .i64 a1_3] 59 (0, 0)) (by (with_reducible repeat (first | refine blk_drewN ?_ _ | refine blk_drew ?_ | refine blk_alloc ?_ _)); exact BK247.out)) : gb258 ≠ gb247)); have n11_ := Aside0.mk ((by rw [hg]; exact Nat.ne_of_lt (blk_lt (g := gb248) (o := .cells #[.int .i64 a2_0, .int .i64 a2_1] 48 (0, 0)) (by (with_reducible repeat (first | refine blk_drewN ?_ _ | refine blk_drew ?_ | refine blk_alloc ?_ _)); exact BK248.out)) : gb248 ≠ gb258)); have n12_ := Aside0.mk ((by rw [hg]; exact Nat.ne_of_gt (blk_lt (g := gb248) (o := .cells #[.int .i64 a2_0, .int .i64 a2_1] 48 (0, 0)) (by (with_reducible repeat (first | refine blk_drewN ?_ _ | refine blk_drew ?_ | refine blk_alloc ?_ _)); exact BK248.out)) : gb258 ≠ gb248)); clear BK246; clear BK247; clear BK248; clear HB; have BK246 := n0_; have BK247 := n1_; have BK248 := n2_; have HB := n3_; have BK258 := n4_; have GW258 := n5_; have GE258 := n6_; have NB246_258 := n7_; have NB258_246 := n8_; have NB247_258 := n9_; have NB258_247 := n10_; have NB248_258 := n11_; have NB258_248 := n12_; clear n0_ n1_ n2_ n3_ n4_ n5_ n6_ n7_ n8_ n9_ n10_ n11_ n12_; clear hb hbox hg) | ((with_reducible refine gate_dst (N := 8) rfl ?_); refine box_event ?hg (N := 8) ?hd (cs := #[.int .i64 0, .int .i64 0, .int .i64 0, .int .i64 0]) (t := 59) ?hr ?_; (case hd => rfl); (case hg => rfl); (case hr => first | (go_simp; done) | (go_simp; rfl)); intro gb259 hg w17 hbox hb; have n0_ := Aside0.mk (blk_below (g := gb246) (o := .cells #[.int .i64 a0_0, .int .i64 a0_1, .int .i64 a0_2, .int .i64 a0_3] 59 (0, 0)) (by (with_reducible repeat (first | refine blk_drewN ?_ _ | refine blk_drew ?_ | refine blk_alloc ?_ _)); exact BK246.out) hb); have n1_ := Aside0.mk (blk_below (g := gb247) (o := .cells #[.int .i64 a1_0, .int .i64 a1_1, .int .i64 a1_2, .int .i64 a1_3] 59 (0, 0)) (by (with_reducible repeat (first | refine blk_drewN ?_ _ | refine blk_drew ?_ | refine blk_alloc ?_ _)); exact BK247.out) hb); have n2_ := Aside0.mk (blk_below (g := gb248) (o := .cells #[.int .i64 a2_0, .int .i64 a2_1] 48 (0, 0)) (by (with_reducible repeat (first | refine blk_drewN ?_ _ | refine blk_drew ?_ | refine blk_alloc ?_ _)); exact BK248.out) hb); have n3_ := Aside0.mk (blk_below (g := gb258) (o := .cells #[.int .i64 0, .int .i64 0, .int .i64 0, .int .i64 0] 59 (0, 0)) (by (with_reducible repeat (first | refine blk_drewN ?_ _ | refine blk_drew ?_ | refine blk_alloc ?_ _)); exact BK258.out) hb); have n4_ := Aside0.mk (below_step (by repeat (first | (with_reducible first | exact HB.out | apply below_alloc | apply pw_below_drewN | apply below_drew1 | refine below_set ?_ GE246.out | refine below_set ?_ GE247.out | refine below_set ?_ GE248.out | refine below_set ?_ GE258.out) | exact HB.out)) hb); have n5_ := Aside0.mk (hbox); have n6_ := Aside0.mk ((by rw [hg]; exact (below_size (by repeat (first | (with_reducible first | exact HB.out | apply below_alloc | apply pw_below_drewN | apply below_drew1 | refine below_set ?_ GE246.out | refine below_set ?_ GE247.out | refine below_set ?_ GE248.out | refine below_set ?_ GE258.out) | exact HB.out))) : w.heap.size ≤ gb259)); have n7_ := Aside0.mk ((by rw [hg]; exact (below_size (by repeat (first | (with_reducible first | exact HB.out | apply below_alloc | apply pw_below_drewN | apply below_drew1 | refine below_set ?_ GE246.out | refine below_set ?_ GE247.out | refine below_set ?_ GE248.out | refine below_set ?_ GE258.out) | exact HB.out))) : w.heap.size ≤ gb259)); have n8_ := Aside0.mk ((by rw [hg]; exact Nat.ne_of_lt (blk_lt (g := gb246) (o := .cells #[.int .i64 a0_0, .int .i64 a0_1, .int .i64 a0_2, .int .i64 a0_3] 59 (0, 0)) (by (with_reducible repeat (first | refine blk_drewN ?_ _ | refine blk_drew ?_ | refine blk_alloc ?_ _)); exact BK246.out)) : gb246 ≠ gb259)); have n9_ := Aside0.mk ((by rw [hg]; exact Nat.ne_of_gt (blk_lt (g := gb246) (o := .cells #[.int .i64 a0_0, .int .i64 a0_1, .int .i64 a0_2, .int .i64 a0_3] 59 (0, 0)) (by (with_reducible repeat (first | refine blk_drewN ?_ _ | refine blk_drew ?_ | refine blk_alloc ?_ _)); exact BK246.out)) : gb259 ≠ gb246)); have n10_ := Aside0.mk ((by rw [hg]; exact Nat.ne_of_lt (blk_lt (g := gb247) (o := .cells #[.int .i64 a1_0, .int .i64 a1_1, .int .i64 a1_2, .int .i64 a1_3] 59 (0, 0)) (by (with_reducible repeat (first | refine blk_drewN ?_ _ | refine blk_drew ?_ | refine blk_alloc ?_ _)); exact BK247.out)) : gb247 ≠ gb259)); have n11_ := Aside0.mk ((by rw [hg]; exact Nat.ne_of_gt (blk_lt (g := gb247) (o := .cells #[.int .i64 a1_0, .int .i64 a1_1, .int .i64 a1_2, .int .i64 a1_3] 59 (0, 0)) (by (with_reducible repeat (first | refine blk_drewN ?_ _ | refine blk_drew ?_ | refine blk_alloc ?_ _)); exact BK247.out)) : gb259 ≠ gb247)); have n12_ := Aside0.mk ((by rw [hg]; exact Nat.ne_of_lt (blk_lt (g := gb248) (o := .cells #[.int .i64 a2_0, .int .i64 a2_1] 48 (0, 0)) (by (with_reducible repeat (first | refine blk_drewN ?_ _ | refine blk_drew ?_ | refine blk_alloc ?_ _)); exact BK248.out)) : gb248 ≠ gb259)); have n13_ := Aside0.mk ((by rw [hg]; exact Nat.ne_of_gt (blk_lt (g := gb248) (o := .cells #[.int .i64 a2_0, .int .i64 a2_1] 48 (0, 0)) (by (with_reducible repeat (first | refine blk_drewN ?_ _ | refine blk_drew ?_ | refine blk_alloc ?_ _)); exact BK248.out)) : gb259 ≠ gb248)); have n14_ := Aside0.mk ((by rw [hg]; exact Nat.ne_of_lt (blk_lt (g := gb258) (o := .cells #[.int .i64 0, .int .i64 0, .int .i64 0, .int .i64 0] 59 (0, 0)) (by (with_reducible repeat (first | refine blk_drewN ?_ _ | refine blk_drew ?_ | refine blk_alloc ?_ _)); exact BK258.out)) : gb258 ≠ gb259)); have n15_ := Aside0.mk ((by rw [hg]; exact Nat.ne_of_gt (blk_lt (g := gb258) (o := .cells #[.int .i64 0, .int .i64 0, .int .i64 0, .int .i64 0] 59 (0, 0)) (by (with_reducible repeat (first | refine blk_drewN ?_ _ | refine blk_drew ?_ | refine blk_alloc ?_ _)); exact BK258.out)) : gb259 ≠ gb258)); clear BK246; clear BK247; clear BK248; clear BK258; clear HB; have BK246 := n0_; have BK247 := n1_; have BK248 := n2_; have BK258 := n3_; have HB := n4_; have BK259 := n5_; have GW259 := n6_; have GE259 := n7_; have NB246_259 := n8_; have NB259_246 := n9_; have NB247_259 := n10_; have NB259_247 := n11_; have NB248_259 := n12_; have NB259_248 := n13_; have NB258_259 := n14_; have NB259_258 := n15_; clear n0_ n1_ n2_ n3_ n4_ n5_ n6_ n7_ n8_ n9_ n10_ n11_ n12_ n13_ n14_ n15_; clear hb hbox hg; have hnb18 := NB258_246.out; have hnc18 := NB246_258.out; have hnb19 := NB258_247.out; have hnc19 := NB247_258.out; have hnb20 := NB258_248.out; have hnc20 := NB248_258.out; have hnb21 := NB258_259.out; have hnc21 := NB259_258.out; have hcz22_0 : w17.cell? ⟨gb258, 0, none⟩ = some (.int .i64 0) := (blk_cell BK258.out 0).trans rfl; have hcz22_1 : w17.cell? ⟨gb258, 1, none⟩ = some (.int .i64 0) := (blk_cell BK258.out 1).trans rfl; have hcz22_2 : w17.cell? ⟨gb258, 2, none⟩ = some (.int .i64 0) := (blk_cell BK258.out 2).trans rfl; have hcz22_3 : w17.cell? ⟨gb258, 3, none⟩ = some (.int .i64 0) := (blk_cell BK258.out 3).trans rfl; have hfz22_0 := blk_frozen BK258.out 0; have hfz22_1 := blk_frozen BK258.out 1; have hfz22_2 := blk_frozen BK258.out 2; have hfz22_3 := blk_frozen BK258.out 3; have hnb23 := NB259_246.out; have hnc23 := NB246_259.out; have hnb24 := NB259_247.out; have hnc24 := NB247_259.out; have hnb25 := NB259_248.out; have hnc25 := NB248_259.out; have hcz26_0 : w17.cell? ⟨gb259, 0, none⟩ = some (.int .i64 0) := (blk_cell BK259.out 0).trans rfl; have hcz26_1 : w17.cell? ⟨gb259, 1, none⟩ = some (.int .i64 0) := (blk_cell BK259.out 1).trans rfl; have hcz26_2 : w17.cell? ⟨gb259, 2, none⟩ = some (.int .i64 0) := (blk_cell BK259.out 2).trans rfl; have hcz26_3 : w17.cell? ⟨gb259, 3, none⟩ = some (.int .i64 0) := (blk_cell BK259.out 3).trans rfl; have hfz26_0 := blk_frozen BK259.out 0; have hfz26_1 := blk_frozen BK259.out 1; have hfz26_2 := blk_frozen BK259.out 2; have hfz26_3 := blk_frozen BK259.out 3))
  (try simp only [Act.put, List.setIfInBounds_toArray, List.set_cons_zero, List.set_cons_succ])
  go_cut [30] (fun v30 wc => ∃ (kq : Nat) (x30_4 : Bool), v30 = .bool x30_4 ∧ Aside0 (bivouaclaw19_PurseSends.j0 kq t257 x30_4 a0_0 a0_1 a0_2 a0_3 a1_0 a1_1 a1_2 a1_3 a2_0 a2_1 t249 t250 t251 t252 t253 t254 t255 t256 = some true) ∧ Aside0 (kq ≤ k) ∧ Aside0 (wc.heap[gb246]? = some (.cells #[.int .i64 a0_0, .int .i64 a0_1, .int .i64 a0_2, .int .i64 a0_3] 59 (0, 0))) ∧ Aside0 (wc.heap[gb247]? = some (.cells #[.int .i64 a1_0, .int .i64 a1_1, .int .i64 a1_2, .int .i64 a1_3] 59 (0, 0))) ∧ Aside0 (wc.heap[gb248]? = some (.cells #[.int .i64 a2_0, .int .i64 a2_1] 48 (0, 0))) ∧ Aside0 (wc.heap[gb258]? = some (.cells #[.int .i64 t249, .int .i64 t250, .int .i64 t251, .int .i64 t252] 59 (0, 0))) ∧ Aside0 (wc.heap[gb259]? = some (.cells #[.int .i64 t253, .int .i64 t254, .int .i64 t255, .int .i64 t256] 59 (0, 0))) ∧ Aside0 (Below w.heap.size w wc))
  case first =>
    have H := HC5.out
    clear HC5
    replace H := Option.bind_eq_some_iff.mp H
    obtain ⟨t260, A270, H⟩ := H
    replace H : (if t260 = true then ((bivouacref19_May.f a1_0 a1_1 a1_2 a1_3).bind fun t261 => (if t261 = true then ((bivouacref19_Wish.f a2_0 a2_1).bind fun t262 => (bivouaclaw19_PurseSends.j0 k t257 (!t262) a0_0 a0_1 a0_2 a0_3 a1_0 a1_1 a1_2 a1_3 a2_0 a2_1 t249 t250 t251 t252 t253 t254 t255 t256)) else (bivouaclaw19_PurseSends.j0 k t257 true a0_0 a0_1 a0_2 a0_3 a1_0 a1_1 a1_2 a1_3 a2_0 a2_1 t249 t250 t251 t252 t253 t254 t255 t256))) else (bivouaclaw19_PurseSends.j0 k t257 true a0_0 a0_1 a0_2 a0_3 a1_0 a1_1 a1_2 a1_3 a2_0 a2_1 t249 t250 t251 t252 t253 t254 t255 t256)) = some true := H
    have A27 := Aside0.mk A270
    clear A270
    by_cases c28 : t260 = true
    · subst c28
      have H1 : ((bivouacref19_May.f a1_0 a1_1 a1_2 a1_3).bind fun t261 => (if t261 = true then ((bivouacref19_Wish.f a2_0 a2_1).bind fun t262 => (bivouaclaw19_PurseSends.j0 k t257 (!t262) a0_0 a0_1 a0_2 a0_3 a1_0 a1_1 a1_2 a1_3 a2_0 a2_1 t249 t250 t251 t252 t253 t254 t255 t256)) else (bivouaclaw19_PurseSends.j0 k t257 true a0_0 a0_1 a0_2 a0_3 a1_0 a1_1 a1_2 a1_3 a2_0 a2_1 t249 t250 t251 t252 t253 t254 t255 t256))) = some true := by rw [if_pos rfl] at H; exact H
      clear H
      have H := H1
      clear H1
      replace H := Option.bind_eq_some_iff.mp H
      obtain ⟨t261, A290, H⟩ := H
      replace H : (if t261 = true then ((bivouacref19_Wish.f a2_0 a2_1).bind fun t262 => (bivouaclaw19_PurseSends.j0 k t257 (!t262) a0_0 a0_1 a0_2 a0_3 a1_0 a1_1 a1_2 a1_3 a2_0 a2_1 t249 t250 t251 t252 t253 t254 t255 t256)) else (bivouaclaw19_PurseSends.j0 k t257 true a0_0 a0_1 a0_2 a0_3 a1_0 a1_1 a1_2 a1_3 a2_0 a2_1 t249 t250 t251 t252 t253 t254 t255 t256)) = some true := H
      have A29 := Aside0.mk A290
      clear A290
      by_cases c30 : t261 = true
      · subst c30
        have H1 : ((bivouacref19_Wish.f a2_0 a2_1).bind fun t262 => (bivouaclaw19_PurseSends.j0 k t257 (!t262) a0_0 a0_1 a0_2 a0_3 a1_0 a1_1 a1_2 a1_3 a2_0 a2_1 t249 t250 t251 t252 t253 t254 t255 t256)) = some true := by rw [if_pos rfl] at H; exact H
        clear H
        have H := H1
        clear H1
        replace H := Option.bind_eq_some_iff.mp H
        obtain ⟨t262, A310, H⟩ := H
        replace H : (bivouaclaw19_PurseSends.j0 k t257 (!t262) a0_0 a0_1 a0_2 a0_3 a1_0 a1_1 a1_2 a1_3 a2_0 a2_1 t249 t250 t251 t252 t253 t254 t255 t256) = some true := H
        have A31 := Aside0.mk A310
        clear A310
        have H' := Aside0.mk H
        clear H
        have hnb32 := NB246_247.out
        have hnc32 := NB247_246.out
        have hnb33 := NB246_248.out
        have hnc33 := NB248_246.out
        have hnb34 := NB246_258.out
        have hnc34 := NB258_246.out
        have hnb35 := NB246_259.out
        have hnc35 := NB259_246.out
        have hcz36_0 : w17.cell? ⟨gb246, 0, none⟩ = some (.int .i64 a0_0) := (blk_cell BK246.out 0).trans rfl
        have hcz36_1 : w17.cell? ⟨gb246, 1, none⟩ = some (.int .i64 a0_1) := (blk_cell BK246.out 1).trans rfl
        have hcz36_2 : w17.cell? ⟨gb246, 2, none⟩ = some (.int .i64 a0_2) := (blk_cell BK246.out 2).trans rfl
        have hcz36_3 : w17.cell? ⟨gb246, 3, none⟩ = some (.int .i64 a0_3) := (blk_cell BK246.out 3).trans rfl
        have hfz36_0 := blk_frozen BK246.out 0
        have hfz36_1 := blk_frozen BK246.out 1
        have hfz36_2 := blk_frozen BK246.out 2
        have hfz36_3 := blk_frozen BK246.out 3
        go_wp2_with (first | ((with_reducible refine gate_callee (f := 61) rfl ?_); refine goesL_ (some 19) rfl rfl Try.func61 (by kernel_rfl) rfl #[.agg #[.int .i64 a0_0, .int .i64 a0_1, .int .i64 a0_2, .int .i64 a0_3]] rfl (by (try simp only [List.map_toArray, List.map_cons, List.map_nil]); first | done | rfl | (simp only [List.length_drop, List.length_take]; rfl)) ?_; (with_reducible refine (bivouacref19_May.calls a0_0 a0_1 a0_2 a0_3 true _ A27.out).mono ?_); rintro e w37 ⟨rfl, hb⟩; refine ⟨_, rfl, ?_⟩; have n0_ := Aside0.mk (blk_below (g := gb246) (o := .cells #[.int .i64 a0_0, .int .i64 a0_1, .int .i64 a0_2, .int .i64 a0_3] 59 (0, 0)) (by (with_reducible repeat (first | refine blk_drewN ?_ _ | refine blk_drew ?_ | refine blk_alloc ?_ _)); refine blk_far ?_ NB246_259.out _; (with_reducible repeat (first | refine blk_drewN ?_ _ | refine blk_drew ?_ | refine blk_alloc ?_ _)); refine blk_far ?_ NB246_259.out _; (with_reducible repeat (first | refine blk_drewN ?_ _ | refine blk_drew ?_ | refine blk_alloc ?_ _)); refine blk_far ?_ NB246_259.out _; (with_reducible repeat (first | refine blk_drewN ?_ _ | refine blk_drew ?_ | refine blk_alloc ?_ _)); refine blk_far ?_ NB246_259.out _; (with_reducible repeat (first | refine blk_drewN ?_ _ | refine blk_drew ?_ | refine blk_alloc ?_ _)); refine blk_far ?_ NB246_258.out _; (with_reducible repeat (first | refine blk_drewN ?_ _ | refine blk_drew ?_ | refine blk_alloc ?_ _)); refine blk_far ?_ NB246_258.out _; (with_reducible repeat (first | refine blk_drewN ?_ _ | refine blk_drew ?_ | refine blk_alloc ?_ _)); refine blk_far ?_ NB246_258.out _; (with_reducible repeat (first | refine blk_drewN ?_ _ | refine blk_drew ?_ | refine blk_alloc ?_ _)); refine blk_far ?_ NB246_258.out _; (with_reducible repeat (first | refine blk_drewN ?_ _ | refine blk_drew ?_ | refine blk_alloc ?_ _)); exact BK246.out) hb); have n1_ := Aside0.mk (blk_below (g := gb247) (o := .cells #[.int .i64 a1_0, .int .i64 a1_1, .int .i64 a1_2, .int .i64 a1_3] 59 (0, 0)) (by (with_reducible repeat (first | refine blk_drewN ?_ _ | refine blk_drew ?_ | refine blk_alloc ?_ _)); refine blk_far ?_ NB247_259.out _; (with_reducible repeat (first | refine blk_drewN ?_ _ | refine blk_drew ?_ | refine blk_alloc ?_ _)); refine blk_far ?_ NB247_259.out _; (with_reducible repeat (first | refine blk_drewN ?_ _ | refine blk_drew ?_ | refine blk_alloc ?_ _)); refine blk_far ?_ NB247_259.out _; (with_reducible repeat (first | refine blk_drewN ?_ _ | refine blk_drew ?_ | refine blk_alloc ?_ _)); refine blk_far ?_ NB247_259.out _; (with_reducible repeat (first | refine blk_drewN ?_ _ | refine blk_drew ?_ | refine blk_alloc ?_ _)); refine blk_far ?_ NB247_258.out _; (with_reducible repeat (first | refine blk_drewN ?_ _ | refine blk_drew ?_ | refine blk_alloc ?_ _)); refine blk_far ?_ NB247_258.out _; (with_reducible repeat (first | refine blk_drewN ?_ _ | refine blk_drew ?_ | refine blk_alloc ?_ _)); refine blk_far ?_ NB247_258.out _; (with_reducible repeat (first | refine blk_drewN ?_ _ | refine blk_drew ?_ | refine blk_alloc ?_ _)); refine blk_far ?_ NB247_258.out _; (with_reducible repeat (first | refine blk_drewN ?_ _ | refine blk_drew ?_ | refine blk_alloc ?_ _)); exact BK247.out) hb); have n2_ := Aside0.mk (blk_below (g := gb248) (o := .cells #[.int .i64 a2_0, .int .i64 a2_1] 48 (0, 0)) (by (with_reducible repeat (first | refine blk_drewN ?_ _ | refine blk_drew ?_ | refine blk_alloc ?_ _)); refine blk_far ?_ NB248_259.out _; (with_reducible repeat (first | refine blk_drewN ?_ _ | refine blk_drew ?_ | refine blk_alloc ?_ _)); refine blk_far ?_ NB248_259.out _; (with_reducible repeat (first | refine blk_drewN ?_ _ | refine blk_drew ?_ | refine blk_alloc ?_ _)); refine blk_far ?_ NB248_259.out _; (with_reducible repeat (first | refine blk_drewN ?_ _ | refine blk_drew ?_ | refine blk_alloc ?_ _)); refine blk_far ?_ NB248_259.out _; (with_reducible repeat (first | refine blk_drewN ?_ _ | refine blk_drew ?_ | refine blk_alloc ?_ _)); refine blk_far ?_ NB248_258.out _; (with_reducible repeat (first | refine blk_drewN ?_ _ | refine blk_drew ?_ | refine blk_alloc ?_ _)); refine blk_far ?_ NB248_258.out _; (with_reducible repeat (first | refine blk_drewN ?_ _ | refine blk_drew ?_ | refine blk_alloc ?_ _)); refine blk_far ?_ NB248_258.out _; (with_reducible repeat (first | refine blk_drewN ?_ _ | refine blk_drew ?_ | refine blk_alloc ?_ _)); refine blk_far ?_ NB248_258.out _; (with_reducible repeat (first | refine blk_drewN ?_ _ | refine blk_drew ?_ | refine blk_alloc ?_ _)); exact BK248.out) hb); have n3_ := Aside0.mk (blk_below (g := gb258) (o := .cells #[.int .i64 t249, .int .i64 t250, .int .i64 t251, .int .i64 t252] 59 (0, 0)) (by (with_reducible repeat (first | refine blk_drewN ?_ _ | refine blk_drew ?_ | refine blk_alloc ?_ _)); refine blk_far ?_ NB258_259.out _; (with_reducible repeat (first | refine blk_drewN ?_ _ | refine blk_drew ?_ | refine blk_alloc ?_ _)); refine blk_far ?_ NB258_259.out _; (with_reducible repeat (first | refine blk_drewN ?_ _ | refine blk_drew ?_ | refine blk_alloc ?_ _)); refine blk_far ?_ NB258_259.out _; (with_reducible repeat (first | refine blk_drewN ?_ _ | refine blk_drew ?_ | refine blk_alloc ?_ _)); refine blk_far ?_ NB258_259.out _; (with_reducible repeat (first | refine blk_drewN ?_ _ | refine blk_drew ?_ | refine blk_alloc ?_ _)); refine blk_put (cs := #[.int .i64 t249, .int .i64 t250, .int .i64 t251, .int .i64 0]) ?_ 3 _ rfl; (with_reducible repeat (first | refine blk_drewN ?_ _ | refine blk_drew ?_ | refine blk_alloc ?_ _)); refine blk_put (cs := #[.int .i64 t249, .int .i64 t250, .int .i64 0, .int .i64 0]) ?_ 2 _ rfl; (with_reducible repeat (first | refine blk_drewN ?_ _ | refine blk_drew ?_ | refine blk_alloc ?_ _)); refine blk_put (cs := #[.int .i64 t249, .int .i64 0, .int .i64 0, .int .i64 0]) ?_ 1 _ rfl; (with_reducible repeat (first | refine blk_drewN ?_ _ | refine blk_drew ?_ | refine blk_alloc ?_ _)); refine blk_put (cs := #[.int .i64 0, .int .i64 0, .int .i64 0, .int .i64 0]) ?_ 0 _ rfl; (with_reducible repeat (first | refine blk_drewN ?_ _ | refine blk_drew ?_ | refine blk_alloc ?_ _)); exact BK258.out) hb); have n4_ := Aside0.mk (blk_below (g := gb259) (o := .cells #[.int .i64 t253, .int .i64 t254, .int .i64 t255, .int .i64 t256] 59 (0, 0)) (by (with_reducible repeat (first | refine blk_drewN ?_ _ | refine blk_drew ?_ | refine blk_alloc ?_ _)); refine blk_put (cs := #[.int .i64 t253, .int .i64 t254, .int .i64 t255, .int .i64 0]) ?_ 3 _ rfl; (with_reducible repeat (first | refine blk_drewN ?_ _ | refine blk_drew ?_ | refine blk_alloc ?_ _)); refine blk_put (cs := #[.int .i64 t253, .int .i64 t254, .int .i64 0, .int .i64 0]) ?_ 2 _ rfl; (with_reducible repeat (first | refine blk_drewN ?_ _ | refine blk_drew ?_ | refine blk_alloc ?_ _)); refine blk_put (cs := #[.int .i64 t253, .int .i64 0, .int .i64 0, .int .i64 0]) ?_ 1 _ rfl; (with_reducible repeat (first | refine blk_drewN ?_ _ | refine blk_drew ?_ | refine blk_alloc ?_ _)); refine blk_put (cs := #[.int .i64 0, .int .i64 0, .int .i64 0, .int .i64 0]) ?_ 0 _ rfl; (with_reducible repeat (first | refine blk_drewN ?_ _ | refine blk_drew ?_ | refine blk_alloc ?_ _)); refine blk_far ?_ NB259_258.out _; (with_reducible repeat (first | refine blk_drewN ?_ _ | refine blk_drew ?_ | refine blk_alloc ?_ _)); refine blk_far ?_ NB259_258.out _; (with_reducible repeat (first | refine blk_drewN ?_ _ | refine blk_drew ?_ | refine blk_alloc ?_ _)); refine blk_far ?_ NB259_258.out _; (with_reducible repeat (first | refine blk_drewN ?_ _ | refine blk_drew ?_ | refine blk_alloc ?_ _)); refine blk_far ?_ NB259_258.out _; (with_reducible repeat (first | refine blk_drewN ?_ _ | refine blk_drew ?_ | refine blk_alloc ?_ _)); exact BK259.out) hb); have n5_ := Aside0.mk (below_step (by repeat (first | (with_reducible first | exact HB.out | apply below_alloc | apply pw_below_drewN | apply below_drew1 | refine below_set ?_ GE246.out | refine below_set ?_ GE247.out | refine below_set ?_ GE248.out | refine below_set ?_ GE258.out | refine below_set ?_ GE259.out) | exact HB.out)) hb); clear BK246; clear BK247; clear BK248; clear BK258; clear BK259; clear HB; have BK246 := n0_; have BK247 := n1_; have BK248 := n2_; have BK258 := n3_; have BK259 := n4_; have HB := n5_; clear n0_ n1_ n2_ n3_ n4_ n5_; (try clear hb); (try clear hb2); (try clear hk); (try clear hi); have hnb38 := NB247_248.out; have hnc38 := NB248_247.out; have hnb39 := NB247_258.out; have hnc39 := NB258_247.out; have hnb40 := NB247_259.out; have hnc40 := NB259_247.out; have hcz41_0 : w37.cell? ⟨gb247, 0, none⟩ = some (.int .i64 a1_0) := (blk_cell BK247.out 0).trans rfl; have hcz41_1 : w37.cell? ⟨gb247, 1, none⟩ = some (.int .i64 a1_1) := (blk_cell BK247.out 1).trans rfl; have hcz41_2 : w37.cell? ⟨gb247, 2, none⟩ = some (.int .i64 a1_2) := (blk_cell BK247.out 2).trans rfl; have hcz41_3 : w37.cell? ⟨gb247, 3, none⟩ = some (.int .i64 a1_3) := (blk_cell BK247.out 3).trans rfl; have hfz41_0 := blk_frozen BK247.out 0; have hfz41_1 := blk_frozen BK247.out 1; have hfz41_2 := blk_frozen BK247.out 2; have hfz41_3 := blk_frozen BK247.out 3) | (go_at_call 61; (with_reducible refine (bivouacref19_May.calls a1_0 a1_1 a1_2 a1_3 true _ A29.out).mono ?_); rintro e w42 ⟨rfl, hb⟩; have n0_ := Aside0.mk (blk_below (g := gb246) (o := .cells #[.int .i64 a0_0, .int .i64 a0_1, .int .i64 a0_2, .int .i64 a0_3] 59 (0, 0)) (by (with_reducible repeat (first | refine blk_drewN ?_ _ | refine blk_drew ?_ | refine blk_alloc ?_ _)); exact BK246.out) hb); have n1_ := Aside0.mk (blk_below (g := gb247) (o := .cells #[.int .i64 a1_0, .int .i64 a1_1, .int .i64 a1_2, .int .i64 a1_3] 59 (0, 0)) (by (with_reducible repeat (first | refine blk_drewN ?_ _ | refine blk_drew ?_ | refine blk_alloc ?_ _)); exact BK247.out) hb); have n2_ := Aside0.mk (blk_below (g := gb248) (o := .cells #[.int .i64 a2_0, .int .i64 a2_1] 48 (0, 0)) (by (with_reducible repeat (first | refine blk_drewN ?_ _ | refine blk_drew ?_ | refine blk_alloc ?_ _)); exact BK248.out) hb); have n3_ := Aside0.mk (blk_below (g := gb258) (o := .cells #[.int .i64 t249, .int .i64 t250, .int .i64 t251, .int .i64 t252] 59 (0, 0)) (by (with_reducible repeat (first | refine blk_drewN ?_ _ | refine blk_drew ?_ | refine blk_alloc ?_ _)); exact BK258.out) hb); have n4_ := Aside0.mk (blk_below (g := gb259) (o := .cells #[.int .i64 t253, .int .i64 t254, .int .i64 t255, .int .i64 t256] 59 (0, 0)) (by (with_reducible repeat (first | refine blk_drewN ?_ _ | refine blk_drew ?_ | refine blk_alloc ?_ _)); exact BK259.out) hb); have n5_ := Aside0.mk (below_step (by repeat (first | (with_reducible first | exact HB.out | apply below_alloc | apply pw_below_drewN | apply below_drew1 | refine below_set ?_ GE246.out | refine below_set ?_ GE247.out | refine below_set ?_ GE248.out | refine below_set ?_ GE258.out | refine below_set ?_ GE259.out) | exact HB.out)) hb); clear BK246; clear BK247; clear BK248; clear BK258; clear BK259; clear HB; have BK246 := n0_; have BK247 := n1_; have BK248 := n2_; have BK258 := n3_; have BK259 := n4_; have HB := n5_; clear n0_ n1_ n2_ n3_ n4_ n5_; (try clear hb); (try clear hb2); (try clear hk); (try clear hi); have hnb43 := NB248_258.out; have hnc43 := NB258_248.out; have hnb44 := NB248_259.out; have hnc44 := NB259_248.out; have hcz45_0 : w42.cell? ⟨gb248, 0, none⟩ = some (.int .i64 a2_0) := (blk_cell BK248.out 0).trans rfl; have hcz45_1 : w42.cell? ⟨gb248, 1, none⟩ = some (.int .i64 a2_1) := (blk_cell BK248.out 1).trans rfl; have hfz45_0 := blk_frozen BK248.out 0; have hfz45_1 := blk_frozen BK248.out 1) | (go_at_call 55; (with_reducible refine (bivouacref19_Wish.calls a2_0 a2_1 t262 _ A31.out).mono ?_); rintro e w46 ⟨rfl, hb⟩; have n0_ := Aside0.mk (blk_below (g := gb246) (o := .cells #[.int .i64 a0_0, .int .i64 a0_1, .int .i64 a0_2, .int .i64 a0_3] 59 (0, 0)) (by (with_reducible repeat (first | refine blk_drewN ?_ _ | refine blk_drew ?_ | refine blk_alloc ?_ _)); exact BK246.out) hb); have n1_ := Aside0.mk (blk_below (g := gb247) (o := .cells #[.int .i64 a1_0, .int .i64 a1_1, .int .i64 a1_2, .int .i64 a1_3] 59 (0, 0)) (by (with_reducible repeat (first | refine blk_drewN ?_ _ | refine blk_drew ?_ | refine blk_alloc ?_ _)); exact BK247.out) hb); have n2_ := Aside0.mk (blk_below (g := gb248) (o := .cells #[.int .i64 a2_0, .int .i64 a2_1] 48 (0, 0)) (by (with_reducible repeat (first | refine blk_drewN ?_ _ | refine blk_drew ?_ | refine blk_alloc ?_ _)); exact BK248.out) hb); have n3_ := Aside0.mk (blk_below (g := gb258) (o := .cells #[.int .i64 t249, .int .i64 t250, .int .i64 t251, .int .i64 t252] 59 (0, 0)) (by (with_reducible repeat (first | refine blk_drewN ?_ _ | refine blk_drew ?_ | refine blk_alloc ?_ _)); exact BK258.out) hb); have n4_ := Aside0.mk (blk_below (g := gb259) (o := .cells #[.int .i64 t253, .int .i64 t254, .int .i64 t255, .int .i64 t256] 59 (0, 0)) (by (with_reducible repeat (first | refine blk_drewN ?_ _ | refine blk_drew ?_ | refine blk_alloc ?_ _)); exact BK259.out) hb); have n5_ := Aside0.mk (below_step (by repeat (first | (with_reducible first | exact HB.out | apply below_alloc | apply pw_below_drewN | apply below_drew1 | refine below_set ?_ GE246.out | refine below_set ?_ GE247.out | refine below_set ?_ GE248.out | refine below_set ?_ GE258.out | refine below_set ?_ GE259.out) | exact HB.out)) hb); clear BK246; clear BK247; clear BK248; clear BK258; clear BK259; clear HB; have BK246 := n0_; have BK247 := n1_; have BK248 := n2_; have BK258 := n3_; have BK259 := n4_; have HB := n5_; clear n0_ n1_ n2_ n3_ n4_ n5_; (try clear hb); (try clear hb2); (try clear hk); (try clear hi)))
        go_meet
        case rel => exact ⟨_, (!t262), (by first | rfl | (simp; done) | (simp [*]; done)), H', ⟨by first | omega | exact Nat.le_refl _⟩, ⟨by (with_reducible repeat (first | refine blk_drewN ?_ _ | refine blk_drew ?_ | refine blk_alloc ?_ _)); exact BK246.out⟩, ⟨by (with_reducible repeat (first | refine blk_drewN ?_ _ | refine blk_drew ?_ | refine blk_alloc ?_ _)); exact BK247.out⟩, ⟨by (with_reducible repeat (first | refine blk_drewN ?_ _ | refine blk_drew ?_ | refine blk_alloc ?_ _)); exact BK248.out⟩, ⟨by (with_reducible repeat (first | refine blk_drewN ?_ _ | refine blk_drew ?_ | refine blk_alloc ?_ _)); exact BK258.out⟩, ⟨by (with_reducible repeat (first | refine blk_drewN ?_ _ | refine blk_drew ?_ | refine blk_alloc ?_ _)); exact BK259.out⟩, ⟨by repeat (first | (with_reducible first | exact HB.out | apply below_alloc | apply pw_below_drewN | apply below_drew1 | refine below_set ?_ GE246.out | refine below_set ?_ GE247.out | refine below_set ?_ GE248.out | refine below_set ?_ GE258.out | refine below_set ?_ GE259.out) | exact HB.out)⟩⟩
      · replace c30 := Bool.eq_false_iff.mpr c30
        subst c30
        have H1 : (bivouaclaw19_PurseSends.j0 k t257 true a0_0 a0_1 a0_2 a0_3 a1_0 a1_1 a1_2 a1_3 a2_0 a2_1 t249 t250 t251 t252 t253 t254 t255 t256) = some true := by rw [if_neg (show ¬ (false = true) by decide)] at H; exact H
        clear H
        have H := H1
        clear H1
        have H' := Aside0.mk H
        clear H
        have hnb47 := NB246_247.out
        have hnc47 := NB247_246.out
        have hnb48 := NB246_248.out
        have hnc48 := NB248_246.out
        have hnb49 := NB246_258.out
        have hnc49 := NB258_246.out
        have hnb50 := NB246_259.out
        have hnc50 := NB259_246.out
        have hcz51_0 : w17.cell? ⟨gb246, 0, none⟩ = some (.int .i64 a0_0) := (blk_cell BK246.out 0).trans rfl
        have hcz51_1 : w17.cell? ⟨gb246, 1, none⟩ = some (.int .i64 a0_1) := (blk_cell BK246.out 1).trans rfl
        have hcz51_2 : w17.cell? ⟨gb246, 2, none⟩ = some (.int .i64 a0_2) := (blk_cell BK246.out 2).trans rfl
        have hcz51_3 : w17.cell? ⟨gb246, 3, none⟩ = some (.int .i64 a0_3) := (blk_cell BK246.out 3).trans rfl
        have hfz51_0 := blk_frozen BK246.out 0
        have hfz51_1 := blk_frozen BK246.out 1
        have hfz51_2 := blk_frozen BK246.out 2
        have hfz51_3 := blk_frozen BK246.out 3
        go_wp2_with (first | ((with_reducible refine gate_callee (f := 61) rfl ?_); refine goesL_ (some 19) rfl rfl Try.func61 (by kernel_rfl) rfl #[.agg #[.int .i64 a0_0, .int .i64 a0_1, .int .i64 a0_2, .int .i64 a0_3]] rfl (by (try simp only [List.map_toArray, List.map_cons, List.map_nil]); first | done | rfl | (simp only [List.length_drop, List.length_take]; rfl)) ?_; (with_reducible refine (bivouacref19_May.calls a0_0 a0_1 a0_2 a0_3 true _ A27.out).mono ?_); rintro e w52 ⟨rfl, hb⟩; refine ⟨_, rfl, ?_⟩; have n0_ := Aside0.mk (blk_below (g := gb246) (o := .cells #[.int .i64 a0_0, .int .i64 a0_1, .int .i64 a0_2, .int .i64 a0_3] 59 (0, 0)) (by (with_reducible repeat (first | refine blk_drewN ?_ _ | refine blk_drew ?_ | refine blk_alloc ?_ _)); refine blk_far ?_ NB246_259.out _; (with_reducible repeat (first | refine blk_drewN ?_ _ | refine blk_drew ?_ | refine blk_alloc ?_ _)); refine blk_far ?_ NB246_259.out _; (with_reducible repeat (first | refine blk_drewN ?_ _ | refine blk_drew ?_ | refine blk_alloc ?_ _)); refine blk_far ?_ NB246_259.out _; (with_reducible repeat (first | refine blk_drewN ?_ _ | refine blk_drew ?_ | refine blk_alloc ?_ _)); refine blk_far ?_ NB246_259.out _; (with_reducible repeat (first | refine blk_drewN ?_ _ | refine blk_drew ?_ | refine blk_alloc ?_ _)); refine blk_far ?_ NB246_258.out _; (with_reducible repeat (first | refine blk_drewN ?_ _ | refine blk_drew ?_ | refine blk_alloc ?_ _)); refine blk_far ?_ NB246_258.out _; (with_reducible repeat (first | refine blk_drewN ?_ _ | refine blk_drew ?_ | refine blk_alloc ?_ _)); refine blk_far ?_ NB246_258.out _; (with_reducible repeat (first | refine blk_drewN ?_ _ | refine blk_drew ?_ | refine blk_alloc ?_ _)); refine blk_far ?_ NB246_258.out _; (with_reducible repeat (first | refine blk_drewN ?_ _ | refine blk_drew ?_ | refine blk_alloc ?_ _)); exact BK246.out) hb); have n1_ := Aside0.mk (blk_below (g := gb247) (o := .cells #[.int .i64 a1_0, .int .i64 a1_1, .int .i64 a1_2, .int .i64 a1_3] 59 (0, 0)) (by (with_reducible repeat (first | refine blk_drewN ?_ _ | refine blk_drew ?_ | refine blk_alloc ?_ _)); refine blk_far ?_ NB247_259.out _; (with_reducible repeat (first | refine blk_drewN ?_ _ | refine blk_drew ?_ | refine blk_alloc ?_ _)); refine blk_far ?_ NB247_259.out _; (with_reducible repeat (first | refine blk_drewN ?_ _ | refine blk_drew ?_ | refine blk_alloc ?_ _)); refine blk_far ?_ NB247_259.out _; (with_reducible repeat (first | refine blk_drewN ?_ _ | refine blk_drew ?_ | refine blk_alloc ?_ _)); refine blk_far ?_ NB247_259.out _; (with_reducible repeat (first | refine blk_drewN ?_ _ | refine blk_drew ?_ | refine blk_alloc ?_ _)); refine blk_far ?_ NB247_258.out _; (with_reducible repeat (first | refine blk_drewN ?_ _ | refine blk_drew ?_ | refine blk_alloc ?_ _)); refine blk_far ?_ NB247_258.out _; (with_reducible repeat (first | refine blk_drewN ?_ _ | refine blk_drew ?_ | refine blk_alloc ?_ _)); refine blk_far ?_ NB247_258.out _; (with_reducible repeat (first | refine blk_drewN ?_ _ | refine blk_drew ?_ | refine blk_alloc ?_ _)); refine blk_far ?_ NB247_258.out _; (with_reducible repeat (first | refine blk_drewN ?_ _ | refine blk_drew ?_ | refine blk_alloc ?_ _)); exact BK247.out) hb); have n2_ := Aside0.mk (blk_below (g := gb248) (o := .cells #[.int .i64 a2_0, .int .i64 a2_1] 48 (0, 0)) (by (with_reducible repeat (first | refine blk_drewN ?_ _ | refine blk_drew ?_ | refine blk_alloc ?_ _)); refine blk_far ?_ NB248_259.out _; (with_reducible repeat (first | refine blk_drewN ?_ _ | refine blk_drew ?_ | refine blk_alloc ?_ _)); refine blk_far ?_ NB248_259.out _; (with_reducible repeat (first | refine blk_drewN ?_ _ | refine blk_drew ?_ | refine blk_alloc ?_ _)); refine blk_far ?_ NB248_259.out _; (with_reducible repeat (first | refine blk_drewN ?_ _ | refine blk_drew ?_ | refine blk_alloc ?_ _)); refine blk_far ?_ NB248_259.out _; (with_reducible repeat (first | refine blk_drewN ?_ _ | refine blk_drew ?_ | refine blk_alloc ?_ _)); refine blk_far ?_ NB248_258.out _; (with_reducible repeat (first | refine blk_drewN ?_ _ | refine blk_drew ?_ | refine blk_alloc ?_ _)); refine blk_far ?_ NB248_258.out _; (with_reducible repeat (first | refine blk_drewN ?_ _ | refine blk_drew ?_ | refine blk_alloc ?_ _)); refine blk_far ?_ NB248_258.out _; (with_reducible repeat (first | refine blk_drewN ?_ _ | refine blk_drew ?_ | refine blk_alloc ?_ _)); refine blk_far ?_ NB248_258.out _; (with_reducible repeat (first | refine blk_drewN ?_ _ | refine blk_drew ?_ | refine blk_alloc ?_ _)); exact BK248.out) hb); have n3_ := Aside0.mk (blk_below (g := gb258) (o := .cells #[.int .i64 t249, .int .i64 t250, .int .i64 t251, .int .i64 t252] 59 (0, 0)) (by (with_reducible repeat (first | refine blk_drewN ?_ _ | refine blk_drew ?_ | refine blk_alloc ?_ _)); refine blk_far ?_ NB258_259.out _; (with_reducible repeat (first | refine blk_drewN ?_ _ | refine blk_drew ?_ | refine blk_alloc ?_ _)); refine blk_far ?_ NB258_259.out _; (with_reducible repeat (first | refine blk_drewN ?_ _ | refine blk_drew ?_ | refine blk_alloc ?_ _)); refine blk_far ?_ NB258_259.out _; (with_reducible repeat (first | refine blk_drewN ?_ _ | refine blk_drew ?_ | refine blk_alloc ?_ _)); refine blk_far ?_ NB258_259.out _; (with_reducible repeat (first | refine blk_drewN ?_ _ | refine blk_drew ?_ | refine blk_alloc ?_ _)); refine blk_put (cs := #[.int .i64 t249, .int .i64 t250, .int .i64 t251, .int .i64 0]) ?_ 3 _ rfl; (with_reducible repeat (first | refine blk_drewN ?_ _ | refine blk_drew ?_ | refine blk_alloc ?_ _)); refine blk_put (cs := #[.int .i64 t249, .int .i64 t250, .int .i64 0, .int .i64 0]) ?_ 2 _ rfl; (with_reducible repeat (first | refine blk_drewN ?_ _ | refine blk_drew ?_ | refine blk_alloc ?_ _)); refine blk_put (cs := #[.int .i64 t249, .int .i64 0, .int .i64 0, .int .i64 0]) ?_ 1 _ rfl; (with_reducible repeat (first | refine blk_drewN ?_ _ | refine blk_drew ?_ | refine blk_alloc ?_ _)); refine blk_put (cs := #[.int .i64 0, .int .i64 0, .int .i64 0, .int .i64 0]) ?_ 0 _ rfl; (with_reducible repeat (first | refine blk_drewN ?_ _ | refine blk_drew ?_ | refine blk_alloc ?_ _)); exact BK258.out) hb); have n4_ := Aside0.mk (blk_below (g := gb259) (o := .cells #[.int .i64 t253, .int .i64 t254, .int .i64 t255, .int .i64 t256] 59 (0, 0)) (by (with_reducible repeat (first | refine blk_drewN ?_ _ | refine blk_drew ?_ | refine blk_alloc ?_ _)); refine blk_put (cs := #[.int .i64 t253, .int .i64 t254, .int .i64 t255, .int .i64 0]) ?_ 3 _ rfl; (with_reducible repeat (first | refine blk_drewN ?_ _ | refine blk_drew ?_ | refine blk_alloc ?_ _)); refine blk_put (cs := #[.int .i64 t253, .int .i64 t254, .int .i64 0, .int .i64 0]) ?_ 2 _ rfl; (with_reducible repeat (first | refine blk_drewN ?_ _ | refine blk_drew ?_ | refine blk_alloc ?_ _)); refine blk_put (cs := #[.int .i64 t253, .int .i64 0, .int .i64 0, .int .i64 0]) ?_ 1 _ rfl; (with_reducible repeat (first | refine blk_drewN ?_ _ | refine blk_drew ?_ | refine blk_alloc ?_ _)); refine blk_put (cs := #[.int .i64 0, .int .i64 0, .int .i64 0, .int .i64 0]) ?_ 0 _ rfl; (with_reducible repeat (first | refine blk_drewN ?_ _ | refine blk_drew ?_ | refine blk_alloc ?_ _)); refine blk_far ?_ NB259_258.out _; (with_reducible repeat (first | refine blk_drewN ?_ _ | refine blk_drew ?_ | refine blk_alloc ?_ _)); refine blk_far ?_ NB259_258.out _; (with_reducible repeat (first | refine blk_drewN ?_ _ | refine blk_drew ?_ | refine blk_alloc ?_ _)); refine blk_far ?_ NB259_258.out _; (with_reducible repeat (first | refine blk_drewN ?_ _ | refine blk_drew ?_ | refine blk_alloc ?_ _)); refine blk_far ?_ NB259_258.out _; (with_reducible repeat (first | refine blk_drewN ?_ _ | refine blk_drew ?_ | refine blk_alloc ?_ _)); exact BK259.out) hb); have n5_ := Aside0.mk (below_step (by repeat (first | (with_reducible first | exact HB.out | apply below_alloc | apply pw_below_drewN | apply below_drew1 | refine below_set ?_ GE246.out | refine below_set ?_ GE247.out | refine below_set ?_ GE248.out | refine below_set ?_ GE258.out | refine below_set ?_ GE259.out) | exact HB.out)) hb); clear BK246; clear BK247; clear BK248; clear BK258; clear BK259; clear HB; have BK246 := n0_; have BK247 := n1_; have BK248 := n2_; have BK258 := n3_; have BK259 := n4_; have HB := n5_; clear n0_ n1_ n2_ n3_ n4_ n5_; (try clear hb); (try clear hb2); (try clear hk); (try clear hi); have hnb53 := NB247_248.out; have hnc53 := NB248_247.out; have hnb54 := NB247_258.out; have hnc54 := NB258_247.out; have hnb55 := NB247_259.out; have hnc55 := NB259_247.out; have hcz56_0 : w52.cell? ⟨gb247, 0, none⟩ = some (.int .i64 a1_0) := (blk_cell BK247.out 0).trans rfl; have hcz56_1 : w52.cell? ⟨gb247, 1, none⟩ = some (.int .i64 a1_1) := (blk_cell BK247.out 1).trans rfl; have hcz56_2 : w52.cell? ⟨gb247, 2, none⟩ = some (.int .i64 a1_2) := (blk_cell BK247.out 2).trans rfl; have hcz56_3 : w52.cell? ⟨gb247, 3, none⟩ = some (.int .i64 a1_3) := (blk_cell BK247.out 3).trans rfl; have hfz56_0 := blk_frozen BK247.out 0; have hfz56_1 := blk_frozen BK247.out 1; have hfz56_2 := blk_frozen BK247.out 2; have hfz56_3 := blk_frozen BK247.out 3) | (go_at_call 61; (with_reducible refine (bivouacref19_May.calls a1_0 a1_1 a1_2 a1_3 false _ A29.out).mono ?_); rintro e w57 ⟨rfl, hb⟩; have n0_ := Aside0.mk (blk_below (g := gb246) (o := .cells #[.int .i64 a0_0, .int .i64 a0_1, .int .i64 a0_2, .int .i64 a0_3] 59 (0, 0)) (by (with_reducible repeat (first | refine blk_drewN ?_ _ | refine blk_drew ?_ | refine blk_alloc ?_ _)); exact BK246.out) hb); have n1_ := Aside0.mk (blk_below (g := gb247) (o := .cells #[.int .i64 a1_0, .int .i64 a1_1, .int .i64 a1_2, .int .i64 a1_3] 59 (0, 0)) (by (with_reducible repeat (first | refine blk_drewN ?_ _ | refine blk_drew ?_ | refine blk_alloc ?_ _)); exact BK247.out) hb); have n2_ := Aside0.mk (blk_below (g := gb248) (o := .cells #[.int .i64 a2_0, .int .i64 a2_1] 48 (0, 0)) (by (with_reducible repeat (first | refine blk_drewN ?_ _ | refine blk_drew ?_ | refine blk_alloc ?_ _)); exact BK248.out) hb); have n3_ := Aside0.mk (blk_below (g := gb258) (o := .cells #[.int .i64 t249, .int .i64 t250, .int .i64 t251, .int .i64 t252] 59 (0, 0)) (by (with_reducible repeat (first | refine blk_drewN ?_ _ | refine blk_drew ?_ | refine blk_alloc ?_ _)); exact BK258.out) hb); have n4_ := Aside0.mk (blk_below (g := gb259) (o := .cells #[.int .i64 t253, .int .i64 t254, .int .i64 t255, .int .i64 t256] 59 (0, 0)) (by (with_reducible repeat (first | refine blk_drewN ?_ _ | refine blk_drew ?_ | refine blk_alloc ?_ _)); exact BK259.out) hb); have n5_ := Aside0.mk (below_step (by repeat (first | (with_reducible first | exact HB.out | apply below_alloc | apply pw_below_drewN | apply below_drew1 | refine below_set ?_ GE246.out | refine below_set ?_ GE247.out | refine below_set ?_ GE248.out | refine below_set ?_ GE258.out | refine below_set ?_ GE259.out) | exact HB.out)) hb); clear BK246; clear BK247; clear BK248; clear BK258; clear BK259; clear HB; have BK246 := n0_; have BK247 := n1_; have BK248 := n2_; have BK258 := n3_; have BK259 := n4_; have HB := n5_; clear n0_ n1_ n2_ n3_ n4_ n5_; (try clear hb); (try clear hb2); (try clear hk); (try clear hi)))
        go_meet
        case rel => exact ⟨_, (true), (by first | rfl | (simp; done) | (simp [*]; done)), H', ⟨by first | omega | exact Nat.le_refl _⟩, ⟨by (with_reducible repeat (first | refine blk_drewN ?_ _ | refine blk_drew ?_ | refine blk_alloc ?_ _)); exact BK246.out⟩, ⟨by (with_reducible repeat (first | refine blk_drewN ?_ _ | refine blk_drew ?_ | refine blk_alloc ?_ _)); exact BK247.out⟩, ⟨by (with_reducible repeat (first | refine blk_drewN ?_ _ | refine blk_drew ?_ | refine blk_alloc ?_ _)); exact BK248.out⟩, ⟨by (with_reducible repeat (first | refine blk_drewN ?_ _ | refine blk_drew ?_ | refine blk_alloc ?_ _)); exact BK258.out⟩, ⟨by (with_reducible repeat (first | refine blk_drewN ?_ _ | refine blk_drew ?_ | refine blk_alloc ?_ _)); exact BK259.out⟩, ⟨by repeat (first | (with_reducible first | exact HB.out | apply below_alloc | apply pw_below_drewN | apply below_drew1 | refine below_set ?_ GE246.out | refine below_set ?_ GE247.out | refine below_set ?_ GE248.out | refine below_set ?_ GE258.out | refine below_set ?_ GE259.out) | exact HB.out)⟩⟩
    · replace c28 := Bool.eq_false_iff.mpr c28
      subst c28
      have H1 : (bivouaclaw19_PurseSends.j0 k t257 true a0_0 a0_1 a0_2 a0_3 a1_0 a1_1 a1_2 a1_3 a2_0 a2_1 t249 t250 t251 t252 t253 t254 t255 t256) = some true := by rw [if_neg (show ¬ (false = true) by decide)] at H; exact H
      clear H
      have H := H1
      clear H1
      have H' := Aside0.mk H
      clear H
      have hnb58 := NB246_247.out
      have hnc58 := NB247_246.out
      have hnb59 := NB246_248.out
      have hnc59 := NB248_246.out
      have hnb60 := NB246_258.out
      have hnc60 := NB258_246.out
      have hnb61 := NB246_259.out
      have hnc61 := NB259_246.out
      have hcz62_0 : w17.cell? ⟨gb246, 0, none⟩ = some (.int .i64 a0_0) := (blk_cell BK246.out 0).trans rfl
      have hcz62_1 : w17.cell? ⟨gb246, 1, none⟩ = some (.int .i64 a0_1) := (blk_cell BK246.out 1).trans rfl
      have hcz62_2 : w17.cell? ⟨gb246, 2, none⟩ = some (.int .i64 a0_2) := (blk_cell BK246.out 2).trans rfl
      have hcz62_3 : w17.cell? ⟨gb246, 3, none⟩ = some (.int .i64 a0_3) := (blk_cell BK246.out 3).trans rfl
      have hfz62_0 := blk_frozen BK246.out 0
      have hfz62_1 := blk_frozen BK246.out 1
      have hfz62_2 := blk_frozen BK246.out 2
      have hfz62_3 := blk_frozen BK246.out 3
      go_wp2_with (first | ((with_reducible refine gate_callee (f := 61) rfl ?_); refine goesL_ (some 19) rfl rfl Try.func61 (by kernel_rfl) rfl #[.agg #[.int .i64 a0_0, .int .i64 a0_1, .int .i64 a0_2, .int .i64 a0_3]] rfl (by (try simp only [List.map_toArray, List.map_cons, List.map_nil]); first | done | rfl | (simp only [List.length_drop, List.length_take]; rfl)) ?_; (with_reducible refine (bivouacref19_May.calls a0_0 a0_1 a0_2 a0_3 false _ A27.out).mono ?_); rintro e w63 ⟨rfl, hb⟩; refine ⟨_, rfl, ?_⟩; have n0_ := Aside0.mk (blk_below (g := gb246) (o := .cells #[.int .i64 a0_0, .int .i64 a0_1, .int .i64 a0_2, .int .i64 a0_3] 59 (0, 0)) (by (with_reducible repeat (first | refine blk_drewN ?_ _ | refine blk_drew ?_ | refine blk_alloc ?_ _)); refine blk_far ?_ NB246_259.out _; (with_reducible repeat (first | refine blk_drewN ?_ _ | refine blk_drew ?_ | refine blk_alloc ?_ _)); refine blk_far ?_ NB246_259.out _; (with_reducible repeat (first | refine blk_drewN ?_ _ | refine blk_drew ?_ | refine blk_alloc ?_ _)); refine blk_far ?_ NB246_259.out _; (with_reducible repeat (first | refine blk_drewN ?_ _ | refine blk_drew ?_ | refine blk_alloc ?_ _)); refine blk_far ?_ NB246_259.out _; (with_reducible repeat (first | refine blk_drewN ?_ _ | refine blk_drew ?_ | refine blk_alloc ?_ _)); refine blk_far ?_ NB246_258.out _; (with_reducible repeat (first | refine blk_drewN ?_ _ | refine blk_drew ?_ | refine blk_alloc ?_ _)); refine blk_far ?_ NB246_258.out _; (with_reducible repeat (first | refine blk_drewN ?_ _ | refine blk_drew ?_ | refine blk_alloc ?_ _)); refine blk_far ?_ NB246_258.out _; (with_reducible repeat (first | refine blk_drewN ?_ _ | refine blk_drew ?_ | refine blk_alloc ?_ _)); refine blk_far ?_ NB246_258.out _; (with_reducible repeat (first | refine blk_drewN ?_ _ | refine blk_drew ?_ | refine blk_alloc ?_ _)); exact BK246.out) hb); have n1_ := Aside0.mk (blk_below (g := gb247) (o := .cells #[.int .i64 a1_0, .int .i64 a1_1, .int .i64 a1_2, .int .i64 a1_3] 59 (0, 0)) (by (with_reducible repeat (first | refine blk_drewN ?_ _ | refine blk_drew ?_ | refine blk_alloc ?_ _)); refine blk_far ?_ NB247_259.out _; (with_reducible repeat (first | refine blk_drewN ?_ _ | refine blk_drew ?_ | refine blk_alloc ?_ _)); refine blk_far ?_ NB247_259.out _; (with_reducible repeat (first | refine blk_drewN ?_ _ | refine blk_drew ?_ | refine blk_alloc ?_ _)); refine blk_far ?_ NB247_259.out _; (with_reducible repeat (first | refine blk_drewN ?_ _ | refine blk_drew ?_ | refine blk_alloc ?_ _)); refine blk_far ?_ NB247_259.out _; (with_reducible repeat (first | refine blk_drewN ?_ _ | refine blk_drew ?_ | refine blk_alloc ?_ _)); refine blk_far ?_ NB247_258.out _; (with_reducible repeat (first | refine blk_drewN ?_ _ | refine blk_drew ?_ | refine blk_alloc ?_ _)); refine blk_far ?_ NB247_258.out _; (with_reducible repeat (first | refine blk_drewN ?_ _ | refine blk_drew ?_ | refine blk_alloc ?_ _)); refine blk_far ?_ NB247_258.out _; (with_reducible repeat (first | refine blk_drewN ?_ _ | refine blk_drew ?_ | refine blk_alloc ?_ _)); refine blk_far ?_ NB247_258.out _; (with_reducible repeat (first | refine blk_drewN ?_ _ | refine blk_drew ?_ | refine blk_alloc ?_ _)); exact BK247.out) hb); have n2_ := Aside0.mk (blk_below (g := gb248) (o := .cells #[.int .i64 a2_0, .int .i64 a2_1] 48 (0, 0)) (by (with_reducible repeat (first | refine blk_drewN ?_ _ | refine blk_drew ?_ | refine blk_alloc ?_ _)); refine blk_far ?_ NB248_259.out _; (with_reducible repeat (first | refine blk_drewN ?_ _ | refine blk_drew ?_ | refine blk_alloc ?_ _)); refine blk_far ?_ NB248_259.out _; (with_reducible repeat (first | refine blk_drewN ?_ _ | refine blk_drew ?_ | refine blk_alloc ?_ _)); refine blk_far ?_ NB248_259.out _; (with_reducible repeat (first | refine blk_drewN ?_ _ | refine blk_drew ?_ | refine blk_alloc ?_ _)); refine blk_far ?_ NB248_259.out _; (with_reducible repeat (first | refine blk_drewN ?_ _ | refine blk_drew ?_ | refine blk_alloc ?_ _)); refine blk_far ?_ NB248_258.out _; (with_reducible repeat (first | refine blk_drewN ?_ _ | refine blk_drew ?_ | refine blk_alloc ?_ _)); refine blk_far ?_ NB248_258.out _; (with_reducible repeat (first | refine blk_drewN ?_ _ | refine blk_drew ?_ | refine blk_alloc ?_ _)); refine blk_far ?_ NB248_258.out _; (with_reducible repeat (first | refine blk_drewN ?_ _ | refine blk_drew ?_ | refine blk_alloc ?_ _)); refine blk_far ?_ NB248_258.out _; (with_reducible repeat (first | refine blk_drewN ?_ _ | refine blk_drew ?_ | refine blk_alloc ?_ _)); exact BK248.out) hb); have n3_ := Aside0.mk (blk_below (g := gb258) (o := .cells #[.int .i64 t249, .int .i64 t250, .int .i64 t251, .int .i64 t252] 59 (0, 0)) (by (with_reducible repeat (first | refine blk_drewN ?_ _ | refine blk_drew ?_ | refine blk_alloc ?_ _)); refine blk_far ?_ NB258_259.out _; (with_reducible repeat (first | refine blk_drewN ?_ _ | refine blk_drew ?_ | refine blk_alloc ?_ _)); refine blk_far ?_ NB258_259.out _; (with_reducible repeat (first | refine blk_drewN ?_ _ | refine blk_drew ?_ | refine blk_alloc ?_ _)); refine blk_far ?_ NB258_259.out _; (with_reducible repeat (first | refine blk_drewN ?_ _ | refine blk_drew ?_ | refine blk_alloc ?_ _)); refine blk_far ?_ NB258_259.out _; (with_reducible repeat (first | refine blk_drewN ?_ _ | refine blk_drew ?_ | refine blk_alloc ?_ _)); refine blk_put (cs := #[.int .i64 t249, .int .i64 t250, .int .i64 t251, .int .i64 0]) ?_ 3 _ rfl; (with_reducible repeat (first | refine blk_drewN ?_ _ | refine blk_drew ?_ | refine blk_alloc ?_ _)); refine blk_put (cs := #[.int .i64 t249, .int .i64 t250, .int .i64 0, .int .i64 0]) ?_ 2 _ rfl; (with_reducible repeat (first | refine blk_drewN ?_ _ | refine blk_drew ?_ | refine blk_alloc ?_ _)); refine blk_put (cs := #[.int .i64 t249, .int .i64 0, .int .i64 0, .int .i64 0]) ?_ 1 _ rfl; (with_reducible repeat (first | refine blk_drewN ?_ _ | refine blk_drew ?_ | refine blk_alloc ?_ _)); refine blk_put (cs := #[.int .i64 0, .int .i64 0, .int .i64 0, .int .i64 0]) ?_ 0 _ rfl; (with_reducible repeat (first | refine blk_drewN ?_ _ | refine blk_drew ?_ | refine blk_alloc ?_ _)); exact BK258.out) hb); have n4_ := Aside0.mk (blk_below (g := gb259) (o := .cells #[.int .i64 t253, .int .i64 t254, .int .i64 t255, .int .i64 t256] 59 (0, 0)) (by (with_reducible repeat (first | refine blk_drewN ?_ _ | refine blk_drew ?_ | refine blk_alloc ?_ _)); refine blk_put (cs := #[.int .i64 t253, .int .i64 t254, .int .i64 t255, .int .i64 0]) ?_ 3 _ rfl; (with_reducible repeat (first | refine blk_drewN ?_ _ | refine blk_drew ?_ | refine blk_alloc ?_ _)); refine blk_put (cs := #[.int .i64 t253, .int .i64 t254, .int .i64 0, .int .i64 0]) ?_ 2 _ rfl; (with_reducible repeat (first | refine blk_drewN ?_ _ | refine blk_drew ?_ | refine blk_alloc ?_ _)); refine blk_put (cs := #[.int .i64 t253, .int .i64 0, .int .i64 0, .int .i64 0]) ?_ 1 _ rfl; (with_reducible repeat (first | refine blk_drewN ?_ _ | refine blk_drew ?_ | refine blk_alloc ?_ _)); refine blk_put (cs := #[.int .i64 0, .int .i64 0, .int .i64 0, .int .i64 0]) ?_ 0 _ rfl; (with_reducible repeat (first | refine blk_drewN ?_ _ | refine blk_drew ?_ | refine blk_alloc ?_ _)); refine blk_far ?_ NB259_258.out _; (with_reducible repeat (first | refine blk_drewN ?_ _ | refine blk_drew ?_ | refine blk_alloc ?_ _)); refine blk_far ?_ NB259_258.out _; (with_reducible repeat (first | refine blk_drewN ?_ _ | refine blk_drew ?_ | refine blk_alloc ?_ _)); refine blk_far ?_ NB259_258.out _; (with_reducible repeat (first | refine blk_drewN ?_ _ | refine blk_drew ?_ | refine blk_alloc ?_ _)); refine blk_far ?_ NB259_258.out _; (with_reducible repeat (first | refine blk_drewN ?_ _ | refine blk_drew ?_ | refine blk_alloc ?_ _)); exact BK259.out) hb); have n5_ := Aside0.mk (below_step (by repeat (first | (with_reducible first | exact HB.out | apply below_alloc | apply pw_below_drewN | apply below_drew1 | refine below_set ?_ GE246.out | refine below_set ?_ GE247.out | refine below_set ?_ GE248.out | refine below_set ?_ GE258.out | refine below_set ?_ GE259.out) | exact HB.out)) hb); clear BK246; clear BK247; clear BK248; clear BK258; clear BK259; clear HB; have BK246 := n0_; have BK247 := n1_; have BK248 := n2_; have BK258 := n3_; have BK259 := n4_; have HB := n5_; clear n0_ n1_ n2_ n3_ n4_ n5_; (try clear hb); (try clear hb2); (try clear hk); (try clear hi)))
      go_meet
      case rel => exact ⟨_, (true), (by first | rfl | (simp; done) | (simp [*]; done)), H', ⟨by first | omega | exact Nat.le_refl _⟩, ⟨by (with_reducible repeat (first | refine blk_drewN ?_ _ | refine blk_drew ?_ | refine blk_alloc ?_ _)); exact BK246.out⟩, ⟨by (with_reducible repeat (first | refine blk_drewN ?_ _ | refine blk_drew ?_ | refine blk_alloc ?_ _)); exact BK247.out⟩, ⟨by (with_reducible repeat (first | refine blk_drewN ?_ _ | refine blk_drew ?_ | refine blk_alloc ?_ _)); exact BK248.out⟩, ⟨by (with_reducible repeat (first | refine blk_drewN ?_ _ | refine blk_drew ?_ | refine blk_alloc ?_ _)); exact BK258.out⟩, ⟨by (with_reducible repeat (first | refine blk_drewN ?_ _ | refine blk_drew ?_ | refine blk_alloc ?_ _)); exact BK259.out⟩, ⟨by repeat (first | (with_reducible first | exact HB.out | apply below_alloc | apply pw_below_drewN | apply below_drew1 | refine below_set ?_ GE246.out | refine below_set ?_ GE247.out | refine below_set ?_ GE248.out | refine below_set ?_ GE258.out | refine below_set ?_ GE259.out) | exact HB.out)⟩⟩
  case rest =>
    clear HC5
    try clear c1
    try clear c2
    try clear p2
    try clear c3
    try clear c4
    try clear c5
    try clear c6
    try clear c9
    try clear c10
    try clear c12
    try clear c18
    try clear c19
    try clear c20
    try clear c21
    try clear c23
    try clear c24
    try clear c25
    try clear c28
    try clear c30
    try clear c32
    try clear c33
    try clear c34
    try clear c35
    try clear c38
    try clear c39
    try clear c40
    try clear c43
    try clear c44
    try clear c47
    try clear c48
    try clear c49
    try clear c50
    try clear c53
    try clear c54
    try clear c55
    try clear c58
    try clear c59
    try clear c60
    try clear c61
    try clear hcz11_0
    try clear hcz11_1
    try clear hcz11_2
    try clear hcz11_3
    try clear hcz13_0
    try clear hcz13_1
    try clear hcz13_2
    try clear hcz13_3
    try clear hcz14_0
    try clear hcz14_1
    try clear hcz22_0
    try clear hcz22_1
    try clear hcz22_2
    try clear hcz22_3
    try clear hcz26_0
    try clear hcz26_1
    try clear hcz26_2
    try clear hcz26_3
    try clear hcz36_0
    try clear hcz36_1
    try clear hcz36_2
    try clear hcz36_3
    try clear hcz41_0
    try clear hcz41_1
    try clear hcz41_2
    try clear hcz41_3
    try clear hcz45_0
    try clear hcz45_1
    try clear hcz51_0
    try clear hcz51_1
    try clear hcz51_2
    try clear hcz51_3
    try clear hcz56_0
    try clear hcz56_1
    try clear hcz56_2
    try clear hcz56_3
    try clear hcz62_0
    try clear hcz62_1
    try clear hcz62_2
    try clear hcz62_3
    try clear hfz11_0
    try clear hfz11_1
    try clear hfz11_2
    try clear hfz11_3
    try clear hfz13_0
    try clear hfz13_1
    try clear hfz13_2
    try clear hfz13_3
    try clear hfz14_0
    try clear hfz14_1
    try clear hfz22_0
    try clear hfz22_1
    try clear hfz22_2
    try clear hfz22_3
    try clear hfz26_0
    try clear hfz26_1
    try clear hfz26_2
    try clear hfz26_3
    try clear hfz36_0
    try clear hfz36_1
    try clear hfz36_2
    try clear hfz36_3
    try clear hfz41_0
    try clear hfz41_1
    try clear hfz41_2
    try clear hfz41_3
    try clear hfz45_0
    try clear hfz45_1
    try clear hfz51_0
    try clear hfz51_1
    try clear hfz51_2
    try clear hfz51_3
    try clear hfz56_0
    try clear hfz56_1
    try clear hfz56_2
    try clear hfz56_3
    try clear hfz62_0
    try clear hfz62_1
    try clear hfz62_2
    try clear hfz62_3
    obtain ⟨kq, x30_4, rfl, HA, HJ4, BK246, BK247, BK248, BK258, BK259, HB⟩ := hcut
    cases kq with
    | zero => exact absurd HA.out (by simp [bivouaclaw19_PurseSends.j0])
    | succ kj4 =>
      have H := HA.out
      clear HA
      simp only [bivouaclaw19_PurseSends.j0] at H
      by_cases c64 : x30_4 = true
      · subst c64
        have H1 : (if (t249 == 0 && (t250 == 0 && (t251 == 0 && (t252 == 0)))) = true then (if (t253 == 0 && (t254 == 0 && (t255 == 0 && (t256 == 0)))) = true then (if t257 = 1 then ((bivouaclaw19_awake.f kj4).bind fun t263 => (some t263)) else (some false)) else (some false)) else (some false)) = some true := by rw [if_pos rfl] at H; exact H
        clear H
        have H := H1
        clear H1
        by_cases c65 : (t249 == 0 && (t250 == 0 && (t251 == 0 && (t252 == 0)))) = true
        · rw [if_pos c65] at H
          have c65b0 : (t249 == 0 && (t250 == 0 && (t251 == 0 && (t252 == 0)))) = true := c65
          (try (have c65b1 : decide (t249 = 0 && (t250 == 0 && (t251 == 0 && (t252 == 0)))) = true := by simpa using c65))
          (try (have c65b2 : (t249 == 0 && (t250 == 0 && (t251 == 0 && (t252 == 0)))) = true := by simpa using c65))
          clear c65
          by_cases c66 : (t253 == 0 && (t254 == 0 && (t255 == 0 && (t256 == 0)))) = true
          · rw [if_pos c66] at H
            have c66b0 : (t253 == 0 && (t254 == 0 && (t255 == 0 && (t256 == 0)))) = true := c66
            (try (have c66b1 : decide (t253 = 0 && (t254 == 0 && (t255 == 0 && (t256 == 0)))) = true := by simpa using c66))
            (try (have c66b2 : (t253 == 0 && (t254 == 0 && (t255 == 0 && (t256 == 0)))) = true := by simpa using c66))
            clear c66
            by_cases c67 : t257 = 1
            · rw [if_pos c67] at H
              have c67b0 : (t257 == 1) = true := beq_iff_eq.mpr c67
              have c67b1 : (t257 != 1) = false := bne_eq_false_iff_eq.mpr c67
              clear c67
              replace H := Option.bind_eq_some_iff.mp H
              obtain ⟨t263, A680, H⟩ := H
              replace H : (some t263) = some true := H
              have A68 := Aside0.mk A680
              clear A680
              have HRES := Aside0.mk (Option.some.inj H)
              clear H
              have hnb69 := NB258_246.out
              have hnc69 := NB246_258.out
              have hnb70 := NB258_247.out
              have hnc70 := NB247_258.out
              have hnb71 := NB258_248.out
              have hnc71 := NB248_258.out
              have hnb72 := NB258_259.out
              have hnc72 := NB259_258.out
              have hcz73_0 : wc.cell? ⟨gb258, 0, none⟩ = some (.int .i64 t249) := (blk_cell BK258.out 0).trans rfl
              have hcz73_1 : wc.cell? ⟨gb258, 1, none⟩ = some (.int .i64 t250) := (blk_cell BK258.out 1).trans rfl
              have hcz73_2 : wc.cell? ⟨gb258, 2, none⟩ = some (.int .i64 t251) := (blk_cell BK258.out 2).trans rfl
              have hcz73_3 : wc.cell? ⟨gb258, 3, none⟩ = some (.int .i64 t252) := (blk_cell BK258.out 3).trans rfl
              have hfz73_0 := blk_frozen BK258.out 0
              have hfz73_1 := blk_frozen BK258.out 1
              have hfz73_2 := blk_frozen BK258.out 2
              have hfz73_3 := blk_frozen BK258.out 3
              have hnb74 := NB259_246.out
              have hnc74 := NB246_259.out
              have hnb75 := NB259_247.out
              have hnc75 := NB247_259.out
              have hnb76 := NB259_248.out
              have hnc76 := NB248_259.out
              have hcz77_0 : wc.cell? ⟨gb259, 0, none⟩ = some (.int .i64 t253) := (blk_cell BK259.out 0).trans rfl
              have hcz77_1 : wc.cell? ⟨gb259, 1, none⟩ = some (.int .i64 t254) := (blk_cell BK259.out 1).trans rfl
              have hcz77_2 : wc.cell? ⟨gb259, 2, none⟩ = some (.int .i64 t255) := (blk_cell BK259.out 2).trans rfl
              have hcz77_3 : wc.cell? ⟨gb259, 3, none⟩ = some (.int .i64 t256) := (blk_cell BK259.out 3).trans rfl
              have hfz77_0 := blk_frozen BK259.out 0
              have hfz77_1 := blk_frozen BK259.out 1
              have hfz77_2 := blk_frozen BK259.out 2
              have hfz77_3 := blk_frozen BK259.out 3
              go_wp2_with (first | (go_at_call 56; (with_reducible refine (bivouaclaw19_awake.calls kj4  t263 _ A68.out).mono ?_); rintro e w78 ⟨rfl, hb⟩; have n0_ := Aside0.mk (blk_below (g := gb246) (o := .cells #[.int .i64 a0_0, .int .i64 a0_1, .int .i64 a0_2, .int .i64 a0_3] 59 (0, 0)) (by (with_reducible repeat (first | refine blk_drewN ?_ _ | refine blk_drew ?_ | refine blk_alloc ?_ _)); exact BK246.out) hb); have n1_ := Aside0.mk (blk_below (g := gb247) (o := .cells #[.int .i64 a1_0, .int .i64 a1_1, .int .i64 a1_2, .int .i64 a1_3] 59 (0, 0)) (by (with_reducible repeat (first | refine blk_drewN ?_ _ | refine blk_drew ?_ | refine blk_alloc ?_ _)); exact BK247.out) hb); have n2_ := Aside0.mk (blk_below (g := gb248) (o := .cells #[.int .i64 a2_0, .int .i64 a2_1] 48 (0, 0)) (by (with_reducible repeat (first | refine blk_drewN ?_ _ | refine blk_drew ?_ | refine blk_alloc ?_ _)); exact BK248.out) hb); have n3_ := Aside0.mk (blk_below (g := gb258) (o := .cells #[.int .i64 t249, .int .i64 t250, .int .i64 t251, .int .i64 t252] 59 (0, 0)) (by (with_reducible repeat (first | refine blk_drewN ?_ _ | refine blk_drew ?_ | refine blk_alloc ?_ _)); exact BK258.out) hb); have n4_ := Aside0.mk (blk_below (g := gb259) (o := .cells #[.int .i64 t253, .int .i64 t254, .int .i64 t255, .int .i64 t256] 59 (0, 0)) (by (with_reducible repeat (first | refine blk_drewN ?_ _ | refine blk_drew ?_ | refine blk_alloc ?_ _)); exact BK259.out) hb); have n5_ := Aside0.mk (below_step (by repeat (first | (with_reducible first | exact HB.out | apply below_alloc | apply pw_below_drewN | apply below_drew1 | refine below_set ?_ GE246.out | refine below_set ?_ GE247.out | refine below_set ?_ GE248.out | refine below_set ?_ GE258.out | refine below_set ?_ GE259.out) | exact HB.out)) hb); clear BK246; clear BK247; clear BK248; clear BK258; clear BK259; clear HB; have BK246 := n0_; have BK247 := n1_; have BK248 := n2_; have BK258 := n3_; have BK259 := n4_; have HB := n5_; clear n0_ n1_ n2_ n3_ n4_ n5_; (try clear hb); (try clear hb2); (try clear hk); (try clear hi)))
              go_ret
              exact ⟨by first | rfl | (exact congrArg (fun b_ => Ending.returned (Value.bool b_)) HRES.out) | (simp [errW_none, errW_some] <;> rfl) | (simp [*, errW_none, errW_some] <;> rfl), by repeat (first | (with_reducible first | exact HB.out | apply below_alloc | apply pw_below_drewN | apply below_drew1 | refine below_set ?_ GE246.out | refine below_set ?_ GE247.out | refine below_set ?_ GE248.out | refine below_set ?_ GE258.out | refine below_set ?_ GE259.out) | exact HB.out)⟩
            · rw [if_neg c67] at H
              exact absurd H (by simp)
          · rw [if_neg c66] at H
            exact absurd H (by simp)
        · rw [if_neg c65] at H
          exact absurd H (by simp)
      · replace c64 := Bool.eq_false_iff.mpr c64
        subst c64
        have H1 : (if a0_0 < a2_0 then (bivouaclaw19_PurseSends.j1 kj4 t257 true a0_0 a0_1 a0_2 a0_3 a1_0 a1_1 a1_2 a1_3 a2_0 a2_1 t249 t250 t251 t252 t253 t254 t255 t256) else (bivouaclaw19_PurseSends.j1 kj4 t257 (decide (a0_1 < a2_1)) a0_0 a0_1 a0_2 a0_3 a1_0 a1_1 a1_2 a1_3 a2_0 a2_1 t249 t250 t251 t252 t253 t254 t255 t256)) = some true := by rw [if_neg (show ¬ (false = true) by decide)] at H; exact H
        clear H
        have H := H1
        clear H1
        have HC79 := Aside0.mk H
        clear H
        go_upto_region 4 with (fail)
        go_cut [57] (fun v57 wc => ∃ (kq : Nat) (x57_78 : Bool), v57 = .bool x57_78 ∧ Aside0 (bivouaclaw19_PurseSends.j1 kq t257 x57_78 a0_0 a0_1 a0_2 a0_3 a1_0 a1_1 a1_2 a1_3 a2_0 a2_1 t249 t250 t251 t252 t253 t254 t255 t256 = some true) ∧ Aside0 (kq ≤ kj4) ∧ Aside0 (wc.heap[gb246]? = some (.cells #[.int .i64 a0_0, .int .i64 a0_1, .int .i64 a0_2, .int .i64 a0_3] 59 (0, 0))) ∧ Aside0 (wc.heap[gb247]? = some (.cells #[.int .i64 a1_0, .int .i64 a1_1, .int .i64 a1_2, .int .i64 a1_3] 59 (0, 0))) ∧ Aside0 (wc.heap[gb248]? = some (.cells #[.int .i64 a2_0, .int .i64 a2_1] 48 (0, 0))) ∧ Aside0 (wc.heap[gb258]? = some (.cells #[.int .i64 t249, .int .i64 t250, .int .i64 t251, .int .i64 t252] 59 (0, 0))) ∧ Aside0 (wc.heap[gb259]? = some (.cells #[.int .i64 t253, .int .i64 t254, .int .i64 t255, .int .i64 t256] 59 (0, 0))) ∧ Aside0 (Below w.heap.size w wc))
        case first =>
          have H := HC79.out
          clear HC79
          by_cases c80 : a0_0 < a2_0
          · rw [if_pos c80] at H
            have c80b0 : decide (a0_0 < a2_0) = true := decide_eq_true c80
            clear c80
            (first | rw [c80b0] | (simp only [i64_w, i32_w]; rw [c80b0]) | skip)
            have H' := Aside0.mk H
            clear H
            have hnb81 := NB246_247.out
            have hnc81 := NB247_246.out
            have hnb82 := NB246_248.out
            have hnc82 := NB248_246.out
            have hnb83 := NB246_258.out
            have hnc83 := NB258_246.out
            have hnb84 := NB246_259.out
            have hnc84 := NB259_246.out
            have hcz85_0 : wc.cell? ⟨gb246, 0, none⟩ = some (.int .i64 a0_0) := (blk_cell BK246.out 0).trans rfl
            have hcz85_1 : wc.cell? ⟨gb246, 1, none⟩ = some (.int .i64 a0_1) := (blk_cell BK246.out 1).trans rfl
            have hcz85_2 : wc.cell? ⟨gb246, 2, none⟩ = some (.int .i64 a0_2) := (blk_cell BK246.out 2).trans rfl
            have hcz85_3 : wc.cell? ⟨gb246, 3, none⟩ = some (.int .i64 a0_3) := (blk_cell BK246.out 3).trans rfl
            have hfz85_0 := blk_frozen BK246.out 0
            have hfz85_1 := blk_frozen BK246.out 1
            have hfz85_2 := blk_frozen BK246.out 2
            have hfz85_3 := blk_frozen BK246.out 3
            have hnb86 := NB248_247.out
            have hnc86 := NB247_248.out
            have hnb87 := NB248_258.out
            have hnc87 := NB258_248.out
            have hnb88 := NB248_259.out
            have hnc88 := NB259_248.out
            have hcz89_0 : wc.cell? ⟨gb248, 0, none⟩ = some (.int .i64 a2_0) := (blk_cell BK248.out 0).trans rfl
            have hcz89_1 : wc.cell? ⟨gb248, 1, none⟩ = some (.int .i64 a2_1) := (blk_cell BK248.out 1).trans rfl
            have hfz89_0 := blk_frozen BK248.out 0
            have hfz89_1 := blk_frozen BK248.out 1
            go_wp2
            go_meet
            case rel => exact ⟨_, (true), (by first | rfl | (simp; done) | (simp [*]; done)), H', ⟨by have := HJ4.out; first | omega | exact Nat.le_refl _⟩, ⟨by (with_reducible repeat (first | refine blk_drewN ?_ _ | refine blk_drew ?_ | refine blk_alloc ?_ _)); exact BK246.out⟩, ⟨by (with_reducible repeat (first | refine blk_drewN ?_ _ | refine blk_drew ?_ | refine blk_alloc ?_ _)); exact BK247.out⟩, ⟨by (with_reducible repeat (first | refine blk_drewN ?_ _ | refine blk_drew ?_ | refine blk_alloc ?_ _)); exact BK248.out⟩, ⟨by (with_reducible repeat (first | refine blk_drewN ?_ _ | refine blk_drew ?_ | refine blk_alloc ?_ _)); exact BK258.out⟩, ⟨by (with_reducible repeat (first | refine blk_drewN ?_ _ | refine blk_drew ?_ | refine blk_alloc ?_ _)); exact BK259.out⟩, ⟨by repeat (first | (with_reducible first | exact HB.out | apply below_alloc | apply pw_below_drewN | apply below_drew1 | refine below_set ?_ GE246.out | refine below_set ?_ GE247.out | refine below_set ?_ GE248.out | refine below_set ?_ GE258.out | refine below_set ?_ GE259.out) | exact HB.out)⟩⟩
          · rw [if_neg c80] at H
            have c80b0 : decide (a0_0 < a2_0) = false := decide_eq_false c80
            clear c80
            (first | rw [c80b0] | (simp only [i64_w, i32_w]; rw [c80b0]) | skip)
            have H' := Aside0.mk H
            clear H
            have hnb90 := NB246_247.out
            have hnc90 := NB247_246.out
            have hnb91 := NB246_248.out
            have hnc91 := NB248_246.out
            have hnb92 := NB246_258.out
            have hnc92 := NB258_246.out
            have hnb93 := NB246_259.out
            have hnc93 := NB259_246.out
            have hcz94_0 : wc.cell? ⟨gb246, 0, none⟩ = some (.int .i64 a0_0) := (blk_cell BK246.out 0).trans rfl
            have hcz94_1 : wc.cell? ⟨gb246, 1, none⟩ = some (.int .i64 a0_1) := (blk_cell BK246.out 1).trans rfl
            have hcz94_2 : wc.cell? ⟨gb246, 2, none⟩ = some (.int .i64 a0_2) := (blk_cell BK246.out 2).trans rfl
            have hcz94_3 : wc.cell? ⟨gb246, 3, none⟩ = some (.int .i64 a0_3) := (blk_cell BK246.out 3).trans rfl
            have hfz94_0 := blk_frozen BK246.out 0
            have hfz94_1 := blk_frozen BK246.out 1
            have hfz94_2 := blk_frozen BK246.out 2
            have hfz94_3 := blk_frozen BK246.out 3
            have hnb95 := NB248_247.out
            have hnc95 := NB247_248.out
            have hnb96 := NB248_258.out
            have hnc96 := NB258_248.out
            have hnb97 := NB248_259.out
            have hnc97 := NB259_248.out
            have hcz98_0 : wc.cell? ⟨gb248, 0, none⟩ = some (.int .i64 a2_0) := (blk_cell BK248.out 0).trans rfl
            have hcz98_1 : wc.cell? ⟨gb248, 1, none⟩ = some (.int .i64 a2_1) := (blk_cell BK248.out 1).trans rfl
            have hfz98_0 := blk_frozen BK248.out 0
            have hfz98_1 := blk_frozen BK248.out 1
            go_wp2
            go_meet
            case rel => exact ⟨_, (decide (a0_1 < a2_1)), (by first | rfl | (simp; done) | (simp [*]; done)), H', ⟨by have := HJ4.out; first | omega | exact Nat.le_refl _⟩, ⟨by (with_reducible repeat (first | refine blk_drewN ?_ _ | refine blk_drew ?_ | refine blk_alloc ?_ _)); exact BK246.out⟩, ⟨by (with_reducible repeat (first | refine blk_drewN ?_ _ | refine blk_drew ?_ | refine blk_alloc ?_ _)); exact BK247.out⟩, ⟨by (with_reducible repeat (first | refine blk_drewN ?_ _ | refine blk_drew ?_ | refine blk_alloc ?_ _)); exact BK248.out⟩, ⟨by (with_reducible repeat (first | refine blk_drewN ?_ _ | refine blk_drew ?_ | refine blk_alloc ?_ _)); exact BK258.out⟩, ⟨by (with_reducible repeat (first | refine blk_drewN ?_ _ | refine blk_drew ?_ | refine blk_alloc ?_ _)); exact BK259.out⟩, ⟨by repeat (first | (with_reducible first | exact HB.out | apply below_alloc | apply pw_below_drewN | apply below_drew1 | refine below_set ?_ GE246.out | refine below_set ?_ GE247.out | refine below_set ?_ GE248.out | refine below_set ?_ GE258.out | refine below_set ?_ GE259.out) | exact HB.out)⟩⟩
        case rest =>
          clear HC79
          try clear c1
          try clear c2
          try clear p2
          try clear c3
          try clear c4
          try clear c5
          try clear c6
          try clear c7
          try clear c8
          try clear c9
          try clear c10
          try clear c12
          try clear c18
          try clear c19
          try clear c20
          try clear c21
          try clear c23
          try clear c24
          try clear c25
          try clear c28
          try clear c30
          try clear c32
          try clear c33
          try clear c34
          try clear c35
          try clear c38
          try clear c39
          try clear c40
          try clear c43
          try clear c44
          try clear c47
          try clear c48
          try clear c49
          try clear c50
          try clear c53
          try clear c54
          try clear c55
          try clear c58
          try clear c59
          try clear c60
          try clear c61
          try clear c64
          try clear c65
          try clear c65b0
          try clear c65b1
          try clear c65b2
          try clear c66
          try clear c66b0
          try clear c66b1
          try clear c66b2
          try clear c67
          try clear c67b0
          try clear c67b1
          try clear c69
          try clear c70
          try clear c71
          try clear c72
          try clear c74
          try clear c75
          try clear c76
          try clear c80
          try clear c80b0
          try clear c81
          try clear c82
          try clear c83
          try clear c84
          try clear c86
          try clear c87
          try clear c88
          try clear c90
          try clear c91
          try clear c92
          try clear c93
          try clear c95
          try clear c96
          try clear c97
          try clear hcz11_0
          try clear hcz11_1
          try clear hcz11_2
          try clear hcz11_3
          try clear hcz13_0
          try clear hcz13_1
          try clear hcz13_2
          try clear hcz13_3
          try clear hcz14_0
          try clear hcz14_1
          try clear hcz22_0
          try clear hcz22_1
          try clear hcz22_2
          try clear hcz22_3
          try clear hcz26_0
          try clear hcz26_1
          try clear hcz26_2
          try clear hcz26_3
          try clear hcz36_0
          try clear hcz36_1
          try clear hcz36_2
          try clear hcz36_3
          try clear hcz41_0
          try clear hcz41_1
          try clear hcz41_2
          try clear hcz41_3
          try clear hcz45_0
          try clear hcz45_1
          try clear hcz51_0
          try clear hcz51_1
          try clear hcz51_2
          try clear hcz51_3
          try clear hcz56_0
          try clear hcz56_1
          try clear hcz56_2
          try clear hcz56_3
          try clear hcz62_0
          try clear hcz62_1
          try clear hcz62_2
          try clear hcz62_3
          try clear hcz73_0
          try clear hcz73_1
          try clear hcz73_2
          try clear hcz73_3
          try clear hcz77_0
          try clear hcz77_1
          try clear hcz77_2
          try clear hcz77_3
          try clear hcz85_0
          try clear hcz85_1
          try clear hcz85_2
          try clear hcz85_3
          try clear hcz89_0
          try clear hcz89_1
          try clear hcz94_0
          try clear hcz94_1
          try clear hcz94_2
          try clear hcz94_3
          try clear hcz98_0
          try clear hcz98_1
          try clear hfz11_0
          try clear hfz11_1
          try clear hfz11_2
          try clear hfz11_3
          try clear hfz13_0
          try clear hfz13_1
          try clear hfz13_2
          try clear hfz13_3
          try clear hfz14_0
          try clear hfz14_1
          try clear hfz22_0
          try clear hfz22_1
          try clear hfz22_2
          try clear hfz22_3
          try clear hfz26_0
          try clear hfz26_1
          try clear hfz26_2
          try clear hfz26_3
          try clear hfz36_0
          try clear hfz36_1
          try clear hfz36_2
          try clear hfz36_3
          try clear hfz41_0
          try clear hfz41_1
          try clear hfz41_2
          try clear hfz41_3
          try clear hfz45_0
          try clear hfz45_1
          try clear hfz51_0
          try clear hfz51_1
          try clear hfz51_2
          try clear hfz51_3
          try clear hfz56_0
          try clear hfz56_1
          try clear hfz56_2
          try clear hfz56_3
          try clear hfz62_0
          try clear hfz62_1
          try clear hfz62_2
          try clear hfz62_3
          try clear hfz73_0
          try clear hfz73_1
          try clear hfz73_2
          try clear hfz73_3
          try clear hfz77_0
          try clear hfz77_1
          try clear hfz77_2
          try clear hfz77_3
          try clear hfz85_0
          try clear hfz85_1
          try clear hfz85_2
          try clear hfz85_3
          try clear hfz89_0
          try clear hfz89_1
          try clear hfz94_0
          try clear hfz94_1
          try clear hfz94_2
          try clear hfz94_3
          try clear hfz98_0
          try clear hfz98_1
          try clear p2
          obtain ⟨kq, x57_78, rfl, HA, HJ78, BK246, BK247, BK248, BK258, BK259, HB⟩ := hcut
          cases kq with
          | zero => exact absurd HA.out (by simp [bivouaclaw19_PurseSends.j1])
          | succ kj78 =>
            have H := HA.out
            clear HA
            simp only [bivouaclaw19_PurseSends.j1] at H
            by_cases c99 : x57_78 = true
            · subst c99
              have H1 : (if (t249 == 0 && (t250 == 0 && (t251 == 0 && (t252 == 0)))) = true then (if (t253 == 0 && (t254 == 0 && (t255 == 0 && (t256 == 0)))) = true then (if t257 = 6 then ((bivouaclaw19_awake.f kj78).bind fun t264 => (some t264)) else (some false)) else (some false)) else (some false)) = some true := by rw [if_pos rfl] at H; exact H
              clear H
              have H := H1
              clear H1
              by_cases c100 : (t249 == 0 && (t250 == 0 && (t251 == 0 && (t252 == 0)))) = true
              · rw [if_pos c100] at H
                have c100b0 : (t249 == 0 && (t250 == 0 && (t251 == 0 && (t252 == 0)))) = true := c100
                (try (have c100b1 : decide (t249 = 0 && (t250 == 0 && (t251 == 0 && (t252 == 0)))) = true := by simpa using c100))
                (try (have c100b2 : (t249 == 0 && (t250 == 0 && (t251 == 0 && (t252 == 0)))) = true := by simpa using c100))
                clear c100
                by_cases c101 : (t253 == 0 && (t254 == 0 && (t255 == 0 && (t256 == 0)))) = true
                · rw [if_pos c101] at H
                  have c101b0 : (t253 == 0 && (t254 == 0 && (t255 == 0 && (t256 == 0)))) = true := c101
                  (try (have c101b1 : decide (t253 = 0 && (t254 == 0 && (t255 == 0 && (t256 == 0)))) = true := by simpa using c101))
                  (try (have c101b2 : (t253 == 0 && (t254 == 0 && (t255 == 0 && (t256 == 0)))) = true := by simpa using c101))
                  clear c101
                  by_cases c102 : t257 = 6
                  · rw [if_pos c102] at H
                    have c102b0 : (t257 == 6) = true := beq_iff_eq.mpr c102
                    have c102b1 : (t257 != 6) = false := bne_eq_false_iff_eq.mpr c102
                    clear c102
                    replace H := Option.bind_eq_some_iff.mp H
                    obtain ⟨t264, A1030, H⟩ := H
                    replace H : (some t264) = some true := H
                    have A103 := Aside0.mk A1030
                    clear A1030
                    have HRES := Aside0.mk (Option.some.inj H)
                    clear H
                    have hnb104 := NB258_246.out
                    have hnc104 := NB246_258.out
                    have hnb105 := NB258_247.out
                    have hnc105 := NB247_258.out
                    have hnb106 := NB258_248.out
                    have hnc106 := NB248_258.out
                    have hnb107 := NB258_259.out
                    have hnc107 := NB259_258.out
                    have hcz108_0 : wc.cell? ⟨gb258, 0, none⟩ = some (.int .i64 t249) := (blk_cell BK258.out 0).trans rfl
                    have hcz108_1 : wc.cell? ⟨gb258, 1, none⟩ = some (.int .i64 t250) := (blk_cell BK258.out 1).trans rfl
                    have hcz108_2 : wc.cell? ⟨gb258, 2, none⟩ = some (.int .i64 t251) := (blk_cell BK258.out 2).trans rfl
                    have hcz108_3 : wc.cell? ⟨gb258, 3, none⟩ = some (.int .i64 t252) := (blk_cell BK258.out 3).trans rfl
                    have hfz108_0 := blk_frozen BK258.out 0
                    have hfz108_1 := blk_frozen BK258.out 1
                    have hfz108_2 := blk_frozen BK258.out 2
                    have hfz108_3 := blk_frozen BK258.out 3
                    have hnb109 := NB259_246.out
                    have hnc109 := NB246_259.out
                    have hnb110 := NB259_247.out
                    have hnc110 := NB247_259.out
                    have hnb111 := NB259_248.out
                    have hnc111 := NB248_259.out
                    have hcz112_0 : wc.cell? ⟨gb259, 0, none⟩ = some (.int .i64 t253) := (blk_cell BK259.out 0).trans rfl
                    have hcz112_1 : wc.cell? ⟨gb259, 1, none⟩ = some (.int .i64 t254) := (blk_cell BK259.out 1).trans rfl
                    have hcz112_2 : wc.cell? ⟨gb259, 2, none⟩ = some (.int .i64 t255) := (blk_cell BK259.out 2).trans rfl
                    have hcz112_3 : wc.cell? ⟨gb259, 3, none⟩ = some (.int .i64 t256) := (blk_cell BK259.out 3).trans rfl
                    have hfz112_0 := blk_frozen BK259.out 0
                    have hfz112_1 := blk_frozen BK259.out 1
                    have hfz112_2 := blk_frozen BK259.out 2
                    have hfz112_3 := blk_frozen BK259.out 3
                    go_wp2_with (first | (go_at_call 56; (with_reducible refine (bivouaclaw19_awake.calls kj78  t264 _ A103.out).mono ?_); rintro e w113 ⟨rfl, hb⟩; have n0_ := Aside0.mk (blk_below (g := gb246) (o := .cells #[.int .i64 a0_0, .int .i64 a0_1, .int .i64 a0_2, .int .i64 a0_3] 59 (0, 0)) (by (with_reducible repeat (first | refine blk_drewN ?_ _ | refine blk_drew ?_ | refine blk_alloc ?_ _)); exact BK246.out) hb); have n1_ := Aside0.mk (blk_below (g := gb247) (o := .cells #[.int .i64 a1_0, .int .i64 a1_1, .int .i64 a1_2, .int .i64 a1_3] 59 (0, 0)) (by (with_reducible repeat (first | refine blk_drewN ?_ _ | refine blk_drew ?_ | refine blk_alloc ?_ _)); exact BK247.out) hb); have n2_ := Aside0.mk (blk_below (g := gb248) (o := .cells #[.int .i64 a2_0, .int .i64 a2_1] 48 (0, 0)) (by (with_reducible repeat (first | refine blk_drewN ?_ _ | refine blk_drew ?_ | refine blk_alloc ?_ _)); exact BK248.out) hb); have n3_ := Aside0.mk (blk_below (g := gb258) (o := .cells #[.int .i64 t249, .int .i64 t250, .int .i64 t251, .int .i64 t252] 59 (0, 0)) (by (with_reducible repeat (first | refine blk_drewN ?_ _ | refine blk_drew ?_ | refine blk_alloc ?_ _)); exact BK258.out) hb); have n4_ := Aside0.mk (blk_below (g := gb259) (o := .cells #[.int .i64 t253, .int .i64 t254, .int .i64 t255, .int .i64 t256] 59 (0, 0)) (by (with_reducible repeat (first | refine blk_drewN ?_ _ | refine blk_drew ?_ | refine blk_alloc ?_ _)); exact BK259.out) hb); have n5_ := Aside0.mk (below_step (by repeat (first | (with_reducible first | exact HB.out | apply below_alloc | apply pw_below_drewN | apply below_drew1 | refine below_set ?_ GE246.out | refine below_set ?_ GE247.out | refine below_set ?_ GE248.out | refine below_set ?_ GE258.out | refine below_set ?_ GE259.out) | exact HB.out)) hb); clear BK246; clear BK247; clear BK248; clear BK258; clear BK259; clear HB; have BK246 := n0_; have BK247 := n1_; have BK248 := n2_; have BK258 := n3_; have BK259 := n4_; have HB := n5_; clear n0_ n1_ n2_ n3_ n4_ n5_; (try clear hb); (try clear hb2); (try clear hk); (try clear hi)))
                    go_ret
                    exact ⟨by first | rfl | (exact congrArg (fun b_ => Ending.returned (Value.bool b_)) HRES.out) | (simp [errW_none, errW_some] <;> rfl) | (simp [*, errW_none, errW_some] <;> rfl), by repeat (first | (with_reducible first | exact HB.out | apply below_alloc | apply pw_below_drewN | apply below_drew1 | refine below_set ?_ GE246.out | refine below_set ?_ GE247.out | refine below_set ?_ GE248.out | refine below_set ?_ GE258.out | refine below_set ?_ GE259.out) | exact HB.out)⟩
                  · rw [if_neg c102] at H
                    exact absurd H (by simp)
                · rw [if_neg c101] at H
                  exact absurd H (by simp)
              · rw [if_neg c100] at H
                exact absurd H (by simp)
            · replace c99 := Bool.eq_false_iff.mpr c99
              subst c99
              have H1 : (if (wrap64 (a1_0 + a2_0)) > a1_2 then (bivouaclaw19_PurseSends.j2 kj78 t257 (wrap64 (a0_0 - a2_0)) (wrap64 (a0_1 - a2_1)) a0_2 a0_3 a1_2 (wrap64 (a1_1 + a2_1)) a1_2 a1_3 t249 t250 t251 t252 t253 t254 t255 t256) else (bivouaclaw19_PurseSends.j2 kj78 t257 (wrap64 (a0_0 - a2_0)) (wrap64 (a0_1 - a2_1)) a0_2 a0_3 (wrap64 (a1_0 + a2_0)) (wrap64 (a1_1 + a2_1)) a1_2 a1_3 t249 t250 t251 t252 t253 t254 t255 t256)) = some true := by rw [if_neg (show ¬ (false = true) by decide)] at H; exact H
              clear H
              have H := H1
              clear H1
              have HC114 := Aside0.mk H
              clear H
              have hnb115 := NB246_247.out
              have hnc115 := NB247_246.out
              have hnb116 := NB246_248.out
              have hnc116 := NB248_246.out
              have hnb117 := NB246_258.out
              have hnc117 := NB258_246.out
              have hnb118 := NB246_259.out
              have hnc118 := NB259_246.out
              have hcz119_0 : wc.cell? ⟨gb246, 0, none⟩ = some (.int .i64 a0_0) := (blk_cell BK246.out 0).trans rfl
              have hcz119_1 : wc.cell? ⟨gb246, 1, none⟩ = some (.int .i64 a0_1) := (blk_cell BK246.out 1).trans rfl
              have hcz119_2 : wc.cell? ⟨gb246, 2, none⟩ = some (.int .i64 a0_2) := (blk_cell BK246.out 2).trans rfl
              have hcz119_3 : wc.cell? ⟨gb246, 3, none⟩ = some (.int .i64 a0_3) := (blk_cell BK246.out 3).trans rfl
              have hfz119_0 := blk_frozen BK246.out 0
              have hfz119_1 := blk_frozen BK246.out 1
              have hfz119_2 := blk_frozen BK246.out 2
              have hfz119_3 := blk_frozen BK246.out 3
              have hnb120 := NB248_247.out
              have hnc120 := NB247_248.out
              have hnb121 := NB248_258.out
              have hnc121 := NB258_248.out
              have hnb122 := NB248_259.out
              have hnc122 := NB259_248.out
              have hcz123_0 : wc.cell? ⟨gb248, 0, none⟩ = some (.int .i64 a2_0) := (blk_cell BK248.out 0).trans rfl
              have hcz123_1 : wc.cell? ⟨gb248, 1, none⟩ = some (.int .i64 a2_1) := (blk_cell BK248.out 1).trans rfl
              have hfz123_0 := blk_frozen BK248.out 0
              have hfz123_1 := blk_frozen BK248.out 1
              have hnb124 := NB247_258.out
              have hnc124 := NB258_247.out
              have hnb125 := NB247_259.out
              have hnc125 := NB259_247.out
              have hcz126_0 : wc.cell? ⟨gb247, 0, none⟩ = some (.int .i64 a1_0) := (blk_cell BK247.out 0).trans rfl
              have hcz126_1 : wc.cell? ⟨gb247, 1, none⟩ = some (.int .i64 a1_1) := (blk_cell BK247.out 1).trans rfl
              have hcz126_2 : wc.cell? ⟨gb247, 2, none⟩ = some (.int .i64 a1_2) := (blk_cell BK247.out 2).trans rfl
              have hcz126_3 : wc.cell? ⟨gb247, 3, none⟩ = some (.int .i64 a1_3) := (blk_cell BK247.out 3).trans rfl
              have hfz126_0 := blk_frozen BK247.out 0
              have hfz126_1 := blk_frozen BK247.out 1
              have hfz126_2 := blk_frozen BK247.out 2
              have hfz126_3 := blk_frozen BK247.out 3
              go_upto_if 101 with (fail)
              go_cut [] (fun wc => ∃ (kq : Nat) (x248000_113 : Int), Aside0 (bivouaclaw19_PurseSends.j2 kq t257 (wrap64 (a0_0 - a2_0)) (wrap64 (a0_1 - a2_1)) a0_2 a0_3 x248000_113 (wrap64 (a1_1 + a2_1)) a1_2 a1_3 t249 t250 t251 t252 t253 t254 t255 t256 = some true) ∧ Aside0 (kq ≤ kj78) ∧ Aside0 (wc.heap[gb246]? = some (.cells #[.int .i64 (wrap64 (a0_0 - a2_0)), .int .i64 (wrap64 (a0_1 - a2_1)), .int .i64 a0_2, .int .i64 a0_3] 59 (0, 0))) ∧ Aside0 (wc.heap[gb247]? = some (.cells #[.int .i64 x248000_113, .int .i64 (wrap64 (a1_1 + a2_1)), .int .i64 a1_2, .int .i64 a1_3] 59 (0, 0))) ∧ Aside0 (wc.heap[gb248]? = some (.cells #[.int .i64 a2_0, .int .i64 a2_1] 48 (0, 0))) ∧ Aside0 (wc.heap[gb258]? = some (.cells #[.int .i64 t249, .int .i64 t250, .int .i64 t251, .int .i64 t252] 59 (0, 0))) ∧ Aside0 (wc.heap[gb259]? = some (.cells #[.int .i64 t253, .int .i64 t254, .int .i64 t255, .int .i64 t256] 59 (0, 0))) ∧ Aside0 (Below w.heap.size w wc))
              case first =>
                have H := HC114.out
                clear HC114
                by_cases c127 : (wrap64 (a1_0 + a2_0)) > a1_2
                · rw [if_pos c127] at H
                  have c127b0 : decide (a1_2 < (wrap64 (a1_0 + a2_0))) = true := decide_eq_true c127
                  clear c127
                  (first | rw [c127b0] | (simp only [i64_w, i32_w]; rw [c127b0]) | skip)
                  have H' := Aside0.mk H
                  clear H
                  have hnb128 := NB247_246.out
                  have hnc128 := NB246_247.out
                  have hnb129 := NB247_248.out
                  have hnc129 := NB248_247.out
                  have hnb130 := NB247_258.out
                  have hnc130 := NB258_247.out
                  have hnb131 := NB247_259.out
                  have hnc131 := NB259_247.out
                  have hcz132_0 : wc.cell? ⟨gb247, 0, none⟩ = some (.int .i64 a1_0) := (blk_cell BK247.out 0).trans rfl
                  have hcz132_1 : wc.cell? ⟨gb247, 1, none⟩ = some (.int .i64 a1_1) := (blk_cell BK247.out 1).trans rfl
                  have hcz132_2 : wc.cell? ⟨gb247, 2, none⟩ = some (.int .i64 a1_2) := (blk_cell BK247.out 2).trans rfl
                  have hcz132_3 : wc.cell? ⟨gb247, 3, none⟩ = some (.int .i64 a1_3) := (blk_cell BK247.out 3).trans rfl
                  have hfz132_0 := blk_frozen BK247.out 0
                  have hfz132_1 := blk_frozen BK247.out 1
                  have hfz132_2 := blk_frozen BK247.out 2
                  have hfz132_3 := blk_frozen BK247.out 3
                  go_wp2
                  go_meet
                  case rel => exact ⟨_, (a1_2), H', ⟨by have := HJ4.out; have := HJ78.out; first | omega | exact Nat.le_refl _⟩, ⟨by (with_reducible repeat (first | refine blk_drewN ?_ _ | refine blk_drew ?_ | refine blk_alloc ?_ _)); refine blk_far ?_ NB246_247.out _; (with_reducible repeat (first | refine blk_drewN ?_ _ | refine blk_drew ?_ | refine blk_alloc ?_ _)); refine blk_far ?_ NB246_247.out _; (with_reducible repeat (first | refine blk_drewN ?_ _ | refine blk_drew ?_ | refine blk_alloc ?_ _)); refine blk_far ?_ NB246_247.out _; (with_reducible repeat (first | refine blk_drewN ?_ _ | refine blk_drew ?_ | refine blk_alloc ?_ _)); refine blk_put (cs := #[.int .i64 (wrap64 (a0_0 - a2_0)), .int .i64 a0_1, .int .i64 a0_2, .int .i64 a0_3]) ?_ 1 _ rfl; (with_reducible repeat (first | refine blk_drewN ?_ _ | refine blk_drew ?_ | refine blk_alloc ?_ _)); refine blk_put (cs := #[.int .i64 a0_0, .int .i64 a0_1, .int .i64 a0_2, .int .i64 a0_3]) ?_ 0 _ rfl; (with_reducible repeat (first | refine blk_drewN ?_ _ | refine blk_drew ?_ | refine blk_alloc ?_ _)); exact BK246.out⟩, ⟨by (with_reducible repeat (first | refine blk_drewN ?_ _ | refine blk_drew ?_ | refine blk_alloc ?_ _)); refine blk_put (cs := #[.int .i64 (wrap64 (a1_0 + a2_0)), .int .i64 (wrap64 (a1_1 + a2_1)), .int .i64 a1_2, .int .i64 a1_3]) ?_ 0 _ rfl; (with_reducible repeat (first | refine blk_drewN ?_ _ | refine blk_drew ?_ | refine blk_alloc ?_ _)); refine blk_put (cs := #[.int .i64 (wrap64 (a1_0 + a2_0)), .int .i64 a1_1, .int .i64 a1_2, .int .i64 a1_3]) ?_ 1 _ rfl; (with_reducible repeat (first | refine blk_drewN ?_ _ | refine blk_drew ?_ | refine blk_alloc ?_ _)); refine blk_put (cs := #[.int .i64 a1_0, .int .i64 a1_1, .int .i64 a1_2, .int .i64 a1_3]) ?_ 0 _ rfl; (with_reducible repeat (first | refine blk_drewN ?_ _ | refine blk_drew ?_ | refine blk_alloc ?_ _)); refine blk_far ?_ NB247_246.out _; (with_reducible repeat (first | refine blk_drewN ?_ _ | refine blk_drew ?_ | refine blk_alloc ?_ _)); refine blk_far ?_ NB247_246.out _; (with_reducible repeat (first | refine blk_drewN ?_ _ | refine blk_drew ?_ | refine blk_alloc ?_ _)); exact BK247.out⟩, ⟨by (with_reducible repeat (first | refine blk_drewN ?_ _ | refine blk_drew ?_ | refine blk_alloc ?_ _)); refine blk_far ?_ NB248_247.out _; (with_reducible repeat (first | refine blk_drewN ?_ _ | refine blk_drew ?_ | refine blk_alloc ?_ _)); refine blk_far ?_ NB248_247.out _; (with_reducible repeat (first | refine blk_drewN ?_ _ | refine blk_drew ?_ | refine blk_alloc ?_ _)); refine blk_far ?_ NB248_247.out _; (with_reducible repeat (first | refine blk_drewN ?_ _ | refine blk_drew ?_ | refine blk_alloc ?_ _)); refine blk_far ?_ NB248_246.out _; (with_reducible repeat (first | refine blk_drewN ?_ _ | refine blk_drew ?_ | refine blk_alloc ?_ _)); refine blk_far ?_ NB248_246.out _; (with_reducible repeat (first | refine blk_drewN ?_ _ | refine blk_drew ?_ | refine blk_alloc ?_ _)); exact BK248.out⟩, ⟨by (with_reducible repeat (first | refine blk_drewN ?_ _ | refine blk_drew ?_ | refine blk_alloc ?_ _)); refine blk_far ?_ NB258_247.out _; (with_reducible repeat (first | refine blk_drewN ?_ _ | refine blk_drew ?_ | refine blk_alloc ?_ _)); refine blk_far ?_ NB258_247.out _; (with_reducible repeat (first | refine blk_drewN ?_ _ | refine blk_drew ?_ | refine blk_alloc ?_ _)); refine blk_far ?_ NB258_247.out _; (with_reducible repeat (first | refine blk_drewN ?_ _ | refine blk_drew ?_ | refine blk_alloc ?_ _)); refine blk_far ?_ NB258_246.out _; (with_reducible repeat (first | refine blk_drewN ?_ _ | refine blk_drew ?_ | refine blk_alloc ?_ _)); refine blk_far ?_ NB258_246.out _; (with_reducible repeat (first | refine blk_drewN ?_ _ | refine blk_drew ?_ | refine blk_alloc ?_ _)); exact BK258.out⟩, ⟨by (with_reducible repeat (first | refine blk_drewN ?_ _ | refine blk_drew ?_ | refine blk_alloc ?_ _)); refine blk_far ?_ NB259_247.out _; (with_reducible repeat (first | refine blk_drewN ?_ _ | refine blk_drew ?_ | refine blk_alloc ?_ _)); refine blk_far ?_ NB259_247.out _; (with_reducible repeat (first | refine blk_drewN ?_ _ | refine blk_drew ?_ | refine blk_alloc ?_ _)); refine blk_far ?_ NB259_247.out _; (with_reducible repeat (first | refine blk_drewN ?_ _ | refine blk_drew ?_ | refine blk_alloc ?_ _)); refine blk_far ?_ NB259_246.out _; (with_reducible repeat (first | refine blk_drewN ?_ _ | refine blk_drew ?_ | refine blk_alloc ?_ _)); refine blk_far ?_ NB259_246.out _; (with_reducible repeat (first | refine blk_drewN ?_ _ | refine blk_drew ?_ | refine blk_alloc ?_ _)); exact BK259.out⟩, ⟨by repeat (first | (with_reducible first | exact HB.out | apply below_alloc | apply pw_below_drewN | apply below_drew1 | refine below_set ?_ GE246.out | refine below_set ?_ GE247.out | refine below_set ?_ GE248.out | refine below_set ?_ GE258.out | refine below_set ?_ GE259.out) | exact HB.out)⟩⟩
                · rw [if_neg c127] at H
                  have c127b0 : decide (a1_2 < (wrap64 (a1_0 + a2_0))) = false := decide_eq_false c127
                  clear c127
                  (first | rw [c127b0] | (simp only [i64_w, i32_w]; rw [c127b0]) | skip)
                  have H' := Aside0.mk H
                  clear H
                  go_wp2
                  go_meet
                  case rel => exact ⟨_, (wrap64 (a1_0 + a2_0)), H', ⟨by have := HJ4.out; have := HJ78.out; first | omega | exact Nat.le_refl _⟩, ⟨by (with_reducible repeat (first | refine blk_drewN ?_ _ | refine blk_drew ?_ | refine blk_alloc ?_ _)); refine blk_far ?_ NB246_247.out _; (with_reducible repeat (first | refine blk_drewN ?_ _ | refine blk_drew ?_ | refine blk_alloc ?_ _)); refine blk_far ?_ NB246_247.out _; (with_reducible repeat (first | refine blk_drewN ?_ _ | refine blk_drew ?_ | refine blk_alloc ?_ _)); refine blk_put (cs := #[.int .i64 (wrap64 (a0_0 - a2_0)), .int .i64 a0_1, .int .i64 a0_2, .int .i64 a0_3]) ?_ 1 _ rfl; (with_reducible repeat (first | refine blk_drewN ?_ _ | refine blk_drew ?_ | refine blk_alloc ?_ _)); refine blk_put (cs := #[.int .i64 a0_0, .int .i64 a0_1, .int .i64 a0_2, .int .i64 a0_3]) ?_ 0 _ rfl; (with_reducible repeat (first | refine blk_drewN ?_ _ | refine blk_drew ?_ | refine blk_alloc ?_ _)); exact BK246.out⟩, ⟨by (with_reducible repeat (first | refine blk_drewN ?_ _ | refine blk_drew ?_ | refine blk_alloc ?_ _)); refine blk_put (cs := #[.int .i64 (wrap64 (a1_0 + a2_0)), .int .i64 a1_1, .int .i64 a1_2, .int .i64 a1_3]) ?_ 1 _ rfl; (with_reducible repeat (first | refine blk_drewN ?_ _ | refine blk_drew ?_ | refine blk_alloc ?_ _)); refine blk_put (cs := #[.int .i64 a1_0, .int .i64 a1_1, .int .i64 a1_2, .int .i64 a1_3]) ?_ 0 _ rfl; (with_reducible repeat (first | refine blk_drewN ?_ _ | refine blk_drew ?_ | refine blk_alloc ?_ _)); refine blk_far ?_ NB247_246.out _; (with_reducible repeat (first | refine blk_drewN ?_ _ | refine blk_drew ?_ | refine blk_alloc ?_ _)); refine blk_far ?_ NB247_246.out _; (with_reducible repeat (first | refine blk_drewN ?_ _ | refine blk_drew ?_ | refine blk_alloc ?_ _)); exact BK247.out⟩, ⟨by (with_reducible repeat (first | refine blk_drewN ?_ _ | refine blk_drew ?_ | refine blk_alloc ?_ _)); refine blk_far ?_ NB248_247.out _; (with_reducible repeat (first | refine blk_drewN ?_ _ | refine blk_drew ?_ | refine blk_alloc ?_ _)); refine blk_far ?_ NB248_247.out _; (with_reducible repeat (first | refine blk_drewN ?_ _ | refine blk_drew ?_ | refine blk_alloc ?_ _)); refine blk_far ?_ NB248_246.out _; (with_reducible repeat (first | refine blk_drewN ?_ _ | refine blk_drew ?_ | refine blk_alloc ?_ _)); refine blk_far ?_ NB248_246.out _; (with_reducible repeat (first | refine blk_drewN ?_ _ | refine blk_drew ?_ | refine blk_alloc ?_ _)); exact BK248.out⟩, ⟨by (with_reducible repeat (first | refine blk_drewN ?_ _ | refine blk_drew ?_ | refine blk_alloc ?_ _)); refine blk_far ?_ NB258_247.out _; (with_reducible repeat (first | refine blk_drewN ?_ _ | refine blk_drew ?_ | refine blk_alloc ?_ _)); refine blk_far ?_ NB258_247.out _; (with_reducible repeat (first | refine blk_drewN ?_ _ | refine blk_drew ?_ | refine blk_alloc ?_ _)); refine blk_far ?_ NB258_246.out _; (with_reducible repeat (first | refine blk_drewN ?_ _ | refine blk_drew ?_ | refine blk_alloc ?_ _)); refine blk_far ?_ NB258_246.out _; (with_reducible repeat (first | refine blk_drewN ?_ _ | refine blk_drew ?_ | refine blk_alloc ?_ _)); exact BK258.out⟩, ⟨by (with_reducible repeat (first | refine blk_drewN ?_ _ | refine blk_drew ?_ | refine blk_alloc ?_ _)); refine blk_far ?_ NB259_247.out _; (with_reducible repeat (first | refine blk_drewN ?_ _ | refine blk_drew ?_ | refine blk_alloc ?_ _)); refine blk_far ?_ NB259_247.out _; (with_reducible repeat (first | refine blk_drewN ?_ _ | refine blk_drew ?_ | refine blk_alloc ?_ _)); refine blk_far ?_ NB259_246.out _; (with_reducible repeat (first | refine blk_drewN ?_ _ | refine blk_drew ?_ | refine blk_alloc ?_ _)); refine blk_far ?_ NB259_246.out _; (with_reducible repeat (first | refine blk_drewN ?_ _ | refine blk_drew ?_ | refine blk_alloc ?_ _)); exact BK259.out⟩, ⟨by repeat (first | (with_reducible first | exact HB.out | apply below_alloc | apply pw_below_drewN | apply below_drew1 | refine below_set ?_ GE246.out | refine below_set ?_ GE247.out | refine below_set ?_ GE248.out | refine below_set ?_ GE258.out | refine below_set ?_ GE259.out) | exact HB.out)⟩⟩
              case rest =>
                clear HC114
                try clear c1
                try clear c2
                try clear p2
                try clear c3
                try clear c4
                try clear c5
                try clear c6
                try clear p6
                try clear c7
                try clear c8
                try clear c9
                try clear c10
                try clear c11
                try clear c12
                try clear c13
                try clear c18
                try clear c19
                try clear c20
                try clear c21
                try clear c23
                try clear c24
                try clear c25
                try clear c28
                try clear c30
                try clear c32
                try clear c33
                try clear c34
                try clear c35
                try clear c38
                try clear c39
                try clear c40
                try clear c43
                try clear c44
                try clear c47
                try clear c48
                try clear c49
                try clear c50
                try clear c53
                try clear c54
                try clear c55
                try clear c58
                try clear c59
                try clear c60
                try clear c61
                try clear c64
                try clear p64
                try clear c65
                try clear c65b0
                try clear c65b1
                try clear c65b2
                try clear c66
                try clear c66b0
                try clear c66b1
                try clear c66b2
                try clear c67
                try clear c67b0
                try clear c67b1
                try clear c69
                try clear c70
                try clear c71
                try clear c72
                try clear c74
                try clear c75
                try clear c76
                try clear c80
                try clear c80b0
                try clear c81
                try clear c82
                try clear c83
                try clear c84
                try clear c86
                try clear c87
                try clear c88
                try clear c90
                try clear c91
                try clear c92
                try clear c93
                try clear c95
                try clear c96
                try clear c97
                try clear c99
                try clear c100
                try clear c100b0
                try clear c100b1
                try clear c100b2
                try clear c101
                try clear c101b0
                try clear c101b1
                try clear c101b2
                try clear c102
                try clear c102b0
                try clear c102b1
                try clear c104
                try clear c105
                try clear c106
                try clear c107
                try clear c109
                try clear c110
                try clear c111
                try clear c115
                try clear c116
                try clear c117
                try clear c118
                try clear c120
                try clear c121
                try clear c122
                try clear c124
                try clear c125
                try clear c127
                try clear c127b0
                try clear c128
                try clear c129
                try clear c130
                try clear c131
                try clear hcz108_0
                try clear hcz108_1
                try clear hcz108_2
                try clear hcz108_3
                try clear hcz112_0
                try clear hcz112_1
                try clear hcz112_2
                try clear hcz112_3
                try clear hcz119_0
                try clear hcz119_1
                try clear hcz119_2
                try clear hcz119_3
                try clear hcz11_0
                try clear hcz11_1
                try clear hcz11_2
                try clear hcz11_3
                try clear hcz123_0
                try clear hcz123_1
                try clear hcz126_0
                try clear hcz126_1
                try clear hcz126_2
                try clear hcz126_3
                try clear hcz132_0
                try clear hcz132_1
                try clear hcz132_2
                try clear hcz132_3
                try clear hcz13_0
                try clear hcz13_1
                try clear hcz13_2
                try clear hcz13_3
                try clear hcz14_0
                try clear hcz14_1
                try clear hcz22_0
                try clear hcz22_1
                try clear hcz22_2
                try clear hcz22_3
                try clear hcz26_0
                try clear hcz26_1
                try clear hcz26_2
                try clear hcz26_3
                try clear hcz36_0
                try clear hcz36_1
                try clear hcz36_2
                try clear hcz36_3
                try clear hcz41_0
                try clear hcz41_1
                try clear hcz41_2
                try clear hcz41_3
                try clear hcz45_0
                try clear hcz45_1
                try clear hcz51_0
                try clear hcz51_1
                try clear hcz51_2
                try clear hcz51_3
                try clear hcz56_0
                try clear hcz56_1
                try clear hcz56_2
                try clear hcz56_3
                try clear hcz62_0
                try clear hcz62_1
                try clear hcz62_2
                try clear hcz62_3
                try clear hcz73_0
                try clear hcz73_1
                try clear hcz73_2
                try clear hcz73_3
                try clear hcz77_0
                try clear hcz77_1
                try clear hcz77_2
                try clear hcz77_3
                try clear hcz85_0
                try clear hcz85_1
                try clear hcz85_2
                try clear hcz85_3
                try clear hcz89_0
                try clear hcz89_1
                try clear hcz94_0
                try clear hcz94_1
                try clear hcz94_2
                try clear hcz94_3
                try clear hcz98_0
                try clear hcz98_1
                try clear hfz108_0
                try clear hfz108_1
                try clear hfz108_2
                try clear hfz108_3
                try clear hfz112_0
                try clear hfz112_1
                try clear hfz112_2
                try clear hfz112_3
                try clear hfz119_0
                try clear hfz119_1
                try clear hfz119_2
                try clear hfz119_3
                try clear hfz11_0
                try clear hfz11_1
                try clear hfz11_2
                try clear hfz11_3
                try clear hfz123_0
                try clear hfz123_1
                try clear hfz126_0
                try clear hfz126_1
                try clear hfz126_2
                try clear hfz126_3
                try clear hfz132_0
                try clear hfz132_1
                try clear hfz132_2
                try clear hfz132_3
                try clear hfz13_0
                try clear hfz13_1
                try clear hfz13_2
                try clear hfz13_3
                try clear hfz14_0
                try clear hfz14_1
                try clear hfz22_0
                try clear hfz22_1
                try clear hfz22_2
                try clear hfz22_3
                try clear hfz26_0
                try clear hfz26_1
                try clear hfz26_2
                try clear hfz26_3
                try clear hfz36_0
                try clear hfz36_1
                try clear hfz36_2
                try clear hfz36_3
                try clear hfz41_0
                try clear hfz41_1
                try clear hfz41_2
                try clear hfz41_3
                try clear hfz45_0
                try clear hfz45_1
                try clear hfz51_0
                try clear hfz51_1
                try clear hfz51_2
                try clear hfz51_3
                try clear hfz56_0
                try clear hfz56_1
                try clear hfz56_2
                try clear hfz56_3
                try clear hfz62_0
                try clear hfz62_1
                try clear hfz62_2
                try clear hfz62_3
                try clear hfz73_0
                try clear hfz73_1
                try clear hfz73_2
                try clear hfz73_3
                try clear hfz77_0
                try clear hfz77_1
                try clear hfz77_2
                try clear hfz77_3
                try clear hfz85_0
                try clear hfz85_1
                try clear hfz85_2
                try clear hfz85_3
                try clear hfz89_0
                try clear hfz89_1
                try clear hfz94_0
                try clear hfz94_1
                try clear hfz94_2
                try clear hfz94_3
                try clear hfz98_0
                try clear hfz98_1
                try clear p2
                obtain ⟨kq, x248000_113, HA, HJ113, BK246, BK247, BK248, BK258, BK259, HB⟩ := hcut
                cases kq with
                | zero => exact absurd HA.out (by simp [bivouaclaw19_PurseSends.j2])
                | succ kj113 =>
                  have H := HA.out
                  clear HA
                  simp only [bivouaclaw19_PurseSends.j2] at H
                  have HC133 := Aside0.mk H
                  clear H
                  have hnb134 := NB247_246.out
                  have hnc134 := NB246_247.out
                  have hnb135 := NB247_248.out
                  have hnc135 := NB248_247.out
                  have hnb136 := NB247_258.out
                  have hnc136 := NB258_247.out
                  have hnb137 := NB247_259.out
                  have hnc137 := NB259_247.out
                  have hcz138_0 : wc.cell? ⟨gb247, 0, none⟩ = some (.int .i64 x248000_113) := (blk_cell BK247.out 0).trans rfl
                  have hcz138_1 : wc.cell? ⟨gb247, 1, none⟩ = some (.int .i64 (wrap64 (a1_1 + a2_1))) := (blk_cell BK247.out 1).trans rfl
                  have hcz138_2 : wc.cell? ⟨gb247, 2, none⟩ = some (.int .i64 a1_2) := (blk_cell BK247.out 2).trans rfl
                  have hcz138_3 : wc.cell? ⟨gb247, 3, none⟩ = some (.int .i64 a1_3) := (blk_cell BK247.out 3).trans rfl
                  have hfz138_0 := blk_frozen BK247.out 0
                  have hfz138_1 := blk_frozen BK247.out 1
                  have hfz138_2 := blk_frozen BK247.out 2
                  have hfz138_3 := blk_frozen BK247.out 3
                  go_upto_if 109 with (fail)
                  go_cut [] (fun wc => ∃ (kq : Nat) (x248001_132 : Int), Aside0 (bivouaclaw19_PurseSends.j3 kq t257 (wrap64 (a0_0 - a2_0)) (wrap64 (a0_1 - a2_1)) a0_2 a0_3 x248000_113 x248001_132 a1_2 a1_3 t249 t250 t251 t252 t253 t254 t255 t256 = some true) ∧ Aside0 (kq ≤ kj113) ∧ Aside0 (wc.heap[gb246]? = some (.cells #[.int .i64 (wrap64 (a0_0 - a2_0)), .int .i64 (wrap64 (a0_1 - a2_1)), .int .i64 a0_2, .int .i64 a0_3] 59 (0, 0))) ∧ Aside0 (wc.heap[gb247]? = some (.cells #[.int .i64 x248000_113, .int .i64 x248001_132, .int .i64 a1_2, .int .i64 a1_3] 59 (0, 0))) ∧ Aside0 (wc.heap[gb248]? = some (.cells #[.int .i64 a2_0, .int .i64 a2_1] 48 (0, 0))) ∧ Aside0 (wc.heap[gb258]? = some (.cells #[.int .i64 t249, .int .i64 t250, .int .i64 t251, .int .i64 t252] 59 (0, 0))) ∧ Aside0 (wc.heap[gb259]? = some (.cells #[.int .i64 t253, .int .i64 t254, .int .i64 t255, .int .i64 t256] 59 (0, 0))) ∧ Aside0 (Below w.heap.size w wc))
                  case first =>
                    have H := HC133.out
                    clear HC133
                    by_cases c139 : (wrap64 (a1_1 + a2_1)) > a1_3
                    · rw [if_pos c139] at H
                      have c139b0 : decide (a1_3 < (wrap64 (a1_1 + a2_1))) = true := decide_eq_true c139
                      clear c139
                      (first | rw [c139b0] | (simp only [i64_w, i32_w]; rw [c139b0]) | skip)
                      have H' := Aside0.mk H
                      clear H
                      have hnb140 := NB247_246.out
                      have hnc140 := NB246_247.out
                      have hnb141 := NB247_248.out
                      have hnc141 := NB248_247.out
                      have hnb142 := NB247_258.out
                      have hnc142 := NB258_247.out
                      have hnb143 := NB247_259.out
                      have hnc143 := NB259_247.out
                      have hcz144_0 : wc.cell? ⟨gb247, 0, none⟩ = some (.int .i64 x248000_113) := (blk_cell BK247.out 0).trans rfl
                      have hcz144_1 : wc.cell? ⟨gb247, 1, none⟩ = some (.int .i64 (wrap64 (a1_1 + a2_1))) := (blk_cell BK247.out 1).trans rfl
                      have hcz144_2 : wc.cell? ⟨gb247, 2, none⟩ = some (.int .i64 a1_2) := (blk_cell BK247.out 2).trans rfl
                      have hcz144_3 : wc.cell? ⟨gb247, 3, none⟩ = some (.int .i64 a1_3) := (blk_cell BK247.out 3).trans rfl
                      have hfz144_0 := blk_frozen BK247.out 0
                      have hfz144_1 := blk_frozen BK247.out 1
                      have hfz144_2 := blk_frozen BK247.out 2
                      have hfz144_3 := blk_frozen BK247.out 3
                      go_wp2
                      go_meet
                      case rel => exact ⟨_, (a1_3), H', ⟨by have := HJ4.out; have := HJ78.out; have := HJ113.out; first | omega | exact Nat.le_refl _⟩, ⟨by (with_reducible repeat (first | refine blk_drewN ?_ _ | refine blk_drew ?_ | refine blk_alloc ?_ _)); refine blk_far ?_ NB246_247.out _; (with_reducible repeat (first | refine blk_drewN ?_ _ | refine blk_drew ?_ | refine blk_alloc ?_ _)); exact BK246.out⟩, ⟨by (with_reducible repeat (first | refine blk_drewN ?_ _ | refine blk_drew ?_ | refine blk_alloc ?_ _)); refine blk_put (cs := #[.int .i64 x248000_113, .int .i64 (wrap64 (a1_1 + a2_1)), .int .i64 a1_2, .int .i64 a1_3]) ?_ 1 _ rfl; (with_reducible repeat (first | refine blk_drewN ?_ _ | refine blk_drew ?_ | refine blk_alloc ?_ _)); exact BK247.out⟩, ⟨by (with_reducible repeat (first | refine blk_drewN ?_ _ | refine blk_drew ?_ | refine blk_alloc ?_ _)); refine blk_far ?_ NB248_247.out _; (with_reducible repeat (first | refine blk_drewN ?_ _ | refine blk_drew ?_ | refine blk_alloc ?_ _)); exact BK248.out⟩, ⟨by (with_reducible repeat (first | refine blk_drewN ?_ _ | refine blk_drew ?_ | refine blk_alloc ?_ _)); refine blk_far ?_ NB258_247.out _; (with_reducible repeat (first | refine blk_drewN ?_ _ | refine blk_drew ?_ | refine blk_alloc ?_ _)); exact BK258.out⟩, ⟨by (with_reducible repeat (first | refine blk_drewN ?_ _ | refine blk_drew ?_ | refine blk_alloc ?_ _)); refine blk_far ?_ NB259_247.out _; (with_reducible repeat (first | refine blk_drewN ?_ _ | refine blk_drew ?_ | refine blk_alloc ?_ _)); exact BK259.out⟩, ⟨by repeat (first | (with_reducible first | exact HB.out | apply below_alloc | apply pw_below_drewN | apply below_drew1 | refine below_set ?_ GE246.out | refine below_set ?_ GE247.out | refine below_set ?_ GE248.out | refine below_set ?_ GE258.out | refine below_set ?_ GE259.out) | exact HB.out)⟩⟩
                    · rw [if_neg c139] at H
                      have c139b0 : decide (a1_3 < (wrap64 (a1_1 + a2_1))) = false := decide_eq_false c139
                      clear c139
                      (first | rw [c139b0] | (simp only [i64_w, i32_w]; rw [c139b0]) | skip)
                      have H' := Aside0.mk H
                      clear H
                      go_wp2
                      go_meet
                      case rel => exact ⟨_, ((wrap64 (a1_1 + a2_1))), H', ⟨by have := HJ4.out; have := HJ78.out; have := HJ113.out; first | omega | exact Nat.le_refl _⟩, ⟨by (with_reducible repeat (first | refine blk_drewN ?_ _ | refine blk_drew ?_ | refine blk_alloc ?_ _)); exact BK246.out⟩, ⟨by (with_reducible repeat (first | refine blk_drewN ?_ _ | refine blk_drew ?_ | refine blk_alloc ?_ _)); exact BK247.out⟩, ⟨by (with_reducible repeat (first | refine blk_drewN ?_ _ | refine blk_drew ?_ | refine blk_alloc ?_ _)); exact BK248.out⟩, ⟨by (with_reducible repeat (first | refine blk_drewN ?_ _ | refine blk_drew ?_ | refine blk_alloc ?_ _)); exact BK258.out⟩, ⟨by (with_reducible repeat (first | refine blk_drewN ?_ _ | refine blk_drew ?_ | refine blk_alloc ?_ _)); exact BK259.out⟩, ⟨by repeat (first | (with_reducible first | exact HB.out | apply below_alloc | apply pw_below_drewN | apply below_drew1 | refine below_set ?_ GE246.out | refine below_set ?_ GE247.out | refine below_set ?_ GE248.out | refine below_set ?_ GE258.out | refine below_set ?_ GE259.out) | exact HB.out)⟩⟩
                  case rest =>
                    clear HC133
                    try clear c1
                    try clear c2
                    try clear p2
                    try clear c3
                    try clear c4
                    try clear c5
                    try clear c6
                    try clear p6
                    try clear c7
                    try clear c8
                    try clear c9
                    try clear c10
                    try clear c11
                    try clear c12
                    try clear c13
                    try clear c14
                    try clear c18
                    try clear c19
                    try clear c20
                    try clear c21
                    try clear c23
                    try clear c24
                    try clear c25
                    try clear c28
                    try clear c30
                    try clear c32
                    try clear c33
                    try clear c34
                    try clear c35
                    try clear c38
                    try clear c39
                    try clear c40
                    try clear c43
                    try clear c44
                    try clear c47
                    try clear c48
                    try clear c49
                    try clear c50
                    try clear c53
                    try clear c54
                    try clear c55
                    try clear c58
                    try clear c59
                    try clear c60
                    try clear c61
                    try clear c64
                    try clear p64
                    try clear c65
                    try clear c65b0
                    try clear c65b1
                    try clear c65b2
                    try clear c66
                    try clear c66b0
                    try clear c66b1
                    try clear c66b2
                    try clear c67
                    try clear c67b0
                    try clear c67b1
                    try clear c69
                    try clear c70
                    try clear c71
                    try clear c72
                    try clear c74
                    try clear c75
                    try clear c76
                    try clear c80
                    try clear c80b0
                    try clear c81
                    try clear c82
                    try clear c83
                    try clear c84
                    try clear c86
                    try clear c87
                    try clear c88
                    try clear c90
                    try clear c91
                    try clear c92
                    try clear c93
                    try clear c95
                    try clear c96
                    try clear c97
                    try clear c99
                    try clear c100
                    try clear c100b0
                    try clear c100b1
                    try clear c100b2
                    try clear c101
                    try clear c101b0
                    try clear c101b1
                    try clear c101b2
                    try clear c102
                    try clear c102b0
                    try clear c102b1
                    try clear c104
                    try clear c105
                    try clear c106
                    try clear c107
                    try clear c109
                    try clear c110
                    try clear c111
                    try clear c115
                    try clear c116
                    try clear c117
                    try clear c118
                    try clear c120
                    try clear c121
                    try clear c122
                    try clear c124
                    try clear c125
                    try clear c127
                    try clear c127b0
                    try clear c128
                    try clear c129
                    try clear c130
                    try clear c131
                    try clear c134
                    try clear c135
                    try clear c136
                    try clear c137
                    try clear c139
                    try clear c139b0
                    try clear c140
                    try clear c141
                    try clear c142
                    try clear c143
                    try clear hcz108_0
                    try clear hcz108_1
                    try clear hcz108_2
                    try clear hcz108_3
                    try clear hcz112_0
                    try clear hcz112_1
                    try clear hcz112_2
                    try clear hcz112_3
                    try clear hcz119_0
                    try clear hcz119_1
                    try clear hcz119_2
                    try clear hcz119_3
                    try clear hcz11_0
                    try clear hcz11_1
                    try clear hcz11_2
                    try clear hcz11_3
                    try clear hcz123_0
                    try clear hcz123_1
                    try clear hcz126_0
                    try clear hcz126_1
                    try clear hcz126_2
                    try clear hcz126_3
                    try clear hcz132_0
                    try clear hcz132_1
                    try clear hcz132_2
                    try clear hcz132_3
                    try clear hcz138_0
                    try clear hcz138_1
                    try clear hcz138_2
                    try clear hcz138_3
                    try clear hcz13_0
                    try clear hcz13_1
                    try clear hcz13_2
                    try clear hcz13_3
                    try clear hcz144_0
                    try clear hcz144_1
                    try clear hcz144_2
                    try clear hcz144_3
                    try clear hcz14_0
                    try clear hcz14_1
                    try clear hcz22_0
                    try clear hcz22_1
                    try clear hcz22_2
                    try clear hcz22_3
                    try clear hcz26_0
                    try clear hcz26_1
                    try clear hcz26_2
                    try clear hcz26_3
                    try clear hcz36_0
                    try clear hcz36_1
                    try clear hcz36_2
                    try clear hcz36_3
                    try clear hcz41_0
                    try clear hcz41_1
                    try clear hcz41_2
                    try clear hcz41_3
                    try clear hcz45_0
                    try clear hcz45_1
                    try clear hcz51_0
                    try clear hcz51_1
                    try clear hcz51_2
                    try clear hcz51_3
                    try clear hcz56_0
                    try clear hcz56_1
                    try clear hcz56_2
                    try clear hcz56_3
                    try clear hcz62_0
                    try clear hcz62_1
                    try clear hcz62_2
                    try clear hcz62_3
                    try clear hcz73_0
                    try clear hcz73_1
                    try clear hcz73_2
                    try clear hcz73_3
                    try clear hcz77_0
                    try clear hcz77_1
                    try clear hcz77_2
                    try clear hcz77_3
                    try clear hcz85_0
                    try clear hcz85_1
                    try clear hcz85_2
                    try clear hcz85_3
                    try clear hcz89_0
                    try clear hcz89_1
                    try clear hcz94_0
                    try clear hcz94_1
                    try clear hcz94_2
                    try clear hcz94_3
                    try clear hcz98_0
                    try clear hcz98_1
                    try clear hfz108_0
                    try clear hfz108_1
                    try clear hfz108_2
                    try clear hfz108_3
                    try clear hfz112_0
                    try clear hfz112_1
                    try clear hfz112_2
                    try clear hfz112_3
                    try clear hfz119_0
                    try clear hfz119_1
                    try clear hfz119_2
                    try clear hfz119_3
                    try clear hfz11_0
                    try clear hfz11_1
                    try clear hfz11_2
                    try clear hfz11_3
                    try clear hfz123_0
                    try clear hfz123_1
                    try clear hfz126_0
                    try clear hfz126_1
                    try clear hfz126_2
                    try clear hfz126_3
                    try clear hfz132_0
                    try clear hfz132_1
                    try clear hfz132_2
                    try clear hfz132_3
                    try clear hfz138_0
                    try clear hfz138_1
                    try clear hfz138_2
                    try clear hfz138_3
                    try clear hfz13_0
                    try clear hfz13_1
                    try clear hfz13_2
                    try clear hfz13_3
                    try clear hfz144_0
                    try clear hfz144_1
                    try clear hfz144_2
                    try clear hfz144_3
                    try clear hfz14_0
                    try clear hfz14_1
                    try clear hfz22_0
                    try clear hfz22_1
                    try clear hfz22_2
                    try clear hfz22_3
                    try clear hfz26_0
                    try clear hfz26_1
                    try clear hfz26_2
                    try clear hfz26_3
                    try clear hfz36_0
                    try clear hfz36_1
                    try clear hfz36_2
                    try clear hfz36_3
                    try clear hfz41_0
                    try clear hfz41_1
                    try clear hfz41_2
                    try clear hfz41_3
                    try clear hfz45_0
                    try clear hfz45_1
                    try clear hfz51_0
                    try clear hfz51_1
                    try clear hfz51_2
                    try clear hfz51_3
                    try clear hfz56_0
                    try clear hfz56_1
                    try clear hfz56_2
                    try clear hfz56_3
                    try clear hfz62_0
                    try clear hfz62_1
                    try clear hfz62_2
                    try clear hfz62_3
                    try clear hfz73_0
                    try clear hfz73_1
                    try clear hfz73_2
                    try clear hfz73_3
                    try clear hfz77_0
                    try clear hfz77_1
                    try clear hfz77_2
                    try clear hfz77_3
                    try clear hfz85_0
                    try clear hfz85_1
                    try clear hfz85_2
                    try clear hfz85_3
                    try clear hfz89_0
                    try clear hfz89_1
                    try clear hfz94_0
                    try clear hfz94_1
                    try clear hfz94_2
                    try clear hfz94_3
                    try clear hfz98_0
                    try clear hfz98_1
                    try clear p2
                    try clear p6
                    try clear p64
                    obtain ⟨kq, x248001_132, HA, HJ132, BK246, BK247, BK248, BK258, BK259, HB⟩ := hcut
                    cases kq with
                    | zero => exact absurd HA.out (by simp [bivouaclaw19_PurseSends.j3])
                    | succ kj132 =>
                      have H := HA.out
                      clear HA
                      simp only [bivouaclaw19_PurseSends.j3] at H
                      by_cases c145 : (t249 == (wrap64 (a0_0 - a2_0)) && (t250 == (wrap64 (a0_1 - a2_1)) && (t251 == a0_2 && (t252 == a0_3)))) = true
                      · rw [if_pos c145] at H
                        have c145b0 : (t249 == (wrap64 (a0_0 - a2_0)) && (t250 == (wrap64 (a0_1 - a2_1)) && (t251 == a0_2 && (t252 == a0_3)))) = true := c145
                        (try (have c145b1 : decide (t249 = (wrap64 (a0_0 - a2_0)) && (t250 == (wrap64 (a0_1 - a2_1)) && (t251 == a0_2 && (t252 == a0_3)))) = true := by simpa using c145))
                        (try (have c145b2 : (t249 == (wrap64 (a0_0 - a2_0)) && (t250 == (wrap64 (a0_1 - a2_1)) && (t251 == a0_2 && (t252 == a0_3)))) = true := by simpa using c145))
                        clear c145
                        by_cases c146 : (t253 == x248000_113 && (t254 == x248001_132 && (t255 == a1_2 && (t256 == a1_3)))) = true
                        · rw [if_pos c146] at H
                          have c146b0 : (t253 == x248000_113 && (t254 == x248001_132 && (t255 == a1_2 && (t256 == a1_3)))) = true := c146
                          (try (have c146b1 : decide (t253 = x248000_113 && (t254 == x248001_132 && (t255 == a1_2 && (t256 == a1_3)))) = true := by simpa using c146))
                          (try (have c146b2 : (t253 == x248000_113 && (t254 == x248001_132 && (t255 == a1_2 && (t256 == a1_3)))) = true := by simpa using c146))
                          clear c146
                          by_cases c147 : t257 = 0
                          · rw [if_pos c147] at H
                            have c147b0 : (t257 == 0) = true := beq_iff_eq.mpr c147
                            have c147b1 : (t257 != 0) = false := bne_eq_false_iff_eq.mpr c147
                            clear c147
                            replace H := Option.bind_eq_some_iff.mp H
                            obtain ⟨t265, A1480, H⟩ := H
                            replace H : (if t265 = true then ((bivouacref19_May.f t253 t254 t255 t256).bind fun t266 => (if t266 = true then ((bivouaclaw19_awake.f kj132).bind fun t267 => (some t267)) else (some false))) else (some false)) = some true := H
                            have A148 := Aside0.mk A1480
                            clear A1480
                            by_cases c149 : t265 = true
                            · subst c149
                              have H1 : ((bivouacref19_May.f t253 t254 t255 t256).bind fun t266 => (if t266 = true then ((bivouaclaw19_awake.f kj132).bind fun t267 => (some t267)) else (some false))) = some true := by rw [if_pos rfl] at H; exact H
                              clear H
                              have H := H1
                              clear H1
                              replace H := Option.bind_eq_some_iff.mp H
                              obtain ⟨t266, A1500, H⟩ := H
                              replace H : (if t266 = true then ((bivouaclaw19_awake.f kj132).bind fun t267 => (some t267)) else (some false)) = some true := H
                              have A150 := Aside0.mk A1500
                              clear A1500
                              by_cases c151 : t266 = true
                              · subst c151
                                have H1 : ((bivouaclaw19_awake.f kj132).bind fun t267 => (some t267)) = some true := by rw [if_pos rfl] at H; exact H
                                clear H
                                have H := H1
                                clear H1
                                replace H := Option.bind_eq_some_iff.mp H
                                obtain ⟨t267, A1520, H⟩ := H
                                replace H : (some t267) = some true := H
                                have A152 := Aside0.mk A1520
                                clear A1520
                                have HRES := Aside0.mk (Option.some.inj H)
                                clear H
                                have hnb153 := NB258_246.out
                                have hnc153 := NB246_258.out
                                have hnb154 := NB258_247.out
                                have hnc154 := NB247_258.out
                                have hnb155 := NB258_248.out
                                have hnc155 := NB248_258.out
                                have hnb156 := NB258_259.out
                                have hnc156 := NB259_258.out
                                have hcz157_0 : wc.cell? ⟨gb258, 0, none⟩ = some (.int .i64 t249) := (blk_cell BK258.out 0).trans rfl
                                have hcz157_1 : wc.cell? ⟨gb258, 1, none⟩ = some (.int .i64 t250) := (blk_cell BK258.out 1).trans rfl
                                have hcz157_2 : wc.cell? ⟨gb258, 2, none⟩ = some (.int .i64 t251) := (blk_cell BK258.out 2).trans rfl
                                have hcz157_3 : wc.cell? ⟨gb258, 3, none⟩ = some (.int .i64 t252) := (blk_cell BK258.out 3).trans rfl
                                have hfz157_0 := blk_frozen BK258.out 0
                                have hfz157_1 := blk_frozen BK258.out 1
                                have hfz157_2 := blk_frozen BK258.out 2
                                have hfz157_3 := blk_frozen BK258.out 3
                                have hnb158 := NB246_247.out
                                have hnc158 := NB247_246.out
                                have hnb159 := NB246_248.out
                                have hnc159 := NB248_246.out
                                have hnb160 := NB246_259.out
                                have hnc160 := NB259_246.out
                                have hcz161_0 : wc.cell? ⟨gb246, 0, none⟩ = some (.int .i64 (wrap64 (a0_0 - a2_0))) := (blk_cell BK246.out 0).trans rfl
                                have hcz161_1 : wc.cell? ⟨gb246, 1, none⟩ = some (.int .i64 (wrap64 (a0_1 - a2_1))) := (blk_cell BK246.out 1).trans rfl
                                have hcz161_2 : wc.cell? ⟨gb246, 2, none⟩ = some (.int .i64 a0_2) := (blk_cell BK246.out 2).trans rfl
                                have hcz161_3 : wc.cell? ⟨gb246, 3, none⟩ = some (.int .i64 a0_3) := (blk_cell BK246.out 3).trans rfl
                                have hfz161_0 := blk_frozen BK246.out 0
                                have hfz161_1 := blk_frozen BK246.out 1
                                have hfz161_2 := blk_frozen BK246.out 2
                                have hfz161_3 := blk_frozen BK246.out 3
                                have hnb162 := NB259_247.out
                                have hnc162 := NB247_259.out
                                have hnb163 := NB259_248.out
                                have hnc163 := NB248_259.out
                                have hcz164_0 : wc.cell? ⟨gb259, 0, none⟩ = some (.int .i64 t253) := (blk_cell BK259.out 0).trans rfl
                                have hcz164_1 : wc.cell? ⟨gb259, 1, none⟩ = some (.int .i64 t254) := (blk_cell BK259.out 1).trans rfl
                                have hcz164_2 : wc.cell? ⟨gb259, 2, none⟩ = some (.int .i64 t255) := (blk_cell BK259.out 2).trans rfl
                                have hcz164_3 : wc.cell? ⟨gb259, 3, none⟩ = some (.int .i64 t256) := (blk_cell BK259.out 3).trans rfl
                                have hfz164_0 := blk_frozen BK259.out 0
                                have hfz164_1 := blk_frozen BK259.out 1
                                have hfz164_2 := blk_frozen BK259.out 2
                                have hfz164_3 := blk_frozen BK259.out 3
                                have hnb165 := NB247_248.out
                                have hnc165 := NB248_247.out
                                have hcz166_0 : wc.cell? ⟨gb247, 0, none⟩ = some (.int .i64 x248000_113) := (blk_cell BK247.out 0).trans rfl
                                have hcz166_1 : wc.cell? ⟨gb247, 1, none⟩ = some (.int .i64 x248001_132) := (blk_cell BK247.out 1).trans rfl
                                have hcz166_2 : wc.cell? ⟨gb247, 2, none⟩ = some (.int .i64 a1_2) := (blk_cell BK247.out 2).trans rfl
                                have hcz166_3 : wc.cell? ⟨gb247, 3, none⟩ = some (.int .i64 a1_3) := (blk_cell BK247.out 3).trans rfl
                                have hfz166_0 := blk_frozen BK247.out 0
                                have hfz166_1 := blk_frozen BK247.out 1
                                have hfz166_2 := blk_frozen BK247.out 2
                                have hfz166_3 := blk_frozen BK247.out 3
                                go_wp2_with (first | (go_at_call 61; (with_reducible refine (bivouacref19_May.calls t249 t250 t251 t252 true _ A148.out).mono ?_); rintro e w167 ⟨rfl, hb⟩; have n0_ := Aside0.mk (blk_below (g := gb246) (o := .cells #[.int .i64 (wrap64 (a0_0 - a2_0)), .int .i64 (wrap64 (a0_1 - a2_1)), .int .i64 a0_2, .int .i64 a0_3] 59 (0, 0)) (by (with_reducible repeat (first | refine blk_drewN ?_ _ | refine blk_drew ?_ | refine blk_alloc ?_ _)); exact BK246.out) hb); have n1_ := Aside0.mk (blk_below (g := gb247) (o := .cells #[.int .i64 x248000_113, .int .i64 x248001_132, .int .i64 a1_2, .int .i64 a1_3] 59 (0, 0)) (by (with_reducible repeat (first | refine blk_drewN ?_ _ | refine blk_drew ?_ | refine blk_alloc ?_ _)); exact BK247.out) hb); have n2_ := Aside0.mk (blk_below (g := gb248) (o := .cells #[.int .i64 a2_0, .int .i64 a2_1] 48 (0, 0)) (by (with_reducible repeat (first | refine blk_drewN ?_ _ | refine blk_drew ?_ | refine blk_alloc ?_ _)); exact BK248.out) hb); have n3_ := Aside0.mk (blk_below (g := gb258) (o := .cells #[.int .i64 t249, .int .i64 t250, .int .i64 t251, .int .i64 t252] 59 (0, 0)) (by (with_reducible repeat (first | refine blk_drewN ?_ _ | refine blk_drew ?_ | refine blk_alloc ?_ _)); exact BK258.out) hb); have n4_ := Aside0.mk (blk_below (g := gb259) (o := .cells #[.int .i64 t253, .int .i64 t254, .int .i64 t255, .int .i64 t256] 59 (0, 0)) (by (with_reducible repeat (first | refine blk_drewN ?_ _ | refine blk_drew ?_ | refine blk_alloc ?_ _)); exact BK259.out) hb); have n5_ := Aside0.mk (below_step (by repeat (first | (with_reducible first | exact HB.out | apply below_alloc | apply pw_below_drewN | apply below_drew1 | refine below_set ?_ GE246.out | refine below_set ?_ GE247.out | refine below_set ?_ GE248.out | refine below_set ?_ GE258.out | refine below_set ?_ GE259.out) | exact HB.out)) hb); clear BK246; clear BK247; clear BK248; clear BK258; clear BK259; clear HB; have BK246 := n0_; have BK247 := n1_; have BK248 := n2_; have BK258 := n3_; have BK259 := n4_; have HB := n5_; clear n0_ n1_ n2_ n3_ n4_ n5_; (try clear hb); (try clear hb2); (try clear hk); (try clear hi); have hcz168_0 : w167.cell? ⟨gb259, 0, none⟩ = some (.int .i64 t253) := (blk_cell BK259.out 0).trans rfl; have hcz168_1 : w167.cell? ⟨gb259, 1, none⟩ = some (.int .i64 t254) := (blk_cell BK259.out 1).trans rfl; have hcz168_2 : w167.cell? ⟨gb259, 2, none⟩ = some (.int .i64 t255) := (blk_cell BK259.out 2).trans rfl; have hcz168_3 : w167.cell? ⟨gb259, 3, none⟩ = some (.int .i64 t256) := (blk_cell BK259.out 3).trans rfl; have hfz168_0 := blk_frozen BK259.out 0; have hfz168_1 := blk_frozen BK259.out 1; have hfz168_2 := blk_frozen BK259.out 2; have hfz168_3 := blk_frozen BK259.out 3) | (go_at_call 61; (with_reducible refine (bivouacref19_May.calls t253 t254 t255 t256 true _ A150.out).mono ?_); rintro e w169 ⟨rfl, hb⟩; have n0_ := Aside0.mk (blk_below (g := gb246) (o := .cells #[.int .i64 (wrap64 (a0_0 - a2_0)), .int .i64 (wrap64 (a0_1 - a2_1)), .int .i64 a0_2, .int .i64 a0_3] 59 (0, 0)) (by (with_reducible repeat (first | refine blk_drewN ?_ _ | refine blk_drew ?_ | refine blk_alloc ?_ _)); exact BK246.out) hb); have n1_ := Aside0.mk (blk_below (g := gb247) (o := .cells #[.int .i64 x248000_113, .int .i64 x248001_132, .int .i64 a1_2, .int .i64 a1_3] 59 (0, 0)) (by (with_reducible repeat (first | refine blk_drewN ?_ _ | refine blk_drew ?_ | refine blk_alloc ?_ _)); exact BK247.out) hb); have n2_ := Aside0.mk (blk_below (g := gb248) (o := .cells #[.int .i64 a2_0, .int .i64 a2_1] 48 (0, 0)) (by (with_reducible repeat (first | refine blk_drewN ?_ _ | refine blk_drew ?_ | refine blk_alloc ?_ _)); exact BK248.out) hb); have n3_ := Aside0.mk (blk_below (g := gb258) (o := .cells #[.int .i64 t249, .int .i64 t250, .int .i64 t251, .int .i64 t252] 59 (0, 0)) (by (with_reducible repeat (first | refine blk_drewN ?_ _ | refine blk_drew ?_ | refine blk_alloc ?_ _)); exact BK258.out) hb); have n4_ := Aside0.mk (blk_below (g := gb259) (o := .cells #[.int .i64 t253, .int .i64 t254, .int .i64 t255, .int .i64 t256] 59 (0, 0)) (by (with_reducible repeat (first | refine blk_drewN ?_ _ | refine blk_drew ?_ | refine blk_alloc ?_ _)); exact BK259.out) hb); have n5_ := Aside0.mk (below_step (by repeat (first | (with_reducible first | exact HB.out | apply below_alloc | apply pw_below_drewN | apply below_drew1 | refine below_set ?_ GE246.out | refine below_set ?_ GE247.out | refine below_set ?_ GE248.out | refine below_set ?_ GE258.out | refine below_set ?_ GE259.out) | exact HB.out)) hb); clear BK246; clear BK247; clear BK248; clear BK258; clear BK259; clear HB; have BK246 := n0_; have BK247 := n1_; have BK248 := n2_; have BK258 := n3_; have BK259 := n4_; have HB := n5_; clear n0_ n1_ n2_ n3_ n4_ n5_; (try clear hb); (try clear hb2); (try clear hk); (try clear hi)) | (go_at_call 56; (with_reducible refine (bivouaclaw19_awake.calls kj132  t267 _ A152.out).mono ?_); rintro e w170 ⟨rfl, hb⟩; have n0_ := Aside0.mk (blk_below (g := gb246) (o := .cells #[.int .i64 (wrap64 (a0_0 - a2_0)), .int .i64 (wrap64 (a0_1 - a2_1)), .int .i64 a0_2, .int .i64 a0_3] 59 (0, 0)) (by (with_reducible repeat (first | refine blk_drewN ?_ _ | refine blk_drew ?_ | refine blk_alloc ?_ _)); exact BK246.out) hb); have n1_ := Aside0.mk (blk_below (g := gb247) (o := .cells #[.int .i64 x248000_113, .int .i64 x248001_132, .int .i64 a1_2, .int .i64 a1_3] 59 (0, 0)) (by (with_reducible repeat (first | refine blk_drewN ?_ _ | refine blk_drew ?_ | refine blk_alloc ?_ _)); exact BK247.out) hb); have n2_ := Aside0.mk (blk_below (g := gb248) (o := .cells #[.int .i64 a2_0, .int .i64 a2_1] 48 (0, 0)) (by (with_reducible repeat (first | refine blk_drewN ?_ _ | refine blk_drew ?_ | refine blk_alloc ?_ _)); exact BK248.out) hb); have n3_ := Aside0.mk (blk_below (g := gb258) (o := .cells #[.int .i64 t249, .int .i64 t250, .int .i64 t251, .int .i64 t252] 59 (0, 0)) (by (with_reducible repeat (first | refine blk_drewN ?_ _ | refine blk_drew ?_ | refine blk_alloc ?_ _)); exact BK258.out) hb); have n4_ := Aside0.mk (blk_below (g := gb259) (o := .cells #[.int .i64 t253, .int .i64 t254, .int .i64 t255, .int .i64 t256] 59 (0, 0)) (by (with_reducible repeat (first | refine blk_drewN ?_ _ | refine blk_drew ?_ | refine blk_alloc ?_ _)); exact BK259.out) hb); have n5_ := Aside0.mk (below_step (by repeat (first | (with_reducible first | exact HB.out | apply below_alloc | apply pw_below_drewN | apply below_drew1 | refine below_set ?_ GE246.out | refine below_set ?_ GE247.out | refine below_set ?_ GE248.out | refine below_set ?_ GE258.out | refine below_set ?_ GE259.out) | exact HB.out)) hb); clear BK246; clear BK247; clear BK248; clear BK258; clear BK259; clear HB; have BK246 := n0_; have BK247 := n1_; have BK248 := n2_; have BK258 := n3_; have BK259 := n4_; have HB := n5_; clear n0_ n1_ n2_ n3_ n4_ n5_; (try clear hb); (try clear hb2); (try clear hk); (try clear hi)))
                                go_ret
                                exact ⟨by first | rfl | (exact congrArg (fun b_ => Ending.returned (Value.bool b_)) HRES.out) | (simp [errW_none, errW_some] <;> rfl) | (simp [*, errW_none, errW_some] <;> rfl), by repeat (first | (with_reducible first | exact HB.out | apply below_alloc | apply pw_below_drewN | apply below_drew1 | refine below_set ?_ GE246.out | refine below_set ?_ GE247.out | refine below_set ?_ GE248.out | refine below_set ?_ GE258.out | refine below_set ?_ GE259.out) | exact HB.out)⟩
                              · replace c151 := Bool.eq_false_iff.mpr c151
                                subst c151
                                have H1 : (some false) = some true := by rw [if_neg (show ¬ (false = true) by decide)] at H; exact H
                                clear H
                                have H := H1
                                clear H1
                                exact absurd H (by simp)
                            · replace c149 := Bool.eq_false_iff.mpr c149
                              subst c149
                              have H1 : (some false) = some true := by rw [if_neg (show ¬ (false = true) by decide)] at H; exact H
                              clear H
                              have H := H1
                              clear H1
                              exact absurd H (by simp)
                          · rw [if_neg c147] at H
                            exact absurd H (by simp)
                        · rw [if_neg c146] at H
                          exact absurd H (by simp)
                      · rw [if_neg c145] at H
                        exact absurd H (by simp)
end Go.Proofs.Ytikhgdbbbingbaa.MPu
