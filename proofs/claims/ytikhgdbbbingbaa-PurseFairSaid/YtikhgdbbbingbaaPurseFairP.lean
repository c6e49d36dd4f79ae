/- What the law's own function does: written by a program of this claim. -/
import Derived.Test.YtikhgdbbbingbaaQ4
namespace Go.Proofs.Ytikhgdbbbingbaa.MPu
open Go.RowKit Go.Proofs.YtikhgdbbbingbaaW.PrintWords Go.Proofs.YtikhgdbbbingbaaW.PrintLast Go.Proofs.YtikhgdbbbingbaaW.PrintMore
attribute [local go_sem] max2_int min2_int max_two min_two max_three min_three max_four min_four
set_option linter.unusedVariables false
set_option linter.unusedSimpArgs false
attribute [local go_sem high] eqA48
mutual
noncomputable def bivouaclaw19_PurseFair.j0 : Nat → List (S48) → List (S48) → Bool → Int → Int → Int → Int → Int → Int → Int → Int → Int → Int → Option (Bool)
  | 0, _, _, _, _, _, _, _, _, _, _, _, _, _ => none
  | k + 1, x2, x9, x55, x177000, x177001, x177002, x177003, x178000, x178001, x191000, x191001, x191002, x191003 => if x55 = true then (some false) else ((bivouacref19_Sum.f k x2).bind fun bt193 => ((bivouacref19_Sum.f k x9).bind fun bt195 => (if (wrap64 (x177000 + x178000)) ≥ bt193.1 then (bivouaclaw19_PurseFair.j1 k x2 x9 (wrap64 (x177000 + x178000)) (wrap64 (x177001 + x178001)) (decide ((wrap64 (x177001 + x178001)) ≥ bt193.2)) x191000 x191001 x191002 x191003 bt195.1 bt195.2) else (bivouaclaw19_PurseFair.j1 k x2 x9 (wrap64 (x177000 + x178000)) (wrap64 (x177001 + x178001)) false x191000 x191001 x191002 x191003 bt195.1 bt195.2))))
noncomputable def bivouaclaw19_PurseFair.j1 : Nat → List (S48) → List (S48) → Int → Int → Bool → Int → Int → Int → Int → Int → Int → Option (Bool)
  | 0, _, _, _, _, _, _, _, _, _, _, _ => none
  | k + 1, x2, x9, x13, x14, x15, x191000, x191001, x191002, x191003, x199000, x199001 => bivouaclaw19_PurseFair.l0 k x2 x9 x13 x14 x15 0 x191000 x191001 x191002 x191003 x199000 x199001
noncomputable def bivouaclaw19_PurseFair.l0 : Nat → List (S48) → List (S48) → Int → Int → Bool → Int → Int → Int → Int → Int → Int → Int → Option (Bool)
  | 0, _, _, _, _, _, _, _, _, _, _, _, _ => none
  | k + 1, x2, x9, x13, x14, x15, x16, x191000, x191001, x191002, x191003, x199000, x199001 => if x16 < (x2.length : Int) then (if 0 ≤ x16 then (if x16 < (x9.length : Int) then (if ((rd_T48 x9 x16).f0) < 0 then (bivouaclaw19_PurseFair.j3 k x2 x9 x13 x14 x15 x16 true x191000 x191001 x191002 x191003 x199000 x199001) else (if ((rd_T48 x9 x16).f0) > ((rd_T48 x2 x16).f0) then (bivouaclaw19_PurseFair.j3 k x2 x9 x13 x14 x15 x16 true x191000 x191001 x191002 x191003 x199000 x199001) else (if ((rd_T48 x9 x16).f1) < 0 then (bivouaclaw19_PurseFair.j3 k x2 x9 x13 x14 x15 x16 true x191000 x191001 x191002 x191003 x199000 x199001) else (if ((rd_T48 x9 x16).f1) > ((rd_T48 x2 x16).f1) then (bivouaclaw19_PurseFair.j3 k x2 x9 x13 x14 x15 x16 true x191000 x191001 x191002 x191003 x199000 x199001) else (if x15 = true then (bivouaclaw19_PurseFair.j3 k x2 x9 x13 x14 x15 x16 (!(((rd_T48 x9 x16).f0) == ((rd_T48 x2 x16).f0)) || (!(((rd_T48 x9 x16).f1) == ((rd_T48 x2 x16).f1)))) x191000 x191001 x191002 x191003 x199000 x199001) else (bivouaclaw19_PurseFair.j3 k x2 x9 x13 x14 x15 x16 false x191000 x191001 x191002 x191003 x199000 x199001)))))) else (none)) else (none)) else (if x199000 ≤ x13 then (if x199001 ≤ x14 then (if (wrap64 ((wrap64 (x13 - x199000)) - x191000)) ≥ 0 then (if (wrap64 ((wrap64 (x14 - x199001)) - x191001)) ≥ 0 then (if (wrap64 ((wrap64 (x13 - x199000)) - x191000)) = 0 then (if (wrap64 ((wrap64 (x14 - x199001)) - x191001)) = 0 then ((bivouaclaw19_awake.f k).bind fun t199 => (some t199)) else (if x191001 = x191003 then ((bivouaclaw19_awake.f k).bind fun t200 => (some t200)) else (some false))) else (if x191000 = x191002 then (if (wrap64 ((wrap64 (x14 - x199001)) - x191001)) = 0 then ((bivouaclaw19_awake.f k).bind fun t201 => (some t201)) else (if x191001 = x191003 then ((bivouaclaw19_awake.f k).bind fun t202 => (some t202)) else (some false))) else (some false))) else (some false)) else (some false)) else (some false)) else (some false))
noncomputable def bivouaclaw19_PurseFair.j3 : Nat → List (S48) → List (S48) → Int → Int → Bool → Int → Bool → Int → Int → Int → Int → Int → Int → Option (Bool)
  | 0, _, _, _, _, _, _, _, _, _, _, _, _, _ => none
  | k + 1, x2, x9, x13, x14, x15, x16, x139, x191000, x191001, x191002, x191003, x199000, x199001 => if x139 = true then (some false) else (bivouaclaw19_PurseFair.l0 k x2 x9 x13 x14 x15 (wrap64 (x16 + 1)) x191000 x191001 x191002 x191003 x199000 x199001)
end
noncomputable def bivouaclaw19_PurseFair.f (k : Nat) (a0_0 : Int) (a0_1 : Int) (a0_2 : Int) (a0_3 : Int) (a1_0 : Int) (a1_1 : Int) (l2 : List (S48)) : Option (Bool) := (bivouaclaw19_few.f l2).bind fun t178 => ((purse_Serve.f a0_0 a0_1 a0_2 a0_3 a1_0 a1_1 t178).bind fun bt181 => (if bt181.2.2.2.2.2.2 = 0 then (if (bt181.2.2.2.2.2.1.length : Int) = (t178.length : Int) then ((bivouacref19_May.f bt181.1 bt181.2.1 bt181.2.2.1 bt181.2.2.2.1).bind fun t192 => (if t192 = true then (if bt181.2.2.2.2.1 < 0 then (bivouaclaw19_PurseFair.j0 k t178 bt181.2.2.2.2.2.1 true a0_0 a0_1 a0_2 a0_3 a1_0 a1_1 bt181.1 bt181.2.1 bt181.2.2.1 bt181.2.2.2.1) else (bivouaclaw19_PurseFair.j0 k t178 bt181.2.2.2.2.2.1 (decide (bt181.2.2.2.2.1 > 65536)) a0_0 a0_1 a0_2 a0_3 a1_0 a1_1 bt181.1 bt181.2.1 bt181.2.2.1 bt181.2.2.2.1)) else (bivouaclaw19_PurseFair.j0 k t178 bt181.2.2.2.2.2.1 true a0_0 a0_1 a0_2 a0_3 a1_0 a1_1 bt181.1 bt181.2.1 bt181.2.2.1 bt181.2.2.2.1))) else (bivouaclaw19_PurseFair.j0 k t178 bt181.2.2.2.2.2.1 true a0_0 a0_1 a0_2 a0_3 a1_0 a1_1 bt181.1 bt181.2.1 bt181.2.2.1 bt181.2.2.2.1)) else (if (bt181.2.2.2.2.2.1.length : Int) = 0 then ((bivouaclaw19_awake.f k).bind fun t191 => (some t191)) else (some false))))
theorem bivouaclaw19_PurseFair.mono_l : ∀ k, (∀ y0 y1 y2 y3 y4 y5 y6 y7 y8 y9 y10 y11 y12, LeO (bivouaclaw19_PurseFair.j0 k y0 y1 y2 y3 y4 y5 y6 y7 y8 y9 y10 y11 y12) (bivouaclaw19_PurseFair.j0 (k + 1) y0 y1 y2 y3 y4 y5 y6 y7 y8 y9 y10 y11 y12)) ∧ (∀ y0 y1 y2 y3 y4 y5 y6 y7 y8 y9 y10, LeO (bivouaclaw19_PurseFair.j1 k y0 y1 y2 y3 y4 y5 y6 y7 y8 y9 y10) (bivouaclaw19_PurseFair.j1 (k + 1) y0 y1 y2 y3 y4 y5 y6 y7 y8 y9 y10)) ∧ (∀ y0 y1 y2 y3 y4 y5 y6 y7 y8 y9 y10 y11, LeO (bivouaclaw19_PurseFair.l0 k y0 y1 y2 y3 y4 y5 y6 y7 y8 y9 y10 y11) (bivouaclaw19_PurseFair.l0 (k + 1) y0 y1 y2 y3 y4 y5 y6 y7 y8 y9 y10 y11)) ∧ (∀ y0 y1 y2 y3 y4 y5 y6 y7 y8 y9 y10 y11 y12, LeO (bivouaclaw19_PurseFair.j3 k y0 y1 y2 y3 y4 y5 y6 y7 y8 y9 y10 y11 y12) (bivouaclaw19_PurseFair.j3 (k + 1) y0 y1 y2 y3 y4 y5 y6 y7 y8 y9 y10 y11 y12))
  | 0 => ⟨fun _ _ _ _ _ _ _ _ _ _ _ _ _ r h => by simp [bivouaclaw19_PurseFair.j0] at h, fun _ _ _ _ _ _ _ _ _ _ _ r h => by simp [bivouaclaw19_PurseFair.j1] at h, fun _ _ _ _ _ _ _ _ _ _ _ _ r h => by simp [bivouaclaw19_PurseFair.l0] at h, fun _ _ _ _ _ _ _ _ _ _ _ _ _ r h => by simp [bivouaclaw19_PurseFair.j3] at h⟩
  | k + 1 => by
    obtain ⟨ih0, ih1, ih2, ih3⟩ := bivouaclaw19_PurseFair.mono_l k
    refine ⟨?_, ?_, ?_, ?_⟩
    · intro y0 y1 y2 y3 y4 y5 y6 y7 y8 y9 y10 y11 y12
      unfold bivouaclaw19_PurseFair.j0
      repeat' first
      | (with_reducible exact ih0 _ _ _ _ _ _ _ _ _ _ _ _ _)
      | (with_reducible exact ih1 _ _ _ _ _ _ _ _ _ _ _)
      | (with_reducible exact ih2 _ _ _ _ _ _ _ _ _ _ _ _)
      | (with_reducible exact ih3 _ _ _ _ _ _ _ _ _ _ _ _ _)
      | (with_reducible exact bivouaclaw19_awake.mono _)
      | (with_reducible exact bivouacref19_Sum.mono _ _)
      | (with_reducible exact LeO.refl _)
      | (with_reducible exact LeO.none _)
      | (with_reducible refine LeO.ite ?_ ?_)
      | (with_reducible refine LeO.bind ?_ (fun _ => ?_))
      | exact ih0 _ _ _ _ _ _ _ _ _ _ _ _ _
      | exact ih1 _ _ _ _ _ _ _ _ _ _ _
      | exact ih2 _ _ _ _ _ _ _ _ _ _ _ _
      | exact ih3 _ _ _ _ _ _ _ _ _ _ _ _ _
      | exact bivouaclaw19_awake.mono _
      | exact bivouacref19_Sum.mono _ _
      | exact LeO.none _
      | refine LeO.ite ?_ ?_
      | refine LeO.bind ?_ (fun _ => ?_)
    · intro y0 y1 y2 y3 y4 y5 y6 y7 y8 y9 y10
      unfold bivouaclaw19_PurseFair.j1
      repeat' first
      | (with_reducible exact ih0 _ _ _ _ _ _ _ _ _ _ _ _ _)
      | (with_reducible exact ih1 _ _ _ _ _ _ _ _ _ _ _)
      | (with_reducible exact ih2 _ _ _ _ _ _ _ _ _ _ _ _)
      | (with_reducible exact ih3 _ _ _ _ _ _ _ _ _ _ _ _ _)
      | (with_reducible exact bivouaclaw19_awake.mono _)
      | (with_reducible exact bivouacref19_Sum.mono _ _)
      | (with_reducible exact LeO.refl _)
      | (with_reducible exact LeO.none _)
      | (with_reducible refine LeO.ite ?_ ?_)
      | (with_reducible refine LeO.bind ?_ (fun _ => ?_))
      | exact ih0 _ _ _ _ _ _ _ _ _ _ _ _ _
      | exact ih1 _ _ _ _ _ _ _ _ _ _ _
      | exact ih2 _ _ _ _ _ _ _ _ _ _ _ _
      | exact ih3 _ _ _ _ _ _ _ _ _ _ _ _ _
      | exact bivouaclaw19_awake.mono _
      | exact bivouacref19_Sum.mono _ _
      | exact LeO.none _
      | refine LeO.ite ?_ ?_
      | refine LeO.bind ?_ (fun _ => ?_)
    · intro y0 y1 y2 y3 y4 y5 y6 y7 y8 y9 y10 y11
      unfold bivouaclaw19_PurseFair.l0
      repeat' first
      | (with_reducible exact ih0 _ _ _ _ _ _ _ _ _ _ _ _ _)
      | (with_reducible exact ih1 _ _ _ _ _ _ _ _ _ _ _)
      | (with_reducible exact ih2 _ _ _ _ _ _ _ _ _ _ _ _)
      | (with_reducible exact ih3 _ _ _ _ _ _ _ _ _ _ _ _ _)
      | (with_reducible exact bivouaclaw19_awake.mono _)
      | (with_reducible exact bivouacref19_Sum.mono _ _)
      | (with_reducible exact LeO.refl _)
      | (with_reducible exact LeO.none _)
      | (with_reducible refine LeO.ite ?_ ?_)
      | (with_reducible refine LeO.bind ?_ (fun _ => ?_))
      | exact ih0 _ _ _ _ _ _ _ _ _ _ _ _ _
      | exact ih1 _ _ _ _ _ _ _ _ _ _ _
      | exact ih2 _ _ _ _ _ _ _ _ _ _ _ _
      | exact ih3 _ _ _ _ _ _ _ _ _ _ _ _ _
      | exact bivouaclaw19_awake.mono _
      | exact bivouacref19_Sum.mono _ _
      | exact LeO.none _
      | refine LeO.ite ?_ ?_
      | refine LeO.bind ?_ (fun _ => ?_)
    · intro y0 y1 y2 y3 y4 y5 y6 y7 y8 y9 y10 y11 y12
      unfold bivouaclaw19_PurseFair.j3
      repeat' first
      | (with_reducible exact ih0 _ _ _ _ _ _ _ _ _ _ _ _ _)
      | (with_reducible exact ih1 _ _ _ _ _ _ _ _ _ _ _)
      | (with_reducible exact ih2 _ _ _ _ _ _ _ _ _ _ _ _)
      | (with_reducible exact ih3 _ _ _ _ _ _ _ _ _ _ _ _ _)
      | (with_reducible exact bivouaclaw19_awake.mono _)
      | (with_reducible exact bivouacref19_Sum.mono _ _)
      | (with_reducible exact LeO.refl _)
      | (with_reducible exact LeO.none _)
      | (with_reducible refine LeO.ite ?_ ?_)
      | (with_reducible refine LeO.bind ?_ (fun _ => ?_))
      | exact ih0 _ _ _ _ _ _ _ _ _ _ _ _ _
      | exact ih1 _ _ _ _ _ _ _ _ _ _ _
      | exact ih2 _ _ _ _ _ _ _ _ _ _ _ _
      | exact ih3 _ _ _ _ _ _ _ _ _ _ _ _ _
      | exact bivouaclaw19_awake.mono _
      | exact bivouacref19_Sum.mono _ _
      | exact LeO.none _
      | refine LeO.ite ?_ ?_
      | refine LeO.bind ?_ (fun _ => ?_)
theorem bivouaclaw19_PurseFair.mono : ∀ a0 a1 a2 a3 a4 a5 a6 k, LeO (bivouaclaw19_PurseFair.f k a0 a1 a2 a3 a4 a5 a6) (bivouaclaw19_PurseFair.f (k + 1) a0 a1 a2 a3 a4 a5 a6) := by
  intro a0 a1 a2 a3 a4 a5 a6 k
  obtain ⟨ih0, ih1, ih2, ih3⟩ := bivouaclaw19_PurseFair.mono_l k
  unfold bivouaclaw19_PurseFair.f
  repeat' first
      | (with_reducible exact ih0 _ _ _ _ _ _ _ _ _ _ _ _ _)
      | (with_reducible exact ih1 _ _ _ _ _ _ _ _ _ _ _)
      | (with_reducible exact ih2 _ _ _ _ _ _ _ _ _ _ _ _)
      | (with_reducible exact ih3 _ _ _ _ _ _ _ _ _ _ _ _ _)
      | (with_reducible exact bivouaclaw19_awake.mono _)
      | (with_reducible exact bivouacref19_Sum.mono _ _)
      | (with_reducible exact LeO.refl _)
      | (with_reducible exact LeO.none _)
      | (with_reducible refine LeO.ite ?_ ?_)
      | (with_reducible refine LeO.bind ?_ (fun _ => ?_))
      | exact ih0 _ _ _ _ _ _ _ _ _ _ _ _ _
      | exact ih1 _ _ _ _ _ _ _ _ _ _ _
      | exact ih2 _ _ _ _ _ _ _ _ _ _ _ _
      | exact ih3 _ _ _ _ _ _ _ _ _ _ _ _ _
      | exact bivouaclaw19_awake.mono _
      | exact bivouacref19_Sum.mono _ _
      | exact LeO.none _
      | refine LeO.ite ?_ ?_
      | refine LeO.bind ?_ (fun _ => ?_)
set_option maxHeartbeats 8000000 in
set_option maxRecDepth 100000 in
theorem bivouaclaw19_PurseFair.calls (k : Nat) (a0_0 : Int) (a0_1 : Int) (a0_2 : Int) (a0_3 : Int) (a1_0 : Int) (a1_1 : Int) (A2 : Option Addr) (c2 : Nat) (l2 : List (S48)) (w : World) (hr2 : Kd.C k48 w A2 l2.length l2) (hc2 : l2.length ≤ c2) (h : bivouaclaw19_PurseFair.f k a0_0 a0_1 a0_2 a0_3 a1_0 a1_1 l2 = some true) :
  Calls Try.prog 19 #[.agg #[.int .i64 a0_0,.int .i64 a0_1,.int .i64 a0_2,.int .i64 a0_3],.agg #[.int .i64 a1_0,.int .i64 a1_1],.slice A2 l2.length c2] w fun e w' => e = .returned (.bool true) ∧ Below w.heap.size w w' := by
 have hu59 := Try.underlying59
 have hu48 := Try.underlying48
 have HR2 := Aside0.mk hr2
 have HC2 := Aside0.mk hc2
 clear hr2 hc2
 have HB := Aside0.mk (Below.refl w.heap.size w)
 have H : ((bivouaclaw19_few.f l2).bind fun t178 => ((purse_Serve.f a0_0 a0_1 a0_2 a0_3 a1_0 a1_1 t178).bind fun bt181 => (if bt181.2.2.2.2.2.2 = 0 then (if (bt181.2.2.2.2.2.1.length : Int) = (t178.length : Int) then ((bivouacref19_May.f bt181.1 bt181.2.1 bt181.2.2.1 bt181.2.2.2.1).bind fun t192 => (if t192 = true then (if bt181.2.2.2.2.1 < 0 then (bivouaclaw19_PurseFair.j0 k t178 bt181.2.2.2.2.2.1 true a0_0 a0_1 a0_2 a0_3 a1_0 a1_1 bt181.1 bt181.2.1 bt181.2.2.1 bt181.2.2.2.1) else (bivouaclaw19_PurseFair.j0 k t178 bt181.2.2.2.2.2.1 (decide (bt181.2.2.2.2.1 > 65536)) a0_0 a0_1 a0_2 a0_3 a1_0 a1_1 bt181.1 bt181.2.1 bt181.2.2.1 bt181.2.2.2.1)) else (bivouaclaw19_PurseFair.j0 k t178 bt181.2.2.2.2.2.1 true a0_0 a0_1 a0_2 a0_3 a1_0 a1_1 bt181.1 bt181.2.1 bt181.2.2.1 bt181.2.2.2.1))) else (bivouaclaw19_PurseFair.j0 k t178 bt181.2.2.2.2.2.1 true a0_0 a0_1 a0_2 a0_3 a1_0 a1_1 bt181.1 bt181.2.1 bt181.2.2.1 bt181.2.2.2.1)) else (if (bt181.2.2.2.2.2.1.length : Int) = 0 then ((bivouaclaw19_awake.f k).bind fun t191 => (some t191)) else (some false))))) = some true := h
 clear h
 replace H := Option.bind_eq_some_iff.mp H
 obtain ⟨t178,A40,H⟩ := H
 replace H : ((purse_Serve.f a0_0 a0_1 a0_2 a0_3 a1_0 a1_1 t178).bind fun bt181 => (if bt181.2.2.2.2.2.2 = 0 then (if (bt181.2.2.2.2.2.1.length : Int) = (t178.length : Int) then ((bivouacref19_May.f bt181.1 bt181.2.1 bt181.2.2.1 bt181.2.2.2.1).bind fun t192 => (if t192 = true then (if bt181.2.2.2.2.1 < 0 then (bivouaclaw19_PurseFair.j0 k t178 bt181.2.2.2.2.2.1 true a0_0 a0_1 a0_2 a0_3 a1_0 a1_1 bt181.1 bt181.2.1 bt181.2.2.1 bt181.2.2.2.1) else (bivouaclaw19_PurseFair.j0 k t178 bt181.2.2.2.2.2.1 (decide (bt181.2.2.2.2.1 > 65536)) a0_0 a0_1 a0_2 a0_3 a1_0 a1_1 bt181.1 bt181.2.1 bt181.2.2.1 bt181.2.2.2.1)) else (bivouaclaw19_PurseFair.j0 k t178 bt181.2.2.2.2.2.1 true a0_0 a0_1 a0_2 a0_3 a1_0 a1_1 bt181.1 bt181.2.1 bt181.2.2.1 bt181.2.2.2.1))) else (bivouaclaw19_PurseFair.j0 k t178 bt181.2.2.2.2.2.1 true a0_0 a0_1 a0_2 a0_3 a1_0 a1_1 bt181.1 bt181.2.1 bt181.2.2.1 bt181.2.2.2.1)) else (if (bt181.2.2.2.2.2.1.length : Int) = 0 then ((bivouaclaw19_awake.f k).bind fun t191 => (some t191)) else (some false)))) = some true := H
 have A4 := Aside0.mk A40
 clear A40
 replace H := Option.bind_eq_some_iff.mp H
 obtain ⟨⟨t181,t182,t183,t184,t185,t186,t189⟩,A50,H⟩ := H
 replace H : (if t189 = 0 then (if (t186.length : Int) = (t178.length : Int) then ((bivouacref19_May.f t181 t182 t183 t184).bind fun t192 => (if t192 = true then (if t185 < 0 then (bivouaclaw19_PurseFair.j0 k t178 t186 true a0_0 a0_1 a0_2 a0_3 a1_0 a1_1 t181 t182 t183 t184) else (bivouaclaw19_PurseFair.j0 k t178 t186 (decide (t185 > 65536)) a0_0 a0_1 a0_2 a0_3 a1_0 a1_1 t181 t182 t183 t184)) else (bivouaclaw19_PurseFair.j0 k t178 t186 true a0_0 a0_1 a0_2 a0_3 a1_0 a1_1 t181 t182 t183 t184))) else (bivouaclaw19_PurseFair.j0 k t178 t186 true a0_0 a0_1 a0_2 a0_3 a1_0 a1_1 t181 t182 t183 t184)) else (if (t186.length : Int) = 0 then ((bivouaclaw19_awake.f k).bind fun t191 => (some t191)) else (some false))) = some true := H
 have A5 := Aside0.mk A50
 clear A50
 by_cases c6 : t189 = 0
 ·
  rw [if_pos c6] at H
  have c6b0 : (t189 == 0) = true := beq_iff_eq.mpr c6
  have c6b1 : (t189 != 0) = false := bne_eq_false_iff_eq.mpr c6
  clear c6
  have HC7 := Aside0.mk H
  clear H
  go_enter Try.func19,Try.ntmps19
  go_upto_region 5 with (first|((with_reducible refine gate_dst (N := 3) rfl ?_);refine box_event ?hg (N := 3) ?hd (cs := #[.int .i64 a0_0,.int .i64 a0_1,.int .i64 a0_2,.int .i64 a0_3]) (t := 59) ?hr ?_;(case hd => rfl);(case hg => rfl);(case hr => first|(go_simp;done)|(go_simp;rfl));intro gb176 hg w8 hbox hb;have n0_ := Aside0.mk (below_step (by repeat (first|(with_reducible first|exact HB.out|apply below_alloc|apply pw_below_drewN|apply below_drew1)|exact HB.out)) hb);have n1_ := Aside0.mk (hbox);have n2_ := Aside0.mk ((by rw [hg];exact (below_size (by repeat (first|(with_reducible first|exact HB.out|apply below_alloc|apply pw_below_drewN|apply below_drew1)|exact HB.out))) : w.heap.size ≤ gb176));have n3_ := Aside0.mk ((by rw [hg];exact (below_size (by repeat (first|(with_reducible first|exact HB.out|apply below_alloc|apply pw_below_drewN|apply below_drew1)|exact HB.out))) : w.heap.size ≤ gb176));clear HB;have HB := n0_;have BK176 := n1_;have GW176 := n2_;have GE176 := n3_;clear n0_ n1_ n2_ n3_;clear hb hbox hg)|((with_reducible refine gate_dst (N := 4) rfl ?_);refine box_event ?hg (N := 4) ?hd (cs := #[.int .i64 a1_0,.int .i64 a1_1]) (t := 48) ?hr ?_;(case hd => rfl);(case hg => rfl);(case hr => first|(go_simp;done)|(go_simp;rfl));intro gb177 hg w9 hbox hb;have n0_ := Aside0.mk (blk_below (g := gb176) (o := .cells #[.int .i64 a0_0,.int .i64 a0_1,.int .i64 a0_2,.int .i64 a0_3] 59 (0,0)) (by (with_reducible repeat (first|apply blk_drewN|apply blk_drew|apply blk_alloc));exact BK176.out) hb);have n1_ := Aside0.mk (below_step (by repeat (first|(with_reducible first|exact HB.out|apply below_alloc|apply pw_below_drewN|apply below_drew1|refine below_set ?_ GE176.out)|exact HB.out)) hb);have n2_ := Aside0.mk (hbox);have n3_ := Aside0.mk ((by rw [hg];exact (below_size (by repeat (first|(with_reducible first|exact HB.out|apply below_alloc|apply pw_below_drewN|apply below_drew1|refine below_set ?_ GE176.out)|exact HB.out))) : w.heap.size ≤ gb177));have n4_ := Aside0.mk ((by rw [hg];exact (below_size (by repeat (first|(with_reducible first|exact HB.out|apply below_alloc|apply pw_below_drewN|apply below_drew1|refine below_set ?_ GE176.out)|exact HB.out))) : w.heap.size ≤ gb177));have n5_ := Aside0.mk ((by rw [hg];exact Nat.ne_of_lt (blk_lt (g := gb176) (o := .cells #[.int .i64 a0_0,.int .i64 a0_1,.int .i64 a0_2,.int .i64 a0_3] 59 (0,0)) (by (with_reducible repeat (first|apply blk_drewN|apply blk_drew|apply blk_alloc));exact BK176.out)) : gb176 ≠ gb177));have n6_ := Aside0.mk ((by rw [hg];exact Nat.ne_of_gt (blk_lt (g := gb176) (o := .cells #[.int .i64 a0_0,.int .i64 a0_1,.int .i64 a0_2,.int .i64 a0_3] 59 (0,0)) (by (with_reducible repeat (first|apply blk_drewN|apply blk_drew|apply blk_alloc));exact BK176.out)) : gb177 ≠ gb176));clear BK176;clear HB;have BK176 := n0_;have HB := n1_;have BK177 := n2_;have GW177 := n3_;have GE177 := n4_;have NB176_177 := n5_;have NB177_176 := n6_;clear n0_ n1_ n2_ n3_ n4_ n5_ n6_;clear hb hbox hg)|(go_at_call 58;(with_reducible refine (bivouaclaw19_few.calls (fun k_ => k_ < w.heap.size) _ _ l2 t178 _ ?side1 A4.out).mono ?_);(case side1 => exact Kd.V_mk HC2.out (Kd.F_below (Kd.C_F k48_heap HR2.out) (by repeat (first|(with_reducible first|exact HB.out|apply below_alloc|apply pw_below_drewN|apply below_drew1|refine below_set ?_ GE176.out|refine below_set ?_ GE177.out)|exact HB.out))));rintro e w10 ⟨v179,rfl,ho0,hb⟩;have n0_ := Aside0.mk (Kd.V_lower (Kd.V_mono (ok' := fun k_ => k_ ≠ gb176 ∧ k_ ≠ gb177) ho0 (fun k_ hk_ => ⟨Or.elim hk_ (fun hs_ => fun e_ => Nat.not_le.2 hs_ (by rw [e_];exact GW176.out)) (fun hn_ => (Kd.freshB (g := gb176) (o := .cells #[.int .i64 a0_0,.int .i64 a0_1,.int .i64 a0_2,.int .i64 a0_3] 59 (0,0)) (by (with_reducible repeat (first|apply blk_drewN|apply blk_drew|apply blk_alloc));exact BK176.out) k_ hn_)),Or.elim hk_ (fun hs_ => fun e_ => Nat.not_le.2 hs_ (by rw [e_];exact GW177.out)) (fun hn_ => (Kd.freshB (g := gb177) (o := .cells #[.int .i64 a1_0,.int .i64 a1_1] 48 (0,0)) (by (with_reducible repeat (first|apply blk_drewN|apply blk_drew|apply blk_alloc));exact BK177.out) k_ hn_))⟩)) (below_size (by repeat (first|(with_reducible first|exact HB.out|apply below_alloc|apply pw_below_drewN|apply below_drew1|refine below_set ?_ GE176.out|refine below_set ?_ GE177.out)|exact HB.out))));have n1_ := Aside0.mk (blk_below (g := gb176) (o := .cells #[.int .i64 a0_0,.int .i64 a0_1,.int .i64 a0_2,.int .i64 a0_3] 59 (0,0)) (by (with_reducible repeat (first|apply blk_drewN|apply blk_drew|apply blk_alloc));exact BK176.out) hb);have n2_ := Aside0.mk (blk_below (g := gb177) (o := .cells #[.int .i64 a1_0,.int .i64 a1_1] 48 (0,0)) (by (with_reducible repeat (first|apply blk_drewN|apply blk_drew|apply blk_alloc));exact BK177.out) hb);have n3_ := Aside0.mk (below_step (by repeat (first|(with_reducible first|exact HB.out|apply below_alloc|apply pw_below_drewN|apply below_drew1|refine below_set ?_ GE176.out|refine below_set ?_ GE177.out)|exact HB.out)) hb);clear BK176;clear BK177;clear HB;have HO180 := n0_;have BK176 := n1_;have BK177 := n2_;have HB := n3_;clear n0_ n1_ n2_ n3_;(try clear hb);(try clear hb2);(try clear hk);(try clear hi);(try clear ho0);have hnb11 := NB176_177.out;have hnc11 := NB177_176.out;have hcz12_0 : w10.cell? ⟨gb176,0,none⟩ = some (.int .i64 a0_0) := (blk_cell BK176.out 0).trans rfl;have hcz12_1 : w10.cell? ⟨gb176,1,none⟩ = some (.int .i64 a0_1) := (blk_cell BK176.out 1).trans rfl;have hcz12_2 : w10.cell? ⟨gb176,2,none⟩ = some (.int .i64 a0_2) := (blk_cell BK176.out 2).trans rfl;have hcz12_3 : w10.cell? ⟨gb176,3,none⟩ = some (.int .i64 a0_3) := (blk_cell BK176.out 3).trans rfl;have hfz12_0 := blk_frozen BK176.out 0;have hfz12_1 := blk_frozen BK176.out 1;have hfz12_2 := blk_frozen BK176.out 2;have hfz12_3 := blk_frozen BK176.out 3;have hcz13_0 : w10.cell? ⟨gb177,0,none⟩ = some (.int .i64 a1_0) := (blk_cell BK177.out 0).trans rfl;have hcz13_1 : w10.cell? ⟨gb177,1,none⟩ = some (.int .i64 a1_1) := (blk_cell BK177.out 1).trans rfl;have hfz13_0 := blk_frozen BK177.out 0;have hfz13_1 := blk_frozen BK177.out 1;obtain ⟨Ao14,co14,eo14⟩ := Kd.V_slice HO180.out;subst eo14)|(go_at_call 59;(with_reducible refine (purse_Serve.calls a0_0 a0_1 a0_2 a0_3 a1_0 a1_1 _ _ t178 t181 t182 t183 t184 t185 t186 t189 _ ?side1 ?side2 A5.out).mono ?_);(case side1 => repeat (first|exact (Kd.V_reads' HO180.out).2.2|(with_reducible refine Kd.C_alloc ?_ _)|(with_reducible refine Kd.C_drewN ?_ _)|(with_reducible refine Kd.C_drew ?_)));(case side2 => exact (Kd.V_reads' HO180.out).2.1);rintro e w15 ⟨v187,rfl,ho0,hb⟩;have n0_ := Aside0.mk (Kd.V_elder' (by (with_reducible repeat (first|apply Kd.V_alloc|apply Kd.V_drewN|apply Kd.V_drew));exact HO180.out) (Kd.R_base ho0) hb);have n1_ := Aside0.mk (Kd.R_lower (Kd.R_newB ho0 (g := gb177) (o := .cells #[.int .i64 a1_0,.int .i64 a1_1] 48 (0,0)) (by (with_reducible repeat (first|apply blk_drewN|apply blk_drew|apply blk_alloc));exact BK177.out)) (below_size (by repeat (first|(with_reducible first|exact HB.out|apply below_alloc|apply pw_below_drewN|apply below_drew1|refine below_set ?_ GE176.out|refine below_set ?_ GE177.out)|exact HB.out))));have n2_ := Aside0.mk (blk_below (g := gb176) (o := .cells #[.int .i64 a0_0,.int .i64 a0_1,.int .i64 a0_2,.int .i64 a0_3] 59 (0,0)) (by (with_reducible repeat (first|apply blk_drewN|apply blk_drew|apply blk_alloc));exact BK176.out) hb);have n3_ := Aside0.mk (blk_below (g := gb177) (o := .cells #[.int .i64 a1_0,.int .i64 a1_1] 48 (0,0)) (by (with_reducible repeat (first|apply blk_drewN|apply blk_drew|apply blk_alloc));exact BK177.out) hb);have n4_ := Aside0.mk (below_step (by repeat (first|(with_reducible first|exact HB.out|apply below_alloc|apply pw_below_drewN|apply below_drew1|refine below_set ?_ GE176.out|refine below_set ?_ GE177.out)|exact HB.out)) hb);clear HO180;clear BK176;clear BK177;clear HB;have HO180 := n0_;have HO188 := n1_;have BK176 := n2_;have BK177 := n3_;have HB := n4_;clear n0_ n1_ n2_ n3_ n4_;(try clear hb);(try clear hb2);(try clear hk);(try clear hi);(try clear ho0))|((with_reducible refine gate_dst (N := 7) rfl ?_);refine box_event ?hg (N := 7) ?hd (cs := #[.int .i64 0,.int .i64 0,.int .i64 0,.int .i64 0]) (t := 59) ?hr ?_;(case hd => rfl);(case hg => rfl);(case hr => first|(go_simp;done)|(go_simp;rfl));intro gb190 hg w16 hbox hb;have n0_ := Aside0.mk (Kd.V_below (Kd.V_elderB (by (with_reducible repeat (first|apply Kd.V_alloc|apply Kd.V_drewN|apply Kd.V_drew));exact HO180.out) gb190 (Nat.le_of_eq hg.symm)) hb);have n1_ := Aside0.mk (Kd.R_below (by (with_reducible repeat (first|apply Kd.R_alloc|apply Kd.R_drewN|apply Kd.R_drew));exact HO188.out) hb);have n2_ := Aside0.mk (blk_below (g := gb176) (o := .cells #[.int .i64 a0_0,.int .i64 a0_1,.int .i64 a0_2,.int .i64 a0_3] 59 (0,0)) (by (with_reducible repeat (first|apply blk_drewN|apply blk_drew|apply blk_alloc));exact BK176.out) hb);have n3_ := Aside0.mk (blk_below (g := gb177) (o := .cells #[.int .i64 a1_0,.int .i64 a1_1] 48 (0,0)) (by (with_reducible repeat (first|apply blk_drewN|apply blk_drew|apply blk_alloc));exact BK177.out) hb);have n4_ := Aside0.mk (below_step (by repeat (first|(with_reducible first|exact HB.out|apply below_alloc|apply pw_below_drewN|apply below_drew1|refine below_set ?_ GE176.out|refine below_set ?_ GE177.out)|exact HB.out)) hb);have n5_ := Aside0.mk (hbox);have n6_ := Aside0.mk ((by rw [hg];exact (below_size (by repeat (first|(with_reducible first|exact HB.out|apply below_alloc|apply pw_below_drewN|apply below_drew1|refine below_set ?_ GE176.out|refine below_set ?_ GE177.out)|exact HB.out))) : w.heap.size ≤ gb190));have n7_ := Aside0.mk ((by rw [hg];exact (below_size (by repeat (first|(with_reducible first|exact HB.out|apply below_alloc|apply pw_below_drewN|apply below_drew1|refine below_set ?_ GE176.out|refine below_set ?_ GE177.out)|exact HB.out))) : w.heap.size ≤ gb190));have n8_ := Aside0.mk ((by rw [hg];exact Nat.ne_of_lt (blk_lt (g := gb176) (o := .cells #[.int .i64 a0_0,.int .i64 a0_1,.int .i64 a0_2,.int .i64 a0_3] 59 (0,0)) (by (with_reducible repeat (first|apply blk_drewN|apply blk_drew|apply blk_alloc));exact BK176.out)) : gb176 ≠ gb190));have n9_ := Aside0.mk ((by rw [hg];exact Nat.ne_of_gt (blk_lt (g := gb176) (o := .cells #[.int .i64 a0_0,.int .i64 a0_1,.int .i64 a0_2,.int .i64 a0_3] 59 (0,0)) (by (with_reducible repeat (first|apply blk_drewN|apply blk_drew|apply blk_alloc));exact BK176.out)) : gb190 ≠ gb176));have n10_ := Aside0.mk ((by rw [hg];exact Nat.ne_of_lt (blk_lt (g := gb177) (o := .cells #[.int .i64 a1_0,.int .i64 a1_1] 48 (0,0)) (by (with_reducible repeat (first|apply blk_drewN|apply blk_drew|apply blk_alloc));exact BK177.out)) : gb177 ≠ gb190));have n11_ := Aside0.mk ((by rw [hg];exact Nat.ne_of_gt (blk_lt (g := gb177) (o := .cells #[.int .i64 a1_0,.int .i64 a1_1] 48 (0,0)) (by (with_reducible repeat (first|apply blk_drewN|apply blk_drew|apply blk_alloc));exact BK177.out)) : gb190 ≠ gb177));clear HO180;clear HO188;clear BK176;clear BK177;clear HB;have HO180 := n0_;have HO188 := n1_;have BK176 := n2_;have BK177 := n3_;have HB := n4_;have BK190 := n5_;have GW190 := n6_;have GE190 := n7_;have NB176_190 := n8_;have NB190_176 := n9_;have NB177_190 := n10_;have NB190_177 := n11_;clear n0_ n1_ n2_ n3_ n4_ n5_ n6_ n7_ n8_ n9_ n10_ n11_;clear hb hbox hg;have hnb17 := NB190_176.out;have hnc17 := NB176_190.out;have hnb18 := NB190_177.out;have hnc18 := NB177_190.out;have hcz19_0 : w16.cell? ⟨gb190,0,none⟩ = some (.int .i64 0) := (blk_cell BK190.out 0).trans rfl;have hcz19_1 : w16.cell? ⟨gb190,1,none⟩ = some (.int .i64 0) := (blk_cell BK190.out 1).trans rfl;have hcz19_2 : w16.cell? ⟨gb190,2,none⟩ = some (.int .i64 0) := (blk_cell BK190.out 2).trans rfl;have hcz19_3 : w16.cell? ⟨gb190,3,none⟩ = some (.int .i64 0) := (blk_cell BK190.out 3).trans rfl;have hfz19_0 := blk_frozen BK190.out 0;have hfz19_1 := blk_frozen BK190.out 1;have hfz19_2 := blk_frozen BK190.out 2;have hfz19_3 := blk_frozen BK190.out 3))
  repeat (go_quiet (first|((with_reducible refine gate_dst (N := 3) rfl ?_);refine box_event ?hg (N := 3) ?hd (cs := #[.int .i64 a0_0,.int .i64 a0_1,.int .i64 a0_2,.int .i64 a0_3]) (t := 59) ?hr ?_;(case hd => rfl);(case hg => rfl);(case hr => first|(go_simp;done)|(go_simp;rfl));intro gb176 hg w8 hbox hb;have n0_ := Aside0.mk (below_step (by repeat (first|(with_reducible first|exact HB.out|apply below_alloc|apply pw_below_drewN|apply below_drew1)|exact HB.out)) hb);have n1_ := Aside0.mk (hbox);have n2_ := Aside0.mk ((by rw [hg];exact (below_size (by repeat (first|(with_reducible first|exact HB.out|apply below_alloc|apply pw_below_drewN|apply below_drew1)|exact HB.out))) : w.heap.size ≤ gb176));have n3_ := Aside0.mk ((by rw [hg];exact (below_size (by repeat (first|(with_reducible first|exact HB.out|apply below_alloc|apply pw_below_drewN|apply below_drew1)|exact HB.out))) : w.heap.size ≤ gb176));clear HB;have HB := n0_;have BK176 := n1_;have GW176 := n2_;have GE176 := n3_;clear n0_ n1_ n2_ n3_;clear hb hbox hg)|((with_reducible refine gate_dst (N := 4) rfl ?_);refine box_event ?hg (N := 4) ?hd (cs := #[.int .i64 a1_0,.int .i64 a1_1]) (t := 48) ?hr ?_;(case hd => rfl);(case hg => rfl);(case hr => first|(go_simp;done)|(go_simp;rfl));intro gb177 hg w9 hbox hb;have n0_ := Aside0.mk (blk_below (g := gb176) (o := .cells #[.int .i64 a0_0,.int .i64 a0_1,.int .i64 a0_2,.int .i64 a0_3] 59 (0,0)) (by (with_reducible repeat (first|apply blk_drewN|apply blk_drew|apply blk_alloc));exact BK176.out) hb);have n1_ := Aside0.mk (below_step (by repeat (first|(with_reducible first|exact HB.out|apply below_alloc|apply pw_below_drewN|apply below_drew1|refine below_set ?_ GE176.out)|exact HB.out)) hb);have n2_ := Aside0.mk (hbox);have n3_ := Aside0.mk ((by rw [hg];exact (below_size (by repeat (first|(with_reducible first|exact HB.out|apply below_alloc|apply pw_below_drewN|apply below_drew1|refine below_set ?_ GE176.out)|exact HB.out))) : w.heap.size ≤ gb177));have n4_ := Aside0.mk ((by rw [hg];exact (below_size (by repeat (first|(with_reducible first|exact HB.out|apply below_alloc|apply pw_below_drewN|apply below_drew1|refine below_set ?_ GE176.out)|exact HB.out))) : w.heap.size ≤ gb177));have n5_ := Aside0.mk ((by rw [hg];exact Nat.ne_of_lt (blk_lt (g := gb176) (o := .cells #[.int .i64 a0_0,.int .i64 a0_1,.int .i64 a0_2,.int .i64 a0_3] 59 (0,0)) (by (with_reducible repeat (first|apply blk_drewN|apply blk_drew|apply blk_alloc));exact BK176.out)) : gb176 ≠ gb177));have n6_ := Aside0.mk ((by rw [hg];exact Nat.ne_of_gt (blk_lt (g := gb176) (o := .cells #[.int .i64 a0_0,.int .i64 a0_1,.int .i64 a0_2,.int .i64 a0_3] 59 (0,0)) (by (with_reducible repeat (first|apply blk_drewN|apply blk_drew|apply blk_alloc));exact BK176.out)) : gb177 ≠ gb176));clear BK176;clear HB;have BK176 := n0_;have HB := n1_;have BK177 := n2_;have GW177 := n3_;have GE177 := n4_;have NB176_177 := n5_;have NB177_176 := n6_;clear n0_ n1_ n2_ n3_ n4_ n5_ n6_;clear hb hbox hg)|(go_at_call 58;(with_reducible refine (bivouaclaw19_few.calls (fun k_ => k_ < w.heap.size) _ _ l2 t178 _ ?side1 A4.out).mono ?_);(case side1 => exact Kd.V_mk HC2.out (Kd.F_below (Kd.C_F k48_heap HR2.out) (by repeat (first|(with_reducible first|exact HB.out|apply below_alloc|apply pw_below_drewN|apply below_drew1|refine below_set ?_ GE176.out|refine below_set ?_ GE177.out)|exact HB.out))));rintro e w10 ⟨v179,rfl,ho0,hb⟩;have n0_ := Aside0.mk (Kd.V_lower (Kd.V_mono (ok' := fun k_ => k_ ≠ gb176 ∧ k_ ≠ gb177) ho0 (fun k_ hk_ => ⟨Or.elim hk_ (fun hs_ => fun e_ => Nat.not_le.2 hs_ (by rw [e_];exact GW176.out)) (fun hn_ => (Kd.freshB (g := gb176) (o := .cells #[.int .i64 a0_0,.int .i64 a0_1,.int .i64 a0_2,.int .i64 a0_3] 59 (0,0)) (by (with_reducible repeat (first|apply blk_drewN|apply blk_drew|apply blk_alloc));exact BK176.out) k_ hn_)),Or.elim hk_ (fun hs_ => fun e_ => Nat.not_le.2 hs_ (by rw [e_];exact GW177.out)) (fun hn_ => (Kd.freshB (g := gb177) (o := .cells #[.int .i64 a1_0,.int .i64 a1_1] 48 (0,0)) (by (with_reducible repeat (first|apply blk_drewN|apply blk_drew|apply blk_alloc));exact BK177.out) k_ hn_))⟩)) (below_size (by repeat (first|(with_reducible first|exact HB.out|apply below_alloc|apply pw_below_drewN|apply below_drew1|refine below_set ?_ GE176.out|refine below_set ?_ GE177.out)|exact HB.out))));have n1_ := Aside0.mk (blk_below (g := gb176) (o := .cells #[.int .i64 a0_0,.int .i64 a0_1,.int .i64 a0_2,.int .i64 a0_3] 59 (0,0)) (by (with_reducible repeat (first|apply blk_drewN|apply blk_drew|apply blk_alloc));exact BK176.out) hb);have n2_ := Aside0.mk (blk_below (g := gb177) (o := .cells #[.int .i64 a1_0,.int .i64 a1_1] 48 (0,0)) (by (with_reducible repeat (first|apply blk_drewN|apply blk_drew|apply blk_alloc));exact BK177.out) hb);have n3_ := Aside0.mk (below_step (by repeat (first|(with_reducible first|exact HB.out|apply below_alloc|apply pw_below_drewN|apply below_drew1|refine below_set ?_ GE176.out|refine below_set ?_ GE177.out)|exact HB.out)) hb);clear BK176;clear BK177;clear HB;have HO180 := n0_;have BK176 := n1_;have BK177 := n2_;have HB := n3_;clear n0_ n1_ n2_ n3_;(try clear hb);(try clear hb2);(try clear hk);(try clear hi);(try clear ho0);have hnb11 := NB176_177.out;have hnc11 := NB177_176.out;have hcz12_0 : w10.cell? ⟨gb176,0,none⟩ = some (.int .i64 a0_0) := (blk_cell BK176.out 0).trans rfl;have hcz12_1 : w10.cell? ⟨gb176,1,none⟩ = some (.int .i64 a0_1) := (blk_cell BK176.out 1).trans rfl;have hcz12_2 : w10.cell? ⟨gb176,2,none⟩ = some (.int .i64 a0_2) := (blk_cell BK176.out 2).trans rfl;have hcz12_3 : w10.cell? ⟨gb176,3,none⟩ = some (.int .i64 a0_3) := (blk_cell BK176.out 3).trans rfl;have hfz12_0 := blk_frozen BK176.out 0;have hfz12_1 := blk_frozen BK176.out 1;have hfz12_2 := blk_frozen BK176.out 2;have hfz12_3 := blk_frozen BK176.out 3;have hcz13_0 : w10.cell? ⟨gb177,0,none⟩ = some (.int .i64 a1_0) := (blk_cell BK177.out 0).trans rfl;have hcz13_1 : w10.cell? ⟨gb177,1,none⟩ = some (.int .i64 a1_1) := (blk_cell BK177.out 1).trans rfl;have hfz13_0 := blk_frozen BK177.out 0;have hfz13_1 := blk_frozen BK177.out 1;obtain ⟨Ao14,co14,eo14⟩ := Kd.V_slice HO180.out;subst eo14)|(go_at_call 59;(with_reducible refine (purse_Serve.calls a0_0 a0_1 a0_2 a0_3 a1_0 a1_1 _ _ t178 t181 t182 t183 t184 t185 t186 t189 _ ?side1 ?side2 A5.out).mono ?_);(case side1 => repeat (first|exact (Kd.V_reads' HO180.out).2.2|(with_reducible refine Kd.C_alloc ?_ _)|(with_reducible refine Kd.C_drewN ?_ _)|(with_reducible refine Kd.C_drew ?_)));(case side2 => exact (Kd.V_reads' HO180.out).2.1);rintro e w15 ⟨v187,rfl,ho0,hb⟩;have n0_ := Aside0.mk (Kd.V_elder' (by (with_reducible repeat (first|apply Kd.V_alloc|apply Kd.V_drewN|apply Kd.V_drew));exact HO180.out) (Kd.R_base ho0) hb);have n1_ := Aside0.mk (Kd.R_lower (Kd.R_newB ho0 (g := gb177) (o := .cells #[.int .i64 a1_0,.int .i64 a1_1] 48 (0,0)) (by (with_reducible repeat (first|apply blk_drewN|apply blk_drew|apply blk_alloc));exact BK177.out)) (below_size (by repeat (first|(with_reducible first|exact HB.out|apply below_alloc|apply pw_below_drewN|apply below_drew1|refine below_set ?_ GE176.out|refine below_set ?_ GE177.out)|exact HB.out))));have n2_ := Aside0.mk (blk_below (g := gb176) (o := .cells #[.int .i64 a0_0,.int .i64 a0_1,.int .i64 a0_2,.int .i64 a0_3] 59 (0,0)) (by (with_reducible repeat (first|apply blk_drewN|apply blk_drew|apply blk_alloc));exact BK176.out) hb);have n3_ := Aside0.mk (blk_below (g := gb177) (o := .cells #[.int .i64 a1_0,.int .i64 a1_1] 48 (0,0)) (by (with_reducible repeat (first|apply blk_drewN|apply blk_drew|apply blk_alloc));exact BK177.out) hb);have n4_ := Aside0.mk (below_step (by repeat (first|(with_reducible first|exact HB.out|apply below_alloc|apply pw_below_drewN|apply below_drew1|refine below_set ?_ GE176.out|refine below_set ?_ GE177.out)|exact HB.out)) hb);clear HO180;clear BK176;clear BK177;clear HB;have HO180 := n0_;have HO188 := n1_;have BK176 := n2_;have BK177 := n3_;have HB := n4_;clear n0_ n1_ n2_ n3_ n4_;(try clear hb);(try clear hb2);(try clear hk);(try clear hi);(try clear ho0))|((with_reducible refine gate_dst (N := 7) rfl ?_);refine box_event ?hg (N := 7) ?hd (cs := #[.int .i64 0,.int .i64 0,.int .i64 0,.int .i64 0]) (t := 59) ?hr ?_;(case hd => rfl);(case hg => rfl);(case hr => first|(go_simp;done)|(go_simp;rfl));intro gb190 hg w16 hbox hb;have n0_ := Aside0.mk (Kd.V_below (Kd.V_elderB (by (with_reducible repeat (first|apply Kd.V_alloc|apply Kd.V_drewN|apply Kd.V_drew));exact HO180.out) gb190 (Nat.le_of_eq hg.symm)) hb);have n1_ := Aside0.mk (Kd.R_below (by (with_reducible repeat (first|apply Kd.R_alloc|apply Kd.R_drewN|apply Kd.R_drew));exact HO188.out) hb);have n2_ := Aside0.mk (blk_below (g := gb176) (o := .cells #[.int .i64 a0_0,.int .i64 a0_1,.int .i64 a0_2,.int .i64 a0_3] 59 (0,0)) (by (with_reducible repeat (first|apply blk_drewN|apply blk_drew|apply blk_alloc));exact BK176.out) hb);have n3_ := Aside0.mk (blk_below (g := gb177) (o := .cells #[.int .i64 a1_0,.int .i64 a1_1] 48 (0,0)) (by (with_reducible repeat (first|apply blk_drewN|apply blk_drew|apply blk_alloc));exact BK177.out) hb);have n4_ := Aside0.mk (below_step (by repeat (first|(with_reducible first|exact HB.out|apply below_alloc|apply pw_below_drewN|apply below_drew1|refine below_set ?_ GE176.out|refine below_set ?_ GE177.out)|exact HB.out)) hb);have n5_ := Aside0.mk (hbox);have n6_ := Aside0.mk ((by rw [hg];exact (below_size (by repeat (first|(with_reducible first|exact HB.out|apply below_alloc|apply pw_below_drewN|apply below_drew1|refine below_set ?_ GE176.out|refine below_set ?_ GE177.out)|exact HB.out))) : w.heap.size ≤ gb190));have n7_ := Aside0.mk ((by rw [hg];exact (below_size (by repeat (first|(with_reducible first|exact HB.out|apply below_alloc|apply pw_below_drewN|apply below_drew1|refine below_set ?_ GE176.out|refine below_set ?_ GE177.out)|exact HB.out))) : w.heap.size ≤ gb190));have n8_ := Aside0.mk ((by rw [hg];exact Nat.ne_of_lt (blk_lt (g := gb176) (o := .cells #[.int .i64 a0_0,.int .i64 a0_1,.int .i64 a0_2,.int .i64 a0_3] 59 (0,0)) (by (with_reducible repeat (first|apply blk_drewN|apply blk_drew|apply blk_alloc));exact BK176.out)) : gb176 ≠ gb190));have n9_ := Aside0.mk ((by rw [hg];exact Nat.ne_of_gt (blk_lt (g := gb176) (o := .cells #[.int .i64 a0_0,.int .i64 a0_1,.int .i64 a0_2,.int .i64 a0_3] 59 (0,0)) (by (with_reducible repeat (first|apply blk_drewN|apply blk_drew|apply blk_alloc));exact BK176.out)) : gb190 ≠ gb176));have n10_ := Aside0.mk ((by rw [hg];exact Nat.ne_of_lt (blk_lt (g := gb177) (o := .cells #[.int .i64 a1_0,.int .i64 a1_1] 48 (0,0)) (by (with_reducible repeat (first|apply blk_drewN|apply blk_drew|apply blk_alloc));exact BK177.out)) : gb177 ≠ gb190));have n11_ := Aside0.mk ((by rw [hg];exact Nat.ne_of_gt (blk_lt (g := gb177) (o := .cells #[.int .i64 a1_0,.int .i64 a1_1] 48 (0,0)) (by (with_reducible repeat (first|apply blk_drewN|apply blk_drew|apply blk_alloc));exact BK177.out)) : gb190 ≠ gb177));clear HO180;clear HO188;clear BK176;clear BK177;clear HB;have HO180 := n0_;have HO188 := n1_;have BK176 := n2_;have BK177 := n3_;have HB := n4_;have BK190 := n5_;have GW190 := n6_;have GE190 := n7_;have NB176_190 := n8_;have NB190_176 := n9_;have NB177_190 := n10_;have NB190_177 := n11_;clear n0_ n1_ n2_ n3_ n4_ n5_ n6_ n7_ n8_ n9_ n10_ n11_;clear hb hbox hg;have hnb17 := NB190_176.out;have hnc17 := NB176_190.out;have hnb18 := NB190_177.out;have hnc18 := NB177_190.out;have hcz19_0 : w16.cell? ⟨gb190,0,none⟩ = some (.int .i64 0) := (blk_cell BK190.out 0).trans rfl;have hcz19_1 : w16.cell? ⟨gb190,1,none⟩ = some (.int .i64 0) := (blk_cell BK190.out 1).trans rfl;have hcz19_2 : w16.cell? ⟨gb190,2,none⟩ = some (.int .i64 0) := (blk_cell BK190.out 2).trans rfl;have hcz19_3 : w16.cell? ⟨gb190,3,none⟩ = some (.int .i64 0) := (blk_cell BK190.out 3).trans rfl;have hfz19_0 := blk_frozen BK190.out 0;have hfz19_1 := blk_frozen BK190.out 1;have hfz19_2 := blk_frozen BK190.out 2;have hfz19_3 := blk_frozen BK190.out 3));go_upto_region 5 with (first|((with_reducible refine gate_dst (N := 3) rfl ?_);refine box_event ?hg (N := 3) ?hd (cs := #[.int .i64 a0_0,.int .i64 a0_1,.int .i64 a0_2,.int .i64 a0_3]) (t := 59) ?hr ?_;(case hd => rfl);(case hg => rfl);(case hr => first|(go_simp;done)|(go_simp;rfl));intro gb176 hg w8 hbox hb;have n0_ := Aside0.mk (below_step (by repeat (first|(with_reducible first|exact HB.out|apply below_alloc|apply pw_below_drewN|apply below_drew1)|exact HB.out)) hb);have n1_ := Aside0.mk (hbox);have n2_ := Aside0.mk ((by rw [hg];exact (below_size (by repeat (first|(with_reducible first|exact HB.out|apply below_alloc|apply pw_below_drewN|apply below_drew1)|exact HB.out))) : w.heap.size ≤ gb176));have n3_ := Aside0.mk ((by rw [hg];exact (below_size (by repeat (first|(with_reducible first|exact HB.out|apply below_alloc|apply pw_below_drewN|apply below_drew1)|exact HB.out))) : w.heap.size ≤ gb176));clear HB;have HB := n0_;have BK176 := n1_;have GW176 := n2_;have GE176 := n3_;clear n0_ n1_ n2_ n3_;clear hb hbox hg)|((with_reducible refine gate_dst (N := 4) rfl ?_);refine box_event ?hg (N := 4) ?hd (cs := #[.int .i64 a1_0,.int .i64 a1_1]) (t := 48) ?hr ?_;(case hd => rfl);(case hg => rfl);(case hr => first|(go_simp;done)|(go_simp;rfl));intro gb177 hg w9 hbox hb;have n0_ := Aside0.mk (blk_below (g := gb176) (o := .cells #[.int .i64 a0_0,.int .i64 a0_1,.int .i64 a0_2,.int .i64 a0_3] 59 (0,0)) (by (with_reducible repeat (first|apply blk_drewN|apply blk_drew|apply blk_alloc));exact BK176.out) hb);have n1_ := Aside0.mk (below_step (by repeat (first|(with_reducible first|exact HB.out|apply below_alloc|apply pw_below_drewN|apply below_drew1|refine below_set ?_ GE176.out)|exact HB.out)) hb);have n2_ := Aside0.mk (hbox);have n3_ := Aside0.mk ((by rw [hg];exact (below_size (by repeat (first|(with_reducible first|exact HB.out|apply below_alloc|apply pw_below_drewN|apply below_drew1|refine below_set ?_ GE176.out)|exact HB.out))) : w.heap.size ≤ gb177));have n4_ := Aside0.mk ((by rw [hg];exact (below_size (by repeat (first|(with_reducible first|exact HB.out|apply below_alloc|apply pw_below_drewN|apply below_drew1|refine below_set ?_ GE176.out)|exact HB.out))) : w.heap.size ≤ gb177));have n5_ := Aside0.mk ((by rw [hg];exact Nat.ne_of_lt (blk_lt (g := gb176) (o := .cells #[.int .i64 a0_0,.int .i64 a0_1,.int .i64 a0_2,.int .i64 a0_3] 59 (0,0)) (by (with_reducible repeat (first|apply blk_drewN|apply blk_drew|apply blk_alloc));exact BK176.out)) : gb176 ≠ gb177));have n6_ := Aside0.mk ((by rw [hg];exact Nat.ne_of_gt (blk_lt (g := gb176) (o := .cells #[.int .i64 a0_0,.int .i64 a0_1,.int .i64 a0_2,.int .i64 a0_3] 59 (0,0)) (by (with_reducible repeat (first|apply blk_drewN|apply blk_drew|apply blk_alloc));exact BK176.out)) : gb177 ≠ gb176));clear BK176;clear HB;have BK176 := n0_;have HB := n1_;have BK177 := n2_;have GW177 := n3_;have GE177 := n4_;have NB176_177 := n5_;have NB177_176 := n6_;clear n0_ n1_ n2_ n3_ n4_ n5_ n6_;clear hb hbox hg)|(go_at_call 58;(with_reducible refine (bivouaclaw19_few.calls (fun k_ => k_ < w.heap.size) _ _ l2 t178 _ ?side1 A4.out).mono ?_);(case side1 => exact Kd.V_mk HC2.out (Kd.F_below (Kd.C_F k48_heap HR2.out) (by repeat (first|(with_reducible first|exact HB.out|apply below_alloc|apply pw_below_drewN|apply below_drew1|refine below_set ?_ GE176.out|refine below_set ?_ GE177.out)|exact HB.out))));rintro e w10 ⟨v179,rfl,ho0,hb⟩;have n0_ := Aside0.mk (Kd.V_lower (Kd.V_mono (ok' := fun k_ => k_ ≠ gb176 ∧ k_ ≠ gb177) ho0 (fun k_ hk_ => ⟨Or.elim hk_ (fun hs_ => fun e_ => Nat.not_le.2 hs_ (by rw [e_];exact GW176.out)) (fun hn_ => (Kd.freshB (g := gb176) (o := .cells #[.int .i64 a0_0,.int .i64 a0_1,.int .i64 a0_2,.int .i64 a0_3] 59 (0,0)) (by (with_reducible repeat (first|apply blk_drewN|apply blk_drew|apply blk_alloc));exact BK176.out) k_ hn_)),Or.elim hk_ (fun hs_ => fun e_ => Nat.not_le.2 hs_ (by rw [e_];exact GW177.out)) (fun hn_ => (Kd.freshB (g := gb177) (o := .cells #[.int .i64 a1_0,.int .i64 a1_1] 48 (0,0)) (by (with_reducible repeat (first|apply blk_drewN|apply blk_drew|apply blk_alloc));exact BK177.out) k_ hn_))⟩)) (below_size (by repeat (first|(with_reducible first|exact HB.out|apply below_alloc|apply pw_below_drewN|apply below_drew1|refine below_set ?_ GE176.out|refine below_set ?_ GE177.out)|exact HB.out))));have n1_ := Aside0.mk (blk_below (g := gb176) (o := .cells #[.int .i64 a0_0,.int .i64 a0_1,.int .i64 a0_2,.int .i64 a0_3] 59 (0,0)) (by (with_reducible repeat (first|apply blk_drewN|apply blk_drew|apply blk_alloc));exact BK176.out) hb);have n2_ := Aside0.mk (blk_below (g := gb177) (o := .cells #[.int .i64 a1_0,.int .i64 a1_1] 48 (0,0)) (by (with_reducible repeat (first|apply blk_drewN|apply blk_drew|apply blk_alloc));exact BK177.out) hb);have n3_ := Aside0.mk (below_step (by repeat (first|(with_reducible first|exact HB.out|apply below_alloc|apply pw_below_drewN|apply below_drew1|refine below_set ?_ GE176.out|refine below_set ?_ GE177.out)|exact HB.out)) hb);clear BK176;clear BK177;clear HB;have HO180 := n0_;have BK176 := n1_;have BK177 := n2_;have HB := n3_;clear n0_ n1_ n2_ n3_;(try clear hb);(try clear hb2);(try clear hk);(try clear hi);(try clear ho0);have hnb11 := NB176_177.out;have hnc11 := NB177_176.out;have hcz12_0 : w10.cell? ⟨gb176,0,none⟩ = some (.int .i64 a0_0) := (blk_cell BK176.out 0).trans rfl;have hcz12_1 : w10.cell? ⟨gb176,1,none⟩ = some (.int .i64 a0_1) := (blk_cell BK176.out 1).trans rfl;have hcz12_2 : w10.cell? ⟨gb176,2,none⟩ = some (.int .i64 a0_2) := (blk_cell BK176.out 2).trans rfl;have hcz12_3 : w10.cell? ⟨gb176,3,none⟩ = some (.int .i64 a0_3) := (blk_cell BK176.out 3).trans rfl;have hfz12_0 := blk_frozen BK176.out 0;have hfz12_1 := blk_frozen BK176.out 1;have hfz12_2 := blk_frozen BK176.out 2;have hfz12_3 := blk_frozen BK176.out 3;have hcz13_0 : w10.cell? ⟨gb177,0,none⟩ = some (.int .i64 a1_0) := (blk_cell BK177.out 0).trans rfl;have hcz13_1 : w10.cell? ⟨gb177,1,none⟩ = some (.int .i64 a1_1) := (blk_cell BK177.out 1).trans rfl;have hfz13_0 := blk_frozen BK177.out 0;have hfz13_1 := blk_frozen BK177.out 1;obtain ⟨Ao14,co14,eo14⟩ := Kd.V_slice HO180.out;subst eo14)|(go_at_call 59;(with_reducible refine (purse_Serve.calls a0_0 a0_1 a0_2 a0_3 a1_0 a1_1 _ _ t178 t181 t182 t183 t184 t185 t186 t189 _ ?side1 ?side2 A5.out).mono ?_);(case side1 => repeat (first|exact (Kd.V_reads' HO180.out).2.2|(with_reducible refine Kd.C_alloc ?_ _)|(with_reducible refine Kd.C_drewN ?_ _)|(with_reducible refine Kd.C_drew ?_)));(case side2 => exact (Kd.V_reads' HO180.out).2.1);rintro e w15 ⟨v187,rfl,ho0,hb⟩;have n0_ := Aside0.mk (Kd.V_elder' (by (with_reducible repeat (first|apply Kd.V_alloc|apply Kd.V_drewN|apply Kd.V_drew));exact HO180.out) (Kd.R_base ho0) hb);have n1_ := Aside0.mk (Kd.R_lower (Kd.R_newB ho0 (g := gb177) (o := .cells #[.int .i64 a1_0,.int .i64 a1_1] 48 (0,0)) (by (with_reducible repeat (first|apply blk_drewN|apply blk_drew|apply blk_alloc));exact BK177.out)) (below_size (by repeat (first|(with_reducible first|exact HB.out|apply below_alloc|apply pw_below_drewN|apply below_drew1|refine below_set ?_ GE176.out|refine below_set ?_ GE177.out)|exact HB.out))));have n2_ := Aside0.mk (blk_below (g := gb176) (o := .cells #[.int .i64 a0_0,.int .i64 a0_1,.int .i64 a0_2,.int .i64 a0_3] 59 (0,0)) (by (with_reducible repeat (first|apply blk_drewN|apply blk_drew|apply blk_alloc));exact BK176.out) hb);have n3_ := Aside0.mk (blk_below (g := gb177) (o := .cells #[.int .i64 a1_0,.int .i64 a1_1] 48 (0,0)) (by (with_reducible repeat (first|apply blk_drewN|apply blk_drew|apply blk_alloc));exact BK177.out) hb);have n4_ := Aside0.mk (below_step (by repeat (first|(with_reducible first|exact HB.out|apply below_alloc|apply pw_below_drewN|apply below_drew1|refine below_set ?_ GE176.out|refine below_set ?_ GE177.out)|exact HB.out)) hb);clear HO180;clear BK176;clear BK177;clear HB;have HO180 := n0_;have HO188 := n1_;have BK176 := n2_;have BK177 := n3_;have HB := n4_;clear n0_ n1_ n2_ n3_ n4_;(try clear hb);(try clear hb2);(try clear hk);(try clear hi);(try clear ho0))|((with_reducible refine gate_dst (N := 7) rfl ?_);refine box_event ?hg (N := 7) ?hd (cs := #[.int .i64 0,.int .i64 0,.int .i64 0,.int .i64 0]) (t := 59) ?hr ?_;(case hd => rfl);(case hg => rfl);(case hr => first|(go_simp;done)|(go_simp;rfl));intro gb190 hg w16 hbox hb;have n0_ := Aside0.mk (Kd.V_below (Kd.V_elderB (by (with_reducible repeat (first|apply Kd.V_alloc|apply Kd.V_drewN|apply Kd.V_drew));exact HO180.out) gb190 (Nat.le_of_eq hg.symm)) hb);have n1_ := Aside0.mk (Kd.R_below (by (with_reducible repeat (first|apply Kd.R_alloc|apply Kd.R_drewN|apply Kd.R_drew));exact HO188.out) hb);have n2_ := Aside0.mk (blk_below (g := gb176) (o := .cells #[.int .i64 a0_0,.int .i64 a0_1,.int .i64 a0_2,.int .i64 a0_3] 59 (0,0)) (by (with_reducible repeat (first|apply blk_drewN|apply blk_drew|apply blk_alloc));exact BK176.out) hb);have n3_ := Aside0.mk (blk_below (g := gb177) (o := .cells #[.int .i64 a1_0,.int .i64 a1_1] 48 (0,0)) (by (with_reducible repeat (first|apply blk_drewN|apply blk_drew|apply blk_alloc));exact BK177.out) hb);have n4_ := Aside0.mk (below_step (by repeat (first|(with_reducible first|exact HB.out|apply below_alloc|apply pw_below_drewN|apply below_drew1|refine below_set ?_ GE176.out|refine below_set ?_ GE177.out)|exact HB.out)) hb);have n5_ := Aside0.mk (hbox);have n6_ := Aside0.mk ((by rw [hg];exact (below_size (by repeat (first|(with_reducible first|exact HB.out|apply below_alloc|apply pw_below_drewN|apply below_drew1|refine below_set ?_ GE176.out|refine below_set ?_ GE177.out)|exact HB.out))) : w.heap.size ≤ gb190));have n7_ := Aside0.mk ((by rw [hg];exact (below_size (by repeat (first|(with_reducible first|exact HB.out|apply below_alloc|apply pw_below_drewN|apply below_drew1|refine below_set ?_ GE176.out|refine below_set ?_ GE177.out)|exact HB.out))) : w.heap.size ≤ gb190));have n8_ := Aside0.mk ((by rw [hg];exact Nat.ne_of_lt (blk_lt (g := gb176) (o := .cells #[.int .i64 a0_0,.int .i64 a0_1,.int .i64 a0_2,.int .i64 a0_3] 59 (0,0)) (by (with_reducible repeat (first|apply blk_drewN|apply blk_drew|apply blk_alloc));exact BK176.out)) : gb176 ≠ gb190));have n9_ := Aside0.mk ((by rw [hg];exact Nat.ne_of_gt (blk_lt (g := gb176) (o := .cells #[.int .i64 a0_0,.int .i64 a0_1,.int .i64 a0_2,.int .i64 a0_3] 59 (0,0)) (by (with_reducible repeat (first|apply blk_drewN|apply blk_drew|apply blk_alloc));exact BK176.out)) : gb190 ≠ gb176));have n10_ := Aside0.mk ((by rw [hg];exact Nat.ne_of_lt (blk_lt (g := gb177) (o := .cells #[.int .i64 a1_0,.int .i64 a1_1] 48 (0,0)) (by (with_reducible repeat (first|apply blk_drewN|apply blk_drew|apply blk_alloc));exact BK177.out)) : gb177 ≠ gb190));have n11_ := Aside0.mk ((by rw [hg];exact Nat.ne_of_gt (blk_lt (g := gb177) (o := .cells #[.int .i64 a1_0,.int .i64 a1_1] 48 (0,0)) (by (with_reducible repeat (first|apply blk_drewN|apply blk_drew|apply blk_alloc));exact BK177.out)) : gb190 ≠ gb177));clear HO180;clear HO188;clear BK176;clear BK177;clear HB;have HO180 := n0_;have HO188 := n1_;have BK176 := n2_;have BK177 := n3_;have HB := n4_;have BK190 := n5_;have GW190 := n6_;have GE190 := n7_;have NB176_190 := n8_;have NB190_176 := n9_;have NB177_190 := n10_;have NB190_177 := n11_;clear n0_ n1_ n2_ n3_ n4_ n5_ n6_ n7_ n8_ n9_ n10_ n11_;clear hb hbox hg;have hnb17 := NB190_176.out;have hnc17 := NB176_190.out;have hnb18 := NB190_177.out;have hnc18 := NB177_190.out;have hcz19_0 : w16.cell? ⟨gb190,0,none⟩ = some (.int .i64 0) := (blk_cell BK190.out 0).trans rfl;have hcz19_1 : w16.cell? ⟨gb190,1,none⟩ = some (.int .i64 0) := (blk_cell BK190.out 1).trans rfl;have hcz19_2 : w16.cell? ⟨gb190,2,none⟩ = some (.int .i64 0) := (blk_cell BK190.out 2).trans rfl;have hcz19_3 : w16.cell? ⟨gb190,3,none⟩ = some (.int .i64 0) := (blk_cell BK190.out 3).trans rfl;have hfz19_0 := blk_frozen BK190.out 0;have hfz19_1 := blk_frozen BK190.out 1;have hfz19_2 := blk_frozen BK190.out 2;have hfz19_3 := blk_frozen BK190.out 3)))
  (try simp only [Act.put,List.setIfInBounds_toArray,List.set_cons_zero,List.set_cons_succ])
  go_cut [55] (fun v55 wc => ∃ (kq : Nat) (x55_6 : Bool),v55 = .bool x55_6 ∧ Aside0 (bivouaclaw19_PurseFair.j0 kq t178 t186 x55_6 a0_0 a0_1 a0_2 a0_3 a1_0 a1_1 t181 t182 t183 t184 = some true) ∧ Aside0 (kq ≤ k) ∧ Aside0 (Kd.V k48 48 wc w.heap.size (fun k_ => some k_ ≠ (v187 : Value).ownBlock ∧ k_ ≠ gb176 ∧ k_ ≠ gb177 ∧ k_ ≠ gb190) (.slice Ao14 t178.length co14) t178) ∧ Aside0 (Kd.R k48 48 wc w.heap.size (fun k_ => k_ ≠ gb177) v187 t186) ∧ Aside0 (wc.heap[gb176]? = some (.cells #[.int .i64 a0_0,.int .i64 a0_1,.int .i64 a0_2,.int .i64 a0_3] 59 (0,0))) ∧ Aside0 (wc.heap[gb177]? = some (.cells #[.int .i64 a1_0,.int .i64 a1_1] 48 (0,0))) ∧ Aside0 (wc.heap[gb190]? = some (.cells #[.int .i64 t181,.int .i64 t182,.int .i64 t183,.int .i64 t184] 59 (0,0))) ∧ Aside0 (Below w.heap.size w wc))
  case first =>
   have H := HC7.out
   clear HC7
   by_cases c20 : (t186.length : Int) = (t178.length : Int)
   ·
    rw [if_pos c20] at H
    have c20b0 : ((t186.length : Int) == (t178.length : Int)) = true := beq_iff_eq.mpr c20
    have c20b1 : ((t186.length : Int) != (t178.length : Int)) = false := bne_eq_false_iff_eq.mpr c20
    have c20b2 : (t186.length == t178.length) = true := by first|simpa using c20|(simp at c20 ⊢;omega)
    clear c20
    (first|rw [c20b0]|(simp only [i64_w,i32_w];rw [c20b0])|skip)
    replace H := Option.bind_eq_some_iff.mp H
    obtain ⟨t192,A210,H⟩ := H
    replace H : (if t192 = true then (if t185 < 0 then (bivouaclaw19_PurseFair.j0 k t178 t186 true a0_0 a0_1 a0_2 a0_3 a1_0 a1_1 t181 t182 t183 t184) else (bivouaclaw19_PurseFair.j0 k t178 t186 (decide (t185 > 65536)) a0_0 a0_1 a0_2 a0_3 a1_0 a1_1 t181 t182 t183 t184)) else (bivouaclaw19_PurseFair.j0 k t178 t186 true a0_0 a0_1 a0_2 a0_3 a1_0 a1_1 t181 t182 t183 t184)) = some true := H
    have A21 := Aside0.mk A210
    clear A210
    by_cases c22 : t192 = true
    ·
     subst c22
     have H1 : (if t185 < 0 then (bivouaclaw19_PurseFair.j0 k t178 t186 true a0_0 a0_1 a0_2 a0_3 a1_0 a1_1 t181 t182 t183 t184) else (bivouaclaw19_PurseFair.j0 k t178 t186 (decide (t185 > 65536)) a0_0 a0_1 a0_2 a0_3 a1_0 a1_1 t181 t182 t183 t184)) = some true := by rw [if_pos rfl] at H;exact H
     clear H
     have H := H1
     clear H1
     by_cases c23 : t185 < 0
     ·
      rw [if_pos c23] at H
      have c23b0 : decide (t185 < 0) = true := decide_eq_true c23
      clear c23
      have H' := Aside0.mk H
      clear H
      obtain ⟨Ao24,co24,eo24⟩ := Kd.R_slice HO188.out
      subst eo24
      have hnb25 := NB190_176.out
      have hnc25 := NB176_190.out
      have hnb26 := NB190_177.out
      have hnc26 := NB177_190.out
      have hcz27_0 : w16.cell? ⟨gb190,0,none⟩ = some (.int .i64 0) := (blk_cell BK190.out 0).trans rfl
      have hcz27_1 : w16.cell? ⟨gb190,1,none⟩ = some (.int .i64 0) := (blk_cell BK190.out 1).trans rfl
      have hcz27_2 : w16.cell? ⟨gb190,2,none⟩ = some (.int .i64 0) := (blk_cell BK190.out 2).trans rfl
      have hcz27_3 : w16.cell? ⟨gb190,3,none⟩ = some (.int .i64 0) := (blk_cell BK190.out 3).trans rfl
      have hfz27_0 := blk_frozen BK190.out 0
      have hfz27_1 := blk_frozen BK190.out 1
      have hfz27_2 := blk_frozen BK190.out 2
      have hfz27_3 := blk_frozen BK190.out 3
      go_wp2_with (first|(go_at_call 61;(with_reducible refine (bivouacref19_May.calls t181 t182 t183 t184 true _ A21.out).mono ?_);rintro e w28 ⟨rfl,hb⟩;have n0_ := Aside0.mk (Kd.V_below (by (with_reducible repeat (first|apply Kd.V_alloc|apply Kd.V_drewN|apply Kd.V_drew));exact (Kd.V_mono (Kd.V_far (p := ⟨gb190,3,none⟩) (Kd.V_far (p := ⟨gb190,2,none⟩) (Kd.V_far (p := ⟨gb190,1,none⟩) (Kd.V_far (p := ⟨gb190,0,none⟩) (Kd.V_mono HO180.out (fun k_ hk => (⟨hk,hk.2⟩ : _ ∧ k_ ≠ gb190))) (fun _ hk => hk.2) (.int .i64 t181)) (fun _ hk => hk.2) (.int .i64 t182)) (fun _ hk => hk.2) (.int .i64 t183)) (fun _ hk => hk.2) (.int .i64 t184)) (fun _ h_ => h_.1))) hb);have n1_ := Aside0.mk (Kd.R_below (by (with_reducible repeat (first|apply Kd.R_alloc|apply Kd.R_drewN|apply Kd.R_drew));exact (Kd.R_mono (Kd.R_far (p := ⟨gb190,3,none⟩) (Kd.R_far (p := ⟨gb190,2,none⟩) (Kd.R_far (p := ⟨gb190,1,none⟩) (Kd.R_far (p := ⟨gb190,0,none⟩) (Kd.R_types HO188.out BK190.out (by decide)) (fun _ hk => hk.2) (.int .i64 t181)) (fun _ hk => hk.2) (.int .i64 t182)) (fun _ hk => hk.2) (.int .i64 t183)) (fun _ hk => hk.2) (.int .i64 t184)) (fun _ h_ => h_.1))) hb);have n2_ := Aside0.mk (blk_below (g := gb176) (o := .cells #[.int .i64 a0_0,.int .i64 a0_1,.int .i64 a0_2,.int .i64 a0_3] 59 (0,0)) (by (with_reducible repeat (first|apply blk_drewN|apply blk_drew|apply blk_alloc));refine blk_far ?_ NB176_190.out _;(with_reducible repeat (first|apply blk_drewN|apply blk_drew|apply blk_alloc));refine blk_far ?_ NB176_190.out _;(with_reducible repeat (first|apply blk_drewN|apply blk_drew|apply blk_alloc));refine blk_far ?_ NB176_190.out _;(with_reducible repeat (first|apply blk_drewN|apply blk_drew|apply blk_alloc));refine blk_far ?_ NB176_190.out _;(with_reducible repeat (first|apply blk_drewN|apply blk_drew|apply blk_alloc));exact BK176.out) hb);have n3_ := Aside0.mk (blk_below (g := gb177) (o := .cells #[.int .i64 a1_0,.int .i64 a1_1] 48 (0,0)) (by (with_reducible repeat (first|apply blk_drewN|apply blk_drew|apply blk_alloc));refine blk_far ?_ NB177_190.out _;(with_reducible repeat (first|apply blk_drewN|apply blk_drew|apply blk_alloc));refine blk_far ?_ NB177_190.out _;(with_reducible repeat (first|apply blk_drewN|apply blk_drew|apply blk_alloc));refine blk_far ?_ NB177_190.out _;(with_reducible repeat (first|apply blk_drewN|apply blk_drew|apply blk_alloc));refine blk_far ?_ NB177_190.out _;(with_reducible repeat (first|apply blk_drewN|apply blk_drew|apply blk_alloc));exact BK177.out) hb);have n4_ := Aside0.mk (blk_below (g := gb190) (o := .cells #[.int .i64 t181,.int .i64 t182,.int .i64 t183,.int .i64 t184] 59 (0,0)) (by (with_reducible repeat (first|apply blk_drewN|apply blk_drew|apply blk_alloc));refine blk_put (cs := #[.int .i64 t181,.int .i64 t182,.int .i64 t183,.int .i64 0]) ?_ 3 _ rfl;(with_reducible repeat (first|apply blk_drewN|apply blk_drew|apply blk_alloc));refine blk_put (cs := #[.int .i64 t181,.int .i64 t182,.int .i64 0,.int .i64 0]) ?_ 2 _ rfl;(with_reducible repeat (first|apply blk_drewN|apply blk_drew|apply blk_alloc));refine blk_put (cs := #[.int .i64 t181,.int .i64 0,.int .i64 0,.int .i64 0]) ?_ 1 _ rfl;(with_reducible repeat (first|apply blk_drewN|apply blk_drew|apply blk_alloc));refine blk_put (cs := #[.int .i64 0,.int .i64 0,.int .i64 0,.int .i64 0]) ?_ 0 _ rfl;(with_reducible repeat (first|apply blk_drewN|apply blk_drew|apply blk_alloc));exact BK190.out) hb);have n5_ := Aside0.mk (below_step (by repeat (first|(with_reducible first|exact HB.out|apply below_alloc|apply pw_below_drewN|apply below_drew1|refine below_set ?_ GE176.out|refine below_set ?_ GE177.out|refine below_set ?_ GE190.out)|exact HB.out)) hb);clear HO180;clear HO188;clear BK176;clear BK177;clear BK190;clear HB;have HO180 := n0_;have HO188 := n1_;have BK176 := n2_;have BK177 := n3_;have BK190 := n4_;have HB := n5_;clear n0_ n1_ n2_ n3_ n4_ n5_;(try clear hb);(try clear hb2);(try clear hk);(try clear hi)))
      repeat (go_quiet (first|(go_at_call 61;(with_reducible refine (bivouacref19_May.calls t181 t182 t183 t184 true _ A21.out).mono ?_);rintro e w28 ⟨rfl,hb⟩;have n0_ := Aside0.mk (Kd.V_below (by (with_reducible repeat (first|apply Kd.V_alloc|apply Kd.V_drewN|apply Kd.V_drew));exact (Kd.V_mono (Kd.V_far (p := ⟨gb190,3,none⟩) (Kd.V_far (p := ⟨gb190,2,none⟩) (Kd.V_far (p := ⟨gb190,1,none⟩) (Kd.V_far (p := ⟨gb190,0,none⟩) (Kd.V_mono HO180.out (fun k_ hk => (⟨hk,hk.2⟩ : _ ∧ k_ ≠ gb190))) (fun _ hk => hk.2) (.int .i64 t181)) (fun _ hk => hk.2) (.int .i64 t182)) (fun _ hk => hk.2) (.int .i64 t183)) (fun _ hk => hk.2) (.int .i64 t184)) (fun _ h_ => h_.1))) hb);have n1_ := Aside0.mk (Kd.R_below (by (with_reducible repeat (first|apply Kd.R_alloc|apply Kd.R_drewN|apply Kd.R_drew));exact (Kd.R_mono (Kd.R_far (p := ⟨gb190,3,none⟩) (Kd.R_far (p := ⟨gb190,2,none⟩) (Kd.R_far (p := ⟨gb190,1,none⟩) (Kd.R_far (p := ⟨gb190,0,none⟩) (Kd.R_types HO188.out BK190.out (by decide)) (fun _ hk => hk.2) (.int .i64 t181)) (fun _ hk => hk.2) (.int .i64 t182)) (fun _ hk => hk.2) (.int .i64 t183)) (fun _ hk => hk.2) (.int .i64 t184)) (fun _ h_ => h_.1))) hb);have n2_ := Aside0.mk (blk_below (g := gb176) (o := .cells #[.int .i64 a0_0,.int .i64 a0_1,.int .i64 a0_2,.int .i64 a0_3] 59 (0,0)) (by (with_reducible repeat (first|apply blk_drewN|apply blk_drew|apply blk_alloc));refine blk_far ?_ NB176_190.out _;(with_reducible repeat (first|apply blk_drewN|apply blk_drew|apply blk_alloc));refine blk_far ?_ NB176_190.out _;(with_reducible repeat (first|apply blk_drewN|apply blk_drew|apply blk_alloc));refine blk_far ?_ NB176_190.out _;(with_reducible repeat (first|apply blk_drewN|apply blk_drew|apply blk_alloc));refine blk_far ?_ NB176_190.out _;(with_reducible repeat (first|apply blk_drewN|apply blk_drew|apply blk_alloc));exact BK176.out) hb);have n3_ := Aside0.mk (blk_below (g := gb177) (o := .cells #[.int .i64 a1_0,.int .i64 a1_1] 48 (0,0)) (by (with_reducible repeat (first|apply blk_drewN|apply blk_drew|apply blk_alloc));refine blk_far ?_ NB177_190.out _;(with_reducible repeat (first|apply blk_drewN|apply blk_drew|apply blk_alloc));refine blk_far ?_ NB177_190.out _;(with_reducible repeat (first|apply blk_drewN|apply blk_drew|apply blk_alloc));refine blk_far ?_ NB177_190.out _;(with_reducible repeat (first|apply blk_drewN|apply blk_drew|apply blk_alloc));refine blk_far ?_ NB177_190.out _;(with_reducible repeat (first|apply blk_drewN|apply blk_drew|apply blk_alloc));exact BK177.out) hb);have n4_ := Aside0.mk (blk_below (g := gb190) (o := .cells #[.int .i64 t181,.int .i64 t182,.int .i64 t183,.int .i64 t184] 59 (0,0)) (by (with_reducible repeat (first|apply blk_drewN|apply blk_drew|apply blk_alloc));refine blk_put (cs := #[.int .i64 t181,.int .i64 t182,.int .i64 t183,.int .i64 0]) ?_ 3 _ rfl;(with_reducible repeat (first|apply blk_drewN|apply blk_drew|apply blk_alloc));refine blk_put (cs := #[.int .i64 t181,.int .i64 t182,.int .i64 0,.int .i64 0]) ?_ 2 _ rfl;(with_reducible repeat (first|apply blk_drewN|apply blk_drew|apply blk_alloc));refine blk_put (cs := #[.int .i64 t181,.int .i64 0,.int .i64 0,.int .i64 0]) ?_ 1 _ rfl;(with_reducible repeat (first|apply blk_drewN|apply blk_drew|apply blk_alloc));refine blk_put (cs := #[.int .i64 0,.int .i64 0,.int .i64 0,.int .i64 0]) ?_ 0 _ rfl;(with_reducible repeat (first|apply blk_drewN|apply blk_drew|apply blk_alloc));exact BK190.out) hb);have n5_ := Aside0.mk (below_step (by repeat (first|(with_reducible first|exact HB.out|apply below_alloc|apply pw_below_drewN|apply below_drew1|refine below_set ?_ GE176.out|refine below_set ?_ GE177.out|refine below_set ?_ GE190.out)|exact HB.out)) hb);clear HO180;clear HO188;clear BK176;clear BK177;clear BK190;clear HB;have HO180 := n0_;have HO188 := n1_;have BK176 := n2_;have BK177 := n3_;have BK190 := n4_;have HB := n5_;clear n0_ n1_ n2_ n3_ n4_ n5_;(try clear hb);(try clear hb2);(try clear hk);(try clear hi)));try go_wp2_with (first|(go_at_call 61;(with_reducible refine (bivouacref19_May.calls t181 t182 t183 t184 true _ A21.out).mono ?_);rintro e w28 ⟨rfl,hb⟩;have n0_ := Aside0.mk (Kd.V_below (by (with_reducible repeat (first|apply Kd.V_alloc|apply Kd.V_drewN|apply Kd.V_drew));exact (Kd.V_mono (Kd.V_far (p := ⟨gb190,3,none⟩) (Kd.V_far (p := ⟨gb190,2,none⟩) (Kd.V_far (p := ⟨gb190,1,none⟩) (Kd.V_far (p := ⟨gb190,0,none⟩) (Kd.V_mono HO180.out (fun k_ hk => (⟨hk,hk.2⟩ : _ ∧ k_ ≠ gb190))) (fun _ hk => hk.2) (.int .i64 t181)) (fun _ hk => hk.2) (.int .i64 t182)) (fun _ hk => hk.2) (.int .i64 t183)) (fun _ hk => hk.2) (.int .i64 t184)) (fun _ h_ => h_.1))) hb);have n1_ := Aside0.mk (Kd.R_below (by (with_reducible repeat (first|apply Kd.R_alloc|apply Kd.R_drewN|apply Kd.R_drew));exact (Kd.R_mono (Kd.R_far (p := ⟨gb190,3,none⟩) (Kd.R_far (p := ⟨gb190,2,none⟩) (Kd.R_far (p := ⟨gb190,1,none⟩) (Kd.R_far (p := ⟨gb190,0,none⟩) (Kd.R_types HO188.out BK190.out (by decide)) (fun _ hk => hk.2) (.int .i64 t181)) (fun _ hk => hk.2) (.int .i64 t182)) (fun _ hk => hk.2) (.int .i64 t183)) (fun _ hk => hk.2) (.int .i64 t184)) (fun _ h_ => h_.1))) hb);have n2_ := Aside0.mk (blk_below (g := gb176) (o := .cells #[.int .i64 a0_0,.int .i64 a0_1,.int .i64 a0_2,.int .i64 a0_3] 59 (0,0)) (by (with_reducible repeat (first|apply blk_drewN|apply blk_drew|apply blk_alloc));refine blk_far ?_ NB176_190.out _;(with_reducible repeat (first|apply blk_drewN|apply blk_drew|apply blk_alloc));refine blk_far ?_ NB176_190.out _;(with_reducible repeat (first|apply blk_drewN|apply blk_drew|apply blk_alloc));refine blk_far ?_ NB176_190.out _;(with_reducible repeat (first|apply blk_drewN|apply blk_drew|apply blk_alloc));refine blk_far ?_ NB176_190.out _;(with_reducible repeat (first|apply blk_drewN|apply blk_drew|apply blk_alloc));exact BK176.out) hb);have n3_ := Aside0.mk (blk_below (g := gb177) (o := .cells #[.int .i64 a1_0,.int .i64 a1_1] 48 (0,0)) (by (with_reducible repeat (first|apply blk_drewN|apply blk_drew|apply blk_alloc));refine blk_far ?_ NB177_190.out _;(with_reducible repeat (first|apply blk_drewN|apply blk_drew|apply blk_alloc));refine blk_far ?_ NB177_190.out _;(with_reducible repeat (first|apply blk_drewN|apply blk_drew|apply blk_alloc));refine blk_far ?_ NB177_190.out _;(with_reducible repeat (first|apply blk_drewN|apply blk_drew|apply blk_alloc));refine blk_far ?_ NB177_190.out _;(with_reducible repeat (first|apply blk_drewN|apply blk_drew|apply blk_alloc));exact BK177.out) hb);have n4_ := Aside0.mk (blk_below (g := gb190) (o := .cells #[.int .i64 t181,.int .i64 t182,.int .i64 t183,.int .i64 t184] 59 (0,0)) (by (with_reducible repeat (first|apply blk_drewN|apply blk_drew|apply blk_alloc));refine blk_put (cs := #[.int .i64 t181,.int .i64 t182,.int .i64 t183,.int .i64 0]) ?_ 3 _ rfl;(with_reducible repeat (first|apply blk_drewN|apply blk_drew|apply blk_alloc));refine blk_put (cs := #[.int .i64 t181,.int .i64 t182,.int .i64 0,.int .i64 0]) ?_ 2 _ rfl;(with_reducible repeat (first|apply blk_drewN|apply blk_drew|apply blk_alloc));refine blk_put (cs := #[.int .i64 t181,.int .i64 0,.int .i64 0,.int .i64 0]) ?_ 1 _ rfl;(with_reducible repeat (first|apply blk_drewN|apply blk_drew|apply blk_alloc));refine blk_put (cs := #[.int .i64 0,.int .i64 0,.int .i64 0,.int .i64 0]) ?_ 0 _ rfl;(with_reducible repeat (first|apply blk_drewN|apply blk_drew|apply blk_alloc));exact BK190.out) hb);have n5_ := Aside0.mk (below_step (by repeat (first|(with_reducible first|exact HB.out|apply below_alloc|apply pw_below_drewN|apply below_drew1|refine below_set ?_ GE176.out|refine below_set ?_ GE177.out|refine below_set ?_ GE190.out)|exact HB.out)) hb);clear HO180;clear HO188;clear BK176;clear BK177;clear BK190;clear HB;have HO180 := n0_;have HO188 := n1_;have BK176 := n2_;have BK177 := n3_;have BK190 := n4_;have HB := n5_;clear n0_ n1_ n2_ n3_ n4_ n5_;(try clear hb);(try clear hb2);(try clear hk);(try clear hi))))
      go_meet
      case rel => exact ⟨_,(true),(by first|rfl|(simp;done)|(simp [*];done)),H',⟨by first|omega|exact Nat.le_refl _⟩,⟨by (with_reducible repeat (first|apply Kd.V_alloc|apply Kd.V_drewN|apply Kd.V_drew));exact Kd.V_mono HO180.out (fun _ hk => ⟨hk.1.2,⟨hk.1.1.1,⟨hk.1.1.2,hk.2⟩⟩⟩)⟩,⟨by (with_reducible repeat (first|apply Kd.R_alloc|apply Kd.R_drewN|apply Kd.R_drew));exact Kd.R_mono HO188.out (fun _ hk => hk.2)⟩,⟨by (with_reducible repeat (first|apply blk_drewN|apply blk_drew|apply blk_alloc));exact BK176.out⟩,⟨by (with_reducible repeat (first|apply blk_drewN|apply blk_drew|apply blk_alloc));exact BK177.out⟩,⟨by (with_reducible repeat (first|apply blk_drewN|apply blk_drew|apply blk_alloc));exact BK190.out⟩,⟨by repeat (first|(with_reducible first|exact HB.out|apply below_alloc|apply pw_below_drewN|apply below_drew1|refine below_set ?_ GE176.out|refine below_set ?_ GE177.out|refine below_set ?_ GE190.out)|exact HB.out)⟩⟩
     ·
      rw [if_neg c23] at H
      have c23b0 : decide (t185 < 0) = false := decide_eq_false c23
      clear c23
      have H' := Aside0.mk H
      clear H
      obtain ⟨Ao29,co29,eo29⟩ := Kd.R_slice HO188.out
      subst eo29
      have hnb30 := NB190_176.out
      have hnc30 := NB176_190.out
      have hnb31 := NB190_177.out
      have hnc31 := NB177_190.out
      have hcz32_0 : w16.cell? ⟨gb190,0,none⟩ = some (.int .i64 0) := (blk_cell BK190.out 0).trans rfl
      have hcz32_1 : w16.cell? ⟨gb190,1,none⟩ = some (.int .i64 0) := (blk_cell BK190.out 1).trans rfl
      have hcz32_2 : w16.cell? ⟨gb190,2,none⟩ = some (.int .i64 0) := (blk_cell BK190.out 2).trans rfl
      have hcz32_3 : w16.cell? ⟨gb190,3,none⟩ = some (.int .i64 0) := (blk_cell BK190.out 3).trans rfl
      have hfz32_0 := blk_frozen BK190.out 0
      have hfz32_1 := blk_frozen BK190.out 1
      have hfz32_2 := blk_frozen BK190.out 2
      have hfz32_3 := blk_frozen BK190.out 3
      go_wp2_with (first|(go_at_call 61;(with_reducible refine (bivouacref19_May.calls t181 t182 t183 t184 true _ A21.out).mono ?_);rintro e w33 ⟨rfl,hb⟩;have n0_ := Aside0.mk (Kd.V_below (by (with_reducible repeat (first|apply Kd.V_alloc|apply Kd.V_drewN|apply Kd.V_drew));exact (Kd.V_mono (Kd.V_far (p := ⟨gb190,3,none⟩) (Kd.V_far (p := ⟨gb190,2,none⟩) (Kd.V_far (p := ⟨gb190,1,none⟩) (Kd.V_far (p := ⟨gb190,0,none⟩) (Kd.V_mono HO180.out (fun k_ hk => (⟨hk,hk.2⟩ : _ ∧ k_ ≠ gb190))) (fun _ hk => hk.2) (.int .i64 t181)) (fun _ hk => hk.2) (.int .i64 t182)) (fun _ hk => hk.2) (.int .i64 t183)) (fun _ hk => hk.2) (.int .i64 t184)) (fun _ h_ => h_.1))) hb);have n1_ := Aside0.mk (Kd.R_below (by (with_reducible repeat (first|apply Kd.R_alloc|apply Kd.R_drewN|apply Kd.R_drew));exact (Kd.R_mono (Kd.R_far (p := ⟨gb190,3,none⟩) (Kd.R_far (p := ⟨gb190,2,none⟩) (Kd.R_far (p := ⟨gb190,1,none⟩) (Kd.R_far (p := ⟨gb190,0,none⟩) (Kd.R_types HO188.out BK190.out (by decide)) (fun _ hk => hk.2) (.int .i64 t181)) (fun _ hk => hk.2) (.int .i64 t182)) (fun _ hk => hk.2) (.int .i64 t183)) (fun _ hk => hk.2) (.int .i64 t184)) (fun _ h_ => h_.1))) hb);have n2_ := Aside0.mk (blk_below (g := gb176) (o := .cells #[.int .i64 a0_0,.int .i64 a0_1,.int .i64 a0_2,.int .i64 a0_3] 59 (0,0)) (by (with_reducible repeat (first|apply blk_drewN|apply blk_drew|apply blk_alloc));refine blk_far ?_ NB176_190.out _;(with_reducible repeat (first|apply blk_drewN|apply blk_drew|apply blk_alloc));refine blk_far ?_ NB176_190.out _;(with_reducible repeat (first|apply blk_drewN|apply blk_drew|apply blk_alloc));refine blk_far ?_ NB176_190.out _;(with_reducible repeat (first|apply blk_drewN|apply blk_drew|apply blk_alloc));refine blk_far ?_ NB176_190.out _;(with_reducible repeat (first|apply blk_drewN|apply blk_drew|apply blk_alloc));exact BK176.out) hb);have n3_ := Aside0.mk (blk_below (g := gb177) (o := .cells #[.int .i64 a1_0,.int .i64 a1_1] 48 (0,0)) (by (with_reducible repeat (first|apply blk_drewN|apply blk_drew|apply blk_alloc));refine blk_far ?_ NB177_190.out _;(with_reducible repeat (first|apply blk_drewN|apply blk_drew|apply blk_alloc));refine blk_far ?_ NB177_190.out _;(with_reducible repeat (first|apply blk_drewN|apply blk_drew|apply blk_alloc));refine blk_far ?_ NB177_190.out _;(with_reducible repeat (first|apply blk_drewN|apply blk_drew|apply blk_alloc));refine blk_far ?_ NB177_190.out _;(with_reducible repeat (first|apply blk_drewN|apply blk_drew|apply blk_alloc));exact BK177.out) hb);have n4_ := Aside0.mk (blk_below (g := gb190) (o := .cells #[.int .i64 t181,.int .i64 t182,.int .i64 t183,.int .i64 t184] 59 (0,0)) (by (with_reducible repeat (first|apply blk_drewN|apply blk_drew|apply blk_alloc));refine blk_put (cs := #[.int .i64 t181,.int .i64 t182,.int .i64 t183,.int .i64 0]) ?_ 3 _ rfl;(with_reducible repeat (first|apply blk_drewN|apply blk_drew|apply blk_alloc));refine blk_put (cs := #[.int .i64 t181,.int .i64 t182,.int .i64 0,.int .i64 0]) ?_ 2 _ rfl;(with_reducible repeat (first|apply blk_drewN|apply blk_drew|apply blk_alloc));refine blk_put (cs := #[.int .i64 t181,.int .i64 0,.int .i64 0,.int .i64 0]) ?_ 1 _ rfl;(with_reducible repeat (first|apply blk_drewN|apply blk_drew|apply blk_alloc));refine blk_put (cs := #[.int .i64 0,.int .i64 0,.int .i64 0,.int .i64 0]) ?_ 0 _ rfl;(with_reducible repeat (first|apply blk_drewN|apply blk_drew|apply blk_alloc));exact BK190.out) hb);have n5_ := Aside0.mk (below_step (by repeat (first|(with_reducible first|exact HB.out|apply below_alloc|apply pw_below_drewN|apply below_drew1|refine below_set ?_ GE176.out|refine below_set ?_ GE177.out|refine below_set ?_ GE190.out)|exact HB.out)) hb);clear HO180;clear HO188;clear BK176;clear BK177;clear BK190;clear HB;have HO180 := n0_;have HO188 := n1_;have BK176 := n2_;have BK177 := n3_;have BK190 := n4_;have HB := n5_;clear n0_ n1_ n2_ n3_ n4_ n5_;(try clear hb);(try clear hb2);(try clear hk);(try clear hi)))
      repeat (go_quiet (first|(go_at_call 61;(with_reducible refine (bivouacref19_May.calls t181 t182 t183 t184 true _ A21.out).mono ?_);rintro e w33 ⟨rfl,hb⟩;have n0_ := Aside0.mk (Kd.V_below (by (with_reducible repeat (first|apply Kd.V_alloc|apply Kd.V_drewN|apply Kd.V_drew));exact (Kd.V_mono (Kd.V_far (p := ⟨gb190,3,none⟩) (Kd.V_far (p := ⟨gb190,2,none⟩) (Kd.V_far (p := ⟨gb190,1,none⟩) (Kd.V_far (p := ⟨gb190,0,none⟩) (Kd.V_mono HO180.out (fun k_ hk => (⟨hk,hk.2⟩ : _ ∧ k_ ≠ gb190))) (fun _ hk => hk.2) (.int .i64 t181)) (fun _ hk => hk.2) (.int .i64 t182)) (fun _ hk => hk.2) (.int .i64 t183)) (fun _ hk => hk.2) (.int .i64 t184)) (fun _ h_ => h_.1))) hb);have n1_ := Aside0.mk (Kd.R_below (by (with_reducible repeat (first|apply Kd.R_alloc|apply Kd.R_drewN|apply Kd.R_drew));exact (Kd.R_mono (Kd.R_far (p := ⟨gb190,3,none⟩) (Kd.R_far (p := ⟨gb190,2,none⟩) (Kd.R_far (p := ⟨gb190,1,none⟩) (Kd.R_far (p := ⟨gb190,0,none⟩) (Kd.R_types HO188.out BK190.out (by decide)) (fun _ hk => hk.2) (.int .i64 t181)) (fun _ hk => hk.2) (.int .i64 t182)) (fun _ hk => hk.2) (.int .i64 t183)) (fun _ hk => hk.2) (.int .i64 t184)) (fun _ h_ => h_.1))) hb);have n2_ := Aside0.mk (blk_below (g := gb176) (o := .cells #[.int .i64 a0_0,.int .i64 a0_1,.int .i64 a0_2,.int .i64 a0_3] 59 (0,0)) (by (with_reducible repeat (first|apply blk_drewN|apply blk_drew|apply blk_alloc));refine blk_far ?_ NB176_190.out _;(with_reducible repeat (first|apply blk_drewN|apply blk_drew|apply blk_alloc));refine blk_far ?_ NB176_190.out _;(with_reducible repeat (first|apply blk_drewN|apply blk_drew|apply blk_alloc));refine blk_far ?_ NB176_190.out _;(with_reducible repeat (first|apply blk_drewN|apply blk_drew|apply blk_alloc));refine blk_far ?_ NB176_190.out _;(with_reducible repeat (first|apply blk_drewN|apply blk_drew|apply blk_alloc));exact BK176.out) hb);have n3_ := Aside0.mk (blk_below (g := gb177) (o := .cells #[.int .i64 a1_0,.int .i64 a1_1] 48 (0,0)) (by (with_reducible repeat (first|apply blk_drewN|apply blk_drew|apply blk_alloc));refine blk_far ?_ NB177_190.out _;(with_reducible repeat (first|apply blk_drewN|apply blk_drew|apply blk_alloc));refine blk_far ?_ NB177_190.out _;(with_reducible repeat (first|apply blk_drewN|apply blk_drew|apply blk_alloc));refine blk_far ?_ NB177_190.out _;(with_reducible repeat (first|apply blk_drewN|apply blk_drew|apply blk_alloc));refine blk_far ?_ NB177_190.out _;(with_reducible repeat (first|apply blk_drewN|apply blk_drew|apply blk_alloc));exact BK177.out) hb);have n4_ := Aside0.mk (blk_below (g := gb190) (o := .cells #[.int .i64 t181,.int .i64 t182,.int .i64 t183,.int .i64 t184] 59 (0,0)) (by (with_reducible repeat (first|apply blk_drewN|apply blk_drew|apply blk_alloc));refine blk_put (cs := #[.int .i64 t181,.int .i64 t182,.int .i64 t183,.int .i64 0]) ?_ 3 _ rfl;(with_reducible repeat (first|apply blk_drewN|apply blk_drew|apply blk_alloc));refine blk_put (cs := #[.int .i64 t181,.int .i64 t182,.int .i64 0,.int .i64 0]) ?_ 2 _ rfl;(with_reducible repeat (first|apply blk_drewN|apply blk_drew|apply blk_alloc));refine blk_put (cs := #[.int .i64 t181,.int .i64 0,.int .i64 0,.int .i64 0]) ?_ 1 _ rfl;(with_reducible repeat (first|apply blk_drewN|apply blk_drew|apply blk_alloc));refine blk_put (cs := #[.int .i64 0,.int .i64 0,.int .i64 0,.int .i64 0]) ?_ 0 _ rfl;(with_reducible repeat (first|apply blk_drewN|apply blk_drew|apply blk_alloc));exact BK190.out) hb);have n5_ := Aside0.mk (below_step (by repeat (first|(with_reducible first|exact HB.out|apply below_alloc|apply pw_below_drewN|apply below_drew1|refine below_set ?_ GE176.out|refine below_set ?_ GE177.out|refine below_set ?_ GE190.out)|exact HB.out)) hb);clear HO180;clear HO188;clear BK176;clear BK177;clear BK190;clear HB;have HO180 := n0_;have HO188 := n1_;have BK176 := n2_;have BK177 := n3_;have BK190 := n4_;have HB := n5_;clear n0_ n1_ n2_ n3_ n4_ n5_;(try clear hb);(try clear hb2);(try clear hk);(try clear hi)));try go_wp2_with (first|(go_at_call 61;(with_reducible refine (bivouacref19_May.calls t181 t182 t183 t184 true _ A21.out).mono ?_);rintro e w33 ⟨rfl,hb⟩;have n0_ := Aside0.mk (Kd.V_below (by (with_reducible repeat (first|apply Kd.V_alloc|apply Kd.V_drewN|apply Kd.V_drew));exact (Kd.V_mono (Kd.V_far (p := ⟨gb190,3,none⟩) (Kd.V_far (p := ⟨gb190,2,none⟩) (Kd.V_far (p := ⟨gb190,1,none⟩) (Kd.V_far (p := ⟨gb190,0,none⟩) (Kd.V_mono HO180.out (fun k_ hk => (⟨hk,hk.2⟩ : _ ∧ k_ ≠ gb190))) (fun _ hk => hk.2) (.int .i64 t181)) (fun _ hk => hk.2) (.int .i64 t182)) (fun _ hk => hk.2) (.int .i64 t183)) (fun _ hk => hk.2) (.int .i64 t184)) (fun _ h_ => h_.1))) hb);have n1_ := Aside0.mk (Kd.R_below (by (with_reducible repeat (first|apply Kd.R_alloc|apply Kd.R_drewN|apply Kd.R_drew));exact (Kd.R_mono (Kd.R_far (p := ⟨gb190,3,none⟩) (Kd.R_far (p := ⟨gb190,2,none⟩) (Kd.R_far (p := ⟨gb190,1,none⟩) (Kd.R_far (p := ⟨gb190,0,none⟩) (Kd.R_types HO188.out BK190.out (by decide)) (fun _ hk => hk.2) (.int .i64 t181)) (fun _ hk => hk.2) (.int .i64 t182)) (fun _ hk => hk.2) (.int .i64 t183)) (fun _ hk => hk.2) (.int .i64 t184)) (fun _ h_ => h_.1))) hb);have n2_ := Aside0.mk (blk_below (g := gb176) (o := .cells #[.int .i64 a0_0,.int .i64 a0_1,.int .i64 a0_2,.int .i64 a0_3] 59 (0,0)) (by (with_reducible repeat (first|apply blk_drewN|apply blk_drew|apply blk_alloc));refine blk_far ?_ NB176_190.out _;(with_reducible repeat (first|apply blk_drewN|apply blk_drew|apply blk_alloc));refine blk_far ?_ NB176_190.out _;(with_reducible repeat (first|apply blk_drewN|apply blk_drew|apply blk_alloc));refine blk_far ?_ NB176_190.out _;(with_reducible repeat (first|apply blk_drewN|apply blk_drew|apply blk_alloc));refine blk_far ?_ NB176_190.out _;(with_reducible repeat (first|apply blk_drewN|apply blk_drew|apply blk_alloc));exact BK176.out) hb);have n3_ := Aside0.mk (blk_below (g := gb177) (o := .cells #[.int .i64 a1_0,.int .i64 a1_1] 48 (0,0)) (by (with_reducible repeat (first|apply blk_drewN|apply blk_drew|apply blk_alloc));refine blk_far ?_ NB177_190.out _;(with_reducible repeat (first|apply blk_drewN|apply blk_drew|apply blk_alloc));refine blk_far ?_ NB177_190.out _;(with_reducible repeat (first|apply blk_drewN|apply blk_drew|apply blk_alloc));refine blk_far ?_ NB177_190.out _;(with_reducible repeat (first|apply blk_drewN|apply blk_drew|apply blk_alloc));refine blk_far ?_ NB177_190.out _;(with_reducible repeat (first|apply blk_drewN|apply blk_drew|apply blk_alloc));exact BK177.out) hb);have n4_ := Aside0.mk (blk_below (g := gb190) (o := .cells #[.int .i64 t181,.int .i64 t182,.int .i64 t183,.int .i64 t184] 59 (0,0)) (by (with_reducible repeat (first|apply blk_drewN|apply blk_drew|apply blk_alloc));refine blk_put (cs := #[.int .i64 t181,.int .i64 t182,.int .i64 t183,.int .i64 0]) ?_ 3 _ rfl;(with_reducible repeat (first|apply blk_drewN|apply blk_drew|apply blk_alloc));refine blk_put (cs := #[.int .i64 t181,.int .i64 t182,.int .i64 0,.int .i64 0]) ?_ 2 _ rfl;(with_reducible repeat (first|apply blk_drewN|apply blk_drew|apply blk_alloc));refine blk_put (cs := #[.int .i64 t181,.int .i64 0,.int .i64 0,.int .i64 0]) ?_ 1 _ rfl;(with_reducible repeat (first|apply blk_drewN|apply blk_drew|apply blk_alloc));refine blk_put (cs := #[.int .i64 0,.int .i64 0,.int .i64 0,.int .i64 0]) ?_ 0 _ rfl;(with_reducible repeat (first|apply blk_drewN|apply blk_drew|apply blk_alloc));exact BK190.out) hb);have n5_ := Aside0.mk (below_step (by repeat (first|(with_reducible first|exact HB.out|apply below_alloc|apply pw_below_drewN|apply below_drew1|refine below_set ?_ GE176.out|refine below_set ?_ GE177.out|refine below_set ?_ GE190.out)|exact HB.out)) hb);clear HO180;clear HO188;clear BK176;clear BK177;clear BK190;clear HB;have HO180 := n0_;have HO188 := n1_;have BK176 := n2_;have BK177 := n3_;have BK190 := n4_;have HB := n5_;clear n0_ n1_ n2_ n3_ n4_ n5_;(try clear hb);(try clear hb2);(try clear hk);(try clear hi))))
      go_meet
      case rel => exact ⟨_,(decide (t185 > 65536)),(by first|rfl|(simp;done)|(simp [*];done)),H',⟨by first|omega|exact Nat.le_refl _⟩,⟨by (with_reducible repeat (first|apply Kd.V_alloc|apply Kd.V_drewN|apply Kd.V_drew));exact Kd.V_mono HO180.out (fun _ hk => ⟨hk.1.2,⟨hk.1.1.1,⟨hk.1.1.2,hk.2⟩⟩⟩)⟩,⟨by (with_reducible repeat (first|apply Kd.R_alloc|apply Kd.R_drewN|apply Kd.R_drew));exact Kd.R_mono HO188.out (fun _ hk => hk.2)⟩,⟨by (with_reducible repeat (first|apply blk_drewN|apply blk_drew|apply blk_alloc));exact BK176.out⟩,⟨by (with_reducible repeat (first|apply blk_drewN|apply blk_drew|apply blk_alloc));exact BK177.out⟩,⟨by (with_reducible repeat (first|apply blk_drewN|apply blk_drew|apply blk_alloc));exact BK190.out⟩,⟨by repeat (first|(with_reducible first|exact HB.out|apply below_alloc|apply pw_below_drewN|apply below_drew1|refine below_set ?_ GE176.out|refine below_set ?_ GE177.out|refine below_set ?_ GE190.out)|exact HB.out)⟩⟩
    ·
     replace c22 := Bool.eq_false_iff.mpr c22
     subst c22
     have H1 : (bivouaclaw19_PurseFair.j0 k t178 t186 true a0_0 a0_1 a0_2 a0_3 a1_0 a1_1 t181 t182 t183 t184) = some true := by rw [if_neg (show ¬ (false = true) by decide)] at H;exact H
     clear H
     have H := H1
     clear H1
     have H' := Aside0.mk H
     clear H
     obtain ⟨Ao34,co34,eo34⟩ := Kd.R_slice HO188.out
     subst eo34
     have hnb35 := NB190_176.out
     have hnc35 := NB176_190.out
     have hnb36 := NB190_177.out
     have hnc36 := NB177_190.out
     have hcz37_0 : w16.cell? ⟨gb190,0,none⟩ = some (.int .i64 0) := (blk_cell BK190.out 0).trans rfl
     have hcz37_1 : w16.cell? ⟨gb190,1,none⟩ = some (.int .i64 0) := (blk_cell BK190.out 1).trans rfl
     have hcz37_2 : w16.cell? ⟨gb190,2,none⟩ = some (.int .i64 0) := (blk_cell BK190.out 2).trans rfl
     have hcz37_3 : w16.cell? ⟨gb190,3,none⟩ = some (.int .i64 0) := (blk_cell BK190.out 3).trans rfl
     have hfz37_0 := blk_frozen BK190.out 0
     have hfz37_1 := blk_frozen BK190.out 1
     have hfz37_2 := blk_frozen BK190.out 2
     have hfz37_3 := blk_frozen BK190.out 3
     go_wp2_with (first|(go_at_call 61;(with_reducible refine (bivouacref19_May.calls t181 t182 t183 t184 false _ A21.out).mono ?_);rintro e w38 ⟨rfl,hb⟩;have n0_ := Aside0.mk (Kd.V_below (by (with_reducible repeat (first|apply Kd.V_alloc|apply Kd.V_drewN|apply Kd.V_drew));exact (Kd.V_mono (Kd.V_far (p := ⟨gb190,3,none⟩) (Kd.V_far (p := ⟨gb190,2,none⟩) (Kd.V_far (p := ⟨gb190,1,none⟩) (Kd.V_far (p := ⟨gb190,0,none⟩) (Kd.V_mono HO180.out (fun k_ hk => (⟨hk,hk.2⟩ : _ ∧ k_ ≠ gb190))) (fun _ hk => hk.2) (.int .i64 t181)) (fun _ hk => hk.2) (.int .i64 t182)) (fun _ hk => hk.2) (.int .i64 t183)) (fun _ hk => hk.2) (.int .i64 t184)) (fun _ h_ => h_.1))) hb);have n1_ := Aside0.mk (Kd.R_below (by (with_reducible repeat (first|apply Kd.R_alloc|apply Kd.R_drewN|apply Kd.R_drew));exact (Kd.R_mono (Kd.R_far (p := ⟨gb190,3,none⟩) (Kd.R_far (p := ⟨gb190,2,none⟩) (Kd.R_far (p := ⟨gb190,1,none⟩) (Kd.R_far (p := ⟨gb190,0,none⟩) (Kd.R_types HO188.out BK190.out (by decide)) (fun _ hk => hk.2) (.int .i64 t181)) (fun _ hk => hk.2) (.int .i64 t182)) (fun _ hk => hk.2) (.int .i64 t183)) (fun _ hk => hk.2) (.int .i64 t184)) (fun _ h_ => h_.1))) hb);have n2_ := Aside0.mk (blk_below (g := gb176) (o := .cells #[.int .i64 a0_0,.int .i64 a0_1,.int .i64 a0_2,.int .i64 a0_3] 59 (0,0)) (by (with_reducible repeat (first|apply blk_drewN|apply blk_drew|apply blk_alloc));refine blk_far ?_ NB176_190.out _;(with_reducible repeat (first|apply blk_drewN|apply blk_drew|apply blk_alloc));refine blk_far ?_ NB176_190.out _;(with_reducible repeat (first|apply blk_drewN|apply blk_drew|apply blk_alloc));refine blk_far ?_ NB176_190.out _;(with_reducible repeat (first|apply blk_drewN|apply blk_drew|apply blk_alloc));refine blk_far ?_ NB176_190.out _;(with_reducible repeat (first|apply blk_drewN|apply blk_drew|apply blk_alloc));exact BK176.out) hb);have n3_ := Aside0.mk (blk_below (g := gb177) (o := .cells #[.int .i64 a1_0,.int .i64 a1_1] 48 (0,0)) (by (with_reducible repeat (first|apply blk_drewN|apply blk_drew|apply blk_alloc));refine blk_far ?_ NB177_190.out _;(with_reducible repeat (first|apply blk_drewN|apply blk_drew|apply blk_alloc));refine blk_far ?_ NB177_190.out _;(with_reducible repeat (first|apply blk_drewN|apply blk_drew|apply blk_alloc));refine blk_far ?_ NB177_190.out _;(with_reducible repeat (first|apply blk_drewN|apply blk_drew|apply blk_alloc));refine blk_far ?_ NB177_190.out _;(with_reducible repeat (first|apply blk_drewN|apply blk_drew|apply blk_alloc));exact BK177.out) hb);have n4_ := Aside0.mk (blk_below (g := gb190) (o := .cells #[.int .i64 t181,.int .i64 t182,.int .i64 t183,.int .i64 t184] 59 (0,0)) (by (with_reducible repeat (first|apply blk_drewN|apply blk_drew|apply blk_alloc));refine blk_put (cs := #[.int .i64 t181,.int .i64 t182,.int .i64 t183,.int .i64 0]) ?_ 3 _ rfl;(with_reducible repeat (first|apply blk_drewN|apply blk_drew|apply blk_alloc));refine blk_put (cs := #[.int .i64 t181,.int .i64 t182,.int .i64 0,.int .i64 0]) ?_ 2 _ rfl;(with_reducible repeat (first|apply blk_drewN|apply blk_drew|apply blk_alloc));refine blk_put (cs := #[.int .i64 t181,.int .i64 0,.int .i64 0,.int .i64 0]) ?_ 1 _ rfl;(with_reducible repeat (first|apply blk_drewN|apply blk_drew|apply blk_alloc));refine blk_put (cs := #[.int .i64 0,.int .i64 0,.int .i64 0,.int .i64 0]) ?_ 0 _ rfl;(with_reducible repeat (first|apply blk_drewN|apply blk_drew|apply blk_alloc));exact BK190.out) hb);have n5_ := Aside0.mk (below_step (by repeat (first|(with_reducible first|exact HB.out|apply below_alloc|apply pw_below_drewN|apply below_drew1|refine below_set ?_ GE176.out|refine below_set ?_ GE177.out|refine below_set ?_ GE190.out)|exact HB.out)) hb);clear HO180;clear HO188;clear BK176;clear BK177;clear BK190;clear HB;have HO180 := n0_;have HO188 := n1_;have BK176 := n2_;have BK177 := n3_;have BK190 := n4_;have HB := n5_;clear n0_ n1_ n2_ n3_ n4_ n5_;(try clear hb);(try clear hb2);(try clear hk);(try clear hi)))
     repeat (go_quiet (first|(go_at_call 61;(with_reducible refine (bivouacref19_May.calls t181 t182 t183 t184 false _ A21.out).mono ?_);rintro e w38 ⟨rfl,hb⟩;have n0_ := Aside0.mk (Kd.V_below (by (with_reducible repeat (first|apply Kd.V_alloc|apply Kd.V_drewN|apply Kd.V_drew));exact (Kd.V_mono (Kd.V_far (p := ⟨gb190,3,none⟩) (Kd.V_far (p := ⟨gb190,2,none⟩) (Kd.V_far (p := ⟨gb190,1,none⟩) (Kd.V_far (p := ⟨gb190,0,none⟩) (Kd.V_mono HO180.out (fun k_ hk => (⟨hk,hk.2⟩ : _ ∧ k_ ≠ gb190))) (fun _ hk => hk.2) (.int .i64 t181)) (fun _ hk => hk.2) (.int .i64 t182)) (fun _ hk => hk.2) (.int .i64 t183)) (fun _ hk => hk.2) (.int .i64 t184)) (fun _ h_ => h_.1))) hb);have n1_ := Aside0.mk (Kd.R_below (by (with_reducible repeat (first|apply Kd.R_alloc|apply Kd.R_drewN|apply Kd.R_drew));exact (Kd.R_mono (Kd.R_far (p := ⟨gb190,3,none⟩) (Kd.R_far (p := ⟨gb190,2,none⟩) (Kd.R_far (p := ⟨gb190,1,none⟩) (Kd.R_far (p := ⟨gb190,0,none⟩) (Kd.R_types HO188.out BK190.out (by decide)) (fun _ hk => hk.2) (.int .i64 t181)) (fun _ hk => hk.2) (.int .i64 t182)) (fun _ hk => hk.2) (.int .i64 t183)) (fun _ hk => hk.2) (.int .i64 t184)) (fun _ h_ => h_.1))) hb);have n2_ := Aside0.mk (blk_below (g := gb176) (o := .cells #[.int .i64 a0_0,.int .i64 a0_1,.int .i64 a0_2,.int .i64 a0_3] 59 (0,0)) (by (with_reducible repeat (first|apply blk_drewN|apply blk_drew|apply blk_alloc));refine blk_far ?_ NB176_190.out _;(with_reducible repeat (first|apply blk_drewN|apply blk_drew|apply blk_alloc));refine blk_far ?_ NB176_190.out _;(with_reducible repeat (first|apply blk_drewN|apply blk_drew|apply blk_alloc));refine blk_far ?_ NB176_190.out _;(with_reducible repeat (first|apply blk_drewN|apply blk_drew|apply blk_alloc));refine blk_far ?_ NB176_190.out _;(with_reducible repeat (first|apply blk_drewN|apply blk_drew|apply blk_alloc));exact BK176.out) hb);have n3_ := Aside0.mk (blk_below (g := gb177) (o := .cells #[.int .i64 a1_0,.int .i64 a1_1] 48 (0,0)) (by (with_reducible repeat (first|apply blk_drewN|apply blk_drew|apply blk_alloc));refine blk_far ?_ NB177_190.out _;(with_reducible repeat (first|apply blk_drewN|apply blk_drew|apply blk_alloc));refine blk_far ?_ NB177_190.out _;(with_reducible repeat (first|apply blk_drewN|apply blk_drew|apply blk_alloc));refine blk_far ?_ NB177_190.out _;(with_reducible repeat (first|apply blk_drewN|apply blk_drew|apply blk_alloc));refine blk_far ?_ NB177_190.out _;(with_reducible repeat (first|apply blk_drewN|apply blk_drew|apply blk_alloc));exact BK177.out) hb);have n4_ := Aside0.mk (blk_below (g := gb190) (o := .cells #[.int .i64 t181,.int .i64 t182,.int .i64 t183,.int .i64 t184] 59 (0,0)) (by (with_reducible repeat (first|apply blk_drewN|apply blk_drew|apply blk_alloc));refine blk_put (cs := #[.int .i64 t181,.int .i64 t182,.int .i64 t183,.int .i64 0]) ?_ 3 _ rfl;(with_reducible repeat (first|apply blk_drewN|apply blk_drew|apply blk_alloc));refine blk_put (cs := #[.int .i64 t181,.int .i64 t182,.int .i64 0,.int .i64 0]) ?_ 2 _ rfl;(with_reducible repeat (first|apply blk_drewN|apply blk_drew|apply blk_alloc));refine blk_put (cs := #[.int .i64 t181,.int .i64 0,.int .i64 0,.int .i64 0]) ?_ 1 _ rfl;(with_reducible repeat (first|apply blk_drewN|apply blk_drew|apply blk_alloc));refine blk_put (cs := #[.int .i64 0,.int .i64 0,.int .i64 0,.int .i64 0]) ?_ 0 _ rfl;(with_reducible repeat (first|apply blk_drewN|apply blk_drew|apply blk_alloc));exact BK190.out) hb);have n5_ := Aside0.mk (below_step (by repeat (first|(with_reducible first|exact HB.out|apply below_alloc|apply pw_below_drewN|apply below_drew1|refine below_set ?_ GE176.out|refine below_set ?_ GE177.out|refine below_set ?_ GE190.out)|exact HB.out)) hb);clear HO180;clear HO188;clear BK176;clear BK177;clear BK190;clear HB;have HO180 := n0_;have HO188 := n1_;have BK176 := n2_;have BK177 := n3_;have BK190 := n4_;have HB := n5_;clear n0_ n1_ n2_ n3_ n4_ n5_;(try clear hb);(try clear hb2);(try clear hk);(try clear hi)));try go_wp2_with (first|(go_at_call 61;(with_reducible refine (bivouacref19_May.calls t181 t182 t183 t184 false _ A21.out).mono ?_);rintro e w38 ⟨rfl,hb⟩;have n0_ := Aside0.mk (Kd.V_below (by (with_reducible repeat (first|apply Kd.V_alloc|apply Kd.V_drewN|apply Kd.V_drew));exact (Kd.V_mono (Kd.V_far (p := ⟨gb190,3,none⟩) (Kd.V_far (p := ⟨gb190,2,none⟩) (Kd.V_far (p := ⟨gb190,1,none⟩) (Kd.V_far (p := ⟨gb190,0,none⟩) (Kd.V_mono HO180.out (fun k_ hk => (⟨hk,hk.2⟩ : _ ∧ k_ ≠ gb190))) (fun _ hk => hk.2) (.int .i64 t181)) (fun _ hk => hk.2) (.int .i64 t182)) (fun _ hk => hk.2) (.int .i64 t183)) (fun _ hk => hk.2) (.int .i64 t184)) (fun _ h_ => h_.1))) hb);have n1_ := Aside0.mk (Kd.R_below (by (with_reducible repeat (first|apply Kd.R_alloc|apply Kd.R_drewN|apply Kd.R_drew));exact (Kd.R_mono (Kd.R_far (p := ⟨gb190,3,none⟩) (Kd.R_far (p := ⟨gb190,2,none⟩) (Kd.R_far (p := ⟨gb190,1,none⟩) (Kd.R_far (p := ⟨gb190,0,none⟩) (Kd.R_types HO188.out BK190.out (by decide)) (fun _ hk => hk.2) (.int .i64 t181)) (fun _ hk => hk.2) (.int .i64 t182)) (fun _ hk => hk.2) (.int .i64 t183)) (fun _ hk => hk.2) (.int .i64 t184)) (fun _ h_ => h_.1))) hb);have n2_ := Aside0.mk (blk_below (g := gb176) (o := .cells #[.int .i64 a0_0,.int .i64 a0_1,.int .i64 a0_2,.int .i64 a0_3] 59 (0,0)) (by (with_reducible repeat (first|apply blk_drewN|apply blk_drew|apply blk_alloc));refine blk_far ?_ NB176_190.out _;(with_reducible repeat (first|apply blk_drewN|apply blk_drew|apply blk_alloc));refine blk_far ?_ NB176_190.out _;(with_reducible repeat (first|apply blk_drewN|apply blk_drew|apply blk_alloc));refine blk_far ?_ NB176_190.out _;(with_reducible repeat (first|apply blk_drewN|apply blk_drew|apply blk_alloc));refine blk_far ?_ NB176_190.out _;(with_reducible repeat (first|apply blk_drewN|apply blk_drew|apply blk_alloc));exact BK176.out) hb);have n3_ := Aside0.mk (blk_below (g := gb177) (o := .cells #[.int .i64 a1_0,.int .i64 a1_1] 48 (0,0)) (by (with_reducible repeat (first|apply blk_drewN|apply blk_drew|apply blk_alloc));refine blk_far ?_ NB177_190.out _;(with_reducible repeat (first|apply blk_drewN|apply blk_drew|apply blk_alloc));refine blk_far ?_ NB177_190.out _;(with_reducible repeat (first|apply blk_drewN|apply blk_drew|apply blk_alloc));refine blk_far ?_ NB177_190.out _;(with_reducible repeat (first|apply blk_drewN|apply blk_drew|apply blk_alloc));refine blk_far ?_ NB177_190.out _;(with_reducible repeat (first|apply blk_drewN|apply blk_drew|apply blk_alloc));exact BK177.out) hb);have n4_ := Aside0.mk (blk_below (g := gb190) (o := .cells #[.int .i64 t181,.int .i64 t182,.int .i64 t183,.int .i64 t184] 59 (0,0)) (by (with_reducible repeat (first|apply blk_drewN|apply blk_drew|apply blk_alloc));refine blk_put (cs := #[.int .i64 t181,.int .i64 t182,.int .i64 t183,.int .i64 0]) ?_ 3 _ rfl;(with_reducible repeat (first|apply blk_drewN|apply blk_drew|apply blk_alloc));refine blk_put (cs := #[.int .i64 t181,.int .i64 t182,.int .i64 0,.int .i64 0]) ?_ 2 _ rfl;(with_reducible repeat (first|apply blk_drewN|apply blk_drew|apply blk_alloc));refine blk_put (cs := #[.int .i64 t181,.int .i64 0,.int .i64 0,.int .i64 0]) ?_ 1 _ rfl;(with_reducible repeat (first|apply blk_drewN|apply blk_drew|apply blk_alloc));refine blk_put (cs := #[.int .i64 0,.int .i64 0,.int .i64 0,.int .i64 0]) ?_ 0 _ rfl;(with_reducible repeat (first|apply blk_drewN|apply blk_drew|apply blk_alloc));exact BK190.out) hb);have n5_ := Aside0.mk (below_step (by repeat (first|(with_reducible first|exact HB.out|apply below_alloc|apply pw_below_drewN|apply below_drew1|refine below_set ?_ GE176.out|refine below_set ?_ GE177.out|refine below_set ?_ GE190.out)|exact HB.out)) hb);clear HO180;clear HO188;clear BK176;clear BK177;clear BK190;clear HB;have HO180 := n0_;have HO188 := n1_;have BK176 := n2_;have BK177 := n3_;have BK190 := n4_;have HB := n5_;clear n0_ n1_ n2_ n3_ n4_ n5_;(try clear hb);(try clear hb2);(try clear hk);(try clear hi))))
     go_meet
     case rel => exact ⟨_,(true),(by first|rfl|(simp;done)|(simp [*];done)),H',⟨by first|omega|exact Nat.le_refl _⟩,⟨by (with_reducible repeat (first|apply Kd.V_alloc|apply Kd.V_drewN|apply Kd.V_drew));exact Kd.V_mono HO180.out (fun _ hk => ⟨hk.1.2,⟨hk.1.1.1,⟨hk.1.1.2,hk.2⟩⟩⟩)⟩,⟨by (with_reducible repeat (first|apply Kd.R_alloc|apply Kd.R_drewN|apply Kd.R_drew));exact Kd.R_mono HO188.out (fun _ hk => hk.2)⟩,⟨by (with_reducible repeat (first|apply blk_drewN|apply blk_drew|apply blk_alloc));exact BK176.out⟩,⟨by (with_reducible repeat (first|apply blk_drewN|apply blk_drew|apply blk_alloc));exact BK177.out⟩,⟨by (with_reducible repeat (first|apply blk_drewN|apply blk_drew|apply blk_alloc));exact BK190.out⟩,⟨by repeat (first|(with_reducible first|exact HB.out|apply below_alloc|apply pw_below_drewN|apply below_drew1|refine below_set ?_ GE176.out|refine below_set ?_ GE177.out|refine below_set ?_ GE190.out)|exact HB.out)⟩⟩
   ·
    rw [if_neg c20] at H
    have c20b0 : ((t186.length : Int) == (t178.length : Int)) = false := beq_eq_false_iff_ne.mpr c20
    have c20b1 : ((t186.length : Int) != (t178.length : Int)) = true := bne_iff_ne.mpr c20
    have c20b2 : (t186.length == t178.length) = false := by first|simpa using c20|(simp at c20 ⊢;omega)
    (first|rw [c20b0]|(simp only [i64_w,i32_w];rw [c20b0])|skip)
    have H' := Aside0.mk H
    clear H
    obtain ⟨Ao39,co39,eo39⟩ := Kd.R_slice HO188.out
    subst eo39
    go_wp2
    repeat (go_quiet (fail);try go_wp2)
    go_meet
    case rel => exact ⟨_,(true),(by first|rfl|(simp;done)|(simp [*];done)),H',⟨by first|omega|exact Nat.le_refl _⟩,⟨by (with_reducible repeat (first|apply Kd.V_alloc|apply Kd.V_drewN|apply Kd.V_drew));exact Kd.V_mono (Kd.V_far (p := ⟨gb190,3,none⟩) (Kd.V_far (p := ⟨gb190,2,none⟩) (Kd.V_far (p := ⟨gb190,1,none⟩) (Kd.V_far (p := ⟨gb190,0,none⟩) (Kd.V_mono HO180.out (fun k_ hk => (⟨hk,hk.2⟩ : _ ∧ k_ ≠ gb190))) (fun _ hk => hk.2) (.int .i64 t181)) (fun _ hk => hk.2) (.int .i64 t182)) (fun _ hk => hk.2) (.int .i64 t183)) (fun _ hk => hk.2) (.int .i64 t184)) (fun _ hk => ⟨hk.1.1.2,⟨hk.1.1.1.1,⟨hk.1.1.1.2,hk.1.2⟩⟩⟩)⟩,⟨by (with_reducible repeat (first|apply Kd.R_alloc|apply Kd.R_drewN|apply Kd.R_drew));exact Kd.R_mono (Kd.R_far (p := ⟨gb190,3,none⟩) (Kd.R_far (p := ⟨gb190,2,none⟩) (Kd.R_far (p := ⟨gb190,1,none⟩) (Kd.R_far (p := ⟨gb190,0,none⟩) (Kd.R_types HO188.out BK190.out (by decide)) (fun _ hk => hk.2) (.int .i64 t181)) (fun _ hk => hk.2) (.int .i64 t182)) (fun _ hk => hk.2) (.int .i64 t183)) (fun _ hk => hk.2) (.int .i64 t184)) (fun _ hk => hk.1.2)⟩,⟨by (with_reducible repeat (first|apply blk_drewN|apply blk_drew|apply blk_alloc));refine blk_far ?_ NB176_190.out _;(with_reducible repeat (first|apply blk_drewN|apply blk_drew|apply blk_alloc));refine blk_far ?_ NB176_190.out _;(with_reducible repeat (first|apply blk_drewN|apply blk_drew|apply blk_alloc));refine blk_far ?_ NB176_190.out _;(with_reducible repeat (first|apply blk_drewN|apply blk_drew|apply blk_alloc));refine blk_far ?_ NB176_190.out _;(with_reducible repeat (first|apply blk_drewN|apply blk_drew|apply blk_alloc));exact BK176.out⟩,⟨by (with_reducible repeat (first|apply blk_drewN|apply blk_drew|apply blk_alloc));refine blk_far ?_ NB177_190.out _;(with_reducible repeat (first|apply blk_drewN|apply blk_drew|apply blk_alloc));refine blk_far ?_ NB177_190.out _;(with_reducible repeat (first|apply blk_drewN|apply blk_drew|apply blk_alloc));refine blk_far ?_ NB177_190.out _;(with_reducible repeat (first|apply blk_drewN|apply blk_drew|apply blk_alloc));refine blk_far ?_ NB177_190.out _;(with_reducible repeat (first|apply blk_drewN|apply blk_drew|apply blk_alloc));exact BK177.out⟩,⟨by (with_reducible repeat (first|apply blk_drewN|apply blk_drew|apply blk_alloc));refine blk_put (cs := #[.int .i64 t181,.int .i64 t182,.int .i64 t183,.int .i64 0]) ?_ 3 _ rfl;(with_reducible repeat (first|apply blk_drewN|apply blk_drew|apply blk_alloc));refine blk_put (cs := #[.int .i64 t181,.int .i64 t182,.int .i64 0,.int .i64 0]) ?_ 2 _ rfl;(with_reducible repeat (first|apply blk_drewN|apply blk_drew|apply blk_alloc));refine blk_put (cs := #[.int .i64 t181,.int .i64 0,.int .i64 0,.int .i64 0]) ?_ 1 _ rfl;(with_reducible repeat (first|apply blk_drewN|apply blk_drew|apply blk_alloc));refine blk_put (cs := #[.int .i64 0,.int .i64 0,.int .i64 0,.int .i64 0]) ?_ 0 _ rfl;(with_reducible repeat (first|apply blk_drewN|apply blk_drew|apply blk_alloc));exact BK190.out⟩,⟨by repeat (first|(with_reducible first|exact HB.out|apply below_alloc|apply pw_below_drewN|apply below_drew1|refine below_set ?_ GE176.out|refine below_set ?_ GE177.out|refine below_set ?_ GE190.out)|exact HB.out)⟩⟩
  case rest =>
   clear HC7
   try clear c1
   try clear c2
   try clear p2
   try clear c3
   try clear c6
   try clear c6b0
   try clear c6b1
   try clear c11
   try clear c17
   try clear c18
   try clear c19
   try clear c20
   try clear c20b0
   try clear c20b1
   try clear c20b2
   try clear c22
   try clear c23
   try clear c23b0
   try clear c25
   try clear c26
   try clear c30
   try clear c31
   try clear c35
   try clear c36
   try clear hcz12_0
   try clear hcz12_1
   try clear hcz12_2
   try clear hcz12_3
   try clear hcz13_0
   try clear hcz13_1
   try clear hcz19_0
   try clear hcz19_1
   try clear hcz19_2
   try clear hcz19_3
   try clear hcz27_0
   try clear hcz27_1
   try clear hcz27_2
   try clear hcz27_3
   try clear hcz32_0
   try clear hcz32_1
   try clear hcz32_2
   try clear hcz32_3
   try clear hcz37_0
   try clear hcz37_1
   try clear hcz37_2
   try clear hcz37_3
   try clear hfz12_0
   try clear hfz12_1
   try clear hfz12_2
   try clear hfz12_3
   try clear hfz13_0
   try clear hfz13_1
   try clear hfz19_0
   try clear hfz19_1
   try clear hfz19_2
   try clear hfz19_3
   try clear hfz27_0
   try clear hfz27_1
   try clear hfz27_2
   try clear hfz27_3
   try clear hfz32_0
   try clear hfz32_1
   try clear hfz32_2
   try clear hfz32_3
   try clear hfz37_0
   try clear hfz37_1
   try clear hfz37_2
   try clear hfz37_3
   obtain ⟨kq,x55_6,rfl,HA,HJ6,HO_2,HO_9,BK176,BK177,BK190,HB⟩ := hcut
   cases kq with
  |zero => exact absurd HA.out (by simp [bivouaclaw19_PurseFair.j0])
  |succ kj6 =>
    have H := HA.out
    clear HA
    simp only [bivouaclaw19_PurseFair.j0] at H
    by_cases c40 : x55_6 = true
    ·
     subst c40
     have H1 : (some false) = some true := by rw [if_pos rfl] at H;exact H
     clear H
     have H := H1
     clear H1
     exact absurd H (by simp)
    ·
     replace c40 := Bool.eq_false_iff.mpr c40
     subst c40
     have H1 : ((bivouacref19_Sum.f kj6 t178).bind fun bt193 => ((bivouacref19_Sum.f kj6 t186).bind fun bt195 => (if (wrap64 (a0_0 + a1_0)) ≥ bt193.1 then (bivouaclaw19_PurseFair.j1 kj6 t178 t186 (wrap64 (a0_0 + a1_0)) (wrap64 (a0_1 + a1_1)) (decide ((wrap64 (a0_1 + a1_1)) ≥ bt193.2)) t181 t182 t183 t184 bt195.1 bt195.2) else (bivouaclaw19_PurseFair.j1 kj6 t178 t186 (wrap64 (a0_0 + a1_0)) (wrap64 (a0_1 + a1_1)) false t181 t182 t183 t184 bt195.1 bt195.2)))) = some true := by rw [if_neg (show ¬ (false = true) by decide)] at H;exact H
     clear H
     have H := H1
     clear H1
     replace H := Option.bind_eq_some_iff.mp H
     obtain ⟨⟨t193,t194⟩,A410,H⟩ := H
     replace H : ((bivouacref19_Sum.f kj6 t186).bind fun bt195 => (if (wrap64 (a0_0 + a1_0)) ≥ t193 then (bivouaclaw19_PurseFair.j1 kj6 t178 t186 (wrap64 (a0_0 + a1_0)) (wrap64 (a0_1 + a1_1)) (decide ((wrap64 (a0_1 + a1_1)) ≥ t194)) t181 t182 t183 t184 bt195.1 bt195.2) else (bivouaclaw19_PurseFair.j1 kj6 t178 t186 (wrap64 (a0_0 + a1_0)) (wrap64 (a0_1 + a1_1)) false t181 t182 t183 t184 bt195.1 bt195.2))) = some true := H
     have A41 := Aside0.mk A410
     clear A410
     replace H := Option.bind_eq_some_iff.mp H
     obtain ⟨⟨t195,t196⟩,A420,H⟩ := H
     replace H : (if (wrap64 (a0_0 + a1_0)) ≥ t193 then (bivouaclaw19_PurseFair.j1 kj6 t178 t186 (wrap64 (a0_0 + a1_0)) (wrap64 (a0_1 + a1_1)) (decide ((wrap64 (a0_1 + a1_1)) ≥ t194)) t181 t182 t183 t184 t195 t196) else (bivouaclaw19_PurseFair.j1 kj6 t178 t186 (wrap64 (a0_0 + a1_0)) (wrap64 (a0_1 + a1_1)) false t181 t182 t183 t184 t195 t196)) = some true := H
     have A42 := Aside0.mk A420
     clear A420
     have HC43 := Aside0.mk H
     clear H
     go_upto_region 9 with (first|(go_at_call 64;(with_reducible refine (bivouacref19_Sum.calls kj6 _ _ t178 t193 t194 _ ?side1 ?side2 A41.out).mono ?_);(case side1 => repeat (first|exact (Kd.V_reads' HO_2.out).2.2|(with_reducible refine Kd.C_alloc ?_ _)|(with_reducible refine Kd.C_drewN ?_ _)|(with_reducible refine Kd.C_drew ?_)));(case side2 => exact (Kd.V_reads' HO_2.out).2.1);rintro e w44 ⟨rfl,hb⟩;have n0_ := Aside0.mk (Kd.V_below (by (with_reducible repeat (first|apply Kd.V_alloc|apply Kd.V_drewN|apply Kd.V_drew));exact HO_2.out) hb);have n1_ := Aside0.mk (Kd.R_below (by (with_reducible repeat (first|apply Kd.R_alloc|apply Kd.R_drewN|apply Kd.R_drew));exact HO_9.out) hb);have n2_ := Aside0.mk (blk_below (g := gb176) (o := .cells #[.int .i64 a0_0,.int .i64 a0_1,.int .i64 a0_2,.int .i64 a0_3] 59 (0,0)) (by (with_reducible repeat (first|apply blk_drewN|apply blk_drew|apply blk_alloc));exact BK176.out) hb);have n3_ := Aside0.mk (blk_below (g := gb177) (o := .cells #[.int .i64 a1_0,.int .i64 a1_1] 48 (0,0)) (by (with_reducible repeat (first|apply blk_drewN|apply blk_drew|apply blk_alloc));exact BK177.out) hb);have n4_ := Aside0.mk (blk_below (g := gb190) (o := .cells #[.int .i64 t181,.int .i64 t182,.int .i64 t183,.int .i64 t184] 59 (0,0)) (by (with_reducible repeat (first|apply blk_drewN|apply blk_drew|apply blk_alloc));exact BK190.out) hb);have n5_ := Aside0.mk (below_step (by repeat (first|(with_reducible first|exact HB.out|apply below_alloc|apply pw_below_drewN|apply below_drew1|refine below_set ?_ GE176.out|refine below_set ?_ GE177.out|refine below_set ?_ GE190.out)|exact HB.out)) hb);clear HO_2;clear HO_9;clear BK176;clear BK177;clear BK190;clear HB;have HO_2 := n0_;have HO_9 := n1_;have BK176 := n2_;have BK177 := n3_;have BK190 := n4_;have HB := n5_;clear n0_ n1_ n2_ n3_ n4_ n5_;(try clear hb);(try clear hb2);(try clear hk);(try clear hi);obtain ⟨Ao45,co45,eo45⟩ := Kd.R_slice HO_9.out;subst eo45)|(go_at_call 64;(with_reducible refine (bivouacref19_Sum.calls kj6 _ _ t186 t195 t196 _ ?side1 ?side2 A42.out).mono ?_);(case side1 => repeat (first|exact (Kd.R_reads' HO_9.out).2.2|(with_reducible refine Kd.C_alloc ?_ _)|(with_reducible refine Kd.C_drewN ?_ _)|(with_reducible refine Kd.C_drew ?_)));(case side2 => exact (Kd.R_reads' HO_9.out).2.1);rintro e w46 ⟨rfl,hb⟩;have n0_ := Aside0.mk (Kd.V_below (by (with_reducible repeat (first|apply Kd.V_alloc|apply Kd.V_drewN|apply Kd.V_drew));exact HO_2.out) hb);have n1_ := Aside0.mk (Kd.R_below (by (with_reducible repeat (first|apply Kd.R_alloc|apply Kd.R_drewN|apply Kd.R_drew));exact HO_9.out) hb);have n2_ := Aside0.mk (blk_below (g := gb176) (o := .cells #[.int .i64 a0_0,.int .i64 a0_1,.int .i64 a0_2,.int .i64 a0_3] 59 (0,0)) (by (with_reducible repeat (first|apply blk_drewN|apply blk_drew|apply blk_alloc));exact BK176.out) hb);have n3_ := Aside0.mk (blk_below (g := gb177) (o := .cells #[.int .i64 a1_0,.int .i64 a1_1] 48 (0,0)) (by (with_reducible repeat (first|apply blk_drewN|apply blk_drew|apply blk_alloc));exact BK177.out) hb);have n4_ := Aside0.mk (blk_below (g := gb190) (o := .cells #[.int .i64 t181,.int .i64 t182,.int .i64 t183,.int .i64 t184] 59 (0,0)) (by (with_reducible repeat (first|apply blk_drewN|apply blk_drew|apply blk_alloc));exact BK190.out) hb);have n5_ := Aside0.mk (below_step (by repeat (first|(with_reducible first|exact HB.out|apply below_alloc|apply pw_below_drewN|apply below_drew1|refine below_set ?_ GE176.out|refine below_set ?_ GE177.out|refine below_set ?_ GE190.out)|exact HB.out)) hb);clear HO_2;clear HO_9;clear BK176;clear BK177;clear BK190;clear HB;have HO_2 := n0_;have HO_9 := n1_;have BK176 := n2_;have BK177 := n3_;have BK190 := n4_;have HB := n5_;clear n0_ n1_ n2_ n3_ n4_ n5_;(try clear hb);(try clear hb2);(try clear hk);(try clear hi))|((with_reducible refine gate_dst (N := 11) rfl ?_);refine box_event ?hg (N := 11) ?hd (cs := #[.int .i64 0,.int .i64 0]) (t := 48) ?hr ?_;(case hd => rfl);(case hg => rfl);(case hr => first|(go_simp;done)|(go_simp;rfl));intro gb197 hg w47 hbox hb;have n0_ := Aside0.mk (Kd.V_below (Kd.V_elderB (by (with_reducible repeat (first|apply Kd.V_alloc|apply Kd.V_drewN|apply Kd.V_drew));exact HO_2.out) gb197 (Nat.le_of_eq hg.symm)) hb);have n1_ := Aside0.mk (Kd.R_below (Kd.R_elderB (by (with_reducible repeat (first|apply Kd.R_alloc|apply Kd.R_drewN|apply Kd.R_drew));exact HO_9.out) gb197 (Nat.le_of_eq hg.symm)) hb);have n2_ := Aside0.mk (blk_below (g := gb176) (o := .cells #[.int .i64 a0_0,.int .i64 a0_1,.int .i64 a0_2,.int .i64 a0_3] 59 (0,0)) (by (with_reducible repeat (first|apply blk_drewN|apply blk_drew|apply blk_alloc));exact BK176.out) hb);have n3_ := Aside0.mk (blk_below (g := gb177) (o := .cells #[.int .i64 a1_0,.int .i64 a1_1] 48 (0,0)) (by (with_reducible repeat (first|apply blk_drewN|apply blk_drew|apply blk_alloc));exact BK177.out) hb);have n4_ := Aside0.mk (blk_below (g := gb190) (o := .cells #[.int .i64 t181,.int .i64 t182,.int .i64 t183,.int .i64 t184] 59 (0,0)) (by (with_reducible repeat (first|apply blk_drewN|apply blk_drew|apply blk_alloc));exact BK190.out) hb);have n5_ := Aside0.mk (below_step (by repeat (first|(with_reducible first|exact HB.out|apply below_alloc|apply pw_below_drewN|apply below_drew1|refine below_set ?_ GE176.out|refine below_set ?_ GE177.out|refine below_set ?_ GE190.out)|exact HB.out)) hb);have n6_ := Aside0.mk (hbox);have n7_ := Aside0.mk ((by rw [hg];exact (below_size (by repeat (first|(with_reducible first|exact HB.out|apply below_alloc|apply pw_below_drewN|apply below_drew1|refine below_set ?_ GE176.out|refine below_set ?_ GE177.out|refine below_set ?_ GE190.out)|exact HB.out))) : w.heap.size ≤ gb197));have n8_ := Aside0.mk ((by rw [hg];exact (below_size (by repeat (first|(with_reducible first|exact HB.out|apply below_alloc|apply pw_below_drewN|apply below_drew1|refine below_set ?_ GE176.out|refine below_set ?_ GE177.out|refine below_set ?_ GE190.out)|exact HB.out))) : w.heap.size ≤ gb197));have n9_ := Aside0.mk ((by rw [hg];exact Nat.ne_of_lt (blk_lt (g := gb176) (o := .cells #[.int .i64 a0_0,.int .i64 a0_1,.int .i64 a0_2,.int .i64 a0_3] 59 (0,0)) (by (with_reducible repeat (first|apply blk_drewN|apply blk_drew|apply blk_alloc));exact BK176.out)) : gb176 ≠ gb197));have n10_ := Aside0.mk ((by rw [hg];exact Nat.ne_of_gt (blk_lt (g := gb176) (o := .cells #[.int .i64 a0_0,.int .i64 a0_1,.int .i64 a0_2,.int .i64 a0_3] 59 (0,0)) (by (with_reducible repeat (first|apply blk_drewN|apply blk_drew|apply blk_alloc));exact BK176.out)) : gb197 ≠ gb176));have n11_ := Aside0.mk ((by rw [hg];exact Nat.ne_of_lt (blk_lt (g := gb177) (o := .cells #[.int .i64 a1_0,.int .i64 a1_1] 48 (0,0)) (by (with_reducible repeat (first|apply blk_drewN|apply blk_drew|apply blk_alloc));exact BK177.out)) : gb177 ≠ gb197));have n12_ := Aside0.mk ((by rw [hg];exact Nat.ne_of_gt (blk_lt (g := gb177) (o := .cells #[.int .i64 a1_0,.int .i64 a1_1] 48 (0,0)) (by (with_reducible repeat (first|apply blk_drewN|apply blk_drew|apply blk_alloc));exact BK177.out)) : gb197 ≠ gb177));have n13_ := Aside0.mk ((by rw [hg];exact Nat.ne_of_lt (blk_lt (g := gb190) (o := .cells #[.int .i64 t181,.int .i64 t182,.int .i64 t183,.int .i64 t184] 59 (0,0)) (by (with_reducible repeat (first|apply blk_drewN|apply blk_drew|apply blk_alloc));exact BK190.out)) : gb190 ≠ gb197));have n14_ := Aside0.mk ((by rw [hg];exact Nat.ne_of_gt (blk_lt (g := gb190) (o := .cells #[.int .i64 t181,.int .i64 t182,.int .i64 t183,.int .i64 t184] 59 (0,0)) (by (with_reducible repeat (first|apply blk_drewN|apply blk_drew|apply blk_alloc));exact BK190.out)) : gb197 ≠ gb190));clear HO_2;clear HO_9;clear BK176;clear BK177;clear BK190;clear HB;have HO_2 := n0_;have HO_9 := n1_;have BK176 := n2_;have BK177 := n3_;have BK190 := n4_;have HB := n5_;have BK197 := n6_;have GW197 := n7_;have GE197 := n8_;have NB176_197 := n9_;have NB197_176 := n10_;have NB177_197 := n11_;have NB197_177 := n12_;have NB190_197 := n13_;have NB197_190 := n14_;clear n0_ n1_ n2_ n3_ n4_ n5_ n6_ n7_ n8_ n9_ n10_ n11_ n12_ n13_ n14_;clear hb hbox hg)|((with_reducible refine gate_dst (N := 12) rfl ?_);refine box_event ?hg (N := 12) ?hd (cs := #[.int .i64 0,.int .i64 0]) (t := 48) ?hr ?_;(case hd => rfl);(case hg => rfl);(case hr => first|(go_simp;done)|(go_simp;rfl));intro gb198 hg w48 hbox hb;have n0_ := Aside0.mk (Kd.V_below (Kd.V_elderB (by (with_reducible repeat (first|apply Kd.V_alloc|apply Kd.V_drewN|apply Kd.V_drew));exact HO_2.out) gb198 (Nat.le_of_eq hg.symm)) hb);have n1_ := Aside0.mk (Kd.R_below (Kd.R_elderB (by (with_reducible repeat (first|apply Kd.R_alloc|apply Kd.R_drewN|apply Kd.R_drew));exact HO_9.out) gb198 (Nat.le_of_eq hg.symm)) hb);have n2_ := Aside0.mk (blk_below (g := gb176) (o := .cells #[.int .i64 a0_0,.int .i64 a0_1,.int .i64 a0_2,.int .i64 a0_3] 59 (0,0)) (by (with_reducible repeat (first|apply blk_drewN|apply blk_drew|apply blk_alloc));exact BK176.out) hb);have n3_ := Aside0.mk (blk_below (g := gb177) (o := .cells #[.int .i64 a1_0,.int .i64 a1_1] 48 (0,0)) (by (with_reducible repeat (first|apply blk_drewN|apply blk_drew|apply blk_alloc));exact BK177.out) hb);have n4_ := Aside0.mk (blk_below (g := gb190) (o := .cells #[.int .i64 t181,.int .i64 t182,.int .i64 t183,.int .i64 t184] 59 (0,0)) (by (with_reducible repeat (first|apply blk_drewN|apply blk_drew|apply blk_alloc));exact BK190.out) hb);have n5_ := Aside0.mk (blk_below (g := gb197) (o := .cells #[.int .i64 0,.int .i64 0] 48 (0,0)) (by (with_reducible repeat (first|apply blk_drewN|apply blk_drew|apply blk_alloc));exact BK197.out) hb);have n6_ := Aside0.mk (below_step (by repeat (first|(with_reducible first|exact HB.out|apply below_alloc|apply pw_below_drewN|apply below_drew1|refine below_set ?_ GE176.out|refine below_set ?_ GE177.out|refine below_set ?_ GE190.out|refine below_set ?_ GE197.out)|exact HB.out)) hb);have n7_ := Aside0.mk (hbox);have n8_ := Aside0.mk ((by rw [hg];exact (below_size (by repeat (first|(with_reducible first|exact HB.out|apply below_alloc|apply pw_below_drewN|apply below_drew1|refine below_set ?_ GE176.out|refine below_set ?_ GE177.out|refine below_set ?_ GE190.out|refine below_set ?_ GE197.out)|exact HB.out))) : w.heap.size ≤ gb198));have n9_ := Aside0.mk ((by rw [hg];exact (below_size (by repeat (first|(with_reducible first|exact HB.out|apply below_alloc|apply pw_below_drewN|apply below_drew1|refine below_set ?_ GE176.out|refine below_set ?_ GE177.out|refine below_set ?_ GE190.out|refine below_set ?_ GE197.out)|exact HB.out))) : w.heap.size ≤ gb198));have n10_ := Aside0.mk ((by rw [hg];exact Nat.ne_of_lt (blk_lt (g := gb176) (o := .cells #[.int .i64 a0_0,.int .i64 a0_1,.int .i64 a0_2,.int .i64 a0_3] 59 (0,0)) (by (with_reducible repeat (first|apply blk_drewN|apply blk_drew|apply blk_alloc));exact BK176.out)) : gb176 ≠ gb198));have n11_ := Aside0.mk ((by rw [hg];exact Nat.ne_of_gt (blk_lt (g := gb176) (o := .cells #[.int .i64 a0_0,.int .i64 a0_1,.int .i64 a0_2,.int .i64 a0_3] 59 (0,0)) (by (with_reducible repeat (first|apply blk_drewN|apply blk_drew|apply blk_alloc));exact BK176.out)) : gb198 ≠ gb176));have n12_ := Aside0.mk ((by rw [hg];exact Nat.ne_of_lt (blk_lt (g := gb177) (o := .cells #[.int .i64 a1_0,.int .i64 a1_1] 48 (0,0)) (by (with_reducible repeat (first|apply blk_drewN|apply blk_drew|apply blk_alloc));exact BK177.out)) : gb177 ≠ gb198));have n13_ := Aside0.mk ((by rw [hg];exact Nat.ne_of_gt (blk_lt (g := gb177) (o := .cells #[.int .i64 a1_0,.int .i64 a1_1] 48 (0,0)) (by (with_reducible repeat (first|apply blk_drewN|apply blk_drew|apply blk_alloc));exact BK177.out)) : gb198 ≠ gb177));have n14_ := Aside0.mk ((by rw [hg];exact Nat.ne_of_lt (blk_lt (g := gb190) (o := .cells #[.int .i64 t181,.int .i64 t182,.int .i64 t183,.int .i64 t184] 59 (0,0)) (by (with_reducible repeat (first|apply blk_drewN|apply blk_drew|apply blk_alloc));exact BK190.out)) : gb190 ≠ gb198));have n15_ := Aside0.mk ((by rw [hg];exact Nat.ne_of_gt (blk_lt (g := gb190) (o := .cells #[.int .i64 t181,.int .i64 t182,.int .i64 t183,.int .i64 t184] 59 (0,0)) (by (with_reducible repeat (first|apply blk_drewN|apply blk_drew|apply blk_alloc));exact BK190.out)) : gb198 ≠ gb190));have n16_ := Aside0.mk ((by rw [hg];exact Nat.ne_of_lt (blk_lt (g := gb197) (o := .cells #[.int .i64 0,.int .i64 0] 48 (0,0)) (by (with_reducible repeat (first|apply blk_drewN|apply blk_drew|apply blk_alloc));exact BK197.out)) : gb197 ≠ gb198));have n17_ := Aside0.mk ((by rw [hg];exact Nat.ne_of_gt (blk_lt (g := gb197) (o := .cells #[.int .i64 0,.int .i64 0] 48 (0,0)) (by (with_reducible repeat (first|apply blk_drewN|apply blk_drew|apply blk_alloc));exact BK197.out)) : gb198 ≠ gb197));clear HO_2;clear HO_9;clear BK176;clear BK177;clear BK190;clear BK197;clear HB;have HO_2 := n0_;have HO_9 := n1_;have BK176 := n2_;have BK177 := n3_;have BK190 := n4_;have BK197 := n5_;have HB := n6_;have BK198 := n7_;have GW198 := n8_;have GE198 := n9_;have NB176_198 := n10_;have NB198_176 := n11_;have NB177_198 := n12_;have NB198_177 := n13_;have NB190_198 := n14_;have NB198_190 := n15_;have NB197_198 := n16_;have NB198_197 := n17_;clear n0_ n1_ n2_ n3_ n4_ n5_ n6_ n7_ n8_ n9_ n10_ n11_ n12_ n13_ n14_ n15_ n16_ n17_;clear hb hbox hg;have hnb49 := NB197_176.out;have hnc49 := NB176_197.out;have hnb50 := NB197_177.out;have hnc50 := NB177_197.out;have hnb51 := NB197_190.out;have hnc51 := NB190_197.out;have hnb52 := NB197_198.out;have hnc52 := NB198_197.out;have hcz53_0 : w48.cell? ⟨gb197,0,none⟩ = some (.int .i64 0) := (blk_cell BK197.out 0).trans rfl;have hcz53_1 : w48.cell? ⟨gb197,1,none⟩ = some (.int .i64 0) := (blk_cell BK197.out 1).trans rfl;have hfz53_0 := blk_frozen BK197.out 0;have hfz53_1 := blk_frozen BK197.out 1;have hnb54 := NB198_176.out;have hnc54 := NB176_198.out;have hnb55 := NB198_177.out;have hnc55 := NB177_198.out;have hnb56 := NB198_190.out;have hnc56 := NB190_198.out;have hcz57_0 : w48.cell? ⟨gb198,0,none⟩ = some (.int .i64 0) := (blk_cell BK198.out 0).trans rfl;have hcz57_1 : w48.cell? ⟨gb198,1,none⟩ = some (.int .i64 0) := (blk_cell BK198.out 1).trans rfl;have hfz57_0 := blk_frozen BK198.out 0;have hfz57_1 := blk_frozen BK198.out 1;have hnb58 := NB176_177.out;have hnc58 := NB177_176.out;have hnb59 := NB176_190.out;have hnc59 := NB190_176.out;have hcz60_0 : w48.cell? ⟨gb176,0,none⟩ = some (.int .i64 a0_0) := (blk_cell BK176.out 0).trans rfl;have hcz60_1 : w48.cell? ⟨gb176,1,none⟩ = some (.int .i64 a0_1) := (blk_cell BK176.out 1).trans rfl;have hcz60_2 : w48.cell? ⟨gb176,2,none⟩ = some (.int .i64 a0_2) := (blk_cell BK176.out 2).trans rfl;have hcz60_3 : w48.cell? ⟨gb176,3,none⟩ = some (.int .i64 a0_3) := (blk_cell BK176.out 3).trans rfl;have hfz60_0 := blk_frozen BK176.out 0;have hfz60_1 := blk_frozen BK176.out 1;have hfz60_2 := blk_frozen BK176.out 2;have hfz60_3 := blk_frozen BK176.out 3;have hnb61 := NB177_190.out;have hnc61 := NB190_177.out;have hcz62_0 : w48.cell? ⟨gb177,0,none⟩ = some (.int .i64 a1_0) := (blk_cell BK177.out 0).trans rfl;have hcz62_1 : w48.cell? ⟨gb177,1,none⟩ = some (.int .i64 a1_1) := (blk_cell BK177.out 1).trans rfl;have hfz62_0 := blk_frozen BK177.out 0;have hfz62_1 := blk_frozen BK177.out 1))
     repeat (go_quiet (first|(go_at_call 64;(with_reducible refine (bivouacref19_Sum.calls kj6 _ _ t178 t193 t194 _ ?side1 ?side2 A41.out).mono ?_);(case side1 => repeat (first|exact (Kd.V_reads' HO_2.out).2.2|(with_reducible refine Kd.C_alloc ?_ _)|(with_reducible refine Kd.C_drewN ?_ _)|(with_reducible refine Kd.C_drew ?_)));(case side2 => exact (Kd.V_reads' HO_2.out).2.1);rintro e w44 ⟨rfl,hb⟩;have n0_ := Aside0.mk (Kd.V_below (by (with_reducible repeat (first|apply Kd.V_alloc|apply Kd.V_drewN|apply Kd.V_drew));exact HO_2.out) hb);have n1_ := Aside0.mk (Kd.R_below (by (with_reducible repeat (first|apply Kd.R_alloc|apply Kd.R_drewN|apply Kd.R_drew));exact HO_9.out) hb);have n2_ := Aside0.mk (blk_below (g := gb176) (o := .cells #[.int .i64 a0_0,.int .i64 a0_1,.int .i64 a0_2,.int .i64 a0_3] 59 (0,0)) (by (with_reducible repeat (first|apply blk_drewN|apply blk_drew|apply blk_alloc));exact BK176.out) hb);have n3_ := Aside0.mk (blk_below (g := gb177) (o := .cells #[.int .i64 a1_0,.int .i64 a1_1] 48 (0,0)) (by (with_reducible repeat (first|apply blk_drewN|apply blk_drew|apply blk_alloc));exact BK177.out) hb);have n4_ := Aside0.mk (blk_below (g := gb190) (o := .cells #[.int .i64 t181,.int .i64 t182,.int .i64 t183,.int .i64 t184] 59 (0,0)) (by (with_reducible repeat (first|apply blk_drewN|apply blk_drew|apply blk_alloc));exact BK190.out) hb);have n5_ := Aside0.mk (below_step (by repeat (first|(with_reducible first|exact HB.out|apply below_alloc|apply pw_below_drewN|apply below_drew1|refine below_set ?_ GE176.out|refine below_set ?_ GE177.out|refine below_set ?_ GE190.out)|exact HB.out)) hb);clear HO_2;clear HO_9;clear BK176;clear BK177;clear BK190;clear HB;have HO_2 := n0_;have HO_9 := n1_;have BK176 := n2_;have BK177 := n3_;have BK190 := n4_;have HB := n5_;clear n0_ n1_ n2_ n3_ n4_ n5_;(try clear hb);(try clear hb2);(try clear hk);(try clear hi);obtain ⟨Ao45,co45,eo45⟩ := Kd.R_slice HO_9.out;subst eo45)|(go_at_call 64;(with_reducible refine (bivouacref19_Sum.calls kj6 _ _ t186 t195 t196 _ ?side1 ?side2 A42.out).mono ?_);(case side1 => repeat (first|exact (Kd.R_reads' HO_9.out).2.2|(with_reducible refine Kd.C_alloc ?_ _)|(with_reducible refine Kd.C_drewN ?_ _)|(with_reducible refine Kd.C_drew ?_)));(case side2 => exact (Kd.R_reads' HO_9.out).2.1);rintro e w46 ⟨rfl,hb⟩;have n0_ := Aside0.mk (Kd.V_below (by (with_reducible repeat (first|apply Kd.V_alloc|apply Kd.V_drewN|apply Kd.V_drew));exact HO_2.out) hb);have n1_ := Aside0.mk (Kd.R_below (by (with_reducible repeat (first|apply Kd.R_alloc|apply Kd.R_drewN|apply Kd.R_drew));exact HO_9.out) hb);have n2_ := Aside0.mk (blk_below (g := gb176) (o := .cells #[.int .i64 a0_0,.int .i64 a0_1,.int .i64 a0_2,.int .i64 a0_3] 59 (0,0)) (by (with_reducible repeat (first|apply blk_drewN|apply blk_drew|apply blk_alloc));exact BK176.out) hb);have n3_ := Aside0.mk (blk_below (g := gb177) (o := .cells #[.int .i64 a1_0,.int .i64 a1_1] 48 (0,0)) (by (with_reducible repeat (first|apply blk_drewN|apply blk_drew|apply blk_alloc));exact BK177.out) hb);have n4_ := Aside0.mk (blk_below (g := gb190) (o := .cells #[.int .i64 t181,.int .i64 t182,.int .i64 t183,.int .i64 t184] 59 (0,0)) (by (with_reducible repeat (first|apply blk_drewN|apply blk_drew|apply blk_alloc));exact BK190.out) hb);have n5_ := Aside0.mk (below_step (by repeat (first|(with_reducible first|exact HB.out|apply below_alloc|apply pw_below_drewN|apply below_drew1|refine below_set ?_ GE176.out|refine below_set ?_ GE177.out|refine below_set ?_ GE190.out)|exact HB.out)) hb);clear HO_2;clear HO_9;clear BK176;clear BK177;clear BK190;clear HB;have HO_2 := n0_;have HO_9 := n1_;have BK176 := n2_;have BK177 := n3_;have BK190 := n4_;have HB := n5_;clear n0_ n1_ n2_ n3_ n4_ n5_;(try clear hb);(try clear hb2);(try clear hk);(try clear hi))|((with_reducible refine gate_dst (N := 11) rfl ?_);refine box_event ?hg (N := 11) ?hd (cs := #[.int .i64 0,.int .i64 0]) (t := 48) ?hr ?_;(case hd => rfl);(case hg => rfl);(case hr => first|(go_simp;done)|(go_simp;rfl));intro gb197 hg w47 hbox hb;have n0_ := Aside0.mk (Kd.V_below (Kd.V_elderB (by (with_reducible repeat (first|apply Kd.V_alloc|apply Kd.V_drewN|apply Kd.V_drew));exact HO_2.out) gb197 (Nat.le_of_eq hg.symm)) hb);have n1_ := Aside0.mk (Kd.R_below (Kd.R_elderB (by (with_reducible repeat (first|apply Kd.R_alloc|apply Kd.R_drewN|apply Kd.R_drew));exact HO_9.out) gb197 (Nat.le_of_eq hg.symm)) hb);have n2_ := Aside0.mk (blk_below (g := gb176) (o := .cells #[.int .i64 a0_0,.int .i64 a0_1,.int .i64 a0_2,.int .i64 a0_3] 59 (0,0)) (by (with_reducible repeat (first|apply blk_drewN|apply blk_drew|apply blk_alloc));exact BK176.out) hb);have n3_ := Aside0.mk (blk_below (g := gb177) (o := .cells #[.int .i64 a1_0,.int .i64 a1_1] 48 (0,0)) (by (with_reducible repeat (first|apply blk_drewN|apply blk_drew|apply blk_alloc));exact BK177.out) hb);have n4_ := Aside0.mk (blk_below (g := gb190) (o := .cells #[.int .i64 t181,.int .i64 t182,.int .i64 t183,.int .i64 t184] 59 (0,0)) (by (with_reducible repeat (first|apply blk_drewN|apply blk_drew|apply blk_alloc));exact BK190.out) hb);have n5_ := Aside0.mk (below_step (by repeat (first|(with_reducible first|exact HB.out|apply below_alloc|apply pw_below_drewN|apply below_drew1|refine below_set ?_ GE176.out|refine below_set ?_ GE177.out|refine below_set ?_ GE190.out)|exact HB.out)) hb);have n6_ := Aside0.mk (hbox);have n7_ := Aside0.mk ((by rw [hg];exact (below_size (by repeat (first|(with_reducible first|exact HB.out|apply below_alloc|apply pw_below_drewN|apply below_drew1|refine below_set ?_ GE176.out|refine below_set ?_ GE177.out|refine below_set ?_ GE190.out)|exact HB.out))) : w.heap.size ≤ gb197));have n8_ := Aside0.mk ((by rw [hg];exact (below_size (by repeat (first|(with_reducible first|exact HB.out|apply below_alloc|apply pw_below_drewN|apply below_drew1|refine below_set ?_ GE176.out|refine below_set ?_ GE177.out|refine below_set ?_ GE190.out)|exact HB.out))) : w.heap.size ≤ gb197));have n9_ := Aside0.mk ((by rw [hg];exact Nat.ne_of_lt (blk_lt (g := gb176) (o := .cells #[.int .i64 a0_0,.int .i64 a0_1,.int .i64 a0_2,.int .i64 a0_3] 59 (0,0)) (by (with_reducible repeat (first|apply blk_drewN|apply blk_drew|apply blk_alloc));exact BK176.out)) : gb176 ≠ gb197));have n10_ := Aside0.mk ((by rw [hg];exact Nat.ne_of_gt (blk_lt (g := gb176) (o := .cells #[.int .i64 a0_0,.int .i64 a0_1,.int .i64 a0_2,.int .i64 a0_3] 59 (0,0)) (by (with_reducible repeat (first|apply blk_drewN|apply blk_drew|apply blk_alloc));exact BK176.out)) : gb197 ≠ gb176));have n11_ := Aside0.mk ((by rw [hg];exact Nat.ne_of_lt (blk_lt (g := gb177) (o := .cells #[.int .i64 a1_0,.int .i64 a1_1] 48 (0,0)) (by (with_reducible repeat (first|apply blk_drewN|apply blk_drew|apply blk_alloc));exact BK177.out)) : gb177 ≠ gb197));have n12_ := Aside0.mk ((by rw [hg];exact Nat.ne_of_gt (blk_lt (g := gb177) (o := .cells #[.int .i64 a1_0,.int .i64 a1_1] 48 (0,0)) (by (with_reducible repeat (first|apply blk_drewN|apply blk_drew|apply blk_alloc));exact BK177.out)) : gb197 ≠ gb177));have n13_ := Aside0.mk ((by rw [hg];exact Nat.ne_of_lt (blk_lt (g := gb190) (o := .cells #[.int .i64 t181,.int .i64 t182,.int .i64 t183,.int .i64 t184] 59 (0,0)) (by (with_reducible repeat (first|apply blk_drewN|apply blk_drew|apply blk_alloc));exact BK190.out)) : gb190 ≠ gb197));have n14_ := Aside0.mk ((by rw [hg];exact Nat.ne_of_gt (blk_lt (g := gb190) (o := .cells #[.int .i64 t181,.int .i64 t182,.int .i64 t183,.int .i64 t184] 59 (0,0)) (by (with_reducible repeat (first|apply blk_drewN|apply blk_drew|apply blk_alloc));exact BK190.out)) : gb197 ≠ gb190));clear HO_2;clear HO_9;clear BK176;clear BK177;clear BK190;clear HB;have HO_2 := n0_;have HO_9 := n1_;have BK176 := n2_;have BK177 := n3_;have BK190 := n4_;have HB := n5_;have BK197 := n6_;have GW197 := n7_;have GE197 := n8_;have NB176_197 := n9_;have NB197_176 := n10_;have NB177_197 := n11_;have NB197_177 := n12_;have NB190_197 := n13_;have NB197_190 := n14_;clear n0_ n1_ n2_ n3_ n4_ n5_ n6_ n7_ n8_ n9_ n10_ n11_ n12_ n13_ n14_;clear hb hbox hg)|((with_reducible refine gate_dst (N := 12) rfl ?_);refine box_event ?hg (N := 12) ?hd (cs := #[.int .i64 0,.int .i64 0]) (t := 48) ?hr ?_;(case hd => rfl);(case hg => rfl);(case hr => first|(go_simp;done)|(go_simp;rfl));intro gb198 hg w48 hbox hb;have n0_ := Aside0.mk (Kd.V_below (Kd.V_elderB (by (with_reducible repeat (first|apply Kd.V_alloc|apply Kd.V_drewN|apply Kd.V_drew));exact HO_2.out) gb198 (Nat.le_of_eq hg.symm)) hb);have n1_ := Aside0.mk (Kd.R_below (Kd.R_elderB (by (with_reducible repeat (first|apply Kd.R_alloc|apply Kd.R_drewN|apply Kd.R_drew));exact HO_9.out) gb198 (Nat.le_of_eq hg.symm)) hb);have n2_ := Aside0.mk (blk_below (g := gb176) (o := .cells #[.int .i64 a0_0,.int .i64 a0_1,.int .i64 a0_2,.int .i64 a0_3] 59 (0,0)) (by (with_reducible repeat (first|apply blk_drewN|apply blk_drew|apply blk_alloc));exact BK176.out) hb);have n3_ := Aside0.mk (blk_below (g := gb177) (o := .cells #[.int .i64 a1_0,.int .i64 a1_1] 48 (0,0)) (by (with_reducible repeat (first|apply blk_drewN|apply blk_drew|apply blk_alloc));exact BK177.out) hb);have n4_ := Aside0.mk (blk_below (g := gb190) (o := .cells #[.int .i64 t181,.int .i64 t182,.int .i64 t183,.int .i64 t184] 59 (0,0)) (by (with_reducible repeat (first|apply blk_drewN|apply blk_drew|apply blk_alloc));exact BK190.out) hb);have n5_ := Aside0.mk (blk_below (g := gb197) (o := .cells #[.int .i64 0,.int .i64 0] 48 (0,0)) (by (with_reducible repeat (first|apply blk_drewN|apply blk_drew|apply blk_alloc));exact BK197.out) hb);have n6_ := Aside0.mk (below_step (by repeat (first|(with_reducible first|exact HB.out|apply below_alloc|apply pw_below_drewN|apply below_drew1|refine below_set ?_ GE176.out|refine below_set ?_ GE177.out|refine below_set ?_ GE190.out|refine below_set ?_ GE197.out)|exact HB.out)) hb);have n7_ := Aside0.mk (hbox);have n8_ := Aside0.mk ((by rw [hg];exact (below_size (by repeat (first|(with_reducible first|exact HB.out|apply below_alloc|apply pw_below_drewN|apply below_drew1|refine below_set ?_ GE176.out|refine below_set ?_ GE177.out|refine below_set ?_ GE190.out|refine below_set ?_ GE197.out)|exact HB.out))) : w.heap.size ≤ gb198));have n9_ := Aside0.mk ((by rw [hg];exact (below_size (by repeat (first|(with_reducible first|exact HB.out|apply below_alloc|apply pw_below_drewN|apply below_drew1|refine below_set ?_ GE176.out|refine below_set ?_ GE177.out|refine below_set ?_ GE190.out|refine below_set ?_ GE197.out)|exact HB.out))) : w.heap.size ≤ gb198));have n10_ := Aside0.mk ((by rw [hg];exact Nat.ne_of_lt (blk_lt (g := gb176) (o := .cells #[.int .i64 a0_0,.int .i64 a0_1,.int .i64 a0_2,.int .i64 a0_3] 59 (0,0)) (by (with_reducible repeat (first|apply blk_drewN|apply blk_drew|apply blk_alloc));exact BK176.out)) : gb176 ≠ gb198));have n11_ := Aside0.mk ((by rw [hg];exact Nat.ne_of_gt (blk_lt (g := gb176) (o := .cells #[.int .i64 a0_0,.int .i64 a0_1,.int .i64 a0_2,.int .i64 a0_3] 59 (0,0)) (by (with_reducible repeat (first|apply blk_drewN|apply blk_drew|apply blk_alloc));exact BK176.out)) : gb198 ≠ gb176));have n12_ := Aside0.mk ((by rw [hg];exact Nat.ne_of_lt (blk_lt (g := gb177) (o := .cells #[.int .i64 a1_0,.int .i64 a1_1] 48 (0,0)) (by (with_reducible repeat (first|apply blk_drewN|apply blk_drew|apply blk_alloc));exact BK177.out)) : gb177 ≠ gb198));have n13_ := Aside0.mk ((by rw [hg];exact Nat.ne_of_gt (blk_lt (g := gb177) (o := .cells #[.int .i64 a1_0,.int .i64 a1_1] 48 (0,0)) (by (with_reducible repeat (first|apply blk_drewN|apply blk_drew|apply blk_alloc));exact BK177.out)) : gb198 ≠ gb177));have n14_ := Aside0.mk ((by rw [hg];exact Nat.ne_of_lt (blk_lt (g := gb190) (o := .cells #[.int .i64 t181,.int .i64 t182,.int .i64 t183,.int .i64 t184] 59 (0,0)) (by (with_reducible repeat (first|apply blk_drewN|apply blk_drew|apply blk_alloc));exact BK190.out)) : gb190 ≠ gb198));have n15_ := Aside0.mk ((by rw [hg];exact Nat.ne_of_gt (blk_lt (g := gb190) (o := .cells #[.int .i64 t181,.int .i64 t182,.int .i64 t183,.int .i64 t184] 59 (0,0)) (by (with_reducible repeat (first|apply blk_drewN|apply blk_drew|apply blk_alloc));exact BK190.out)) : gb198 ≠ gb190));have n16_ := Aside0.mk ((by rw [hg];exact Nat.ne_of_lt (blk_lt (g := gb197) (o := .cells #[.int .i64 0,.int .i64 0] 48 (0,0)) (by (with_reducible repeat (first|apply blk_drewN|apply blk_drew|apply blk_alloc));exact BK197.out)) : gb197 ≠ gb198));have n17_ := Aside0.mk ((by rw [hg];exact Nat.ne_of_gt (blk_lt (g := gb197) (o := .cells #[.int .i64 0,.int .i64 0] 48 (0,0)) (by (with_reducible repeat (first|apply blk_drewN|apply blk_drew|apply blk_alloc));exact BK197.out)) : gb198 ≠ gb197));clear HO_2;clear HO_9;clear BK176;clear BK177;clear BK190;clear BK197;clear HB;have HO_2 := n0_;have HO_9 := n1_;have BK176 := n2_;have BK177 := n3_;have BK190 := n4_;have BK197 := n5_;have HB := n6_;have BK198 := n7_;have GW198 := n8_;have GE198 := n9_;have NB176_198 := n10_;have NB198_176 := n11_;have NB177_198 := n12_;have NB198_177 := n13_;have NB190_198 := n14_;have NB198_190 := n15_;have NB197_198 := n16_;have NB198_197 := n17_;clear n0_ n1_ n2_ n3_ n4_ n5_ n6_ n7_ n8_ n9_ n10_ n11_ n12_ n13_ n14_ n15_ n16_ n17_;clear hb hbox hg;have hnb49 := NB197_176.out;have hnc49 := NB176_197.out;have hnb50 := NB197_177.out;have hnc50 := NB177_197.out;have hnb51 := NB197_190.out;have hnc51 := NB190_197.out;have hnb52 := NB197_198.out;have hnc52 := NB198_197.out;have hcz53_0 : w48.cell? ⟨gb197,0,none⟩ = some (.int .i64 0) := (blk_cell BK197.out 0).trans rfl;have hcz53_1 : w48.cell? ⟨gb197,1,none⟩ = some (.int .i64 0) := (blk_cell BK197.out 1).trans rfl;have hfz53_0 := blk_frozen BK197.out 0;have hfz53_1 := blk_frozen BK197.out 1;have hnb54 := NB198_176.out;have hnc54 := NB176_198.out;have hnb55 := NB198_177.out;have hnc55 := NB177_198.out;have hnb56 := NB198_190.out;have hnc56 := NB190_198.out;have hcz57_0 : w48.cell? ⟨gb198,0,none⟩ = some (.int .i64 0) := (blk_cell BK198.out 0).trans rfl;have hcz57_1 : w48.cell? ⟨gb198,1,none⟩ = some (.int .i64 0) := (blk_cell BK198.out 1).trans rfl;have hfz57_0 := blk_frozen BK198.out 0;have hfz57_1 := blk_frozen BK198.out 1;have hnb58 := NB176_177.out;have hnc58 := NB177_176.out;have hnb59 := NB176_190.out;have hnc59 := NB190_176.out;have hcz60_0 : w48.cell? ⟨gb176,0,none⟩ = some (.int .i64 a0_0) := (blk_cell BK176.out 0).trans rfl;have hcz60_1 : w48.cell? ⟨gb176,1,none⟩ = some (.int .i64 a0_1) := (blk_cell BK176.out 1).trans rfl;have hcz60_2 : w48.cell? ⟨gb176,2,none⟩ = some (.int .i64 a0_2) := (blk_cell BK176.out 2).trans rfl;have hcz60_3 : w48.cell? ⟨gb176,3,none⟩ = some (.int .i64 a0_3) := (blk_cell BK176.out 3).trans rfl;have hfz60_0 := blk_frozen BK176.out 0;have hfz60_1 := blk_frozen BK176.out 1;have hfz60_2 := blk_frozen BK176.out 2;have hfz60_3 := blk_frozen BK176.out 3;have hnb61 := NB177_190.out;have hnc61 := NB190_177.out;have hcz62_0 : w48.cell? ⟨gb177,0,none⟩ = some (.int .i64 a1_0) := (blk_cell BK177.out 0).trans rfl;have hcz62_1 : w48.cell? ⟨gb177,1,none⟩ = some (.int .i64 a1_1) := (blk_cell BK177.out 1).trans rfl;have hfz62_0 := blk_frozen BK177.out 0;have hfz62_1 := blk_frozen BK177.out 1));go_upto_region 9 with (first|(go_at_call 64;(with_reducible refine (bivouacref19_Sum.calls kj6 _ _ t178 t193 t194 _ ?side1 ?side2 A41.out).mono ?_);(case side1 => repeat (first|exact (Kd.V_reads' HO_2.out).2.2|(with_reducible refine Kd.C_alloc ?_ _)|(with_reducible refine Kd.C_drewN ?_ _)|(with_reducible refine Kd.C_drew ?_)));(case side2 => exact (Kd.V_reads' HO_2.out).2.1);rintro e w44 ⟨rfl,hb⟩;have n0_ := Aside0.mk (Kd.V_below (by (with_reducible repeat (first|apply Kd.V_alloc|apply Kd.V_drewN|apply Kd.V_drew));exact HO_2.out) hb);have n1_ := Aside0.mk (Kd.R_below (by (with_reducible repeat (first|apply Kd.R_alloc|apply Kd.R_drewN|apply Kd.R_drew));exact HO_9.out) hb);have n2_ := Aside0.mk (blk_below (g := gb176) (o := .cells #[.int .i64 a0_0,.int .i64 a0_1,.int .i64 a0_2,.int .i64 a0_3] 59 (0,0)) (by (with_reducible repeat (first|apply blk_drewN|apply blk_drew|apply blk_alloc));exact BK176.out) hb);have n3_ := Aside0.mk (blk_below (g := gb177) (o := .cells #[.int .i64 a1_0,.int .i64 a1_1] 48 (0,0)) (by (with_reducible repeat (first|apply blk_drewN|apply blk_drew|apply blk_alloc));exact BK177.out) hb);have n4_ := Aside0.mk (blk_below (g := gb190) (o := .cells #[.int .i64 t181,.int .i64 t182,.int .i64 t183,.int .i64 t184] 59 (0,0)) (by (with_reducible repeat (first|apply blk_drewN|apply blk_drew|apply blk_alloc));exact BK190.out) hb);have n5_ := Aside0.mk (below_step (by repeat (first|(with_reducible first|exact HB.out|apply below_alloc|apply pw_below_drewN|apply below_drew1|refine below_set ?_ GE176.out|refine below_set ?_ GE177.out|refine below_set ?_ GE190.out)|exact HB.out)) hb);clear HO_2;clear HO_9;clear BK176;clear BK177;clear BK190;clear HB;have HO_2 := n0_;have HO_9 := n1_;have BK176 := n2_;have BK177 := n3_;have BK190 := n4_;have HB := n5_;clear n0_ n1_ n2_ n3_ n4_ n5_;(try clear hb);(try clear hb2);(try clear hk);(try clear hi);obtain ⟨Ao45,co45,eo45⟩ := Kd.R_slice HO_9.out;subst eo45)|(go_at_call 64;(with_reducible refine (bivouacref19_Sum.calls kj6 _ _ t186 t195 t196 _ ?side1 ?side2 A42.out).mono ?_);(case side1 => repeat (first|exact (Kd.R_reads' HO_9.out).2.2|(with_reducible refine Kd.C_alloc ?_ _)|(with_reducible refine Kd.C_drewN ?_ _)|(with_reducible refine Kd.C_drew ?_)));(case side2 => exact (Kd.R_reads' HO_9.out).2.1);rintro e w46 ⟨rfl,hb⟩;have n0_ := Aside0.mk (Kd.V_below (by (with_reducible repeat (first|apply Kd.V_alloc|apply Kd.V_drewN|apply Kd.V_drew));exact HO_2.out) hb);have n1_ := Aside0.mk (Kd.R_below (by (with_reducible repeat (first|apply Kd.R_alloc|apply Kd.R_drewN|apply Kd.R_drew));exact HO_9.out) hb);have n2_ := Aside0.mk (blk_below (g := gb176) (o := .cells #[.int .i64 a0_0,.int .i64 a0_1,.int .i64 a0_2,.int .i64 a0_3] 59 (0,0)) (by (with_reducible repeat (first|apply blk_drewN|apply blk_drew|apply blk_alloc));exact BK176.out) hb);have n3_ := Aside0.mk (blk_below (g := gb177) (o := .cells #[.int .i64 a1_0,.int .i64 a1_1] 48 (0,0)) (by (with_reducible repeat (first|apply blk_drewN|apply blk_drew|apply blk_alloc));exact BK177.out) hb);have n4_ := Aside0.mk (blk_below (g := gb190) (o := .cells #[.int .i64 t181,.int .i64 t182,.int .i64 t183,.int .i64 t184] 59 (0,0)) (by (with_reducible repeat (first|apply blk_drewN|apply blk_drew|apply blk_alloc));exact BK190.out) hb);have n5_ := Aside0.mk (below_step (by repeat (first|(with_reducible first|exact HB.out|apply below_alloc|apply pw_below_drewN|apply below_drew1|refine below_set ?_ GE176.out|refine below_set ?_ GE177.out|refine below_set ?_ GE190.out)|exact HB.out)) hb);clear HO_2;clear HO_9;clear BK176;clear BK177;clear BK190;clear HB;have HO_2 := n0_;have HO_9 := n1_;have BK176 := n2_;have BK177 := n3_;have BK190 := n4_;have HB := n5_;clear n0_ n1_ n2_ n3_ n4_ n5_;(try clear hb);(try clear hb2);(try clear hk);(try clear hi))|((with_reducible refine gate_dst (N := 11) rfl ?_);refine box_event ?hg (N := 11) ?hd (cs := #[.int .i64 0,.int .i64 0]) (t := 48) ?hr ?_;(case hd => rfl);(case hg => rfl);(case hr => first|(go_simp;done)|(go_simp;rfl));intro gb197 hg w47 hbox hb;have n0_ := Aside0.mk (Kd.V_below (Kd.V_elderB (by (with_reducible repeat (first|apply Kd.V_alloc|apply Kd.V_drewN|apply Kd.V_drew));exact HO_2.out) gb197 (Nat.le_of_eq hg.symm)) hb);have n1_ := Aside0.mk (Kd.R_below (Kd.R_elderB (by (with_reducible repeat (first|apply Kd.R_alloc|apply Kd.R_drewN|apply Kd.R_drew));exact HO_9.out) gb197 (Nat.le_of_eq hg.symm)) hb);have n2_ := Aside0.mk (blk_below (g := gb176) (o := .cells #[.int .i64 a0_0,.int .i64 a0_1,.int .i64 a0_2,.int .i64 a0_3] 59 (0,0)) (by (with_reducible repeat (first|apply blk_drewN|apply blk_drew|apply blk_alloc));exact BK176.out) hb);have n3_ := Aside0.mk (blk_below (g := gb177) (o := .cells #[.int .i64 a1_0,.int .i64 a1_1] 48 (0,0)) (by (with_reducible repeat (first|apply blk_drewN|apply blk_drew|apply blk_alloc));exact BK177.out) hb);have n4_ := Aside0.mk (blk_below (g := gb190) (o := .cells #[.int .i64 t181,.int .i64 t182,.int .i64 t183,.int .i64 t184] 59 (0,0)) (by (with_reducible repeat (first|apply blk_drewN|apply blk_drew|apply blk_alloc));exact BK190.out) hb);have n5_ := Aside0.mk (below_step (by repeat (first|(with_reducible first|exact HB.out|apply below_alloc|apply pw_below_drewN|apply below_drew1|refine below_set ?_ GE176.out|refine below_set ?_ GE177.out|refine below_set ?_ GE190.out)|exact HB.out)) hb);have n6_ := Aside0.mk (hbox);have n7_ := Aside0.mk ((by rw [hg];exact (below_size (by repeat (first|(with_reducible first|exact HB.out|apply below_alloc|apply pw_below_drewN|apply below_drew1|refine below_set ?_ GE176.out|refine below_set ?_ GE177.out|refine below_set ?_ GE190.out)|exact HB.out))) : w.heap.size ≤ gb197));have n8_ := Aside0.mk ((by rw [hg];exact (below_size (by repeat (first|(with_reducible first|exact HB.out|apply below_alloc|apply pw_below_drewN|apply below_drew1|refine below_set ?_ GE176.out|refine below_set ?_ GE177.out|refine below_set ?_ GE190.out)|exact HB.out))) : w.heap.size ≤ gb197));have n9_ := Aside0.mk ((by rw [hg];exact Nat.ne_of_lt (blk_lt (g := gb176) (o := .cells #[.int .i64 a0_0,.int .i64 a0_1,.int .i64 a0_2,.int .i64 a0_3] 59 (0,0)) (by (with_reducible repeat (first|apply blk_drewN|apply blk_drew|apply blk_alloc));exact BK176.out)) : gb176 ≠ gb197));have n10_ := Aside0.mk ((by rw [hg];exact Nat.ne_of_gt (blk_lt (g := gb176) (o := .cells #[.int .i64 a0_0,.int .i64 a0_1,.int .i64 a0_2,.int .i64 a0_3] 59 (0,0)) (by (with_reducible repeat (first|apply blk_drewN|apply blk_drew|apply blk_alloc));exact BK176.out)) : gb197 ≠ gb176));have n11_ := Aside0.mk ((by rw [hg];exact Nat.ne_of_lt (blk_lt (g := gb177) (o := .cells #[.int .i64 a1_0,.int .i64 a1_1] 48 (0,0)) (by (with_reducible repeat (first|apply blk_drewN|apply blk_drew|apply blk_alloc));exact BK177.out)) : gb177 ≠ gb197));have n12_ := Aside0.mk ((by rw [hg];exact Nat.ne_of_gt (blk_lt (g := gb177) (o := .cells #[.int .i64 a1_0,.int .i64 a1_1] 48 (0,0)) (by (with_reducible repeat (first|apply blk_drewN|apply blk_drew|apply blk_alloc));exact BK177.out)) : gb197 ≠ gb177));have n13_ := Aside0.mk ((by rw [hg];exact Nat.ne_of_lt (blk_lt (g := gb190) (o := .cells #[.int .i64 t181,.int .i64 t182,.int .i64 t183,.int .i64 t184] 59 (0,0)) (by (with_reducible repeat (first|apply blk_drewN|apply blk_drew|apply blk_alloc));exact BK190.out)) : gb190 ≠ gb197));have n14_ := Aside0.mk ((by rw [hg];exact Nat.ne_of_gt (blk_lt (g := gb190) (o := .cells #[.int .i64 t181,.int .i64 t182,.int .i64 t183,.int .i64 t184] 59 (0,0)) (by (with_reducible repeat (first|apply blk_drewN|apply blk_drew|apply blk_alloc));exact BK190.out)) : gb197 ≠ gb190));clear HO_2;clear HO_9;clear BK176;clear BK177;clear BK190;clear HB;have HO_2 := n0_;have HO_9 := n1_;have BK176 := n2_;have BK177 := n3_;have BK190 := n4_;have HB := n5_;have BK197 := n6_;have GW197 := n7_;have GE197 := n8_;have NB176_197 := n9_;have NB197_176 := n10_;have NB177_197 := n11_;have NB197_177 := n12_;have NB190_197 := n13_;have NB197_190 := n14_;clear n0_ n1_ n2_ n3_ n4_ n5_ n6_ n7_ n8_ n9_ n10_ n11_ n12_ n13_ n14_;clear hb hbox hg)|((with_reducible refine gate_dst (N := 12) rfl ?_);refine box_event ?hg (N := 12) ?hd (cs := #[.int .i64 0,.int .i64 0]) (t := 48) ?hr ?_;(case hd => rfl);(case hg => rfl);(case hr => first|(go_simp;done)|(go_simp;rfl));intro gb198 hg w48 hbox hb;have n0_ := Aside0.mk (Kd.V_below (Kd.V_elderB (by (with_reducible repeat (first|apply Kd.V_alloc|apply Kd.V_drewN|apply Kd.V_drew));exact HO_2.out) gb198 (Nat.le_of_eq hg.symm)) hb);have n1_ := Aside0.mk (Kd.R_below (Kd.R_elderB (by (with_reducible repeat (first|apply Kd.R_alloc|apply Kd.R_drewN|apply Kd.R_drew));exact HO_9.out) gb198 (Nat.le_of_eq hg.symm)) hb);have n2_ := Aside0.mk (blk_below (g := gb176) (o := .cells #[.int .i64 a0_0,.int .i64 a0_1,.int .i64 a0_2,.int .i64 a0_3] 59 (0,0)) (by (with_reducible repeat (first|apply blk_drewN|apply blk_drew|apply blk_alloc));exact BK176.out) hb);have n3_ := Aside0.mk (blk_below (g := gb177) (o := .cells #[.int .i64 a1_0,.int .i64 a1_1] 48 (0,0)) (by (with_reducible repeat (first|apply blk_drewN|apply blk_drew|apply blk_alloc));exact BK177.out) hb);have n4_ := Aside0.mk (blk_below (g := gb190) (o := .cells #[.int .i64 t181,.int .i64 t182,.int .i64 t183,.int .i64 t184] 59 (0,0)) (by (with_reducible repeat (first|apply blk_drewN|apply blk_drew|apply blk_alloc));exact BK190.out) hb);have n5_ := Aside0.mk (blk_below (g := gb197) (o := .cells #[.int .i64 0,.int .i64 0] 48 (0,0)) (by (with_reducible repeat (first|apply blk_drewN|apply blk_drew|apply blk_alloc));exact BK197.out) hb);have n6_ := Aside0.mk (below_step (by repeat (first|(with_reducible first|exact HB.out|apply below_alloc|apply pw_below_drewN|apply below_drew1|refine below_set ?_ GE176.out|refine below_set ?_ GE177.out|refine below_set ?_ GE190.out|refine below_set ?_ GE197.out)|exact HB.out)) hb);have n7_ := Aside0.mk (hbox);have n8_ := Aside0.mk ((by rw [hg];exact (below_size (by repeat (first|(with_reducible first|exact HB.out|apply below_alloc|apply pw_below_drewN|apply below_drew1|refine below_set ?_ GE176.out|refine below_set ?_ GE177.out|refine below_set ?_ GE190.out|refine below_set ?_ GE197.out)|exact HB.out))) : w.heap.size ≤ gb198));have n9_ := Aside0.mk ((by rw [hg];exact (below_size (by repeat (first|(with_reducible first|exact HB.out|apply below_alloc|apply pw_below_drewN|apply below_drew1|refine below_set ?_ GE176.out|refine below_set ?_ GE177.out|refine below_set ?_ GE190.out|refine below_set ?_ GE197.out)|exact HB.out))) : w.heap.size ≤ gb198));have n10_ := Aside0.mk ((by rw [hg];exact Nat.ne_of_lt (blk_lt (g := gb176) (o := .cells #[.int .i64 a0_0,.int .i64 a0_1,.int .i64 a0_2,.int .i64 a0_3] 59 (0,0)) (by (with_reducible repeat (first|apply blk_drewN|apply blk_drew|apply blk_alloc));exact BK176.out)) : gb176 ≠ gb198));have n11_ := Aside0.mk ((by rw [hg];exact Nat.ne_of_gt (blk_lt (g := gb176) (o := .cells #[.int .i64 a0_0,.int .i64 a0_1,.int .i64 a0_2,.int .i64 a0_3] 59 (0,0)) (by (with_reducible repeat (first|apply blk_drewN|apply blk_drew|apply blk_alloc));exact BK176.out)) : gb198 ≠ gb176));have n12_ := Aside0.mk ((by rw [hg];exact Nat.ne_of_lt (blk_lt (g := gb177) (o := .cells #[.int .i64 a1_0,.int .i64 a1_1] 48 (0,0)) (by (with_reducible repeat (first|apply blk_drewN|apply blk_drew|apply blk_alloc));exact BK177.out)) : gb177 ≠ gb198));have n13_ := Aside0.mk ((by rw [hg];exact Nat.ne_of_gt (blk_lt (g := gb177) (o := .cells #[.int .i64 a1_0,.int .i64 a1_1] 48 (0,0)) (by (with_reducible repeat (first|apply blk_drewN|apply blk_drew|apply blk_alloc));exact BK177.out)) : gb198 ≠ gb177));have n14_ := Aside0.mk ((by rw [hg];exact Nat.ne_of_lt (blk_lt (g := gb190) (o := .cells #[.int .i64 t181,.int .i64 t182,.int .i64 t183,.int .i64 t184] 59 (0,0)) (by (with_reducible repeat (first|apply blk_drewN|apply blk_drew|apply blk_alloc));exact BK190.out)) : gb190 ≠ gb198));have n15_ := Aside0.mk ((by rw [hg];exact Nat.ne_of_gt (blk_lt (g := gb190) (o := .cells #[.int .i64 t181,.int .i64 t182,.int .i64 t183,.int .i64 t184] 59 (0,0)) (by (with_reducible repeat (first|apply blk_drewN|apply blk_drew|apply blk_alloc));exact BK190.out)) : gb198 ≠ gb190));have n16_ := Aside0.mk ((by rw [hg];exact Nat.ne_of_lt (blk_lt (g := gb197) (o := .cells #[.int .i64 0,.int .i64 0] 48 (0,0)) (by (with_reducible repeat (first|apply blk_drewN|apply blk_drew|apply blk_alloc));exact BK197.out)) : gb197 ≠ gb198));have n17_ := Aside0.mk ((by rw [hg];exact Nat.ne_of_gt (blk_lt (g := gb197) (o := .cells #[.int .i64 0,.int .i64 0] 48 (0,0)) (by (with_reducible repeat (first|apply blk_drewN|apply blk_drew|apply blk_alloc));exact BK197.out)) : gb198 ≠ gb197));clear HO_2;clear HO_9;clear BK176;clear BK177;clear BK190;clear BK197;clear HB;have HO_2 := n0_;have HO_9 := n1_;have BK176 := n2_;have BK177 := n3_;have BK190 := n4_;have BK197 := n5_;have HB := n6_;have BK198 := n7_;have GW198 := n8_;have GE198 := n9_;have NB176_198 := n10_;have NB198_176 := n11_;have NB177_198 := n12_;have NB198_177 := n13_;have NB190_198 := n14_;have NB198_190 := n15_;have NB197_198 := n16_;have NB198_197 := n17_;clear n0_ n1_ n2_ n3_ n4_ n5_ n6_ n7_ n8_ n9_ n10_ n11_ n12_ n13_ n14_ n15_ n16_ n17_;clear hb hbox hg;have hnb49 := NB197_176.out;have hnc49 := NB176_197.out;have hnb50 := NB197_177.out;have hnc50 := NB177_197.out;have hnb51 := NB197_190.out;have hnc51 := NB190_197.out;have hnb52 := NB197_198.out;have hnc52 := NB198_197.out;have hcz53_0 : w48.cell? ⟨gb197,0,none⟩ = some (.int .i64 0) := (blk_cell BK197.out 0).trans rfl;have hcz53_1 : w48.cell? ⟨gb197,1,none⟩ = some (.int .i64 0) := (blk_cell BK197.out 1).trans rfl;have hfz53_0 := blk_frozen BK197.out 0;have hfz53_1 := blk_frozen BK197.out 1;have hnb54 := NB198_176.out;have hnc54 := NB176_198.out;have hnb55 := NB198_177.out;have hnc55 := NB177_198.out;have hnb56 := NB198_190.out;have hnc56 := NB190_198.out;have hcz57_0 : w48.cell? ⟨gb198,0,none⟩ = some (.int .i64 0) := (blk_cell BK198.out 0).trans rfl;have hcz57_1 : w48.cell? ⟨gb198,1,none⟩ = some (.int .i64 0) := (blk_cell BK198.out 1).trans rfl;have hfz57_0 := blk_frozen BK198.out 0;have hfz57_1 := blk_frozen BK198.out 1;have hnb58 := NB176_177.out;have hnc58 := NB177_176.out;have hnb59 := NB176_190.out;have hnc59 := NB190_176.out;have hcz60_0 : w48.cell? ⟨gb176,0,none⟩ = some (.int .i64 a0_0) := (blk_cell BK176.out 0).trans rfl;have hcz60_1 : w48.cell? ⟨gb176,1,none⟩ = some (.int .i64 a0_1) := (blk_cell BK176.out 1).trans rfl;have hcz60_2 : w48.cell? ⟨gb176,2,none⟩ = some (.int .i64 a0_2) := (blk_cell BK176.out 2).trans rfl;have hcz60_3 : w48.cell? ⟨gb176,3,none⟩ = some (.int .i64 a0_3) := (blk_cell BK176.out 3).trans rfl;have hfz60_0 := blk_frozen BK176.out 0;have hfz60_1 := blk_frozen BK176.out 1;have hfz60_2 := blk_frozen BK176.out 2;have hfz60_3 := blk_frozen BK176.out 3;have hnb61 := NB177_190.out;have hnc61 := NB190_177.out;have hcz62_0 : w48.cell? ⟨gb177,0,none⟩ = some (.int .i64 a1_0) := (blk_cell BK177.out 0).trans rfl;have hcz62_1 : w48.cell? ⟨gb177,1,none⟩ = some (.int .i64 a1_1) := (blk_cell BK177.out 1).trans rfl;have hfz62_0 := blk_frozen BK177.out 0;have hfz62_1 := blk_frozen BK177.out 1)))
     (try simp only [Act.put,List.setIfInBounds_toArray,List.set_cons_zero,List.set_cons_succ])
     go_cut [15] (fun v15 wc => ∃ (kq : Nat) (x15_42 : Bool),v15 = .bool x15_42 ∧ Aside0 (bivouaclaw19_PurseFair.j1 kq t178 t186 (wrap64 (a0_0 + a1_0)) (wrap64 (a0_1 + a1_1)) x15_42 t181 t182 t183 t184 t195 t196 = some true) ∧ Aside0 (kq ≤ kj6) ∧ Aside0 (Kd.V k48 48 wc w.heap.size (fun k_ => some k_ ≠ ((.slice Ao45 t186.length co45) : Value).ownBlock ∧ k_ ≠ gb176 ∧ k_ ≠ gb177 ∧ k_ ≠ gb190 ∧ k_ ≠ gb197 ∧ k_ ≠ gb198) (.slice Ao14 t178.length co14) t178) ∧ Aside0 (Kd.R k48 48 wc w.heap.size (fun k_ => k_ ≠ gb177 ∧ k_ ≠ gb197 ∧ k_ ≠ gb198) (.slice Ao45 t186.length co45) t186) ∧ Aside0 (wc.heap[gb176]? = some (.cells #[.int .i64 a0_0,.int .i64 a0_1,.int .i64 a0_2,.int .i64 a0_3] 59 (0,0))) ∧ Aside0 (wc.heap[gb177]? = some (.cells #[.int .i64 a1_0,.int .i64 a1_1] 48 (0,0))) ∧ Aside0 (wc.heap[gb190]? = some (.cells #[.int .i64 t181,.int .i64 t182,.int .i64 t183,.int .i64 t184] 59 (0,0))) ∧ Aside0 (wc.heap[gb197]? = some (.cells #[.int .i64 t193,.int .i64 t194] 48 (0,0))) ∧ Aside0 (wc.heap[gb198]? = some (.cells #[.int .i64 t195,.int .i64 t196] 48 (0,0))) ∧ Aside0 (Below w.heap.size w wc))
     case first =>
      have H := HC43.out
      clear HC43
      by_cases c63 : (wrap64 (a0_0 + a1_0)) ≥ t193
      ·
       rw [if_pos c63] at H
       have c63b0 : decide (t193 ≤ (wrap64 (a0_0 + a1_0))) = true := decide_eq_true c63
       clear c63
       (first|rw [c63b0]|(simp only [i64_w,i32_w];rw [c63b0])|skip)
       have H' := Aside0.mk H
       clear H
       have hnb64 := NB197_176.out
       have hnc64 := NB176_197.out
       have hnb65 := NB197_177.out
       have hnc65 := NB177_197.out
       have hnb66 := NB197_190.out
       have hnc66 := NB190_197.out
       have hnb67 := NB197_198.out
       have hnc67 := NB198_197.out
       have hcz68_0 : w48.cell? ⟨gb197,0,none⟩ = some (.int .i64 0) := (blk_cell BK197.out 0).trans rfl
       have hcz68_1 : w48.cell? ⟨gb197,1,none⟩ = some (.int .i64 0) := (blk_cell BK197.out 1).trans rfl
       have hfz68_0 := blk_frozen BK197.out 0
       have hfz68_1 := blk_frozen BK197.out 1
       go_wp2
       repeat (go_quiet (fail);try go_wp2)
       go_meet
       case rel => exact ⟨_,(decide ((wrap64 (a0_1 + a1_1)) ≥ t194)),(by first|rfl|(simp;done)|(simp [*];done)),H',⟨by have := HJ6.out;first|omega|exact Nat.le_refl _⟩,⟨by (with_reducible repeat (first|apply Kd.V_alloc|apply Kd.V_drewN|apply Kd.V_drew));exact Kd.V_mono (Kd.V_far (p := ⟨gb198,1,none⟩) (Kd.V_far (p := ⟨gb198,0,none⟩) (Kd.V_far (p := ⟨gb197,1,none⟩) (Kd.V_far (p := ⟨gb197,0,none⟩) (Kd.V_mono (Kd.V_mono HO_2.out (fun k_ hk => (⟨hk,hk.1.2⟩ : _ ∧ k_ ≠ gb197))) (fun k_ hk => (⟨hk,hk.1.2⟩ : _ ∧ k_ ≠ gb198))) (fun _ hk => hk.1.2) (.int .i64 t193)) (fun _ hk => hk.1.2) (.int .i64 t194)) (fun _ hk => hk.2) (.int .i64 t195)) (fun _ hk => hk.2) (.int .i64 t196)) (fun _ hk => ⟨hk.1.1.1.1.1,⟨hk.1.1.1.1.2.1,⟨hk.1.1.1.1.2.2.1,⟨hk.1.1.1.1.2.2.2,⟨hk.1.1.1.2,hk.1.1.2⟩⟩⟩⟩⟩)⟩,⟨by (with_reducible repeat (first|apply Kd.R_alloc|apply Kd.R_drewN|apply Kd.R_drew));exact Kd.R_mono (Kd.R_far (p := ⟨gb198,1,none⟩) (Kd.R_far (p := ⟨gb198,0,none⟩) (Kd.R_far (p := ⟨gb197,1,none⟩) (Kd.R_far (p := ⟨gb197,0,none⟩) (Kd.R_mono (Kd.R_mono HO_9.out (fun k_ hk => (⟨hk,hk.1.2⟩ : _ ∧ k_ ≠ gb197))) (fun k_ hk => (⟨hk,hk.1.2⟩ : _ ∧ k_ ≠ gb198))) (fun _ hk => hk.1.2) (.int .i64 t193)) (fun _ hk => hk.1.2) (.int .i64 t194)) (fun _ hk => hk.2) (.int .i64 t195)) (fun _ hk => hk.2) (.int .i64 t196)) (fun _ hk => ⟨hk.1.1.1.1,⟨hk.1.1.1.2,hk.1.1.2⟩⟩)⟩,⟨by (with_reducible repeat (first|apply blk_drewN|apply blk_drew|apply blk_alloc));refine blk_far ?_ NB176_198.out _;(with_reducible repeat (first|apply blk_drewN|apply blk_drew|apply blk_alloc));refine blk_far ?_ NB176_198.out _;(with_reducible repeat (first|apply blk_drewN|apply blk_drew|apply blk_alloc));refine blk_far ?_ NB176_197.out _;(with_reducible repeat (first|apply blk_drewN|apply blk_drew|apply blk_alloc));refine blk_far ?_ NB176_197.out _;(with_reducible repeat (first|apply blk_drewN|apply blk_drew|apply blk_alloc));exact BK176.out⟩,⟨by (with_reducible repeat (first|apply blk_drewN|apply blk_drew|apply blk_alloc));refine blk_far ?_ NB177_198.out _;(with_reducible repeat (first|apply blk_drewN|apply blk_drew|apply blk_alloc));refine blk_far ?_ NB177_198.out _;(with_reducible repeat (first|apply blk_drewN|apply blk_drew|apply blk_alloc));refine blk_far ?_ NB177_197.out _;(with_reducible repeat (first|apply blk_drewN|apply blk_drew|apply blk_alloc));refine blk_far ?_ NB177_197.out _;(with_reducible repeat (first|apply blk_drewN|apply blk_drew|apply blk_alloc));exact BK177.out⟩,⟨by (with_reducible repeat (first|apply blk_drewN|apply blk_drew|apply blk_alloc));refine blk_far ?_ NB190_198.out _;(with_reducible repeat (first|apply blk_drewN|apply blk_drew|apply blk_alloc));refine blk_far ?_ NB190_198.out _;(with_reducible repeat (first|apply blk_drewN|apply blk_drew|apply blk_alloc));refine blk_far ?_ NB190_197.out _;(with_reducible repeat (first|apply blk_drewN|apply blk_drew|apply blk_alloc));refine blk_far ?_ NB190_197.out _;(with_reducible repeat (first|apply blk_drewN|apply blk_drew|apply blk_alloc));exact BK190.out⟩,⟨by (with_reducible repeat (first|apply blk_drewN|apply blk_drew|apply blk_alloc));refine blk_far ?_ NB197_198.out _;(with_reducible repeat (first|apply blk_drewN|apply blk_drew|apply blk_alloc));refine blk_far ?_ NB197_198.out _;(with_reducible repeat (first|apply blk_drewN|apply blk_drew|apply blk_alloc));refine blk_put (cs := #[.int .i64 t193,.int .i64 0]) ?_ 1 _ rfl;(with_reducible repeat (first|apply blk_drewN|apply blk_drew|apply blk_alloc));refine blk_put (cs := #[.int .i64 0,.int .i64 0]) ?_ 0 _ rfl;(with_reducible repeat (first|apply blk_drewN|apply blk_drew|apply blk_alloc));exact BK197.out⟩,⟨by (with_reducible repeat (first|apply blk_drewN|apply blk_drew|apply blk_alloc));refine blk_put (cs := #[.int .i64 t195,.int .i64 0]) ?_ 1 _ rfl;(with_reducible repeat (first|apply blk_drewN|apply blk_drew|apply blk_alloc));refine blk_put (cs := #[.int .i64 0,.int .i64 0]) ?_ 0 _ rfl;(with_reducible repeat (first|apply blk_drewN|apply blk_drew|apply blk_alloc));refine blk_far ?_ NB198_197.out _;(with_reducible repeat (first|apply blk_drewN|apply blk_drew|apply blk_alloc));refine blk_far ?_ NB198_197.out _;(with_reducible repeat (first|apply blk_drewN|apply blk_drew|apply blk_alloc));exact BK198.out⟩,⟨by repeat (first|(with_reducible first|exact HB.out|apply below_alloc|apply pw_below_drewN|apply below_drew1|refine below_set ?_ GE176.out|refine below_set ?_ GE177.out|refine below_set ?_ GE190.out|refine below_set ?_ GE197.out|refine below_set ?_ GE198.out)|exact HB.out)⟩⟩
      ·
       rw [if_neg c63] at H
       have c63b0 : decide (t193 ≤ (wrap64 (a0_0 + a1_0))) = false := decide_eq_false c63
       clear c63
       (first|rw [c63b0]|(simp only [i64_w,i32_w];rw [c63b0])|skip)
       have H' := Aside0.mk H
       clear H
       have hnb69 := NB197_176.out
       have hnc69 := NB176_197.out
       have hnb70 := NB197_177.out
       have hnc70 := NB177_197.out
       have hnb71 := NB197_190.out
       have hnc71 := NB190_197.out
       have hnb72 := NB197_198.out
       have hnc72 := NB198_197.out
       have hcz73_0 : w48.cell? ⟨gb197,0,none⟩ = some (.int .i64 0) := (blk_cell BK197.out 0).trans rfl
       have hcz73_1 : w48.cell? ⟨gb197,1,none⟩ = some (.int .i64 0) := (blk_cell BK197.out 1).trans rfl
       have hfz73_0 := blk_frozen BK197.out 0
       have hfz73_1 := blk_frozen BK197.out 1
       go_wp2
       repeat (go_quiet (fail);try go_wp2)
       go_meet
       case rel => exact ⟨_,(false),(by first|rfl|(simp;done)|(simp [*];done)),H',⟨by have := HJ6.out;first|omega|exact Nat.le_refl _⟩,⟨by (with_reducible repeat (first|apply Kd.V_alloc|apply Kd.V_drewN|apply Kd.V_drew));exact Kd.V_mono (Kd.V_far (p := ⟨gb198,1,none⟩) (Kd.V_far (p := ⟨gb198,0,none⟩) (Kd.V_far (p := ⟨gb197,1,none⟩) (Kd.V_far (p := ⟨gb197,0,none⟩) (Kd.V_mono (Kd.V_mono HO_2.out (fun k_ hk => (⟨hk,hk.1.2⟩ : _ ∧ k_ ≠ gb197))) (fun k_ hk => (⟨hk,hk.1.2⟩ : _ ∧ k_ ≠ gb198))) (fun _ hk => hk.1.2) (.int .i64 t193)) (fun _ hk => hk.1.2) (.int .i64 t194)) (fun _ hk => hk.2) (.int .i64 t195)) (fun _ hk => hk.2) (.int .i64 t196)) (fun _ hk => ⟨hk.1.1.1.1.1,⟨hk.1.1.1.1.2.1,⟨hk.1.1.1.1.2.2.1,⟨hk.1.1.1.1.2.2.2,⟨hk.1.1.1.2,hk.1.1.2⟩⟩⟩⟩⟩)⟩,⟨by (with_reducible repeat (first|apply Kd.R_alloc|apply Kd.R_drewN|apply Kd.R_drew));exact Kd.R_mono (Kd.R_far (p := ⟨gb198,1,none⟩) (Kd.R_far (p := ⟨gb198,0,none⟩) (Kd.R_far (p := ⟨gb197,1,none⟩) (Kd.R_far (p := ⟨gb197,0,none⟩) (Kd.R_mono (Kd.R_mono HO_9.out (fun k_ hk => (⟨hk,hk.1.2⟩ : _ ∧ k_ ≠ gb197))) (fun k_ hk => (⟨hk,hk.1.2⟩ : _ ∧ k_ ≠ gb198))) (fun _ hk => hk.1.2) (.int .i64 t193)) (fun _ hk => hk.1.2) (.int .i64 t194)) (fun _ hk => hk.2) (.int .i64 t195)) (fun _ hk => hk.2) (.int .i64 t196)) (fun _ hk => ⟨hk.1.1.1.1,⟨hk.1.1.1.2,hk.1.1.2⟩⟩)⟩,⟨by (with_reducible repeat (first|apply blk_drewN|apply blk_drew|apply blk_alloc));refine blk_far ?_ NB176_198.out _;(with_reducible repeat (first|apply blk_drewN|apply blk_drew|apply blk_alloc));refine blk_far ?_ NB176_198.out _;(with_reducible repeat (first|apply blk_drewN|apply blk_drew|apply blk_alloc));refine blk_far ?_ NB176_197.out _;(with_reducible repeat (first|apply blk_drewN|apply blk_drew|apply blk_alloc));refine blk_far ?_ NB176_197.out _;(with_reducible repeat (first|apply blk_drewN|apply blk_drew|apply blk_alloc));exact BK176.out⟩,⟨by (with_reducible repeat (first|apply blk_drewN|apply blk_drew|apply blk_alloc));refine blk_far ?_ NB177_198.out _;(with_reducible repeat (first|apply blk_drewN|apply blk_drew|apply blk_alloc));refine blk_far ?_ NB177_198.out _;(with_reducible repeat (first|apply blk_drewN|apply blk_drew|apply blk_alloc));refine blk_far ?_ NB177_197.out _;(with_reducible repeat (first|apply blk_drewN|apply blk_drew|apply blk_alloc));refine blk_far ?_ NB177_197.out _;(with_reducible repeat (first|apply blk_drewN|apply blk_drew|apply blk_alloc));exact BK177.out⟩,⟨by (with_reducible repeat (first|apply blk_drewN|apply blk_drew|apply blk_alloc));refine blk_far ?_ NB190_198.out _;(with_reducible repeat (first|apply blk_drewN|apply blk_drew|apply blk_alloc));refine blk_far ?_ NB190_198.out _;(with_reducible repeat (first|apply blk_drewN|apply blk_drew|apply blk_alloc));refine blk_far ?_ NB190_197.out _;(with_reducible repeat (first|apply blk_drewN|apply blk_drew|apply blk_alloc));refine blk_far ?_ NB190_197.out _;(with_reducible repeat (first|apply blk_drewN|apply blk_drew|apply blk_alloc));exact BK190.out⟩,⟨by (with_reducible repeat (first|apply blk_drewN|apply blk_drew|apply blk_alloc));refine blk_far ?_ NB197_198.out _;(with_reducible repeat (first|apply blk_drewN|apply blk_drew|apply blk_alloc));refine blk_far ?_ NB197_198.out _;(with_reducible repeat (first|apply blk_drewN|apply blk_drew|apply blk_alloc));refine blk_put (cs := #[.int .i64 t193,.int .i64 0]) ?_ 1 _ rfl;(with_reducible repeat (first|apply blk_drewN|apply blk_drew|apply blk_alloc));refine blk_put (cs := #[.int .i64 0,.int .i64 0]) ?_ 0 _ rfl;(with_reducible repeat (first|apply blk_drewN|apply blk_drew|apply blk_alloc));exact BK197.out⟩,⟨by (with_reducible repeat (first|apply blk_drewN|apply blk_drew|apply blk_alloc));refine blk_put (cs := #[.int .i64 t195,.int .i64 0]) ?_ 1 _ rfl;(with_reducible repeat (first|apply blk_drewN|apply blk_drew|apply blk_alloc));refine blk_put (cs := #[.int .i64 0,.int .i64 0]) ?_ 0 _ rfl;(with_reducible repeat (first|apply blk_drewN|apply blk_drew|apply blk_alloc));refine blk_far ?_ NB198_197.out _;(with_reducible repeat (first|apply blk_drewN|apply blk_drew|apply blk_alloc));refine blk_far ?_ NB198_197.out _;(with_reducible repeat (first|apply blk_drewN|apply blk_drew|apply blk_alloc));exact BK198.out⟩,⟨by repeat (first|(with_reducible first|exact HB.out|apply below_alloc|apply pw_below_drewN|apply below_drew1|refine below_set ?_ GE176.out|refine below_set ?_ GE177.out|refine below_set ?_ GE190.out|refine below_set ?_ GE197.out|refine below_set ?_ GE198.out)|exact HB.out)⟩⟩
     case rest =>
      clear HC43
      try clear c1
      try clear c2
      try clear p2
      try clear c3
      try clear c4
      try clear c5
      try clear c6
      try clear c6b0
      try clear c6b1
      try clear p6
      try clear c7
      try clear c11
      try clear c17
      try clear c18
      try clear c19
      try clear c20
      try clear c20b0
      try clear c20b1
      try clear c20b2
      try clear c22
      try clear c23
      try clear c23b0
      try clear c25
      try clear c26
      try clear c30
      try clear c31
      try clear c35
      try clear c36
      try clear c40
      try clear c49
      try clear c50
      try clear c51
      try clear c52
      try clear c54
      try clear c55
      try clear c56
      try clear c58
      try clear c59
      try clear c61
      try clear c63
      try clear c63b0
      try clear c64
      try clear p64
      try clear c65
      try clear c66
      try clear c67
      try clear c69
      try clear c70
      try clear c71
      try clear c72
      try clear hcz12_0
      try clear hcz12_1
      try clear hcz12_2
      try clear hcz12_3
      try clear hcz13_0
      try clear hcz13_1
      try clear hcz19_0
      try clear hcz19_1
      try clear hcz19_2
      try clear hcz19_3
      try clear hcz27_0
      try clear hcz27_1
      try clear hcz27_2
      try clear hcz27_3
      try clear hcz32_0
      try clear hcz32_1
      try clear hcz32_2
      try clear hcz32_3
      try clear hcz37_0
      try clear hcz37_1
      try clear hcz37_2
      try clear hcz37_3
      try clear hcz53_0
      try clear hcz53_1
      try clear hcz57_0
      try clear hcz57_1
      try clear hcz60_0
      try clear hcz60_1
      try clear hcz60_2
      try clear hcz60_3
      try clear hcz62_0
      try clear hcz62_1
      try clear hcz68_0
      try clear hcz68_1
      try clear hcz73_0
      try clear hcz73_1
      try clear hfz12_0
      try clear hfz12_1
      try clear hfz12_2
      try clear hfz12_3
      try clear hfz13_0
      try clear hfz13_1
      try clear hfz19_0
      try clear hfz19_1
      try clear hfz19_2
      try clear hfz19_3
      try clear hfz27_0
      try clear hfz27_1
      try clear hfz27_2
      try clear hfz27_3
      try clear hfz32_0
      try clear hfz32_1
      try clear hfz32_2
      try clear hfz32_3
      try clear hfz37_0
      try clear hfz37_1
      try clear hfz37_2
      try clear hfz37_3
      try clear hfz53_0
      try clear hfz53_1
      try clear hfz57_0
      try clear hfz57_1
      try clear hfz60_0
      try clear hfz60_1
      try clear hfz60_2
      try clear hfz60_3
      try clear hfz62_0
      try clear hfz62_1
      try clear hfz68_0
      try clear hfz68_1
      try clear hfz73_0
      try clear hfz73_1
      try clear p2
      obtain ⟨kq,x15_42,rfl,HA,HJ42,HO_2,HO_9,BK176,BK177,BK190,BK197,BK198,HB⟩ := hcut
      cases kq with
     |zero => exact absurd HA.out (by simp [bivouaclaw19_PurseFair.j1])
     |succ kj42 =>
       have H := HA.out
       clear HA
       simp only [bivouaclaw19_PurseFair.j1] at H
       have H' := Aside0.mk H
       clear H
       go_wp2
       repeat (go_quiet (fail);try go_wp2)
       go_loopg [16] kj42 (fun kq v16 w' => ∃ (x16_3 : Int),v16 = .int .i64 x16_3 ∧ Aside0 (bivouaclaw19_PurseFair.l0 kq t178 t186 (wrap64 (a0_0 + a1_0)) (wrap64 (a0_1 + a1_1)) x15_42 x16_3 t181 t182 t183 t184 t195 t196 = some true) ∧ Aside0 (kq ≤ kj42) ∧ Aside0 (Kd.V k48 48 w' w.heap.size (fun k_ => some k_ ≠ ((.slice Ao45 t186.length co45) : Value).ownBlock ∧ k_ ≠ gb176 ∧ k_ ≠ gb177 ∧ k_ ≠ gb190 ∧ k_ ≠ gb197 ∧ k_ ≠ gb198) (.slice Ao14 t178.length co14) t178) ∧ Aside0 (Kd.R k48 48 w' w.heap.size (fun k_ => k_ ≠ gb177 ∧ k_ ≠ gb197 ∧ k_ ≠ gb198) (.slice Ao45 t186.length co45) t186) ∧ Aside0 (w'.heap[gb176]? = some (.cells #[.int .i64 a0_0,.int .i64 a0_1,.int .i64 a0_2,.int .i64 a0_3] 59 (0,0))) ∧ Aside0 (w'.heap[gb177]? = some (.cells #[.int .i64 a1_0,.int .i64 a1_1] 48 (0,0))) ∧ Aside0 (w'.heap[gb190]? = some (.cells #[.int .i64 t181,.int .i64 t182,.int .i64 t183,.int .i64 t184] 59 (0,0))) ∧ Aside0 (w'.heap[gb197]? = some (.cells #[.int .i64 t193,.int .i64 t194] 48 (0,0))) ∧ Aside0 (w'.heap[gb198]? = some (.cells #[.int .i64 t195,.int .i64 t196] 48 (0,0))) ∧ Aside0 (Below w.heap.size w w'))
       case atStart => exact ⟨(0),(by first|rfl|(simp;done)|(simp [*];done)),H',⟨Nat.le_refl _⟩,⟨by (with_reducible repeat (first|apply Kd.V_alloc|apply Kd.V_drewN|apply Kd.V_drew));exact HO_2.out⟩,⟨by (with_reducible repeat (first|apply Kd.R_alloc|apply Kd.R_drewN|apply Kd.R_drew));exact HO_9.out⟩,⟨by (with_reducible repeat (first|apply blk_drewN|apply blk_drew|apply blk_alloc));exact BK176.out⟩,⟨by (with_reducible repeat (first|apply blk_drewN|apply blk_drew|apply blk_alloc));exact BK177.out⟩,⟨by (with_reducible repeat (first|apply blk_drewN|apply blk_drew|apply blk_alloc));exact BK190.out⟩,⟨by (with_reducible repeat (first|apply blk_drewN|apply blk_drew|apply blk_alloc));exact BK197.out⟩,⟨by (with_reducible repeat (first|apply blk_drewN|apply blk_drew|apply blk_alloc));exact BK198.out⟩,⟨by repeat (first|(with_reducible first|exact HB.out|apply below_alloc|apply pw_below_drewN|apply below_drew1|refine below_set ?_ GE176.out|refine below_set ?_ GE177.out|refine below_set ?_ GE190.out|refine below_set ?_ GE197.out|refine below_set ?_ GE198.out)|exact HB.out)⟩⟩
       case round =>
        clear H'
        try clear c1
        try clear c2
        try clear p2
        try clear c3
        try clear c4
        try clear c5
        try clear c6
        try clear c6b0
        try clear c6b1
        try clear p6
        try clear c7
        try clear c11
        try clear c17
        try clear c18
        try clear c19
        try clear c20
        try clear c20b0
        try clear c20b1
        try clear c20b2
        try clear c22
        try clear c23
        try clear c23b0
        try clear c25
        try clear c26
        try clear c30
        try clear c31
        try clear c35
        try clear c36
        try clear c40
        try clear c49
        try clear c50
        try clear c51
        try clear c52
        try clear c54
        try clear c55
        try clear c56
        try clear c58
        try clear c59
        try clear c61
        try clear c63
        try clear c63b0
        try clear c64
        try clear p64
        try clear c65
        try clear c66
        try clear c67
        try clear c69
        try clear c70
        try clear c71
        try clear c72
        try clear hcz12_0
        try clear hcz12_1
        try clear hcz12_2
        try clear hcz12_3
        try clear hcz13_0
        try clear hcz13_1
        try clear hcz19_0
        try clear hcz19_1
        try clear hcz19_2
        try clear hcz19_3
        try clear hcz27_0
        try clear hcz27_1
        try clear hcz27_2
        try clear hcz27_3
        try clear hcz32_0
        try clear hcz32_1
        try clear hcz32_2
        try clear hcz32_3
        try clear hcz37_0
        try clear hcz37_1
        try clear hcz37_2
        try clear hcz37_3
        try clear hcz53_0
        try clear hcz53_1
        try clear hcz57_0
        try clear hcz57_1
        try clear hcz60_0
        try clear hcz60_1
        try clear hcz60_2
        try clear hcz60_3
        try clear hcz62_0
        try clear hcz62_1
        try clear hcz68_0
        try clear hcz68_1
        try clear hcz73_0
        try clear hcz73_1
        try clear hfz12_0
        try clear hfz12_1
        try clear hfz12_2
        try clear hfz12_3
        try clear hfz13_0
        try clear hfz13_1
        try clear hfz19_0
        try clear hfz19_1
        try clear hfz19_2
        try clear hfz19_3
        try clear hfz27_0
        try clear hfz27_1
        try clear hfz27_2
        try clear hfz27_3
        try clear hfz32_0
        try clear hfz32_1
        try clear hfz32_2
        try clear hfz32_3
        try clear hfz37_0
        try clear hfz37_1
        try clear hfz37_2
        try clear hfz37_3
        try clear hfz53_0
        try clear hfz53_1
        try clear hfz57_0
        try clear hfz57_1
        try clear hfz60_0
        try clear hfz60_1
        try clear hfz60_2
        try clear hfz60_3
        try clear hfz62_0
        try clear hfz62_1
        try clear hfz68_0
        try clear hfz68_1
        try clear hfz73_0
        try clear hfz73_1
        try clear p2
        try clear p6
        try clear p64
        obtain ⟨x16_3,rfl,HA,HK3,HO_2,HO_9,BK176,BK177,BK190,BK197,BK198,HB⟩ := hrel
        cases gk with
       |zero => exact absurd HA.out (by simp [bivouaclaw19_PurseFair.l0])
       |succ k3 =>
         have H := HA.out
         clear HA
         simp only [bivouaclaw19_PurseFair.l0] at H
         by_cases c74 : x16_3 < (t178.length : Int)
         ·
          rw [if_pos c74] at H
          have c74b0 : decide (x16_3 < (t178.length : Int)) = true := decide_eq_true c74
          clear c74
          have HC75 := Aside0.mk H
          clear H
          go_upto_region 13 with (fail)
          repeat (go_quiet (fail);go_upto_region 13 with (fail))
          go_cut [139] (fun v139 wc => ∃ (kq : Nat) (x139_74 : Bool),v139 = .bool x139_74 ∧ Aside0 (bivouaclaw19_PurseFair.j3 kq t178 t186 (wrap64 (a0_0 + a1_0)) (wrap64 (a0_1 + a1_1)) x15_42 x16_3 x139_74 t181 t182 t183 t184 t195 t196 = some true) ∧ Aside0 (kq ≤ k3) ∧ Aside0 (Kd.V k48 48 wc w.heap.size (fun k_ => some k_ ≠ ((.slice Ao45 t186.length co45) : Value).ownBlock ∧ k_ ≠ gb176 ∧ k_ ≠ gb177 ∧ k_ ≠ gb190 ∧ k_ ≠ gb197 ∧ k_ ≠ gb198) (.slice Ao14 t178.length co14) t178) ∧ Aside0 (Kd.R k48 48 wc w.heap.size (fun k_ => k_ ≠ gb177 ∧ k_ ≠ gb197 ∧ k_ ≠ gb198) (.slice Ao45 t186.length co45) t186) ∧ Aside0 (wc.heap[gb176]? = some (.cells #[.int .i64 a0_0,.int .i64 a0_1,.int .i64 a0_2,.int .i64 a0_3] 59 (0,0))) ∧ Aside0 (wc.heap[gb177]? = some (.cells #[.int .i64 a1_0,.int .i64 a1_1] 48 (0,0))) ∧ Aside0 (wc.heap[gb190]? = some (.cells #[.int .i64 t181,.int .i64 t182,.int .i64 t183,.int .i64 t184] 59 (0,0))) ∧ Aside0 (wc.heap[gb197]? = some (.cells #[.int .i64 t193,.int .i64 t194] 48 (0,0))) ∧ Aside0 (wc.heap[gb198]? = some (.cells #[.int .i64 t195,.int .i64 t196] 48 (0,0))) ∧ Aside0 (Below w.heap.size w wc))
          case first =>
           have H := HC75.out
           clear HC75
           by_cases c76 : 0 ≤ x16_3
           ·
            rw [if_pos c76] at H
            have c76b0 : decide (0 ≤ x16_3) = true := decide_eq_true c76
            clear c76
            (first|rw [c76b0]|(simp only [i64_w,i32_w];rw [c76b0])|skip)
            by_cases c77 : x16_3 < (t186.length : Int)
            ·
             rw [if_pos c77] at H
             have c77b0 : decide (x16_3 < (t186.length : Int)) = true := decide_eq_true c77
             clear c77
             by_cases c78 : ((rd_T48 t186 x16_3).f0) < 0
             ·
              rw [if_pos c78] at H
              have c78b0 : decide (((rd_T48 t186 x16_3).f0) < 0) = true := decide_eq_true c78
              clear c78
              have H' := Aside0.mk H
              clear H
              have p203 : 0 ≤ (x16_3 : Int) := of_decide_eq_true (by first|(with_reducible assumption)|assumption)
              have q203 : x16_3 < (t186.length : Int) := of_decide_eq_true (by first|(with_reducible assumption)|assumption)
              obtain ⟨ad203,e203,hx203_0,hx203_1⟩ := at_T48 (Kd.R_reads' HO_9.out).2.2 x16_3 p203 q203
              cases e203
              replace p203 := eq_true p203
              replace q203 := eq_true q203
              go_wp2
              repeat (go_quiet (fail);try go_wp2)
              go_meet
              case rel => exact ⟨_,(true),(by first|rfl|(simp;done)|(simp [*];done)),H',⟨by have := HJ6.out;have := HJ42.out;have := HK3.out;first|omega|exact Nat.le_refl _⟩,⟨by (with_reducible repeat (first|apply Kd.V_alloc|apply Kd.V_drewN|apply Kd.V_drew));exact HO_2.out⟩,⟨by (with_reducible repeat (first|apply Kd.R_alloc|apply Kd.R_drewN|apply Kd.R_drew));exact HO_9.out⟩,⟨by (with_reducible repeat (first|apply blk_drewN|apply blk_drew|apply blk_alloc));exact BK176.out⟩,⟨by (with_reducible repeat (first|apply blk_drewN|apply blk_drew|apply blk_alloc));exact BK177.out⟩,⟨by (with_reducible repeat (first|apply blk_drewN|apply blk_drew|apply blk_alloc));exact BK190.out⟩,⟨by (with_reducible repeat (first|apply blk_drewN|apply blk_drew|apply blk_alloc));exact BK197.out⟩,⟨by (with_reducible repeat (first|apply blk_drewN|apply blk_drew|apply blk_alloc));exact BK198.out⟩,⟨by repeat (first|(with_reducible first|exact HB.out|apply below_alloc|apply pw_below_drewN|apply below_drew1|refine below_set ?_ GE176.out|refine below_set ?_ GE177.out|refine below_set ?_ GE190.out|refine below_set ?_ GE197.out|refine below_set ?_ GE198.out)|exact HB.out)⟩⟩
             ·
              rw [if_neg c78] at H
              have c78b0 : decide (((rd_T48 t186 x16_3).f0) < 0) = false := decide_eq_false c78
              clear c78
              by_cases c79 : ((rd_T48 t186 x16_3).f0) > ((rd_T48 t178 x16_3).f0)
              ·
               rw [if_pos c79] at H
               have c79b0 : decide (((rd_T48 t178 x16_3).f0) < ((rd_T48 t186 x16_3).f0)) = true := decide_eq_true c79
               clear c79
               have H' := Aside0.mk H
               clear H
               have p203 : 0 ≤ (x16_3 : Int) := of_decide_eq_true (by first|(with_reducible assumption)|assumption)
               have q203 : x16_3 < (t186.length : Int) := of_decide_eq_true (by first|(with_reducible assumption)|assumption)
               obtain ⟨ad203,e203,hx203_0,hx203_1⟩ := at_T48 (Kd.R_reads' HO_9.out).2.2 x16_3 p203 q203
               cases e203
               replace p203 := eq_true p203
               replace q203 := eq_true q203
               have p204 : 0 ≤ (x16_3 : Int) := of_decide_eq_true (by first|(with_reducible assumption)|assumption)
               have q204 : x16_3 < (t186.length : Int) := of_decide_eq_true (by first|(with_reducible assumption)|assumption)
               obtain ⟨ad204,e204,hx204_0,hx204_1⟩ := at_T48 (Kd.R_reads' HO_9.out).2.2 x16_3 p204 q204
               obtain rfl : ad203 = ad204 := (by injection e204)
               replace p204 := eq_true p204
               replace q204 := eq_true q204
               have p205 : 0 ≤ (x16_3 : Int) := of_decide_eq_true (by first|(with_reducible assumption)|assumption)
               have q205 : x16_3 < (t178.length : Int) := of_decide_eq_true (by first|(with_reducible assumption)|assumption)
               obtain ⟨ad205,e205,hx205_0,hx205_1⟩ := at_T48 (Kd.V_reads' HO_2.out).2.2 x16_3 p205 q205
               cases e205
               replace p205 := eq_true p205
               replace q205 := eq_true q205
               go_wp2
               repeat (go_quiet (fail);try go_wp2)
               go_meet
               case rel => exact ⟨_,(true),(by first|rfl|(simp;done)|(simp [*];done)),H',⟨by have := HJ6.out;have := HJ42.out;have := HK3.out;first|omega|exact Nat.le_refl _⟩,⟨by (with_reducible repeat (first|apply Kd.V_alloc|apply Kd.V_drewN|apply Kd.V_drew));exact HO_2.out⟩,⟨by (with_reducible repeat (first|apply Kd.R_alloc|apply Kd.R_drewN|apply Kd.R_drew));exact HO_9.out⟩,⟨by (with_reducible repeat (first|apply blk_drewN|apply blk_drew|apply blk_alloc));exact BK176.out⟩,⟨by (with_reducible repeat (first|apply blk_drewN|apply blk_drew|apply blk_alloc));exact BK177.out⟩,⟨by (with_reducible repeat (first|apply blk_drewN|apply blk_drew|apply blk_alloc));exact BK190.out⟩,⟨by (with_reducible repeat (first|apply blk_drewN|apply blk_drew|apply blk_alloc));exact BK197.out⟩,⟨by (with_reducible repeat (first|apply blk_drewN|apply blk_drew|apply blk_alloc));exact BK198.out⟩,⟨by repeat (first|(with_reducible first|exact HB.out|apply below_alloc|apply pw_below_drewN|apply below_drew1|refine below_set ?_ GE176.out|refine below_set ?_ GE177.out|refine below_set ?_ GE190.out|refine below_set ?_ GE197.out|refine below_set ?_ GE198.out)|exact HB.out)⟩⟩
              ·
               rw [if_neg c79] at H
               have c79b0 : decide (((rd_T48 t178 x16_3).f0) < ((rd_T48 t186 x16_3).f0)) = false := decide_eq_false c79
               clear c79
               by_cases c80 : ((rd_T48 t186 x16_3).f1) < 0
               ·
                rw [if_pos c80] at H
                have c80b0 : decide (((rd_T48 t186 x16_3).f1) < 0) = true := decide_eq_true c80
                clear c80
                have H' := Aside0.mk H
                clear H
                have p203 : 0 ≤ (x16_3 : Int) := of_decide_eq_true (by first|(with_reducible assumption)|assumption)
                have q203 : x16_3 < (t186.length : Int) := of_decide_eq_true (by first|(with_reducible assumption)|assumption)
                obtain ⟨ad203,e203,hx203_0,hx203_1⟩ := at_T48 (Kd.R_reads' HO_9.out).2.2 x16_3 p203 q203
                cases e203
                replace p203 := eq_true p203
                replace q203 := eq_true q203
                have p204 : 0 ≤ (x16_3 : Int) := of_decide_eq_true (by first|(with_reducible assumption)|assumption)
                have q204 : x16_3 < (t186.length : Int) := of_decide_eq_true (by first|(with_reducible assumption)|assumption)
                obtain ⟨ad204,e204,hx204_0,hx204_1⟩ := at_T48 (Kd.R_reads' HO_9.out).2.2 x16_3 p204 q204
                obtain rfl : ad203 = ad204 := (by injection e204)
                replace p204 := eq_true p204
                replace q204 := eq_true q204
                have p205 : 0 ≤ (x16_3 : Int) := of_decide_eq_true (by first|(with_reducible assumption)|assumption)
                have q205 : x16_3 < (t178.length : Int) := of_decide_eq_true (by first|(with_reducible assumption)|assumption)
                obtain ⟨ad205,e205,hx205_0,hx205_1⟩ := at_T48 (Kd.V_reads' HO_2.out).2.2 x16_3 p205 q205
                cases e205
                replace p205 := eq_true p205
                replace q205 := eq_true q205
                have p206 : 0 ≤ (x16_3 : Int) := of_decide_eq_true (by first|(with_reducible assumption)|assumption)
                have q206 : x16_3 < (t186.length : Int) := of_decide_eq_true (by first|(with_reducible assumption)|assumption)
                obtain ⟨ad206,e206,hx206_0,hx206_1⟩ := at_T48 (Kd.R_reads' HO_9.out).2.2 x16_3 p206 q206
                obtain rfl : ad203 = ad206 := (by injection e206)
                replace p206 := eq_true p206
                replace q206 := eq_true q206
                go_wp2
                repeat (go_quiet (fail);try go_wp2)
                go_meet
                case rel => exact ⟨_,(true),(by first|rfl|(simp;done)|(simp [*];done)),H',⟨by have := HJ6.out;have := HJ42.out;have := HK3.out;first|omega|exact Nat.le_refl _⟩,⟨by (with_reducible repeat (first|apply Kd.V_alloc|apply Kd.V_drewN|apply Kd.V_drew));exact HO_2.out⟩,⟨by (with_reducible repeat (first|apply Kd.R_alloc|apply Kd.R_drewN|apply Kd.R_drew));exact HO_9.out⟩,⟨by (with_reducible repeat (first|apply blk_drewN|apply blk_drew|apply blk_alloc));exact BK176.out⟩,⟨by (with_reducible repeat (first|apply blk_drewN|apply blk_drew|apply blk_alloc));exact BK177.out⟩,⟨by (with_reducible repeat (first|apply blk_drewN|apply blk_drew|apply blk_alloc));exact BK190.out⟩,⟨by (with_reducible repeat (first|apply blk_drewN|apply blk_drew|apply blk_alloc));exact BK197.out⟩,⟨by (with_reducible repeat (first|apply blk_drewN|apply blk_drew|apply blk_alloc));exact BK198.out⟩,⟨by repeat (first|(with_reducible first|exact HB.out|apply below_alloc|apply pw_below_drewN|apply below_drew1|refine below_set ?_ GE176.out|refine below_set ?_ GE177.out|refine below_set ?_ GE190.out|refine below_set ?_ GE197.out|refine below_set ?_ GE198.out)|exact HB.out)⟩⟩
               ·
                rw [if_neg c80] at H
                have c80b0 : decide (((rd_T48 t186 x16_3).f1) < 0) = false := decide_eq_false c80
                clear c80
                by_cases c81 : ((rd_T48 t186 x16_3).f1) > ((rd_T48 t178 x16_3).f1)
                ·
                 rw [if_pos c81] at H
                 have c81b0 : decide (((rd_T48 t178 x16_3).f1) < ((rd_T48 t186 x16_3).f1)) = true := decide_eq_true c81
                 clear c81
                 have H' := Aside0.mk H
                 clear H
                 have p203 : 0 ≤ (x16_3 : Int) := of_decide_eq_true (by first|(with_reducible assumption)|assumption)
                 have q203 : x16_3 < (t186.length : Int) := of_decide_eq_true (by first|(with_reducible assumption)|assumption)
                 obtain ⟨ad203,e203,hx203_0,hx203_1⟩ := at_T48 (Kd.R_reads' HO_9.out).2.2 x16_3 p203 q203
                 cases e203
                 replace p203 := eq_true p203
                 replace q203 := eq_true q203
                 have p204 : 0 ≤ (x16_3 : Int) := of_decide_eq_true (by first|(with_reducible assumption)|assumption)
                 have q204 : x16_3 < (t186.length : Int) := of_decide_eq_true (by first|(with_reducible assumption)|assumption)
                 obtain ⟨ad204,e204,hx204_0,hx204_1⟩ := at_T48 (Kd.R_reads' HO_9.out).2.2 x16_3 p204 q204
                 obtain rfl : ad203 = ad204 := (by injection e204)
                 replace p204 := eq_true p204
                 replace q204 := eq_true q204
                 have p205 : 0 ≤ (x16_3 : Int) := of_decide_eq_true (by first|(with_reducible assumption)|assumption)
                 have q205 : x16_3 < (t178.length : Int) := of_decide_eq_true (by first|(with_reducible assumption)|assumption)
                 obtain ⟨ad205,e205,hx205_0,hx205_1⟩ := at_T48 (Kd.V_reads' HO_2.out).2.2 x16_3 p205 q205
                 cases e205
                 replace p205 := eq_true p205
                 replace q205 := eq_true q205
                 have p206 : 0 ≤ (x16_3 : Int) := of_decide_eq_true (by first|(with_reducible assumption)|assumption)
                 have q206 : x16_3 < (t186.length : Int) := of_decide_eq_true (by first|(with_reducible assumption)|assumption)
                 obtain ⟨ad206,e206,hx206_0,hx206_1⟩ := at_T48 (Kd.R_reads' HO_9.out).2.2 x16_3 p206 q206
                 obtain rfl : ad203 = ad206 := (by injection e206)
                 replace p206 := eq_true p206
                 replace q206 := eq_true q206
                 have p207 : 0 ≤ (x16_3 : Int) := of_decide_eq_true (by first|(with_reducible assumption)|assumption)
                 have q207 : x16_3 < (t186.length : Int) := of_decide_eq_true (by first|(with_reducible assumption)|assumption)
                 obtain ⟨ad207,e207,hx207_0,hx207_1⟩ := at_T48 (Kd.R_reads' HO_9.out).2.2 x16_3 p207 q207
                 obtain rfl : ad203 = ad207 := (by injection e207)
                 replace p207 := eq_true p207
                 replace q207 := eq_true q207
                 have p208 : 0 ≤ (x16_3 : Int) := of_decide_eq_true (by first|(with_reducible assumption)|assumption)
                 have q208 : x16_3 < (t178.length : Int) := of_decide_eq_true (by first|(with_reducible assumption)|assumption)
                 obtain ⟨ad208,e208,hx208_0,hx208_1⟩ := at_T48 (Kd.V_reads' HO_2.out).2.2 x16_3 p208 q208
                 obtain rfl : ad205 = ad208 := (by injection e208)
                 replace p208 := eq_true p208
                 replace q208 := eq_true q208
                 go_wp2
                 repeat (go_quiet (fail);try go_wp2)
                 go_meet
                 case rel => exact ⟨_,(true),(by first|rfl|(simp;done)|(simp [*];done)),H',⟨by have := HJ6.out;have := HJ42.out;have := HK3.out;first|omega|exact Nat.le_refl _⟩,⟨by (with_reducible repeat (first|apply Kd.V_alloc|apply Kd.V_drewN|apply Kd.V_drew));exact HO_2.out⟩,⟨by (with_reducible repeat (first|apply Kd.R_alloc|apply Kd.R_drewN|apply Kd.R_drew));exact HO_9.out⟩,⟨by (with_reducible repeat (first|apply blk_drewN|apply blk_drew|apply blk_alloc));exact BK176.out⟩,⟨by (with_reducible repeat (first|apply blk_drewN|apply blk_drew|apply blk_alloc));exact BK177.out⟩,⟨by (with_reducible repeat (first|apply blk_drewN|apply blk_drew|apply blk_alloc));exact BK190.out⟩,⟨by (with_reducible repeat (first|apply blk_drewN|apply blk_drew|apply blk_alloc));exact BK197.out⟩,⟨by (with_reducible repeat (first|apply blk_drewN|apply blk_drew|apply blk_alloc));exact BK198.out⟩,⟨by repeat (first|(with_reducible first|exact HB.out|apply below_alloc|apply pw_below_drewN|apply below_drew1|refine below_set ?_ GE176.out|refine below_set ?_ GE177.out|refine below_set ?_ GE190.out|refine below_set ?_ GE197.out|refine below_set ?_ GE198.out)|exact HB.out)⟩⟩
                ·
                 rw [if_neg c81] at H
                 have c81b0 : decide (((rd_T48 t178 x16_3).f1) < ((rd_T48 t186 x16_3).f1)) = false := decide_eq_false c81
                 clear c81
                 by_cases c82 : x15_42 = true
                 ·
                  subst c82
                  have H1 : (bivouaclaw19_PurseFair.j3 k3 t178 t186 (wrap64 (a0_0 + a1_0)) (wrap64 (a0_1 + a1_1)) true x16_3 (!(((rd_T48 t186 x16_3).f0) == ((rd_T48 t178 x16_3).f0)) || (!(((rd_T48 t186 x16_3).f1) == ((rd_T48 t178 x16_3).f1)))) t181 t182 t183 t184 t195 t196) = some true := by rw [if_pos rfl] at H;exact H
                  clear H
                  have H := H1
                  clear H1
                  have H' := Aside0.mk H
                  clear H
                  have p203 : 0 ≤ (x16_3 : Int) := of_decide_eq_true (by first|(with_reducible assumption)|assumption)
                  have q203 : x16_3 < (t186.length : Int) := of_decide_eq_true (by first|(with_reducible assumption)|assumption)
                  obtain ⟨ad203,e203,hx203_0,hx203_1⟩ := at_T48 (Kd.R_reads' HO_9.out).2.2 x16_3 p203 q203
                  cases e203
                  replace p203 := eq_true p203
                  replace q203 := eq_true q203
                  have p204 : 0 ≤ (x16_3 : Int) := of_decide_eq_true (by first|(with_reducible assumption)|assumption)
                  have q204 : x16_3 < (t186.length : Int) := of_decide_eq_true (by first|(with_reducible assumption)|assumption)
                  obtain ⟨ad204,e204,hx204_0,hx204_1⟩ := at_T48 (Kd.R_reads' HO_9.out).2.2 x16_3 p204 q204
                  obtain rfl : ad203 = ad204 := (by injection e204)
                  replace p204 := eq_true p204
                  replace q204 := eq_true q204
                  have p205 : 0 ≤ (x16_3 : Int) := of_decide_eq_true (by first|(with_reducible assumption)|assumption)
                  have q205 : x16_3 < (t178.length : Int) := of_decide_eq_true (by first|(with_reducible assumption)|assumption)
                  obtain ⟨ad205,e205,hx205_0,hx205_1⟩ := at_T48 (Kd.V_reads' HO_2.out).2.2 x16_3 p205 q205
                  cases e205
                  replace p205 := eq_true p205
                  replace q205 := eq_true q205
                  have p206 : 0 ≤ (x16_3 : Int) := of_decide_eq_true (by first|(with_reducible assumption)|assumption)
                  have q206 : x16_3 < (t186.length : Int) := of_decide_eq_true (by first|(with_reducible assumption)|assumption)
                  obtain ⟨ad206,e206,hx206_0,hx206_1⟩ := at_T48 (Kd.R_reads' HO_9.out).2.2 x16_3 p206 q206
                  obtain rfl : ad203 = ad206 := (by injection e206)
                  replace p206 := eq_true p206
                  replace q206 := eq_true q206
                  have p207 : 0 ≤ (x16_3 : Int) := of_decide_eq_true (by first|(with_reducible assumption)|assumption)
                  have q207 : x16_3 < (t186.length : Int) := of_decide_eq_true (by first|(with_reducible assumption)|assumption)
                  obtain ⟨ad207,e207,hx207_0,hx207_1⟩ := at_T48 (Kd.R_reads' HO_9.out).2.2 x16_3 p207 q207
                  obtain rfl : ad203 = ad207 := (by injection e207)
                  replace p207 := eq_true p207
                  replace q207 := eq_true q207
                  have p208 : 0 ≤ (x16_3 : Int) := of_decide_eq_true (by first|(with_reducible assumption)|assumption)
                  have q208 : x16_3 < (t178.length : Int) := of_decide_eq_true (by first|(with_reducible assumption)|assumption)
                  obtain ⟨ad208,e208,hx208_0,hx208_1⟩ := at_T48 (Kd.V_reads' HO_2.out).2.2 x16_3 p208 q208
                  obtain rfl : ad205 = ad208 := (by injection e208)
                  replace p208 := eq_true p208
                  replace q208 := eq_true q208
                  have p209 : 0 ≤ (x16_3 : Int) := of_decide_eq_true (by first|(with_reducible assumption)|assumption)
                  have q209 : x16_3 < (t186.length : Int) := of_decide_eq_true (by first|(with_reducible assumption)|assumption)
                  obtain ⟨ad209,e209,hx209_0,hx209_1⟩ := at_T48 (Kd.R_reads' HO_9.out).2.2 x16_3 p209 q209
                  obtain rfl : ad203 = ad209 := (by injection e209)
                  replace p209 := eq_true p209
                  replace q209 := eq_true q209
                  have p210 : 0 ≤ (x16_3 : Int) := of_decide_eq_true (by first|(with_reducible assumption)|assumption)
                  have q210 : x16_3 < (t178.length : Int) := of_decide_eq_true (by first|(with_reducible assumption)|assumption)
                  obtain ⟨ad210,e210,hx210_0,hx210_1⟩ := at_T48 (Kd.V_reads' HO_2.out).2.2 x16_3 p210 q210
                  obtain rfl : ad205 = ad210 := (by injection e210)
                  replace p210 := eq_true p210
                  replace q210 := eq_true q210
                  go_wp2
                  repeat (go_quiet (fail);try go_wp2)
                  go_meet
                  case rel => exact ⟨_,((!(((rd_T48 t186 x16_3).f0) == ((rd_T48 t178 x16_3).f0)) || (!(((rd_T48 t186 x16_3).f1) == ((rd_T48 t178 x16_3).f1))))),(by first|rfl|(simp;done)|(simp [*];done)),H',⟨by have := HJ6.out;have := HJ42.out;have := HK3.out;first|omega|exact Nat.le_refl _⟩,⟨by (with_reducible repeat (first|apply Kd.V_alloc|apply Kd.V_drewN|apply Kd.V_drew));exact HO_2.out⟩,⟨by (with_reducible repeat (first|apply Kd.R_alloc|apply Kd.R_drewN|apply Kd.R_drew));exact HO_9.out⟩,⟨by (with_reducible repeat (first|apply blk_drewN|apply blk_drew|apply blk_alloc));exact BK176.out⟩,⟨by (with_reducible repeat (first|apply blk_drewN|apply blk_drew|apply blk_alloc));exact BK177.out⟩,⟨by (with_reducible repeat (first|apply blk_drewN|apply blk_drew|apply blk_alloc));exact BK190.out⟩,⟨by (with_reducible repeat (first|apply blk_drewN|apply blk_drew|apply blk_alloc));exact BK197.out⟩,⟨by (with_reducible repeat (first|apply blk_drewN|apply blk_drew|apply blk_alloc));exact BK198.out⟩,⟨by repeat (first|(with_reducible first|exact HB.out|apply below_alloc|apply pw_below_drewN|apply below_drew1|refine below_set ?_ GE176.out|refine below_set ?_ GE177.out|refine below_set ?_ GE190.out|refine below_set ?_ GE197.out|refine below_set ?_ GE198.out)|exact HB.out)⟩⟩
                 ·
                  replace c82 := Bool.eq_false_iff.mpr c82
                  subst c82
                  have H1 : (bivouaclaw19_PurseFair.j3 k3 t178 t186 (wrap64 (a0_0 + a1_0)) (wrap64 (a0_1 + a1_1)) false x16_3 false t181 t182 t183 t184 t195 t196) = some true := by rw [if_neg (show ¬ (false = true) by decide)] at H;exact H
                  clear H
                  have H := H1
                  clear H1
                  have H' := Aside0.mk H
                  clear H
                  have p203 : 0 ≤ (x16_3 : Int) := of_decide_eq_true (by first|(with_reducible assumption)|assumption)
                  have q203 : x16_3 < (t186.length : Int) := of_decide_eq_true (by first|(with_reducible assumption)|assumption)
                  obtain ⟨ad203,e203,hx203_0,hx203_1⟩ := at_T48 (Kd.R_reads' HO_9.out).2.2 x16_3 p203 q203
                  cases e203
                  replace p203 := eq_true p203
                  replace q203 := eq_true q203
                  have p204 : 0 ≤ (x16_3 : Int) := of_decide_eq_true (by first|(with_reducible assumption)|assumption)
                  have q204 : x16_3 < (t186.length : Int) := of_decide_eq_true (by first|(with_reducible assumption)|assumption)
                  obtain ⟨ad204,e204,hx204_0,hx204_1⟩ := at_T48 (Kd.R_reads' HO_9.out).2.2 x16_3 p204 q204
                  obtain rfl : ad203 = ad204 := (by injection e204)
                  replace p204 := eq_true p204
                  replace q204 := eq_true q204
                  have p205 : 0 ≤ (x16_3 : Int) := of_decide_eq_true (by first|(with_reducible assumption)|assumption)
                  have q205 : x16_3 < (t178.length : Int) := of_decide_eq_true (by first|(with_reducible assumption)|assumption)
                  obtain ⟨ad205,e205,hx205_0,hx205_1⟩ := at_T48 (Kd.V_reads' HO_2.out).2.2 x16_3 p205 q205
                  cases e205
                  replace p205 := eq_true p205
                  replace q205 := eq_true q205
                  have p206 : 0 ≤ (x16_3 : Int) := of_decide_eq_true (by first|(with_reducible assumption)|assumption)
                  have q206 : x16_3 < (t186.length : Int) := of_decide_eq_true (by first|(with_reducible assumption)|assumption)
                  obtain ⟨ad206,e206,hx206_0,hx206_1⟩ := at_T48 (Kd.R_reads' HO_9.out).2.2 x16_3 p206 q206
                  obtain rfl : ad203 = ad206 := (by injection e206)
                  replace p206 := eq_true p206
                  replace q206 := eq_true q206
                  have p207 : 0 ≤ (x16_3 : Int) := of_decide_eq_true (by first|(with_reducible assumption)|assumption)
                  have q207 : x16_3 < (t186.length : Int) := of_decide_eq_true (by first|(with_reducible assumption)|assumption)
                  obtain ⟨ad207,e207,hx207_0,hx207_1⟩ := at_T48 (Kd.R_reads' HO_9.out).2.2 x16_3 p207 q207
                  obtain rfl : ad203 = ad207 := (by injection e207)
                  replace p207 := eq_true p207
                  replace q207 := eq_true q207
                  have p208 : 0 ≤ (x16_3 : Int) := of_decide_eq_true (by first|(with_reducible assumption)|assumption)
                  have q208 : x16_3 < (t178.length : Int) := of_decide_eq_true (by first|(with_reducible assumption)|assumption)
                  obtain ⟨ad208,e208,hx208_0,hx208_1⟩ := at_T48 (Kd.V_reads' HO_2.out).2.2 x16_3 p208 q208
                  obtain rfl : ad205 = ad208 := (by injection e208)
                  replace p208 := eq_true p208
                  replace q208 := eq_true q208
                  go_wp2
                  repeat (go_quiet (fail);try go_wp2)
                  go_meet
                  case rel => exact ⟨_,(false),(by first|rfl|(simp;done)|(simp [*];done)),H',⟨by have := HJ6.out;have := HJ42.out;have := HK3.out;first|omega|exact Nat.le_refl _⟩,⟨by (with_reducible repeat (first|apply Kd.V_alloc|apply Kd.V_drewN|apply Kd.V_drew));exact HO_2.out⟩,⟨by (with_reducible repeat (first|apply Kd.R_alloc|apply Kd.R_drewN|apply Kd.R_drew));exact HO_9.out⟩,⟨by (with_reducible repeat (first|apply blk_drewN|apply blk_drew|apply blk_alloc));exact BK176.out⟩,⟨by (with_reducible repeat (first|apply blk_drewN|apply blk_drew|apply blk_alloc));exact BK177.out⟩,⟨by (with_reducible repeat (first|apply blk_drewN|apply blk_drew|apply blk_alloc));exact BK190.out⟩,⟨by (with_reducible repeat (first|apply blk_drewN|apply blk_drew|apply blk_alloc));exact BK197.out⟩,⟨by (with_reducible repeat (first|apply blk_drewN|apply blk_drew|apply blk_alloc));exact BK198.out⟩,⟨by repeat (first|(with_reducible first|exact HB.out|apply below_alloc|apply pw_below_drewN|apply below_drew1|refine below_set ?_ GE176.out|refine below_set ?_ GE177.out|refine below_set ?_ GE190.out|refine below_set ?_ GE197.out|refine below_set ?_ GE198.out)|exact HB.out)⟩⟩
            ·
             rw [if_neg c77] at H
             exact absurd H (by simp)
           ·
            rw [if_neg c76] at H
            exact absurd H (by simp)
          case rest =>
           clear HC75
           try clear c1
           try clear c2
           try clear p2
           try clear q2
           try clear hx2
           try clear c3
           try clear c4
           try clear c5
           try clear c6
           try clear c6b0
           try clear c6b1
           try clear p6
           try clear c7
           try clear c8
           try clear c11
           try clear c17
           try clear c18
           try clear c19
           try clear c20
           try clear c20b0
           try clear c20b1
           try clear c20b2
           try clear p20
           try clear q20
           try clear hx20
           try clear p21
           try clear q21
           try clear hx21
           try clear c22
           try clear c23
           try clear c23b0
           try clear c25
           try clear c26
           try clear c30
           try clear c31
           try clear c35
           try clear c36
           try clear c40
           try clear c49
           try clear c50
           try clear c51
           try clear c52
           try clear c54
           try clear c55
           try clear c56
           try clear c58
           try clear c59
           try clear c61
           try clear c63
           try clear c63b0
           try clear c64
           try clear p64
           try clear c65
           try clear c66
           try clear c67
           try clear c69
           try clear c70
           try clear c71
           try clear c72
           try clear c74
           try clear c74b0
           try clear c76
           try clear c76b0
           try clear c77
           try clear c77b0
           try clear c78
           try clear c78b0
           try clear c79
           try clear c79b0
           try clear c80
           try clear c80b0
           try clear c81
           try clear c81b0
           try clear c82
           try clear hcz12_0
           try clear hcz12_1
           try clear hcz12_2
           try clear hcz12_3
           try clear hcz13_0
           try clear hcz13_1
           try clear hcz19_0
           try clear hcz19_1
           try clear hcz19_2
           try clear hcz19_3
           try clear hcz27_0
           try clear hcz27_1
           try clear hcz27_2
           try clear hcz27_3
           try clear hcz32_0
           try clear hcz32_1
           try clear hcz32_2
           try clear hcz32_3
           try clear hcz37_0
           try clear hcz37_1
           try clear hcz37_2
           try clear hcz37_3
           try clear hcz53_0
           try clear hcz53_1
           try clear hcz57_0
           try clear hcz57_1
           try clear hcz60_0
           try clear hcz60_1
           try clear hcz60_2
           try clear hcz60_3
           try clear hcz62_0
           try clear hcz62_1
           try clear hcz68_0
           try clear hcz68_1
           try clear hcz73_0
           try clear hcz73_1
           try clear hfz12_0
           try clear hfz12_1
           try clear hfz12_2
           try clear hfz12_3
           try clear hfz13_0
           try clear hfz13_1
           try clear hfz19_0
           try clear hfz19_1
           try clear hfz19_2
           try clear hfz19_3
           try clear hfz27_0
           try clear hfz27_1
           try clear hfz27_2
           try clear hfz27_3
           try clear hfz32_0
           try clear hfz32_1
           try clear hfz32_2
           try clear hfz32_3
           try clear hfz37_0
           try clear hfz37_1
           try clear hfz37_2
           try clear hfz37_3
           try clear hfz53_0
           try clear hfz53_1
           try clear hfz57_0
           try clear hfz57_1
           try clear hfz60_0
           try clear hfz60_1
           try clear hfz60_2
           try clear hfz60_3
           try clear hfz62_0
           try clear hfz62_1
           try clear hfz68_0
           try clear hfz68_1
           try clear hfz73_0
           try clear hfz73_1
           try clear hx203_0
           try clear hx203_1
           try clear hx204_0
           try clear hx204_1
           try clear hx205_0
           try clear hx205_1
           try clear hx206_0
           try clear hx206_1
           try clear hx207_0
           try clear hx207_1
           try clear hx208_0
           try clear hx208_1
           try clear hx209_0
           try clear hx209_1
           try clear hx210_0
           try clear hx210_1
           try clear p2
           try clear p203
           try clear p204
           try clear p205
           try clear p206
           try clear p207
           try clear p208
           try clear p209
           try clear p210
           try clear p6
           try clear p64
           try clear q203
           try clear q204
           try clear q205
           try clear q206
           try clear q207
           try clear q208
           try clear q209
           try clear q210
           obtain ⟨kq,x139_74,rfl,HA,HJ74,HO_2,HO_9,BK176,BK177,BK190,BK197,BK198,HB⟩ := hcut
           cases kq with
          |zero => exact absurd HA.out (by simp [bivouaclaw19_PurseFair.j3])
          |succ kj74 =>
            have H := HA.out
            clear HA
            simp only [bivouaclaw19_PurseFair.j3] at H
            by_cases c83 : x139_74 = true
            ·
             subst c83
             have H1 : (some false) = some true := by rw [if_pos rfl] at H;exact H
             clear H
             have H := H1
             clear H1
             exact absurd H (by simp)
            ·
             replace c83 := Bool.eq_false_iff.mpr c83
             subst c83
             have H1 : (bivouaclaw19_PurseFair.l0 kj74 t178 t186 (wrap64 (a0_0 + a1_0)) (wrap64 (a0_1 + a1_1)) x15_42 (wrap64 (x16_3 + 1)) t181 t182 t183 t184 t195 t196) = some true := by rw [if_neg (show ¬ (false = true) by decide)] at H;exact H
             clear H
             have H := H1
             clear H1
             have H' := Aside0.mk H
             clear H
             go_wp2
             repeat (go_quiet (fail);try go_wp2)
             go_roundg kj74
             case measure => have := HJ6.out;have := HJ42.out;have := HK3.out;have := HJ74.out;omega
             case rel => exact ⟨(wrap64 (x16_3 + 1)),(by first|rfl|(simp;done)|(simp [*];done)),H',⟨by have := HJ6.out;have := HJ42.out;have := HK3.out;have := HJ74.out;omega⟩,⟨by (with_reducible repeat (first|apply Kd.V_alloc|apply Kd.V_drewN|apply Kd.V_drew));exact HO_2.out⟩,⟨by (with_reducible repeat (first|apply Kd.R_alloc|apply Kd.R_drewN|apply Kd.R_drew));exact HO_9.out⟩,⟨by (with_reducible repeat (first|apply blk_drewN|apply blk_drew|apply blk_alloc));exact BK176.out⟩,⟨by (with_reducible repeat (first|apply blk_drewN|apply blk_drew|apply blk_alloc));exact BK177.out⟩,⟨by (with_reducible repeat (first|apply blk_drewN|apply blk_drew|apply blk_alloc));exact BK190.out⟩,⟨by (with_reducible repeat (first|apply blk_drewN|apply blk_drew|apply blk_alloc));exact BK197.out⟩,⟨by (with_reducible repeat (first|apply blk_drewN|apply blk_drew|apply blk_alloc));exact BK198.out⟩,⟨by repeat (first|(with_reducible first|exact HB.out|apply below_alloc|apply pw_below_drewN|apply below_drew1|refine below_set ?_ GE176.out|refine below_set ?_ GE177.out|refine below_set ?_ GE190.out|refine below_set ?_ GE197.out|refine below_set ?_ GE198.out)|exact HB.out)⟩⟩
         ·
          rw [if_neg c74] at H
          have c74b0 : decide (x16_3 < (t178.length : Int)) = false := decide_eq_false c74
          clear c74
          by_cases c84 : t195 ≤ (wrap64 (a0_0 + a1_0))
          ·
           rw [if_pos c84] at H
           have c84b0 : decide (t195 ≤ (wrap64 (a0_0 + a1_0))) = true := decide_eq_true c84
           clear c84
           by_cases c85 : t196 ≤ (wrap64 (a0_1 + a1_1))
           ·
            rw [if_pos c85] at H
            have c85b0 : decide (t196 ≤ (wrap64 (a0_1 + a1_1))) = true := decide_eq_true c85
            clear c85
            by_cases c86 : (wrap64 ((wrap64 ((wrap64 (a0_0 + a1_0)) - t195)) - t181)) ≥ 0
            ·
             rw [if_pos c86] at H
             have c86b0 : decide (0 ≤ (wrap64 ((wrap64 ((wrap64 (a0_0 + a1_0)) - t195)) - t181))) = true := decide_eq_true c86
             clear c86
             by_cases c87 : (wrap64 ((wrap64 ((wrap64 (a0_1 + a1_1)) - t196)) - t182)) ≥ 0
             ·
              rw [if_pos c87] at H
              have c87b0 : decide (0 ≤ (wrap64 ((wrap64 ((wrap64 (a0_1 + a1_1)) - t196)) - t182))) = true := decide_eq_true c87
              clear c87
              by_cases c88 : (wrap64 ((wrap64 ((wrap64 (a0_0 + a1_0)) - t195)) - t181)) = 0
              ·
               rw [if_pos c88] at H
               have c88b0 : ((wrap64 ((wrap64 ((wrap64 (a0_0 + a1_0)) - t195)) - t181)) == 0) = true := beq_iff_eq.mpr c88
               have c88b1 : ((wrap64 ((wrap64 ((wrap64 (a0_0 + a1_0)) - t195)) - t181)) != 0) = false := bne_eq_false_iff_eq.mpr c88
               clear c88
               by_cases c89 : (wrap64 ((wrap64 ((wrap64 (a0_1 + a1_1)) - t196)) - t182)) = 0
               ·
                rw [if_pos c89] at H
                have c89b0 : ((wrap64 ((wrap64 ((wrap64 (a0_1 + a1_1)) - t196)) - t182)) == 0) = true := beq_iff_eq.mpr c89
                have c89b1 : ((wrap64 ((wrap64 ((wrap64 (a0_1 + a1_1)) - t196)) - t182)) != 0) = false := bne_eq_false_iff_eq.mpr c89
                clear c89
                replace H := Option.bind_eq_some_iff.mp H
                obtain ⟨t199,A900,H⟩ := H
                replace H : (some t199) = some true := H
                have A90 := Aside0.mk A900
                clear A900
                have HRES := Aside0.mk (Option.some.inj H)
                clear H
                have hnb91 := NB198_176.out
                have hnc91 := NB176_198.out
                have hnb92 := NB198_177.out
                have hnc92 := NB177_198.out
                have hnb93 := NB198_190.out
                have hnc93 := NB190_198.out
                have hnb94 := NB198_197.out
                have hnc94 := NB197_198.out
                have hcz95_0 : wr.cell? ⟨gb198,0,none⟩ = some (.int .i64 t195) := (blk_cell BK198.out 0).trans rfl
                have hcz95_1 : wr.cell? ⟨gb198,1,none⟩ = some (.int .i64 t196) := (blk_cell BK198.out 1).trans rfl
                have hfz95_0 := blk_frozen BK198.out 0
                have hfz95_1 := blk_frozen BK198.out 1
                have hnb96 := NB190_176.out
                have hnc96 := NB176_190.out
                have hnb97 := NB190_177.out
                have hnc97 := NB177_190.out
                have hnb98 := NB190_197.out
                have hnc98 := NB197_190.out
                have hcz99_0 : wr.cell? ⟨gb190,0,none⟩ = some (.int .i64 t181) := (blk_cell BK190.out 0).trans rfl
                have hcz99_1 : wr.cell? ⟨gb190,1,none⟩ = some (.int .i64 t182) := (blk_cell BK190.out 1).trans rfl
                have hcz99_2 : wr.cell? ⟨gb190,2,none⟩ = some (.int .i64 t183) := (blk_cell BK190.out 2).trans rfl
                have hcz99_3 : wr.cell? ⟨gb190,3,none⟩ = some (.int .i64 t184) := (blk_cell BK190.out 3).trans rfl
                have hfz99_0 := blk_frozen BK190.out 0
                have hfz99_1 := blk_frozen BK190.out 1
                have hfz99_2 := blk_frozen BK190.out 2
                have hfz99_3 := blk_frozen BK190.out 3
                go_wp2_with (first|(go_at_call 56;(with_reducible refine (bivouaclaw19_awake.calls k3  t199 _ A90.out).mono ?_);rintro e w100 ⟨rfl,hb⟩;have n0_ := Aside0.mk (Kd.V_below (by (with_reducible repeat (first|apply Kd.V_alloc|apply Kd.V_drewN|apply Kd.V_drew));exact HO_2.out) hb);have n1_ := Aside0.mk (Kd.R_below (by (with_reducible repeat (first|apply Kd.R_alloc|apply Kd.R_drewN|apply Kd.R_drew));exact HO_9.out) hb);have n2_ := Aside0.mk (blk_below (g := gb176) (o := .cells #[.int .i64 a0_0,.int .i64 a0_1,.int .i64 a0_2,.int .i64 a0_3] 59 (0,0)) (by (with_reducible repeat (first|apply blk_drewN|apply blk_drew|apply blk_alloc));exact BK176.out) hb);have n3_ := Aside0.mk (blk_below (g := gb177) (o := .cells #[.int .i64 a1_0,.int .i64 a1_1] 48 (0,0)) (by (with_reducible repeat (first|apply blk_drewN|apply blk_drew|apply blk_alloc));exact BK177.out) hb);have n4_ := Aside0.mk (blk_below (g := gb190) (o := .cells #[.int .i64 t181,.int .i64 t182,.int .i64 t183,.int .i64 t184] 59 (0,0)) (by (with_reducible repeat (first|apply blk_drewN|apply blk_drew|apply blk_alloc));exact BK190.out) hb);have n5_ := Aside0.mk (blk_below (g := gb197) (o := .cells #[.int .i64 t193,.int .i64 t194] 48 (0,0)) (by (with_reducible repeat (first|apply blk_drewN|apply blk_drew|apply blk_alloc));exact BK197.out) hb);have n6_ := Aside0.mk (blk_below (g := gb198) (o := .cells #[.int .i64 t195,.int .i64 t196] 48 (0,0)) (by (with_reducible repeat (first|apply blk_drewN|apply blk_drew|apply blk_alloc));exact BK198.out) hb);have n7_ := Aside0.mk (below_step (by repeat (first|(with_reducible first|exact HB.out|apply below_alloc|apply pw_below_drewN|apply below_drew1|refine below_set ?_ GE176.out|refine below_set ?_ GE177.out|refine below_set ?_ GE190.out|refine below_set ?_ GE197.out|refine below_set ?_ GE198.out)|exact HB.out)) hb);clear HO_2;clear HO_9;clear BK176;clear BK177;clear BK190;clear BK197;clear BK198;clear HB;have HO_2 := n0_;have HO_9 := n1_;have BK176 := n2_;have BK177 := n3_;have BK190 := n4_;have BK197 := n5_;have BK198 := n6_;have HB := n7_;clear n0_ n1_ n2_ n3_ n4_ n5_ n6_ n7_;(try clear hb);(try clear hb2);(try clear hk);(try clear hi)))
                repeat (go_quiet (first|(go_at_call 56;(with_reducible refine (bivouaclaw19_awake.calls k3  t199 _ A90.out).mono ?_);rintro e w100 ⟨rfl,hb⟩;have n0_ := Aside0.mk (Kd.V_below (by (with_reducible repeat (first|apply Kd.V_alloc|apply Kd.V_drewN|apply Kd.V_drew));exact HO_2.out) hb);have n1_ := Aside0.mk (Kd.R_below (by (with_reducible repeat (first|apply Kd.R_alloc|apply Kd.R_drewN|apply Kd.R_drew));exact HO_9.out) hb);have n2_ := Aside0.mk (blk_below (g := gb176) (o := .cells #[.int .i64 a0_0,.int .i64 a0_1,.int .i64 a0_2,.int .i64 a0_3] 59 (0,0)) (by (with_reducible repeat (first|apply blk_drewN|apply blk_drew|apply blk_alloc));exact BK176.out) hb);have n3_ := Aside0.mk (blk_below (g := gb177) (o := .cells #[.int .i64 a1_0,.int .i64 a1_1] 48 (0,0)) (by (with_reducible repeat (first|apply blk_drewN|apply blk_drew|apply blk_alloc));exact BK177.out) hb);have n4_ := Aside0.mk (blk_below (g := gb190) (o := .cells #[.int .i64 t181,.int .i64 t182,.int .i64 t183,.int .i64 t184] 59 (0,0)) (by (with_reducible repeat (first|apply blk_drewN|apply blk_drew|apply blk_alloc));exact BK190.out) hb);have n5_ := Aside0.mk (blk_below (g := gb197) (o := .cells #[.int .i64 t193,.int .i64 t194] 48 (0,0)) (by (with_reducible repeat (first|apply blk_drewN|apply blk_drew|apply blk_alloc));exact BK197.out) hb);have n6_ := Aside0.mk (blk_below (g := gb198) (o := .cells #[.int .i64 t195,.int .i64 t196] 48 (0,0)) (by (with_reducible repeat (first|apply blk_drewN|apply blk_drew|apply blk_alloc));exact BK198.out) hb);have n7_ := Aside0.mk (below_step (by repeat (first|(with_reducible first|exact HB.out|apply below_alloc|apply pw_below_drewN|apply below_drew1|refine below_set ?_ GE176.out|refine below_set ?_ GE177.out|refine below_set ?_ GE190.out|refine below_set ?_ GE197.out|refine below_set ?_ GE198.out)|exact HB.out)) hb);clear HO_2;clear HO_9;clear BK176;clear BK177;clear BK190;clear BK197;clear BK198;clear HB;have HO_2 := n0_;have HO_9 := n1_;have BK176 := n2_;have BK177 := n3_;have BK190 := n4_;have BK197 := n5_;have BK198 := n6_;have HB := n7_;clear n0_ n1_ n2_ n3_ n4_ n5_ n6_ n7_;(try clear hb);(try clear hb2);(try clear hk);(try clear hi)));try go_wp2_with (first|(go_at_call 56;(with_reducible refine (bivouaclaw19_awake.calls k3  t199 _ A90.out).mono ?_);rintro e w100 ⟨rfl,hb⟩;have n0_ := Aside0.mk (Kd.V_below (by (with_reducible repeat (first|apply Kd.V_alloc|apply Kd.V_drewN|apply Kd.V_drew));exact HO_2.out) hb);have n1_ := Aside0.mk (Kd.R_below (by (with_reducible repeat (first|apply Kd.R_alloc|apply Kd.R_drewN|apply Kd.R_drew));exact HO_9.out) hb);have n2_ := Aside0.mk (blk_below (g := gb176) (o := .cells #[.int .i64 a0_0,.int .i64 a0_1,.int .i64 a0_2,.int .i64 a0_3] 59 (0,0)) (by (with_reducible repeat (first|apply blk_drewN|apply blk_drew|apply blk_alloc));exact BK176.out) hb);have n3_ := Aside0.mk (blk_below (g := gb177) (o := .cells #[.int .i64 a1_0,.int .i64 a1_1] 48 (0,0)) (by (with_reducible repeat (first|apply blk_drewN|apply blk_drew|apply blk_alloc));exact BK177.out) hb);have n4_ := Aside0.mk (blk_below (g := gb190) (o := .cells #[.int .i64 t181,.int .i64 t182,.int .i64 t183,.int .i64 t184] 59 (0,0)) (by (with_reducible repeat (first|apply blk_drewN|apply blk_drew|apply blk_alloc));exact BK190.out) hb);have n5_ := Aside0.mk (blk_below (g := gb197) (o := .cells #[.int .i64 t193,.int .i64 t194] 48 (0,0)) (by (with_reducible repeat (first|apply blk_drewN|apply blk_drew|apply blk_alloc));exact BK197.out) hb);have n6_ := Aside0.mk (blk_below (g := gb198) (o := .cells #[.int .i64 t195,.int .i64 t196] 48 (0,0)) (by (with_reducible repeat (first|apply blk_drewN|apply blk_drew|apply blk_alloc));exact BK198.out) hb);have n7_ := Aside0.mk (below_step (by repeat (first|(with_reducible first|exact HB.out|apply below_alloc|apply pw_below_drewN|apply below_drew1|refine below_set ?_ GE176.out|refine below_set ?_ GE177.out|refine below_set ?_ GE190.out|refine below_set ?_ GE197.out|refine below_set ?_ GE198.out)|exact HB.out)) hb);clear HO_2;clear HO_9;clear BK176;clear BK177;clear BK190;clear BK197;clear BK198;clear HB;have HO_2 := n0_;have HO_9 := n1_;have BK176 := n2_;have BK177 := n3_;have BK190 := n4_;have BK197 := n5_;have BK198 := n6_;have HB := n7_;clear n0_ n1_ n2_ n3_ n4_ n5_ n6_ n7_;(try clear hb);(try clear hb2);(try clear hk);(try clear hi))))
                go_ret
                exact ⟨by first|rfl|(exact congrArg (fun b_ => Ending.returned (Value.bool b_)) HRES.out)|(simp [errW_none,errW_some] <;> rfl)|(simp [*,errW_none,errW_some] <;> rfl),by repeat (first|(with_reducible first|exact HB.out|apply below_alloc|apply pw_below_drewN|apply below_drew1|refine below_set ?_ GE176.out|refine below_set ?_ GE177.out|refine below_set ?_ GE190.out|refine below_set ?_ GE197.out|refine below_set ?_ GE198.out)|exact HB.out)⟩
               ·
                rw [if_neg c89] at H
                have c89b0 : ((wrap64 ((wrap64 ((wrap64 (a0_1 + a1_1)) - t196)) - t182)) == 0) = false := beq_eq_false_iff_ne.mpr c89
                have c89b1 : ((wrap64 ((wrap64 ((wrap64 (a0_1 + a1_1)) - t196)) - t182)) != 0) = true := bne_iff_ne.mpr c89
                by_cases c101 : t182 = t184
                ·
                 rw [if_pos c101] at H
                 have c101b0 : (t182 == t184) = true := beq_iff_eq.mpr c101
                 have c101b1 : (t182 != t184) = false := bne_eq_false_iff_eq.mpr c101
                 clear c101
                 replace H := Option.bind_eq_some_iff.mp H
                 obtain ⟨t200,A1020,H⟩ := H
                 replace H : (some t200) = some true := H
                 have A102 := Aside0.mk A1020
                 clear A1020
                 have HRES := Aside0.mk (Option.some.inj H)
                 clear H
                 have hnb103 := NB198_176.out
                 have hnc103 := NB176_198.out
                 have hnb104 := NB198_177.out
                 have hnc104 := NB177_198.out
                 have hnb105 := NB198_190.out
                 have hnc105 := NB190_198.out
                 have hnb106 := NB198_197.out
                 have hnc106 := NB197_198.out
                 have hcz107_0 : wr.cell? ⟨gb198,0,none⟩ = some (.int .i64 t195) := (blk_cell BK198.out 0).trans rfl
                 have hcz107_1 : wr.cell? ⟨gb198,1,none⟩ = some (.int .i64 t196) := (blk_cell BK198.out 1).trans rfl
                 have hfz107_0 := blk_frozen BK198.out 0
                 have hfz107_1 := blk_frozen BK198.out 1
                 have hnb108 := NB190_176.out
                 have hnc108 := NB176_190.out
                 have hnb109 := NB190_177.out
                 have hnc109 := NB177_190.out
                 have hnb110 := NB190_197.out
                 have hnc110 := NB197_190.out
                 have hcz111_0 : wr.cell? ⟨gb190,0,none⟩ = some (.int .i64 t181) := (blk_cell BK190.out 0).trans rfl
                 have hcz111_1 : wr.cell? ⟨gb190,1,none⟩ = some (.int .i64 t182) := (blk_cell BK190.out 1).trans rfl
                 have hcz111_2 : wr.cell? ⟨gb190,2,none⟩ = some (.int .i64 t183) := (blk_cell BK190.out 2).trans rfl
                 have hcz111_3 : wr.cell? ⟨gb190,3,none⟩ = some (.int .i64 t184) := (blk_cell BK190.out 3).trans rfl
                 have hfz111_0 := blk_frozen BK190.out 0
                 have hfz111_1 := blk_frozen BK190.out 1
                 have hfz111_2 := blk_frozen BK190.out 2
                 have hfz111_3 := blk_frozen BK190.out 3
                 go_wp2_with (first|(go_at_call 56;(with_reducible refine (bivouaclaw19_awake.calls k3  t200 _ A102.out).mono ?_);rintro e w112 ⟨rfl,hb⟩;have n0_ := Aside0.mk (Kd.V_below (by (with_reducible repeat (first|apply Kd.V_alloc|apply Kd.V_drewN|apply Kd.V_drew));exact HO_2.out) hb);have n1_ := Aside0.mk (Kd.R_below (by (with_reducible repeat (first|apply Kd.R_alloc|apply Kd.R_drewN|apply Kd.R_drew));exact HO_9.out) hb);have n2_ := Aside0.mk (blk_below (g := gb176) (o := .cells #[.int .i64 a0_0,.int .i64 a0_1,.int .i64 a0_2,.int .i64 a0_3] 59 (0,0)) (by (with_reducible repeat (first|apply blk_drewN|apply blk_drew|apply blk_alloc));exact BK176.out) hb);have n3_ := Aside0.mk (blk_below (g := gb177) (o := .cells #[.int .i64 a1_0,.int .i64 a1_1] 48 (0,0)) (by (with_reducible repeat (first|apply blk_drewN|apply blk_drew|apply blk_alloc));exact BK177.out) hb);have n4_ := Aside0.mk (blk_below (g := gb190) (o := .cells #[.int .i64 t181,.int .i64 t182,.int .i64 t183,.int .i64 t184] 59 (0,0)) (by (with_reducible repeat (first|apply blk_drewN|apply blk_drew|apply blk_alloc));exact BK190.out) hb);have n5_ := Aside0.mk (blk_below (g := gb197) (o := .cells #[.int .i64 t193,.int .i64 t194] 48 (0,0)) (by (with_reducible repeat (first|apply blk_drewN|apply blk_drew|apply blk_alloc));exact BK197.out) hb);have n6_ := Aside0.mk (blk_below (g := gb198) (o := .cells #[.int .i64 t195,.int .i64 t196] 48 (0,0)) (by (with_reducible repeat (first|apply blk_drewN|apply blk_drew|apply blk_alloc));exact BK198.out) hb);have n7_ := Aside0.mk (below_step (by repeat (first|(with_reducible first|exact HB.out|apply below_alloc|apply pw_below_drewN|apply below_drew1|refine below_set ?_ GE176.out|refine below_set ?_ GE177.out|refine below_set ?_ GE190.out|refine below_set ?_ GE197.out|refine below_set ?_ GE198.out)|exact HB.out)) hb);clear HO_2;clear HO_9;clear BK176;clear BK177;clear BK190;clear BK197;clear BK198;clear HB;have HO_2 := n0_;have HO_9 := n1_;have BK176 := n2_;have BK177 := n3_;have BK190 := n4_;have BK197 := n5_;have BK198 := n6_;have HB := n7_;clear n0_ n1_ n2_ n3_ n4_ n5_ n6_ n7_;(try clear hb);(try clear hb2);(try clear hk);(try clear hi)))
                 repeat (go_quiet (first|(go_at_call 56;(with_reducible refine (bivouaclaw19_awake.calls k3  t200 _ A102.out).mono ?_);rintro e w112 ⟨rfl,hb⟩;have n0_ := Aside0.mk (Kd.V_below (by (with_reducible repeat (first|apply Kd.V_alloc|apply Kd.V_drewN|apply Kd.V_drew));exact HO_2.out) hb);have n1_ := Aside0.mk (Kd.R_below (by (with_reducible repeat (first|apply Kd.R_alloc|apply Kd.R_drewN|apply Kd.R_drew));exact HO_9.out) hb);have n2_ := Aside0.mk (blk_below (g := gb176) (o := .cells #[.int .i64 a0_0,.int .i64 a0_1,.int .i64 a0_2,.int .i64 a0_3] 59 (0,0)) (by (with_reducible repeat (first|apply blk_drewN|apply blk_drew|apply blk_alloc));exact BK176.out) hb);have n3_ := Aside0.mk (blk_below (g := gb177) (o := .cells #[.int .i64 a1_0,.int .i64 a1_1] 48 (0,0)) (by (with_reducible repeat (first|apply blk_drewN|apply blk_drew|apply blk_alloc));exact BK177.out) hb);have n4_ := Aside0.mk (blk_below (g := gb190) (o := .cells #[.int .i64 t181,.int .i64 t182,.int .i64 t183,.int .i64 t184] 59 (0,0)) (by (with_reducible repeat (first|apply blk_drewN|apply blk_drew|apply blk_alloc));exact BK190.out) hb);have n5_ := Aside0.mk (blk_below (g := gb197) (o := .cells #[.int .i64 t193,.int .i64 t194] 48 (0,0)) (by (with_reducible repeat (first|apply blk_drewN|apply blk_drew|apply blk_alloc));exact BK197.out) hb);have n6_ := Aside0.mk (blk_below (g := gb198) (o := .cells #[.int .i64 t195,.int .i64 t196] 48 (0,0)) (by (with_reducible repeat (first|apply blk_drewN|apply blk_drew|apply blk_alloc));exact BK198.out) hb);have n7_ := Aside0.mk (below_step (by repeat (first|(with_reducible first|exact HB.out|apply below_alloc|apply pw_below_drewN|apply below_drew1|refine below_set ?_ GE176.out|refine below_set ?_ GE177.out|refine below_set ?_ GE190.out|refine below_set ?_ GE197.out|refine below_set ?_ GE198.out)|exact HB.out)) hb);clear HO_2;clear HO_9;clear BK176;clear BK177;clear BK190;clear BK197;clear BK198;clear HB;have HO_2 := n0_;have HO_9 := n1_;have BK176 := n2_;have BK177 := n3_;have BK190 := n4_;have BK197 := n5_;have BK198 := n6_;have HB := n7_;clear n0_ n1_ n2_ n3_ n4_ n5_ n6_ n7_;(try clear hb);(try clear hb2);(try clear hk);(try clear hi)));try go_wp2_with (first|(go_at_call 56;(with_reducible refine (bivouaclaw19_awake.calls k3  t200 _ A102.out).mono ?_);rintro e w112 ⟨rfl,hb⟩;have n0_ := Aside0.mk (Kd.V_below (by (with_reducible repeat (first|apply Kd.V_alloc|apply Kd.V_drewN|apply Kd.V_drew));exact HO_2.out) hb);have n1_ := Aside0.mk (Kd.R_below (by (with_reducible repeat (first|apply Kd.R_alloc|apply Kd.R_drewN|apply Kd.R_drew));exact HO_9.out) hb);have n2_ := Aside0.mk (blk_below (g := gb176) (o := .cells #[.int .i64 a0_0,.int .i64 a0_1,.int .i64 a0_2,.int .i64 a0_3] 59 (0,0)) (by (with_reducible repeat (first|apply blk_drewN|apply blk_drew|apply blk_alloc));exact BK176.out) hb);have n3_ := Aside0.mk (blk_below (g := gb177) (o := .cells #[.int .i64 a1_0,.int .i64 a1_1] 48 (0,0)) (by (with_reducible repeat (first|apply blk_drewN|apply blk_drew|apply blk_alloc));exact BK177.out) hb);have n4_ := Aside0.mk (blk_below (g := gb190) (o := .cells #[.int .i64 t181,.int .i64 t182,.int .i64 t183,.int .i64 t184] 59 (0,0)) (by (with_reducible repeat (first|apply blk_drewN|apply blk_drew|apply blk_alloc));exact BK190.out) hb);have n5_ := Aside0.mk (blk_below (g := gb197) (o := .cells #[.int .i64 t193,.int .i64 t194] 48 (0,0)) (by (with_reducible repeat (first|apply blk_drewN|apply blk_drew|apply blk_alloc));exact BK197.out) hb);have n6_ := Aside0.mk (blk_below (g := gb198) (o := .cells #[.int .i64 t195,.int .i64 t196] 48 (0,0)) (by (with_reducible repeat (first|apply blk_drewN|apply blk_drew|apply blk_alloc));exact BK198.out) hb);have n7_ := Aside0.mk (below_step (by repeat (first|(with_reducible first|exact HB.out|apply below_alloc|apply pw_below_drewN|apply below_drew1|refine below_set ?_ GE176.out|refine below_set ?_ GE177.out|refine below_set ?_ GE190.out|refine below_set ?_ GE197.out|refine below_set ?_ GE198.out)|exact HB.out)) hb);clear HO_2;clear HO_9;clear BK176;clear BK177;clear BK190;clear BK197;clear BK198;clear HB;have HO_2 := n0_;have HO_9 := n1_;have BK176 := n2_;have BK177 := n3_;have BK190 := n4_;have BK197 := n5_;have BK198 := n6_;have HB := n7_;clear n0_ n1_ n2_ n3_ n4_ n5_ n6_ n7_;(try clear hb);(try clear hb2);(try clear hk);(try clear hi))))
                 go_ret
                 exact ⟨by first|rfl|(exact congrArg (fun b_ => Ending.returned (Value.bool b_)) HRES.out)|(simp [errW_none,errW_some] <;> rfl)|(simp [*,errW_none,errW_some] <;> rfl),by repeat (first|(with_reducible first|exact HB.out|apply below_alloc|apply pw_below_drewN|apply below_drew1|refine below_set ?_ GE176.out|refine below_set ?_ GE177.out|refine below_set ?_ GE190.out|refine below_set ?_ GE197.out|refine below_set ?_ GE198.out)|exact HB.out)⟩
                ·
                 rw [if_neg c101] at H
                 exact absurd H (by simp)
              ·
               rw [if_neg c88] at H
               have c88b0 : ((wrap64 ((wrap64 ((wrap64 (a0_0 + a1_0)) - t195)) - t181)) == 0) = false := beq_eq_false_iff_ne.mpr c88
               have c88b1 : ((wrap64 ((wrap64 ((wrap64 (a0_0 + a1_0)) - t195)) - t181)) != 0) = true := bne_iff_ne.mpr c88
               by_cases c113 : t181 = t183
               ·
                rw [if_pos c113] at H
                have c113b0 : (t181 == t183) = true := beq_iff_eq.mpr c113
                have c113b1 : (t181 != t183) = false := bne_eq_false_iff_eq.mpr c113
                clear c113
                by_cases c114 : (wrap64 ((wrap64 ((wrap64 (a0_1 + a1_1)) - t196)) - t182)) = 0
                ·
                 rw [if_pos c114] at H
                 have c114b0 : ((wrap64 ((wrap64 ((wrap64 (a0_1 + a1_1)) - t196)) - t182)) == 0) = true := beq_iff_eq.mpr c114
                 have c114b1 : ((wrap64 ((wrap64 ((wrap64 (a0_1 + a1_1)) - t196)) - t182)) != 0) = false := bne_eq_false_iff_eq.mpr c114
                 clear c114
                 replace H := Option.bind_eq_some_iff.mp H
                 obtain ⟨t201,A1150,H⟩ := H
                 replace H : (some t201) = some true := H
                 have A115 := Aside0.mk A1150
                 clear A1150
                 have HRES := Aside0.mk (Option.some.inj H)
                 clear H
                 have hnb116 := NB198_176.out
                 have hnc116 := NB176_198.out
                 have hnb117 := NB198_177.out
                 have hnc117 := NB177_198.out
                 have hnb118 := NB198_190.out
                 have hnc118 := NB190_198.out
                 have hnb119 := NB198_197.out
                 have hnc119 := NB197_198.out
                 have hcz120_0 : wr.cell? ⟨gb198,0,none⟩ = some (.int .i64 t195) := (blk_cell BK198.out 0).trans rfl
                 have hcz120_1 : wr.cell? ⟨gb198,1,none⟩ = some (.int .i64 t196) := (blk_cell BK198.out 1).trans rfl
                 have hfz120_0 := blk_frozen BK198.out 0
                 have hfz120_1 := blk_frozen BK198.out 1
                 have hnb121 := NB190_176.out
                 have hnc121 := NB176_190.out
                 have hnb122 := NB190_177.out
                 have hnc122 := NB177_190.out
                 have hnb123 := NB190_197.out
                 have hnc123 := NB197_190.out
                 have hcz124_0 : wr.cell? ⟨gb190,0,none⟩ = some (.int .i64 t181) := (blk_cell BK190.out 0).trans rfl
                 have hcz124_1 : wr.cell? ⟨gb190,1,none⟩ = some (.int .i64 t182) := (blk_cell BK190.out 1).trans rfl
                 have hcz124_2 : wr.cell? ⟨gb190,2,none⟩ = some (.int .i64 t183) := (blk_cell BK190.out 2).trans rfl
                 have hcz124_3 : wr.cell? ⟨gb190,3,none⟩ = some (.int .i64 t184) := (blk_cell BK190.out 3).trans rfl
                 have hfz124_0 := blk_frozen BK190.out 0
                 have hfz124_1 := blk_frozen BK190.out 1
                 have hfz124_2 := blk_frozen BK190.out 2
                 have hfz124_3 := blk_frozen BK190.out 3
                 go_wp2_with (first|(go_at_call 56;(with_reducible refine (bivouaclaw19_awake.calls k3  t201 _ A115.out).mono ?_);rintro e w125 ⟨rfl,hb⟩;have n0_ := Aside0.mk (Kd.V_below (by (with_reducible repeat (first|apply Kd.V_alloc|apply Kd.V_drewN|apply Kd.V_drew));exact HO_2.out) hb);have n1_ := Aside0.mk (Kd.R_below (by (with_reducible repeat (first|apply Kd.R_alloc|apply Kd.R_drewN|apply Kd.R_drew));exact HO_9.out) hb);have n2_ := Aside0.mk (blk_below (g := gb176) (o := .cells #[.int .i64 a0_0,.int .i64 a0_1,.int .i64 a0_2,.int .i64 a0_3] 59 (0,0)) (by (with_reducible repeat (first|apply blk_drewN|apply blk_drew|apply blk_alloc));exact BK176.out) hb);have n3_ := Aside0.mk (blk_below (g := gb177) (o := .cells #[.int .i64 a1_0,.int .i64 a1_1] 48 (0,0)) (by (with_reducible repeat (first|apply blk_drewN|apply blk_drew|apply blk_alloc));exact BK177.out) hb);have n4_ := Aside0.mk (blk_below (g := gb190) (o := .cells #[.int .i64 t181,.int .i64 t182,.int .i64 t183,.int .i64 t184] 59 (0,0)) (by (with_reducible repeat (first|apply blk_drewN|apply blk_drew|apply blk_alloc));exact BK190.out) hb);have n5_ := Aside0.mk (blk_below (g := gb197) (o := .cells #[.int .i64 t193,.int .i64 t194] 48 (0,0)) (by (with_reducible repeat (first|apply blk_drewN|apply blk_drew|apply blk_alloc));exact BK197.out) hb);have n6_ := Aside0.mk (blk_below (g := gb198) (o := .cells #[.int .i64 t195,.int .i64 t196] 48 (0,0)) (by (with_reducible repeat (first|apply blk_drewN|apply blk_drew|apply blk_alloc));exact BK198.out) hb);have n7_ := Aside0.mk (below_step (by repeat (first|(with_reducible first|exact HB.out|apply below_alloc|apply pw_below_drewN|apply below_drew1|refine below_set ?_ GE176.out|refine below_set ?_ GE177.out|refine below_set ?_ GE190.out|refine below_set ?_ GE197.out|refine below_set ?_ GE198.out)|exact HB.out)) hb);clear HO_2;clear HO_9;clear BK176;clear BK177;clear BK190;clear BK197;clear BK198;clear HB;have HO_2 := n0_;have HO_9 := n1_;have BK176 := n2_;have BK177 := n3_;have BK190 := n4_;have BK197 := n5_;have BK198 := n6_;have HB := n7_;clear n0_ n1_ n2_ n3_ n4_ n5_ n6_ n7_;(try clear hb);(try clear hb2);(try clear hk);(try clear hi)))
                 repeat (go_quiet (first|(go_at_call 56;(with_reducible refine (bivouaclaw19_awake.calls k3  t201 _ A115.out).mono ?_);rintro e w125 ⟨rfl,hb⟩;have n0_ := Aside0.mk (Kd.V_below (by (with_reducible repeat (first|apply Kd.V_alloc|apply Kd.V_drewN|apply Kd.V_drew));exact HO_2.out) hb);have n1_ := Aside0.mk (Kd.R_below (by (with_reducible repeat (first|apply Kd.R_alloc|apply Kd.R_drewN|apply Kd.R_drew));exact HO_9.out) hb);have n2_ := Aside0.mk (blk_below (g := gb176) (o := .cells #[.int .i64 a0_0,.int .i64 a0_1,.int .i64 a0_2,.int .i64 a0_3] 59 (0,0)) (by (with_reducible repeat (first|apply blk_drewN|apply blk_drew|apply blk_alloc));exact BK176.out) hb);have n3_ := Aside0.mk (blk_below (g := gb177) (o := .cells #[.int .i64 a1_0,.int .i64 a1_1] 48 (0,0)) (by (with_reducible repeat (first|apply blk_drewN|apply blk_drew|apply blk_alloc));exact BK177.out) hb);have n4_ := Aside0.mk (blk_below (g := gb190) (o := .cells #[.int .i64 t181,.int .i64 t182,.int .i64 t183,.int .i64 t184] 59 (0,0)) (by (with_reducible repeat (first|apply blk_drewN|apply blk_drew|apply blk_alloc));exact BK190.out) hb);have n5_ := Aside0.mk (blk_below (g := gb197) (o := .cells #[.int .i64 t193,.int .i64 t194] 48 (0,0)) (by (with_reducible repeat (first|apply blk_drewN|apply blk_drew|apply blk_alloc));exact BK197.out) hb);have n6_ := Aside0.mk (blk_below (g := gb198) (o := .cells #[.int .i64 t195,.int .i64 t196] 48 (0,0)) (by (with_reducible repeat (first|apply blk_drewN|apply blk_drew|apply blk_alloc));exact BK198.out) hb);have n7_ := Aside0.mk (below_step (by repeat (first|(with_reducible first|exact HB.out|apply below_alloc|apply pw_below_drewN|apply below_drew1|refine below_set ?_ GE176.out|refine below_set ?_ GE177.out|refine below_set ?_ GE190.out|refine below_set ?_ GE197.out|refine below_set ?_ GE198.out)|exact HB.out)) hb);clear HO_2;clear HO_9;clear BK176;clear BK177;clear BK190;clear BK197;clear BK198;clear HB;have HO_2 := n0_;have HO_9 := n1_;have BK176 := n2_;have BK177 := n3_;have BK190 := n4_;have BK197 := n5_;have BK198 := n6_;have HB := n7_;clear n0_ n1_ n2_ n3_ n4_ n5_ n6_ n7_;(try clear hb);(try clear hb2);(try clear hk);(try clear hi)));try go_wp2_with (first|(go_at_call 56;(with_reducible refine (bivouaclaw19_awake.calls k3  t201 _ A115.out).mono ?_);rintro e w125 ⟨rfl,hb⟩;have n0_ := Aside0.mk (Kd.V_below (by (with_reducible repeat (first|apply Kd.V_alloc|apply Kd.V_drewN|apply Kd.V_drew));exact HO_2.out) hb);have n1_ := Aside0.mk (Kd.R_below (by (with_reducible repeat (first|apply Kd.R_alloc|apply Kd.R_drewN|apply Kd.R_drew));exact HO_9.out) hb);have n2_ := Aside0.mk (blk_below (g := gb176) (o := .cells #[.int .i64 a0_0,.int .i64 a0_1,.int .i64 a0_2,.int .i64 a0_3] 59 (0,0)) (by (with_reducible repeat (first|apply blk_drewN|apply blk_drew|apply blk_alloc));exact BK176.out) hb);have n3_ := Aside0.mk (blk_below (g := gb177) (o := .cells #[.int .i64 a1_0,.int .i64 a1_1] 48 (0,0)) (by (with_reducible repeat (first|apply blk_drewN|apply blk_drew|apply blk_alloc));exact BK177.out) hb);have n4_ := Aside0.mk (blk_below (g := gb190) (o := .cells #[.int .i64 t181,.int .i64 t182,.int .i64 t183,.int .i64 t184] 59 (0,0)) (by (with_reducible repeat (first|apply blk_drewN|apply blk_drew|apply blk_alloc));exact BK190.out) hb);have n5_ := Aside0.mk (blk_below (g := gb197) (o := .cells #[.int .i64 t193,.int .i64 t194] 48 (0,0)) (by (with_reducible repeat (first|apply blk_drewN|apply blk_drew|apply blk_alloc));exact BK197.out) hb);have n6_ := Aside0.mk (blk_below (g := gb198) (o := .cells #[.int .i64 t195,.int .i64 t196] 48 (0,0)) (by (with_reducible repeat (first|apply blk_drewN|apply blk_drew|apply blk_alloc));exact BK198.out) hb);have n7_ := Aside0.mk (below_step (by repeat (first|(with_reducible first|exact HB.out|apply below_alloc|apply pw_below_drewN|apply below_drew1|refine below_set ?_ GE176.out|refine below_set ?_ GE177.out|refine below_set ?_ GE190.out|refine below_set ?_ GE197.out|refine below_set ?_ GE198.out)|exact HB.out)) hb);clear HO_2;clear HO_9;clear BK176;clear BK177;clear BK190;clear BK197;clear BK198;clear HB;have HO_2 := n0_;have HO_9 := n1_;have BK176 := n2_;have BK177 := n3_;have BK190 := n4_;have BK197 := n5_;have BK198 := n6_;have HB := n7_;clear n0_ n1_ n2_ n3_ n4_ n5_ n6_ n7_;(try clear hb);(try clear hb2);(try clear hk);(try clear hi))))
                 go_ret
                 exact ⟨by first|rfl|(exact congrArg (fun b_ => Ending.returned (Value.bool b_)) HRES.out)|(simp [errW_none,errW_some] <;> rfl)|(simp [*,errW_none,errW_some] <;> rfl),by repeat (first|(with_reducible first|exact HB.out|apply below_alloc|apply pw_below_drewN|apply below_drew1|refine below_set ?_ GE176.out|refine below_set ?_ GE177.out|refine below_set ?_ GE190.out|refine below_set ?_ GE197.out|refine below_set ?_ GE198.out)|exact HB.out)⟩
                ·
                 rw [if_neg c114] at H
                 have c114b0 : ((wrap64 ((wrap64 ((wrap64 (a0_1 + a1_1)) - t196)) - t182)) == 0) = false := beq_eq_false_iff_ne.mpr c114
                 have c114b1 : ((wrap64 ((wrap64 ((wrap64 (a0_1 + a1_1)) - t196)) - t182)) != 0) = true := bne_iff_ne.mpr c114
                 by_cases c126 : t182 = t184
                 ·
                  rw [if_pos c126] at H
                  have c126b0 : (t182 == t184) = true := beq_iff_eq.mpr c126
                  have c126b1 : (t182 != t184) = false := bne_eq_false_iff_eq.mpr c126
                  clear c126
                  replace H := Option.bind_eq_some_iff.mp H
                  obtain ⟨t202,A1270,H⟩ := H
                  replace H : (some t202) = some true := H
                  have A127 := Aside0.mk A1270
                  clear A1270
                  have HRES := Aside0.mk (Option.some.inj H)
                  clear H
                  have hnb128 := NB198_176.out
                  have hnc128 := NB176_198.out
                  have hnb129 := NB198_177.out
                  have hnc129 := NB177_198.out
                  have hnb130 := NB198_190.out
                  have hnc130 := NB190_198.out
                  have hnb131 := NB198_197.out
                  have hnc131 := NB197_198.out
                  have hcz132_0 : wr.cell? ⟨gb198,0,none⟩ = some (.int .i64 t195) := (blk_cell BK198.out 0).trans rfl
                  have hcz132_1 : wr.cell? ⟨gb198,1,none⟩ = some (.int .i64 t196) := (blk_cell BK198.out 1).trans rfl
                  have hfz132_0 := blk_frozen BK198.out 0
                  have hfz132_1 := blk_frozen BK198.out 1
                  have hnb133 := NB190_176.out
                  have hnc133 := NB176_190.out
                  have hnb134 := NB190_177.out
                  have hnc134 := NB177_190.out
                  have hnb135 := NB190_197.out
                  have hnc135 := NB197_190.out
                  have hcz136_0 : wr.cell? ⟨gb190,0,none⟩ = some (.int .i64 t181) := (blk_cell BK190.out 0).trans rfl
                  have hcz136_1 : wr.cell? ⟨gb190,1,none⟩ = some (.int .i64 t182) := (blk_cell BK190.out 1).trans rfl
                  have hcz136_2 : wr.cell? ⟨gb190,2,none⟩ = some (.int .i64 t183) := (blk_cell BK190.out 2).trans rfl
                  have hcz136_3 : wr.cell? ⟨gb190,3,none⟩ = some (.int .i64 t184) := (blk_cell BK190.out 3).trans rfl
                  have hfz136_0 := blk_frozen BK190.out 0
                  have hfz136_1 := blk_frozen BK190.out 1
                  have hfz136_2 := blk_frozen BK190.out 2
                  have hfz136_3 := blk_frozen BK190.out 3
                  go_wp2_with (first|(go_at_call 56;(with_reducible refine (bivouaclaw19_awake.calls k3  t202 _ A127.out).mono ?_);rintro e w137 ⟨rfl,hb⟩;have n0_ := Aside0.mk (Kd.V_below (by (with_reducible repeat (first|apply Kd.V_alloc|apply Kd.V_drewN|apply Kd.V_drew));exact HO_2.out) hb);have n1_ := Aside0.mk (Kd.R_below (by (with_reducible repeat (first|apply Kd.R_alloc|apply Kd.R_drewN|apply Kd.R_drew));exact HO_9.out) hb);have n2_ := Aside0.mk (blk_below (g := gb176) (o := .cells #[.int .i64 a0_0,.int .i64 a0_1,.int .i64 a0_2,.int .i64 a0_3] 59 (0,0)) (by (with_reducible repeat (first|apply blk_drewN|apply blk_drew|apply blk_alloc));exact BK176.out) hb);have n3_ := Aside0.mk (blk_below (g := gb177) (o := .cells #[.int .i64 a1_0,.int .i64 a1_1] 48 (0,0)) (by (with_reducible repeat (first|apply blk_drewN|apply blk_drew|apply blk_alloc));exact BK177.out) hb);have n4_ := Aside0.mk (blk_below (g := gb190) (o := .cells #[.int .i64 t181,.int .i64 t182,.int .i64 t183,.int .i64 t184] 59 (0,0)) (by (with_reducible repeat (first|apply blk_drewN|apply blk_drew|apply blk_alloc));exact BK190.out) hb);have n5_ := Aside0.mk (blk_below (g := gb197) (o := .cells #[.int .i64 t193,.int .i64 t194] 48 (0,0)) (by (with_reducible repeat (first|apply blk_drewN|apply blk_drew|apply blk_alloc));exact BK197.out) hb);have n6_ := Aside0.mk (blk_below (g := gb198) (o := .cells #[.int .i64 t195,.int .i64 t196] 48 (0,0)) (by (with_reducible repeat (first|apply blk_drewN|apply blk_drew|apply blk_alloc));exact BK198.out) hb);have n7_ := Aside0.mk (below_step (by repeat (first|(with_reducible first|exact HB.out|apply below_alloc|apply pw_below_drewN|apply below_drew1|refine below_set ?_ GE176.out|refine below_set ?_ GE177.out|refine below_set ?_ GE190.out|refine below_set ?_ GE197.out|refine below_set ?_ GE198.out)|exact HB.out)) hb);clear HO_2;clear HO_9;clear BK176;clear BK177;clear BK190;clear BK197;clear BK198;clear HB;have HO_2 := n0_;have HO_9 := n1_;have BK176 := n2_;have BK177 := n3_;have BK190 := n4_;have BK197 := n5_;have BK198 := n6_;have HB := n7_;clear n0_ n1_ n2_ n3_ n4_ n5_ n6_ n7_;(try clear hb);(try clear hb2);(try clear hk);(try clear hi)))
                  repeat (go_quiet (first|(go_at_call 56;(with_reducible refine (bivouaclaw19_awake.calls k3  t202 _ A127.out).mono ?_);rintro e w137 ⟨rfl,hb⟩;have n0_ := Aside0.mk (Kd.V_below (by (with_reducible repeat (first|apply Kd.V_alloc|apply Kd.V_drewN|apply Kd.V_drew));exact HO_2.out) hb);have n1_ := Aside0.mk (Kd.R_below (by (with_reducible repeat (first|apply Kd.R_alloc|apply Kd.R_drewN|apply Kd.R_drew));exact HO_9.out) hb);have n2_ := Aside0.mk (blk_below (g := gb176) (o := .cells #[.int .i64 a0_0,.int .i64 a0_1,.int .i64 a0_2,.int .i64 a0_3] 59 (0,0)) (by (with_reducible repeat (first|apply blk_drewN|apply blk_drew|apply blk_alloc));exact BK176.out) hb);have n3_ := Aside0.mk (blk_below (g := gb177) (o := .cells #[.int .i64 a1_0,.int .i64 a1_1] 48 (0,0)) (by (with_reducible repeat (first|apply blk_drewN|apply blk_drew|apply blk_alloc));exact BK177.out) hb);have n4_ := Aside0.mk (blk_below (g := gb190) (o := .cells #[.int .i64 t181,.int .i64 t182,.int .i64 t183,.int .i64 t184] 59 (0,0)) (by (with_reducible repeat (first|apply blk_drewN|apply blk_drew|apply blk_alloc));exact BK190.out) hb);have n5_ := Aside0.mk (blk_below (g := gb197) (o := .cells #[.int .i64 t193,.int .i64 t194] 48 (0,0)) (by (with_reducible repeat (first|apply blk_drewN|apply blk_drew|apply blk_alloc));exact BK197.out) hb);have n6_ := Aside0.mk (blk_below (g := gb198) (o := .cells #[.int .i64 t195,.int .i64 t196] 48 (0,0)) (by (with_reducible repeat (first|apply blk_drewN|apply blk_drew|apply blk_alloc));exact BK198.out) hb);have n7_ := Aside0.mk (below_step (by repeat (first|(with_reducible first|exact HB.out|apply below_alloc|apply pw_below_drewN|apply below_drew1|refine below_set ?_ GE176.out|refine below_set ?_ GE177.out|refine below_set ?_ GE190.out|refine below_set ?_ GE197.out|refine below_set ?_ GE198.out)|exact HB.out)) hb);clear HO_2;clear HO_9;clear BK176;clear BK177;clear BK190;clear BK197;clear BK198;clear HB;have HO_2 := n0_;have HO_9 := n1_;have BK176 := n2_;have BK177 := n3_;have BK190 := n4_;have BK197 := n5_;have BK198 := n6_;have HB := n7_;clear n0_ n1_ n2_ n3_ n4_ n5_ n6_ n7_;(try clear hb);(try clear hb2);(try clear hk);(try clear hi)));try go_wp2_with (first|(go_at_call 56;(with_reducible refine (bivouaclaw19_awake.calls k3  t202 _ A127.out).mono ?_);rintro e w137 ⟨rfl,hb⟩;have n0_ := Aside0.mk (Kd.V_below (by (with_reducible repeat (first|apply Kd.V_alloc|apply Kd.V_drewN|apply Kd.V_drew));exact HO_2.out) hb);have n1_ := Aside0.mk (Kd.R_below (by (with_reducible repeat (first|apply Kd.R_alloc|apply Kd.R_drewN|apply Kd.R_drew));exact HO_9.out) hb);have n2_ := Aside0.mk (blk_below (g := gb176) (o := .cells #[.int .i64 a0_0,.int .i64 a0_1,.int .i64 a0_2,.int .i64 a0_3] 59 (0,0)) (by (with_reducible repeat (first|apply blk_drewN|apply blk_drew|apply blk_alloc));exact BK176.out) hb);have n3_ := Aside0.mk (blk_below (g := gb177) (o := .cells #[.int .i64 a1_0,.int .i64 a1_1] 48 (0,0)) (by (with_reducible repeat (first|apply blk_drewN|apply blk_drew|apply blk_alloc));exact BK177.out) hb);have n4_ := Aside0.mk (blk_below (g := gb190) (o := .cells #[.int .i64 t181,.int .i64 t182,.int .i64 t183,.int .i64 t184] 59 (0,0)) (by (with_reducible repeat (first|apply blk_drewN|apply blk_drew|apply blk_alloc));exact BK190.out) hb);have n5_ := Aside0.mk (blk_below (g := gb197) (o := .cells #[.int .i64 t193,.int .i64 t194] 48 (0,0)) (by (with_reducible repeat (first|apply blk_drewN|apply blk_drew|apply blk_alloc));exact BK197.out) hb);have n6_ := Aside0.mk (blk_below (g := gb198) (o := .cells #[.int .i64 t195,.int .i64 t196] 48 (0,0)) (by (with_reducible repeat (first|apply blk_drewN|apply blk_drew|apply blk_alloc));exact BK198.out) hb);have n7_ := Aside0.mk (below_step (by repeat (first|(with_reducible first|exact HB.out|apply below_alloc|apply pw_below_drewN|apply below_drew1|refine below_set ?_ GE176.out|refine below_set ?_ GE177.out|refine below_set ?_ GE190.out|refine below_set ?_ GE197.out|refine below_set ?_ GE198.out)|exact HB.out)) hb);clear HO_2;clear HO_9;clear BK176;clear BK177;clear BK190;clear BK197;clear BK198;clear HB;have HO_2 := n0_;have HO_9 := n1_;have BK176 := n2_;have BK177 := n3_;have BK190 := n4_;have BK197 := n5_;have BK198 := n6_;have HB := n7_;clear n0_ n1_ n2_ n3_ n4_ n5_ n6_ n7_;(try clear hb);(try clear hb2);(try clear hk);(try clear hi))))
                  go_ret
                  exact ⟨by first|rfl|(exact congrArg (fun b_ => Ending.returned (Value.bool b_)) HRES.out)|(simp [errW_none,errW_some] <;> rfl)|(simp [*,errW_none,errW_some] <;> rfl),by repeat (first|(with_reducible first|exact HB.out|apply below_alloc|apply pw_below_drewN|apply below_drew1|refine below_set ?_ GE176.out|refine below_set ?_ GE177.out|refine below_set ?_ GE190.out|refine below_set ?_ GE197.out|refine below_set ?_ GE198.out)|exact HB.out)⟩
                 ·
                  rw [if_neg c126] at H
                  exact absurd H (by simp)
               ·
                rw [if_neg c113] at H
                exact absurd H (by simp)
             ·
              rw [if_neg c87] at H
              exact absurd H (by simp)
            ·
             rw [if_neg c86] at H
             exact absurd H (by simp)
           ·
            rw [if_neg c85] at H
            exact absurd H (by simp)
          ·
           rw [if_neg c84] at H
           exact absurd H (by simp)
 ·
  rw [if_neg c6] at H
  have c6b0 : (t189 == 0) = false := beq_eq_false_iff_ne.mpr c6
  have c6b1 : (t189 != 0) = true := bne_iff_ne.mpr c6
  by_cases c138 : (t186.length : Int) = 0
  ·
   rw [if_pos c138] at H
   have c138b0 : ((t186.length : Int) == 0) = true := beq_iff_eq.mpr c138
   have c138b1 : ((t186.length : Int) != 0) = false := bne_eq_false_iff_eq.mpr c138
   clear c138
   replace H := Option.bind_eq_some_iff.mp H
   obtain ⟨t191,A1390,H⟩ := H
   replace H : (some t191) = some true := H
   have A139 := Aside0.mk A1390
   clear A1390
   have HRES := Aside0.mk (Option.some.inj H)
   clear H
   go_enter Try.func19,Try.ntmps19
   go_wp2_with (first|((with_reducible refine gate_dst (N := 3) rfl ?_);refine box_event ?hg (N := 3) ?hd (cs := #[.int .i64 a0_0,.int .i64 a0_1,.int .i64 a0_2,.int .i64 a0_3]) (t := 59) ?hr ?_;(case hd => rfl);(case hg => rfl);(case hr => first|(go_simp;done)|(go_simp;rfl));intro gb176 hg w140 hbox hb;have n0_ := Aside0.mk (below_step (by repeat (first|(with_reducible first|exact HB.out|apply below_alloc|apply pw_below_drewN|apply below_drew1)|exact HB.out)) hb);have n1_ := Aside0.mk (hbox);have n2_ := Aside0.mk ((by rw [hg];exact (below_size (by repeat (first|(with_reducible first|exact HB.out|apply below_alloc|apply pw_below_drewN|apply below_drew1)|exact HB.out))) : w.heap.size ≤ gb176));have n3_ := Aside0.mk ((by rw [hg];exact (below_size (by repeat (first|(with_reducible first|exact HB.out|apply below_alloc|apply pw_below_drewN|apply below_drew1)|exact HB.out))) : w.heap.size ≤ gb176));clear HB;have HB := n0_;have BK176 := n1_;have GW176 := n2_;have GE176 := n3_;clear n0_ n1_ n2_ n3_;clear hb hbox hg)|((with_reducible refine gate_dst (N := 4) rfl ?_);refine box_event ?hg (N := 4) ?hd (cs := #[.int .i64 a1_0,.int .i64 a1_1]) (t := 48) ?hr ?_;(case hd => rfl);(case hg => rfl);(case hr => first|(go_simp;done)|(go_simp;rfl));intro gb177 hg w141 hbox hb;have n0_ := Aside0.mk (blk_below (g := gb176) (o := .cells #[.int .i64 a0_0,.int .i64 a0_1,.int .i64 a0_2,.int .i64 a0_3] 59 (0,0)) (by (with_reducible repeat (first|apply blk_drewN|apply blk_drew|apply blk_alloc));exact BK176.out) hb);have n1_ := Aside0.mk (below_step (by repeat (first|(with_reducible first|exact HB.out|apply below_alloc|apply pw_below_drewN|apply below_drew1|refine below_set ?_ GE176.out)|exact HB.out)) hb);have n2_ := Aside0.mk (hbox);have n3_ := Aside0.mk ((by rw [hg];exact (below_size (by repeat (first|(with_reducible first|exact HB.out|apply below_alloc|apply pw_below_drewN|apply below_drew1|refine below_set ?_ GE176.out)|exact HB.out))) : w.heap.size ≤ gb177));have n4_ := Aside0.mk ((by rw [hg];exact (below_size (by repeat (first|(with_reducible first|exact HB.out|apply below_alloc|apply pw_below_drewN|apply below_drew1|refine below_set ?_ GE176.out)|exact HB.out))) : w.heap.size ≤ gb177));have n5_ := Aside0.mk ((by rw [hg];exact Nat.ne_of_lt (blk_lt (g := gb176) (o := .cells #[.int .i64 a0_0,.int .i64 a0_1,.int .i64 a0_2,.int .i64 a0_3] 59 (0,0)) (by (with_reducible repeat (first|apply blk_drewN|apply blk_drew|apply blk_alloc));exact BK176.out)) : gb176 ≠ gb177));have n6_ := Aside0.mk ((by rw [hg];exact Nat.ne_of_gt (blk_lt (g := gb176) (o := .cells #[.int .i64 a0_0,.int .i64 a0_1,.int .i64 a0_2,.int .i64 a0_3] 59 (0,0)) (by (with_reducible repeat (first|apply blk_drewN|apply blk_drew|apply blk_alloc));exact BK176.out)) : gb177 ≠ gb176));clear BK176;clear HB;have BK176 := n0_;have HB := n1_;have BK177 := n2_;have GW177 := n3_;have GE177 := n4_;have NB176_177 := n5_;have NB177_176 := n6_;clear n0_ n1_ n2_ n3_ n4_ n5_ n6_;clear hb hbox hg)|(go_at_call 58;(with_reducible refine (bivouaclaw19_few.calls (fun k_ => k_ < w.heap.size) _ _ l2 t178 _ ?side1 A4.out).mono ?_);(case side1 => exact Kd.V_mk HC2.out (Kd.F_below (Kd.C_F k48_heap HR2.out) (by repeat (first|(with_reducible first|exact HB.out|apply below_alloc|apply pw_below_drewN|apply below_drew1|refine below_set ?_ GE176.out|refine below_set ?_ GE177.out)|exact HB.out))));rintro e w142 ⟨v179,rfl,ho0,hb⟩;have n0_ := Aside0.mk (Kd.V_lower (Kd.V_mono (ok' := fun k_ => k_ ≠ gb176 ∧ k_ ≠ gb177) ho0 (fun k_ hk_ => ⟨Or.elim hk_ (fun hs_ => fun e_ => Nat.not_le.2 hs_ (by rw [e_];exact GW176.out)) (fun hn_ => (Kd.freshB (g := gb176) (o := .cells #[.int .i64 a0_0,.int .i64 a0_1,.int .i64 a0_2,.int .i64 a0_3] 59 (0,0)) (by (with_reducible repeat (first|apply blk_drewN|apply blk_drew|apply blk_alloc));exact BK176.out) k_ hn_)),Or.elim hk_ (fun hs_ => fun e_ => Nat.not_le.2 hs_ (by rw [e_];exact GW177.out)) (fun hn_ => (Kd.freshB (g := gb177) (o := .cells #[.int .i64 a1_0,.int .i64 a1_1] 48 (0,0)) (by (with_reducible repeat (first|apply blk_drewN|apply blk_drew|apply blk_alloc));exact BK177.out) k_ hn_))⟩)) (below_size (by repeat (first|(with_reducible first|exact HB.out|apply below_alloc|apply pw_below_drewN|apply below_drew1|refine below_set ?_ GE176.out|refine below_set ?_ GE177.out)|exact HB.out))));have n1_ := Aside0.mk (blk_below (g := gb176) (o := .cells #[.int .i64 a0_0,.int .i64 a0_1,.int .i64 a0_2,.int .i64 a0_3] 59 (0,0)) (by (with_reducible repeat (first|apply blk_drewN|apply blk_drew|apply blk_alloc));exact BK176.out) hb);have n2_ := Aside0.mk (blk_below (g := gb177) (o := .cells #[.int .i64 a1_0,.int .i64 a1_1] 48 (0,0)) (by (with_reducible repeat (first|apply blk_drewN|apply blk_drew|apply blk_alloc));exact BK177.out) hb);have n3_ := Aside0.mk (below_step (by repeat (first|(with_reducible first|exact HB.out|apply below_alloc|apply pw_below_drewN|apply below_drew1|refine below_set ?_ GE176.out|refine below_set ?_ GE177.out)|exact HB.out)) hb);clear BK176;clear BK177;clear HB;have HO180 := n0_;have BK176 := n1_;have BK177 := n2_;have HB := n3_;clear n0_ n1_ n2_ n3_;(try clear hb);(try clear hb2);(try clear hk);(try clear hi);(try clear ho0);have hnb143 := NB176_177.out;have hnc143 := NB177_176.out;have hcz144_0 : w142.cell? ⟨gb176,0,none⟩ = some (.int .i64 a0_0) := (blk_cell BK176.out 0).trans rfl;have hcz144_1 : w142.cell? ⟨gb176,1,none⟩ = some (.int .i64 a0_1) := (blk_cell BK176.out 1).trans rfl;have hcz144_2 : w142.cell? ⟨gb176,2,none⟩ = some (.int .i64 a0_2) := (blk_cell BK176.out 2).trans rfl;have hcz144_3 : w142.cell? ⟨gb176,3,none⟩ = some (.int .i64 a0_3) := (blk_cell BK176.out 3).trans rfl;have hfz144_0 := blk_frozen BK176.out 0;have hfz144_1 := blk_frozen BK176.out 1;have hfz144_2 := blk_frozen BK176.out 2;have hfz144_3 := blk_frozen BK176.out 3;have hcz145_0 : w142.cell? ⟨gb177,0,none⟩ = some (.int .i64 a1_0) := (blk_cell BK177.out 0).trans rfl;have hcz145_1 : w142.cell? ⟨gb177,1,none⟩ = some (.int .i64 a1_1) := (blk_cell BK177.out 1).trans rfl;have hfz145_0 := blk_frozen BK177.out 0;have hfz145_1 := blk_frozen BK177.out 1;obtain ⟨Ao146,co146,eo146⟩ := Kd.V_slice HO180.out;subst eo146)|(go_at_call 59;(with_reducible refine (purse_Serve.calls a0_0 a0_1 a0_2 a0_3 a1_0 a1_1 _ _ t178 t181 t182 t183 t184 t185 t186 t189 _ ?side1 ?side2 A5.out).mono ?_);(case side1 => repeat (first|exact (Kd.V_reads' HO180.out).2.2|(with_reducible refine Kd.C_alloc ?_ _)|(with_reducible refine Kd.C_drewN ?_ _)|(with_reducible refine Kd.C_drew ?_)));(case side2 => exact (Kd.V_reads' HO180.out).2.1);rintro e w147 ⟨v187,rfl,ho0,hb⟩;have n0_ := Aside0.mk (Kd.V_elder' (by (with_reducible repeat (first|apply Kd.V_alloc|apply Kd.V_drewN|apply Kd.V_drew));exact HO180.out) (Kd.R_base ho0) hb);have n1_ := Aside0.mk (Kd.R_lower (Kd.R_newB ho0 (g := gb177) (o := .cells #[.int .i64 a1_0,.int .i64 a1_1] 48 (0,0)) (by (with_reducible repeat (first|apply blk_drewN|apply blk_drew|apply blk_alloc));exact BK177.out)) (below_size (by repeat (first|(with_reducible first|exact HB.out|apply below_alloc|apply pw_below_drewN|apply below_drew1|refine below_set ?_ GE176.out|refine below_set ?_ GE177.out)|exact HB.out))));have n2_ := Aside0.mk (blk_below (g := gb176) (o := .cells #[.int .i64 a0_0,.int .i64 a0_1,.int .i64 a0_2,.int .i64 a0_3] 59 (0,0)) (by (with_reducible repeat (first|apply blk_drewN|apply blk_drew|apply blk_alloc));exact BK176.out) hb);have n3_ := Aside0.mk (blk_below (g := gb177) (o := .cells #[.int .i64 a1_0,.int .i64 a1_1] 48 (0,0)) (by (with_reducible repeat (first|apply blk_drewN|apply blk_drew|apply blk_alloc));exact BK177.out) hb);have n4_ := Aside0.mk (below_step (by repeat (first|(with_reducible first|exact HB.out|apply below_alloc|apply pw_below_drewN|apply below_drew1|refine below_set ?_ GE176.out|refine below_set ?_ GE177.out)|exact HB.out)) hb);clear HO180;clear BK176;clear BK177;clear HB;have HO180 := n0_;have HO188 := n1_;have BK176 := n2_;have BK177 := n3_;have HB := n4_;clear n0_ n1_ n2_ n3_ n4_;(try clear hb);(try clear hb2);(try clear hk);(try clear hi);(try clear ho0))|((with_reducible refine gate_dst (N := 7) rfl ?_);refine box_event ?hg (N := 7) ?hd (cs := #[.int .i64 0,.int .i64 0,.int .i64 0,.int .i64 0]) (t := 59) ?hr ?_;(case hd => rfl);(case hg => rfl);(case hr => first|(go_simp;done)|(go_simp;rfl));intro gb190 hg w148 hbox hb;have n0_ := Aside0.mk (Kd.V_below (Kd.V_elderB (by (with_reducible repeat (first|apply Kd.V_alloc|apply Kd.V_drewN|apply Kd.V_drew));exact HO180.out) gb190 (Nat.le_of_eq hg.symm)) hb);have n1_ := Aside0.mk (Kd.R_below (by (with_reducible repeat (first|apply Kd.R_alloc|apply Kd.R_drewN|apply Kd.R_drew));exact HO188.out) hb);have n2_ := Aside0.mk (blk_below (g := gb176) (o := .cells #[.int .i64 a0_0,.int .i64 a0_1,.int .i64 a0_2,.int .i64 a0_3] 59 (0,0)) (by (with_reducible repeat (first|apply blk_drewN|apply blk_drew|apply blk_alloc));exact BK176.out) hb);have n3_ := Aside0.mk (blk_below (g := gb177) (o := .cells #[.int .i64 a1_0,.int .i64 a1_1] 48 (0,0)) (by (with_reducible repeat (first|apply blk_drewN|apply blk_drew|apply blk_alloc));exact BK177.out) hb);have n4_ := Aside0.mk (below_step (by repeat (first|(with_reducible first|exact HB.out|apply below_alloc|apply pw_below_drewN|apply below_drew1|refine below_set ?_ GE176.out|refine below_set ?_ GE177.out)|exact HB.out)) hb);have n5_ := Aside0.mk (hbox);have n6_ := Aside0.mk ((by rw [hg];exact (below_size (by repeat (first|(with_reducible first|exact HB.out|apply below_alloc|apply pw_below_drewN|apply below_drew1|refine below_set ?_ GE176.out|refine below_set ?_ GE177.out)|exact HB.out))) : w.heap.size ≤ gb190));have n7_ := Aside0.mk ((by rw [hg];exact (below_size (by repeat (first|(with_reducible first|exact HB.out|apply below_alloc|apply pw_below_drewN|apply below_drew1|refine below_set ?_ GE176.out|refine below_set ?_ GE177.out)|exact HB.out))) : w.heap.size ≤ gb190));have n8_ := Aside0.mk ((by rw [hg];exact Nat.ne_of_lt (blk_lt (g := gb176) (o := .cells #[.int .i64 a0_0,.int .i64 a0_1,.int .i64 a0_2,.int .i64 a0_3] 59 (0,0)) (by (with_reducible repeat (first|apply blk_drewN|apply blk_drew|apply blk_alloc));exact BK176.out)) : gb176 ≠ gb190));have n9_ := Aside0.mk ((by rw [hg];exact Nat.ne_of_gt (blk_lt (g := gb176) (o := .cells #[.int .i64 a0_0,.int .i64 a0_1,.int .i64 a0_2,.int .i64 a0_3] 59 (0,0)) (by (with_reducible repeat (first|apply blk_drewN|apply blk_drew|apply blk_alloc));exact BK176.out)) : gb190 ≠ gb176));have n10_ := Aside0.mk ((by rw [hg];exact Nat.ne_of_lt (blk_lt (g := gb177) (o := .cells #[.int .i64 a1_0,.int .i64 a1_1] 48 (0,0)) (by (with_reducible repeat (first|apply blk_drewN|apply blk_drew|apply blk_alloc));exact BK177.out)) : gb177 ≠ gb190));have n11_ := Aside0.mk ((by rw [hg];exact Nat.ne_of_gt (blk_lt (g := gb177) (o := .cells #[.int .i64 a1_0,.int .i64 a1_1] 48 (0,0)) (by (with_reducible repeat (first|apply blk_drewN|apply blk_drew|apply blk_alloc));exact BK177.out)) : gb190 ≠ gb177));clear HO180;clear HO188;clear BK176;clear BK177;clear HB;have HO180 := n0_;have HO188 := n1_;have BK176 := n2_;have BK177 := n3_;have HB := n4_;have BK190 := n5_;have GW190 := n6_;have GE190 := n7_;have NB176_190 := n8_;have NB190_176 := n9_;have NB177_190 := n10_;have NB190_177 := n11_;clear n0_ n1_ n2_ n3_ n4_ n5_ n6_ n7_ n8_ n9_ n10_ n11_;clear hb hbox hg;have hnb149 := NB190_176.out;have hnc149 := NB176_190.out;have hnb150 := NB190_177.out;have hnc150 := NB177_190.out;have hcz151_0 : w148.cell? ⟨gb190,0,none⟩ = some (.int .i64 0) := (blk_cell BK190.out 0).trans rfl;have hcz151_1 : w148.cell? ⟨gb190,1,none⟩ = some (.int .i64 0) := (blk_cell BK190.out 1).trans rfl;have hcz151_2 : w148.cell? ⟨gb190,2,none⟩ = some (.int .i64 0) := (blk_cell BK190.out 2).trans rfl;have hcz151_3 : w148.cell? ⟨gb190,3,none⟩ = some (.int .i64 0) := (blk_cell BK190.out 3).trans rfl;have hfz151_0 := blk_frozen BK190.out 0;have hfz151_1 := blk_frozen BK190.out 1;have hfz151_2 := blk_frozen BK190.out 2;have hfz151_3 := blk_frozen BK190.out 3;obtain ⟨Ao152,co152,eo152⟩ := Kd.R_slice HO188.out;subst eo152)|(go_at_call 56;(with_reducible refine (bivouaclaw19_awake.calls k  t191 _ A139.out).mono ?_);rintro e w153 ⟨rfl,hb⟩;have n0_ := Aside0.mk (Kd.V_below (by (with_reducible repeat (first|apply Kd.V_alloc|apply Kd.V_drewN|apply Kd.V_drew));exact (Kd.V_mono (Kd.V_far (p := ⟨gb190,3,none⟩) (Kd.V_far (p := ⟨gb190,2,none⟩) (Kd.V_far (p := ⟨gb190,1,none⟩) (Kd.V_far (p := ⟨gb190,0,none⟩) (Kd.V_mono HO180.out (fun k_ hk => (⟨hk,hk.2⟩ : _ ∧ k_ ≠ gb190))) (fun _ hk => hk.2) (.int .i64 t181)) (fun _ hk => hk.2) (.int .i64 t182)) (fun _ hk => hk.2) (.int .i64 t183)) (fun _ hk => hk.2) (.int .i64 t184)) (fun _ h_ => h_.1))) hb);have n1_ := Aside0.mk (Kd.R_below (by (with_reducible repeat (first|apply Kd.R_alloc|apply Kd.R_drewN|apply Kd.R_drew));exact (Kd.R_mono (Kd.R_far (p := ⟨gb190,3,none⟩) (Kd.R_far (p := ⟨gb190,2,none⟩) (Kd.R_far (p := ⟨gb190,1,none⟩) (Kd.R_far (p := ⟨gb190,0,none⟩) (Kd.R_types HO188.out BK190.out (by decide)) (fun _ hk => hk.2) (.int .i64 t181)) (fun _ hk => hk.2) (.int .i64 t182)) (fun _ hk => hk.2) (.int .i64 t183)) (fun _ hk => hk.2) (.int .i64 t184)) (fun _ h_ => h_.1))) hb);have n2_ := Aside0.mk (blk_below (g := gb176) (o := .cells #[.int .i64 a0_0,.int .i64 a0_1,.int .i64 a0_2,.int .i64 a0_3] 59 (0,0)) (by (with_reducible repeat (first|apply blk_drewN|apply blk_drew|apply blk_alloc));refine blk_far ?_ NB176_190.out _;(with_reducible repeat (first|apply blk_drewN|apply blk_drew|apply blk_alloc));refine blk_far ?_ NB176_190.out _;(with_reducible repeat (first|apply blk_drewN|apply blk_drew|apply blk_alloc));refine blk_far ?_ NB176_190.out _;(with_reducible repeat (first|apply blk_drewN|apply blk_drew|apply blk_alloc));refine blk_far ?_ NB176_190.out _;(with_reducible repeat (first|apply blk_drewN|apply blk_drew|apply blk_alloc));exact BK176.out) hb);have n3_ := Aside0.mk (blk_below (g := gb177) (o := .cells #[.int .i64 a1_0,.int .i64 a1_1] 48 (0,0)) (by (with_reducible repeat (first|apply blk_drewN|apply blk_drew|apply blk_alloc));refine blk_far ?_ NB177_190.out _;(with_reducible repeat (first|apply blk_drewN|apply blk_drew|apply blk_alloc));refine blk_far ?_ NB177_190.out _;(with_reducible repeat (first|apply blk_drewN|apply blk_drew|apply blk_alloc));refine blk_far ?_ NB177_190.out _;(with_reducible repeat (first|apply blk_drewN|apply blk_drew|apply blk_alloc));refine blk_far ?_ NB177_190.out _;(with_reducible repeat (first|apply blk_drewN|apply blk_drew|apply blk_alloc));exact BK177.out) hb);have n4_ := Aside0.mk (blk_below (g := gb190) (o := .cells #[.int .i64 t181,.int .i64 t182,.int .i64 t183,.int .i64 t184] 59 (0,0)) (by (with_reducible repeat (first|apply blk_drewN|apply blk_drew|apply blk_alloc));refine blk_put (cs := #[.int .i64 t181,.int .i64 t182,.int .i64 t183,.int .i64 0]) ?_ 3 _ rfl;(with_reducible repeat (first|apply blk_drewN|apply blk_drew|apply blk_alloc));refine blk_put (cs := #[.int .i64 t181,.int .i64 t182,.int .i64 0,.int .i64 0]) ?_ 2 _ rfl;(with_reducible repeat (first|apply blk_drewN|apply blk_drew|apply blk_alloc));refine blk_put (cs := #[.int .i64 t181,.int .i64 0,.int .i64 0,.int .i64 0]) ?_ 1 _ rfl;(with_reducible repeat (first|apply blk_drewN|apply blk_drew|apply blk_alloc));refine blk_put (cs := #[.int .i64 0,.int .i64 0,.int .i64 0,.int .i64 0]) ?_ 0 _ rfl;(with_reducible repeat (first|apply blk_drewN|apply blk_drew|apply blk_alloc));exact BK190.out) hb);have n5_ := Aside0.mk (below_step (by repeat (first|(with_reducible first|exact HB.out|apply below_alloc|apply pw_below_drewN|apply below_drew1|refine below_set ?_ GE176.out|refine below_set ?_ GE177.out|refine below_set ?_ GE190.out)|exact HB.out)) hb);clear HO180;clear HO188;clear BK176;clear BK177;clear BK190;clear HB;have HO180 := n0_;have HO188 := n1_;have BK176 := n2_;have BK177 := n3_;have BK190 := n4_;have HB := n5_;clear n0_ n1_ n2_ n3_ n4_ n5_;(try clear hb);(try clear hb2);(try clear hk);(try clear hi)))
   repeat (go_quiet (first|((with_reducible refine gate_dst (N := 3) rfl ?_);refine box_event ?hg (N := 3) ?hd (cs := #[.int .i64 a0_0,.int .i64 a0_1,.int .i64 a0_2,.int .i64 a0_3]) (t := 59) ?hr ?_;(case hd => rfl);(case hg => rfl);(case hr => first|(go_simp;done)|(go_simp;rfl));intro gb176 hg w140 hbox hb;have n0_ := Aside0.mk (below_step (by repeat (first|(with_reducible first|exact HB.out|apply below_alloc|apply pw_below_drewN|apply below_drew1)|exact HB.out)) hb);have n1_ := Aside0.mk (hbox);have n2_ := Aside0.mk ((by rw [hg];exact (below_size (by repeat (first|(with_reducible first|exact HB.out|apply below_alloc|apply pw_below_drewN|apply below_drew1)|exact HB.out))) : w.heap.size ≤ gb176));have n3_ := Aside0.mk ((by rw [hg];exact (below_size (by repeat (first|(with_reducible first|exact HB.out|apply below_alloc|apply pw_below_drewN|apply below_drew1)|exact HB.out))) : w.heap.size ≤ gb176));clear HB;have HB := n0_;have BK176 := n1_;have GW176 := n2_;have GE176 := n3_;clear n0_ n1_ n2_ n3_;clear hb hbox hg)|((with_reducible refine gate_dst (N := 4) rfl ?_);refine box_event ?hg (N := 4) ?hd (cs := #[.int .i64 a1_0,.int .i64 a1_1]) (t := 48) ?hr ?_;(case hd => rfl);(case hg => rfl);(case hr => first|(go_simp;done)|(go_simp;rfl));intro gb177 hg w141 hbox hb;have n0_ := Aside0.mk (blk_below (g := gb176) (o := .cells #[.int .i64 a0_0,.int .i64 a0_1,.int .i64 a0_2,.int .i64 a0_3] 59 (0,0)) (by (with_reducible repeat (first|apply blk_drewN|apply blk_drew|apply blk_alloc));exact BK176.out) hb);have n1_ := Aside0.mk (below_step (by repeat (first|(with_reducible first|exact HB.out|apply below_alloc|apply pw_below_drewN|apply below_drew1|refine below_set ?_ GE176.out)|exact HB.out)) hb);have n2_ := Aside0.mk (hbox);have n3_ := Aside0.mk ((by rw [hg];exact (below_size (by repeat (first|(with_reducible first|exact HB.out|apply below_alloc|apply pw_below_drewN|apply below_drew1|refine below_set ?_ GE176.out)|exact HB.out))) : w.heap.size ≤ gb177));have n4_ := Aside0.mk ((by rw [hg];exact (below_size (by repeat (first|(with_reducible first|exact HB.out|apply below_alloc|apply pw_below_drewN|apply below_drew1|refine below_set ?_ GE176.out)|exact HB.out))) : w.heap.size ≤ gb177));have n5_ := Aside0.mk ((by rw [hg];exact Nat.ne_of_lt (blk_lt (g := gb176) (o := .cells #[.int .i64 a0_0,.int .i64 a0_1,.int .i64 a0_2,.int .i64 a0_3] 59 (0,0)) (by (with_reducible repeat (first|apply blk_drewN|apply blk_drew|apply blk_alloc));exact BK176.out)) : gb176 ≠ gb177));have n6_ := Aside0.mk ((by rw [hg];exact Nat.ne_of_gt (blk_lt (g := gb176) (o := .cells #[.int .i64 a0_0,.int .i64 a0_1,.int .i64 a0_2,.int .i64 a0_3] 59 (0,0)) (by (with_reducible repeat (first|apply blk_drewN|apply blk_drew|apply blk_alloc));exact BK176.out)) : gb177 ≠ gb176));clear BK176;clear HB;have BK176 := n0_;have HB := n1_;have BK177 := n2_;have GW177 := n3_;have GE177 := n4_;have NB176_177 := n5_;have NB177_176 := n6_;clear n0_ n1_ n2_ n3_ n4_ n5_ n6_;clear hb hbox hg)|(go_at_call 58;(with_reducible refine (bivouaclaw19_few.calls (fun k_ => k_ < w.heap.size) _ _ l2 t178 _ ?side1 A4.out).mono ?_);(case side1 => exact Kd.V_mk HC2.out (Kd.F_below (Kd.C_F k48_heap HR2.out) (by repeat (first|(with_reducible first|exact HB.out|apply below_alloc|apply pw_below_drewN|apply below_drew1|refine below_set ?_ GE176.out|refine below_set ?_ GE177.out)|exact HB.out))));rintro e w142 ⟨v179,rfl,ho0,hb⟩;have n0_ := Aside0.mk (Kd.V_lower (Kd.V_mono (ok' := fun k_ => k_ ≠ gb176 ∧ k_ ≠ gb177) ho0 (fun k_ hk_ => ⟨Or.elim hk_ (fun hs_ => fun e_ => Nat.not_le.2 hs_ (by rw [e_];exact GW176.out)) (fun hn_ => (Kd.freshB (g := gb176) (o := .cells #[.int .i64 a0_0,.int .i64 a0_1,.int .i64 a0_2,.int .i64 a0_3] 59 (0,0)) (by (with_reducible repeat (first|apply blk_drewN|apply blk_drew|apply blk_alloc));exact BK176.out) k_ hn_)),Or.elim hk_ (fun hs_ => fun e_ => Nat.not_le.2 hs_ (by rw [e_];exact GW177.out)) (fun hn_ => (Kd.freshB (g := gb177) (o := .cells #[.int .i64 a1_0,.int .i64 a1_1] 48 (0,0)) (by (with_reducible repeat (first|apply blk_drewN|apply blk_drew|apply blk_alloc));exact BK177.out) k_ hn_))⟩)) (below_size (by repeat (first|(with_reducible first|exact HB.out|apply below_alloc|apply pw_below_drewN|apply below_drew1|refine below_set ?_ GE176.out|refine below_set ?_ GE177.out)|exact HB.out))));have n1_ := Aside0.mk (blk_below (g := gb176) (o := .cells #[.int .i64 a0_0,.int .i64 a0_1,.int .i64 a0_2,.int .i64 a0_3] 59 (0,0)) (by (with_reducible repeat (first|apply blk_drewN|apply blk_drew|apply blk_alloc));exact BK176.out) hb);have n2_ := Aside0.mk (blk_below (g := gb177) (o := .cells #[.int .i64 a1_0,.int .i64 a1_1] 48 (0,0)) (by (with_reducible repeat (first|apply blk_drewN|apply blk_drew|apply blk_alloc));exact BK177.out) hb);have n3_ := Aside0.mk (below_step (by repeat (first|(with_reducible first|exact HB.out|apply below_alloc|apply pw_below_drewN|apply below_drew1|refine below_set ?_ GE176.out|refine below_set ?_ GE177.out)|exact HB.out)) hb);clear BK176;clear BK177;clear HB;have HO180 := n0_;have BK176 := n1_;have BK177 := n2_;have HB := n3_;clear n0_ n1_ n2_ n3_;(try clear hb);(try clear hb2);(try clear hk);(try clear hi);(try clear ho0);have hnb143 := NB176_177.out;have hnc143 := NB177_176.out;have hcz144_0 : w142.cell? ⟨gb176,0,none⟩ = some (.int .i64 a0_0) := (blk_cell BK176.out 0).trans rfl;have hcz144_1 : w142.cell? ⟨gb176,1,none⟩ = some (.int .i64 a0_1) := (blk_cell BK176.out 1).trans rfl;have hcz144_2 : w142.cell? ⟨gb176,2,none⟩ = some (.int .i64 a0_2) := (blk_cell BK176.out 2).trans rfl;have hcz144_3 : w142.cell? ⟨gb176,3,none⟩ = some (.int .i64 a0_3) := (blk_cell BK176.out 3).trans rfl;have hfz144_0 := blk_frozen BK176.out 0;have hfz144_1 := blk_frozen BK176.out 1;have hfz144_2 := blk_frozen BK176.out 2;have hfz144_3 := blk_frozen BK176.out 3;have hcz145_0 : w142.cell? ⟨gb177,0,none⟩ = some (.int .i64 a1_0) := (blk_cell BK177.out 0).trans rfl;have hcz145_1 : w142.cell? ⟨gb177,1,none⟩ = some (.int .i64 a1_1) := (blk_cell BK177.out 1).trans rfl;have hfz145_0 := blk_frozen BK177.out 0;have hfz145_1 := blk_frozen BK177.out 1;obtain ⟨Ao146,co146,eo146⟩ := Kd.V_slice HO180.out;subst eo146)|(go_at_call 59;(with_reducible refine (purse_Serve.calls a0_0 a0_1 a0_2 a0_3 a1_0 a1_1 _ _ t178 t181 t182 t183 t184 t185 t186 t189 _ ?side1 ?side2 A5.out).mono ?_);(case side1 => repeat (first|exact (Kd.V_reads' HO180.out).2.2|(with_reducible refine Kd.C_alloc ?_ _)|(with_reducible refine Kd.C_drewN ?_ _)|(with_reducible refine Kd.C_drew ?_)));(case side2 => exact (Kd.V_reads' HO180.out).2.1);rintro e w147 ⟨v187,rfl,ho0,hb⟩;have n0_ := Aside0.mk (Kd.V_elder' (by (with_reducible repeat (first|apply Kd.V_alloc|apply Kd.V_drewN|apply Kd.V_drew));exact HO180.out) (Kd.R_base ho0) hb);have n1_ := Aside0.mk (Kd.R_lower (Kd.R_newB ho0 (g := gb177) (o := .cells #[.int .i64 a1_0,.int .i64 a1_1] 48 (0,0)) (by (with_reducible repeat (first|apply blk_drewN|apply blk_drew|apply blk_alloc));exact BK177.out)) (below_size (by repeat (first|(with_reducible first|exact HB.out|apply below_alloc|apply pw_below_drewN|apply below_drew1|refine below_set ?_ GE176.out|refine below_set ?_ GE177.out)|exact HB.out))));have n2_ := Aside0.mk (blk_below (g := gb176) (o := .cells #[.int .i64 a0_0,.int .i64 a0_1,.int .i64 a0_2,.int .i64 a0_3] 59 (0,0)) (by (with_reducible repeat (first|apply blk_drewN|apply blk_drew|apply blk_alloc));exact BK176.out) hb);have n3_ := Aside0.mk (blk_below (g := gb177) (o := .cells #[.int .i64 a1_0,.int .i64 a1_1] 48 (0,0)) (by (with_reducible repeat (first|apply blk_drewN|apply blk_drew|apply blk_alloc));exact BK177.out) hb);have n4_ := Aside0.mk (below_step (by repeat (first|(with_reducible first|exact HB.out|apply below_alloc|apply pw_below_drewN|apply below_drew1|refine below_set ?_ GE176.out|refine below_set ?_ GE177.out)|exact HB.out)) hb);clear HO180;clear BK176;clear BK177;clear HB;have HO180 := n0_;have HO188 := n1_;have BK176 := n2_;have BK177 := n3_;have HB := n4_;clear n0_ n1_ n2_ n3_ n4_;(try clear hb);(try clear hb2);(try clear hk);(try clear hi);(try clear ho0))|((with_reducible refine gate_dst (N := 7) rfl ?_);refine box_event ?hg (N := 7) ?hd (cs := #[.int .i64 0,.int .i64 0,.int .i64 0,.int .i64 0]) (t := 59) ?hr ?_;(case hd => rfl);(case hg => rfl);(case hr => first|(go_simp;done)|(go_simp;rfl));intro gb190 hg w148 hbox hb;have n0_ := Aside0.mk (Kd.V_below (Kd.V_elderB (by (with_reducible repeat (first|apply Kd.V_alloc|apply Kd.V_drewN|apply Kd.V_drew));exact HO180.out) gb190 (Nat.le_of_eq hg.symm)) hb);have n1_ := Aside0.mk (Kd.R_below (by (with_reducible repeat (first|apply Kd.R_alloc|apply Kd.R_drewN|apply Kd.R_drew));exact HO188.out) hb);have n2_ := Aside0.mk (blk_below (g := gb176) (o := .cells #[.int .i64 a0_0,.int .i64 a0_1,.int .i64 a0_2,.int .i64 a0_3] 59 (0,0)) (by (with_reducible repeat (first|apply blk_drewN|apply blk_drew|apply blk_alloc));exact BK176.out) hb);have n3_ := Aside0.mk (blk_below (g := gb177) (o := .cells #[.int .i64 a1_0,.int .i64 a1_1] 48 (0,0)) (by (with_reducible repeat (first|apply blk_drewN|apply blk_drew|apply blk_alloc));exact BK177.out) hb);have n4_ := Aside0.mk (below_step (by repeat (first|(with_reducible first|exact HB.out|apply below_alloc|apply pw_below_drewN|apply below_drew1|refine below_set ?_ GE176.out|refine below_set ?_ GE177.out)|exact HB.out)) hb);have n5_ := Aside0.mk (hbox);have n6_ := Aside0.mk ((by rw [hg];exact (below_size (by repeat (first|(with_reducible first|exact HB.out|apply below_alloc|apply pw_below_drewN|apply below_drew1|refine below_set ?_ GE176.out|refine below_set ?_ GE177.out)|exact HB.out))) : w.heap.size ≤ gb190));have n7_ := Aside0.mk ((by rw [hg];exact (below_size (by repeat (first|(with_reducible first|exact HB.out|apply below_alloc|apply pw_below_drewN|apply below_drew1|refine below_set ?_ GE176.out|refine below_set ?_ GE177.out)|exact HB.out))) : w.heap.size ≤ gb190));have n8_ := Aside0.mk ((by rw [hg];exact Nat.ne_of_lt (blk_lt (g := gb176) (o := .cells #[.int .i64 a0_0,.int .i64 a0_1,.int .i64 a0_2,.int .i64 a0_3] 59 (0,0)) (by (with_reducible repeat (first|apply blk_drewN|apply blk_drew|apply blk_alloc));exact BK176.out)) : gb176 ≠ gb190));have n9_ := Aside0.mk ((by rw [hg];exact Nat.ne_of_gt (blk_lt (g := gb176) (o := .cells #[.int .i64 a0_0,.int .i64 a0_1,.int .i64 a0_2,.int .i64 a0_3] 59 (0,0)) (by (with_reducible repeat (first|apply blk_drewN|apply blk_drew|apply blk_alloc));exact BK176.out)) : gb190 ≠ gb176));have n10_ := Aside0.mk ((by rw [hg];exact Nat.ne_of_lt (blk_lt (g := gb177) (o := .cells #[.int .i64 a1_0,.int .i64 a1_1] 48 (0,0)) (by (with_reducible repeat (first|apply blk_drewN|apply blk_drew|apply blk_alloc));exact BK177.out)) : gb177 ≠ gb190));have n11_ := Aside0.mk ((by rw [hg];exact Nat.ne_of_gt (blk_lt (g := gb177) (o := .cells #[.int .i64 a1_0,.int .i64 a1_1] 48 (0,0)) (by (with_reducible repeat (first|apply blk_drewN|apply blk_drew|apply blk_alloc));exact BK177.out)) : gb190 ≠ gb177));clear HO180;clear HO188;clear BK176;clear BK177;clear HB;have HO180 := n0_;have HO188 := n1_;have BK176 := n2_;have BK177 := n3_;have HB := n4_;have BK190 := n5_;have GW190 := n6_;have GE190 := n7_;have NB176_190 := n8_;have NB190_176 := n9_;have NB177_190 := n10_;have NB190_177 := n11_;clear n0_ n1_ n2_ n3_ n4_ n5_ n6_ n7_ n8_ n9_ n10_ n11_;clear hb hbox hg;have hnb149 := NB190_176.out;have hnc149 := NB176_190.out;have hnb150 := NB190_177.out;have hnc150 := NB177_190.out;have hcz151_0 : w148.cell? ⟨gb190,0,none⟩ = some (.int .i64 0) := (blk_cell BK190.out 0).trans rfl;have hcz151_1 : w148.cell? ⟨gb190,1,none⟩ = some (.int .i64 0) := (blk_cell BK190.out 1).trans rfl;have hcz151_2 : w148.cell? ⟨gb190,2,none⟩ = some (.int .i64 0) := (blk_cell BK190.out 2).trans rfl;have hcz151_3 : w148.cell? ⟨gb190,3,none⟩ = some (.int .i64 0) := (blk_cell BK190.out 3).trans rfl;have hfz151_0 := blk_frozen BK190.out 0;have hfz151_1 := blk_frozen BK190.out 1;have hfz151_2 := blk_frozen BK190.out 2;have hfz151_3 := blk_frozen BK190.out 3;obtain ⟨Ao152,co152,eo152⟩ := Kd.R_slice HO188.out;subst eo152)|(go_at_call 56;(with_reducible refine (bivouaclaw19_awake.calls k  t191 _ A139.out).mono ?_);rintro e w153 ⟨rfl,hb⟩;have n0_ := Aside0.mk (Kd.V_below (by (with_reducible repeat (first|apply Kd.V_alloc|apply Kd.V_drewN|apply Kd.V_drew));exact (Kd.V_mono (Kd.V_far (p := ⟨gb190,3,none⟩) (Kd.V_far (p := ⟨gb190,2,none⟩) (Kd.V_far (p := ⟨gb190,1,none⟩) (Kd.V_far (p := ⟨gb190,0,none⟩) (Kd.V_mono HO180.out (fun k_ hk => (⟨hk,hk.2⟩ : _ ∧ k_ ≠ gb190))) (fun _ hk => hk.2) (.int .i64 t181)) (fun _ hk => hk.2) (.int .i64 t182)) (fun _ hk => hk.2) (.int .i64 t183)) (fun _ hk => hk.2) (.int .i64 t184)) (fun _ h_ => h_.1))) hb);have n1_ := Aside0.mk (Kd.R_below (by (with_reducible repeat (first|apply Kd.R_alloc|apply Kd.R_drewN|apply Kd.R_drew));exact (Kd.R_mono (Kd.R_far (p := ⟨gb190,3,none⟩) (Kd.R_far (p := ⟨gb190,2,none⟩) (Kd.R_far (p := ⟨gb190,1,none⟩) (Kd.R_far (p := ⟨gb190,0,none⟩) (Kd.R_types HO188.out BK190.out (by decide)) (fun _ hk => hk.2) (.int .i64 t181)) (fun _ hk => hk.2) (.int .i64 t182)) (fun _ hk => hk.2) (.int .i64 t183)) (fun _ hk => hk.2) (.int .i64 t184)) (fun _ h_ => h_.1))) hb);have n2_ := Aside0.mk (blk_below (g := gb176) (o := .cells #[.int .i64 a0_0,.int .i64 a0_1,.int .i64 a0_2,.int .i64 a0_3] 59 (0,0)) (by (with_reducible repeat (first|apply blk_drewN|apply blk_drew|apply blk_alloc));refine blk_far ?_ NB176_190.out _;(with_reducible repeat (first|apply blk_drewN|apply blk_drew|apply blk_alloc));refine blk_far ?_ NB176_190.out _;(with_reducible repeat (first|apply blk_drewN|apply blk_drew|apply blk_alloc));refine blk_far ?_ NB176_190.out _;(with_reducible repeat (first|apply blk_drewN|apply blk_drew|apply blk_alloc));refine blk_far ?_ NB176_190.out _;(with_reducible repeat (first|apply blk_drewN|apply blk_drew|apply blk_alloc));exact BK176.out) hb);have n3_ := Aside0.mk (blk_below (g := gb177) (o := .cells #[.int .i64 a1_0,.int .i64 a1_1] 48 (0,0)) (by (with_reducible repeat (first|apply blk_drewN|apply blk_drew|apply blk_alloc));refine blk_far ?_ NB177_190.out _;(with_reducible repeat (first|apply blk_drewN|apply blk_drew|apply blk_alloc));refine blk_far ?_ NB177_190.out _;(with_reducible repeat (first|apply blk_drewN|apply blk_drew|apply blk_alloc));refine blk_far ?_ NB177_190.out _;(with_reducible repeat (first|apply blk_drewN|apply blk_drew|apply blk_alloc));refine blk_far ?_ NB177_190.out _;(with_reducible repeat (first|apply blk_drewN|apply blk_drew|apply blk_alloc));exact BK177.out) hb);have n4_ := Aside0.mk (blk_below (g := gb190) (o := .cells #[.int .i64 t181,.int .i64 t182,.int .i64 t183,.int .i64 t184] 59 (0,0)) (by (with_reducible repeat (first|apply blk_drewN|apply blk_drew|apply blk_alloc));refine blk_put (cs := #[.int .i64 t181,.int .i64 t182,.int .i64 t183,.int .i64 0]) ?_ 3 _ rfl;(with_reducible repeat (first|apply blk_drewN|apply blk_drew|apply blk_alloc));refine blk_put (cs := #[.int .i64 t181,.int .i64 t182,.int .i64 0,.int .i64 0]) ?_ 2 _ rfl;(with_reducible repeat (first|apply blk_drewN|apply blk_drew|apply blk_alloc));refine blk_put (cs := #[.int .i64 t181,.int .i64 0,.int .i64 0,.int .i64 0]) ?_ 1 _ rfl;(with_reducible repeat (first|apply blk_drewN|apply blk_drew|apply blk_alloc));refine blk_put (cs := #[.int .i64 0,.int .i64 0,.int .i64 0,.int .i64 0]) ?_ 0 _ rfl;(with_reducible repeat (first|apply blk_drewN|apply blk_drew|apply blk_alloc));exact BK190.out) hb);have n5_ := Aside0.mk (below_step (by repeat (first|(with_reducible first|exact HB.out|apply below_alloc|apply pw_below_drewN|apply below_drew1|refine below_set ?_ GE176.out|refine below_set ?_ GE177.out|refine below_set ?_ GE190.out)|exact HB.out)) hb);clear HO180;clear HO188;clear BK176;clear BK177;clear BK190;clear HB;have HO180 := n0_;have HO188 := n1_;have BK176 := n2_;have BK177 := n3_;have BK190 := n4_;have HB := n5_;clear n0_ n1_ n2_ n3_ n4_ n5_;(try clear hb);(try clear hb2);(try clear hk);(try clear hi)));try go_wp2_with (first|((with_reducible refine gate_dst (N := 3) rfl ?_);refine box_event ?hg (N := 3) ?hd (cs := #[.int .i64 a0_0,.int .i64 a0_1,.int .i64 a0_2,.int .i64 a0_3]) (t := 59) ?hr ?_;(case hd => rfl);(case hg => rfl);(case hr => first|(go_simp;done)|(go_simp;rfl));intro gb176 hg w140 hbox hb;have n0_ := Aside0.mk (below_step (by repeat (first|(with_reducible first|exact HB.out|apply below_alloc|apply pw_below_drewN|apply below_drew1)|exact HB.out)) hb);have n1_ := Aside0.mk (hbox);have n2_ := Aside0.mk ((by rw [hg];exact (below_size (by repeat (first|(with_reducible first|exact HB.out|apply below_alloc|apply pw_below_drewN|apply below_drew1)|exact HB.out))) : w.heap.size ≤ gb176));have n3_ := Aside0.mk ((by rw [hg];exact (below_size (by repeat (first|(with_reducible first|exact HB.out|apply below_alloc|apply pw_below_drewN|apply below_drew1)|exact HB.out))) : w.heap.size ≤ gb176));clear HB;have HB := n0_;have BK176 := n1_;have GW176 := n2_;have GE176 := n3_;clear n0_ n1_ n2_ n3_;clear hb hbox hg)|((with_reducible refine gate_dst (N := 4) rfl ?_);refine box_event ?hg (N := 4) ?hd (cs := #[.int .i64 a1_0,.int .i64 a1_1]) (t := 48) ?hr ?_;(case hd => rfl);(case hg => rfl);(case hr => first|(go_simp;done)|(go_simp;rfl));intro gb177 hg w141 hbox hb;have n0_ := Aside0.mk (blk_below (g := gb176) (o := .cells #[.int .i64 a0_0,.int .i64 a0_1,.int .i64 a0_2,.int .i64 a0_3] 59 (0,0)) (by (with_reducible repeat (first|apply blk_drewN|apply blk_drew|apply blk_alloc));exact BK176.out) hb);have n1_ := Aside0.mk (below_step (by repeat (first|(with_reducible first|exact HB.out|apply below_alloc|apply pw_below_drewN|apply below_drew1|refine below_set ?_ GE176.out)|exact HB.out)) hb);have n2_ := Aside0.mk (hbox);have n3_ := Aside0.mk ((by rw [hg];exact (below_size (by repeat (first|(with_reducible first|exact HB.out|apply below_alloc|apply pw_below_drewN|apply below_drew1|refine below_set ?_ GE176.out)|exact HB.out))) : w.heap.size ≤ gb177));have n4_ := Aside0.mk ((by rw [hg];exact (below_size (by repeat (first|(with_reducible first|exact HB.out|apply below_alloc|apply pw_below_drewN|apply below_drew1|refine below_set ?_ GE176.out)|exact HB.out))) : w.heap.size ≤ gb177));have n5_ := Aside0.mk ((by rw [hg];exact Nat.ne_of_lt (blk_lt (g := gb176) (o := .cells #[.int .i64 a0_0,.int .i64 a0_1,.int .i64 a0_2,.int .i64 a0_3] 59 (0,0)) (by (with_reducible repeat (first|apply blk_drewN|apply blk_drew|apply blk_alloc));exact BK176.out)) : gb176 ≠ gb177));have n6_ := Aside0.mk ((by rw [hg];exact Nat.ne_of_gt (blk_lt (g := gb176) (o := .cells #[.int .i64 a0_0,.int .i64 a0_1,.int .i64 a0_2,.int .i64 a0_3] 59 (0,0)) (by (with_reducible repeat (first|apply blk_drewN|apply blk_drew|apply blk_alloc));exact BK176.out)) : gb177 ≠ gb176));clear BK176;clear HB;have BK176 := n0_;have HB := n1_;have BK177 := n2_;have GW177 := n3_;have GE177 := n4_;have NB176_177 := n5_;have NB177_176 := n6_;clear n0_ n1_ n2_ n3_ n4_ n5_ n6_;clear hb hbox hg)|(go_at_call 58;(with_reducible refine (bivouaclaw19_few.calls (fun k_ => k_ < w.heap.size) _ _ l2 t178 _ ?side1 A4.out).mono ?_);(case side1 => exact Kd.V_mk HC2.out (Kd.F_below (Kd.C_F k48_heap HR2.out) (by repeat (first|(with_reducible first|exact HB.out|apply below_alloc|apply pw_below_drewN|apply below_drew1|refine below_set ?_ GE176.out|refine below_set ?_ GE177.out)|exact HB.out))));rintro e w142 ⟨v179,rfl,ho0,hb⟩;have n0_ := Aside0.mk (Kd.V_lower (Kd.V_mono (ok' := fun k_ => k_ ≠ gb176 ∧ k_ ≠ gb177) ho0 (fun k_ hk_ => ⟨Or.elim hk_ (fun hs_ => fun e_ => Nat.not_le.2 hs_ (by rw [e_];exact GW176.out)) (fun hn_ => (Kd.freshB (g := gb176) (o := .cells #[.int .i64 a0_0,.int .i64 a0_1,.int .i64 a0_2,.int .i64 a0_3] 59 (0,0)) (by (with_reducible repeat (first|apply blk_drewN|apply blk_drew|apply blk_alloc));exact BK176.out) k_ hn_)),Or.elim hk_ (fun hs_ => fun e_ => Nat.not_le.2 hs_ (by rw [e_];exact GW177.out)) (fun hn_ => (Kd.freshB (g := gb177) (o := .cells #[.int .i64 a1_0,.int .i64 a1_1] 48 (0,0)) (by (with_reducible repeat (first|apply blk_drewN|apply blk_drew|apply blk_alloc));exact BK177.out) k_ hn_))⟩)) (below_size (by repeat (first|(with_reducible first|exact HB.out|apply below_alloc|apply pw_below_drewN|apply below_drew1|refine below_set ?_ GE176.out|refine below_set ?_ GE177.out)|exact HB.out))));have n1_ := Aside0.mk (blk_below (g := gb176) (o := .cells #[.int .i64 a0_0,.int .i64 a0_1,.int .i64 a0_2,.int .i64 a0_3] 59 (0,0)) (by (with_reducible repeat (first|apply blk_drewN|apply blk_drew|apply blk_alloc));exact BK176.out) hb);have n2_ := Aside0.mk (blk_below (g := gb177) (o := .cells #[.int .i64 a1_0,.int .i64 a1_1] 48 (0,0)) (by (with_reducible repeat (first|apply blk_drewN|apply blk_drew|apply blk_alloc));exact BK177.out) hb);have n3_ := Aside0.mk (below_step (by repeat (first|(with_reducible first|exact HB.out|apply below_alloc|apply pw_below_drewN|apply below_drew1|refine below_set ?_ GE176.out|refine below_set ?_ GE177.out)|exact HB.out)) hb);clear BK176;clear BK177;clear HB;have HO180 := n0_;have BK176 := n1_;have BK177 := n2_;have HB := n3_;clear n0_ n1_ n2_ n3_;(try clear hb);(try clear hb2);(try clear hk);(try clear hi);(try clear ho0);have hnb143 := NB176_177.out;have hnc143 := NB177_176.out;have hcz144_0 : w142.cell? ⟨gb176,0,none⟩ = some (.int .i64 a0_0) := (blk_cell BK176.out 0).trans rfl;have hcz144_1 : w142.cell? ⟨gb176,1,none⟩ = some (.int .i64 a0_1) := (blk_cell BK176.out 1).trans rfl;have hcz144_2 : w142.cell? ⟨gb176,2,none⟩ = some (.int .i64 a0_2) := (blk_cell BK176.out 2).trans rfl;have hcz144_3 : w142.cell? ⟨gb176,3,none⟩ = some (.int .i64 a0_3) := (blk_cell BK176.out 3).trans rfl;have hfz144_0 := blk_frozen BK176.out 0;have hfz144_1 := blk_frozen BK176.out 1;have hfz144_2 := blk_frozen BK176.out 2;have hfz144_3 := blk_frozen BK176.out 3;have hcz145_0 : w142.cell? ⟨gb177,0,none⟩ = some (.int .i64 a1_0) := (blk_cell BK177.out 0).trans rfl;have hcz145_1 : w142.cell? ⟨gb177,1,none⟩ = some (.int .i64 a1_1) := (blk_cell BK177.out 1).trans rfl;have hfz145_0 := blk_frozen BK177.out 0;have hfz145_1 := blk_frozen BK177.out 1;obtain ⟨Ao146,co146,eo146⟩ := Kd.V_slice HO180.out;subst eo146)|(go_at_call 59;(with_reducible refine (purse_Serve.calls a0_0 a0_1 a0_2 a0_3 a1_0 a1_1 _ _ t178 t181 t182 t183 t184 t185 t186 t189 _ ?side1 ?side2 A5.out).mono ?_);(case side1 => repeat (first|exact (Kd.V_reads' HO180.out).2.2|(with_reducible refine Kd.C_alloc ?_ _)|(with_reducible refine Kd.C_drewN ?_ _)|(with_reducible refine Kd.C_drew ?_)));(case side2 => exact (Kd.V_reads' HO180.out).2.1);rintro e w147 ⟨v187,rfl,ho0,hb⟩;have n0_ := Aside0.mk (Kd.V_elder' (by (with_reducible repeat (first|apply Kd.V_alloc|apply Kd.V_drewN|apply Kd.V_drew));exact HO180.out) (Kd.R_base ho0) hb);have n1_ := Aside0.mk (Kd.R_lower (Kd.R_newB ho0 (g := gb177) (o := .cells #[.int .i64 a1_0,.int .i64 a1_1] 48 (0,0)) (by (with_reducible repeat (first|apply blk_drewN|apply blk_drew|apply blk_alloc));exact BK177.out)) (below_size (by repeat (first|(with_reducible first|exact HB.out|apply below_alloc|apply pw_below_drewN|apply below_drew1|refine below_set ?_ GE176.out|refine below_set ?_ GE177.out)|exact HB.out))));have n2_ := Aside0.mk (blk_below (g := gb176) (o := .cells #[.int .i64 a0_0,.int .i64 a0_1,.int .i64 a0_2,.int .i64 a0_3] 59 (0,0)) (by (with_reducible repeat (first|apply blk_drewN|apply blk_drew|apply blk_alloc));exact BK176.out) hb);have n3_ := Aside0.mk (blk_below (g := gb177) (o := .cells #[.int .i64 a1_0,.int .i64 a1_1] 48 (0,0)) (by (with_reducible repeat (first|apply blk_drewN|apply blk_drew|apply blk_alloc));exact BK177.out) hb);have n4_ := Aside0.mk (below_step (by repeat (first|(with_reducible first|exact HB.out|apply below_alloc|apply pw_below_drewN|apply below_drew1|refine below_set ?_ GE176.out|refine below_set ?_ GE177.out)|exact HB.out)) hb);clear HO180;clear BK176;clear BK177;clear HB;have HO180 := n0_;have HO188 := n1_;have BK176 := n2_;have BK177 := n3_;have HB := n4_;clear n0_ n1_ n2_ n3_ n4_;(try clear hb);(try clear hb2);(try clear hk);(try clear hi);(try clear ho0))|((with_reducible refine gate_dst (N := 7) rfl ?_);refine box_event ?hg (N := 7) ?hd (cs := #[.int .i64 0,.int .i64 0,.int .i64 0,.int .i64 0]) (t := 59) ?hr ?_;(case hd => rfl);(case hg => rfl);(case hr => first|(go_simp;done)|(go_simp;rfl));intro gb190 hg w148 hbox hb;have n0_ := Aside0.mk (Kd.V_below (Kd.V_elderB (by (with_reducible repeat (first|apply Kd.V_alloc|apply Kd.V_drewN|apply Kd.V_drew));exact HO180.out) gb190 (Nat.le_of_eq hg.symm)) hb);have n1_ := Aside0.mk (Kd.R_below (by (with_reducible repeat (first|apply Kd.R_alloc|apply Kd.R_drewN|apply Kd.R_drew));exact HO188.out) hb);have n2_ := Aside0.mk (blk_below (g := gb176) (o := .cells #[.int .i64 a0_0,.int .i64 a0_1,.int .i64 a0_2,.int .i64 a0_3] 59 (0,0)) (by (with_reducible repeat (first|apply blk_drewN|apply blk_drew|apply blk_alloc));exact BK176.out) hb);have n3_ := Aside0.mk (blk_below (g := gb177) (o := .cells #[.int .i64 a1_0,.int .i64 a1_1] 48 (0,0)) (by (with_reducible repeat (first|apply blk_drewN|apply blk_drew|apply blk_alloc));exact BK177.out) hb);have n4_ := Aside0.mk (below_step (by repeat (first|(with_reducible first|exact HB.out|apply below_alloc|apply pw_below_drewN|apply below_drew1|refine below_set ?_ GE176.out|refine below_set ?_ GE177.out)|exact HB.out)) hb);have n5_ := Aside0.mk (hbox);have n6_ := Aside0.mk ((by rw [hg];exact (below_size (by repeat (first|(with_reducible first|exact HB.out|apply below_alloc|apply pw_below_drewN|apply below_drew1|refine below_set ?_ GE176.out|refine below_set ?_ GE177.out)|exact HB.out))) : w.heap.size ≤ gb190));have n7_ := Aside0.mk ((by rw [hg];exact (below_size (by repeat (first|(with_reducible first|exact HB.out|apply below_alloc|apply pw_below_drewN|apply below_drew1|refine below_set ?_ GE176.out|refine below_set ?_ GE177.out)|exact HB.out))) : w.heap.size ≤ gb190));have n8_ := Aside0.mk ((by rw [hg];exact Nat.ne_of_lt (blk_lt (g := gb176) (o := .cells #[.int .i64 a0_0,.int .i64 a0_1,.int .i64 a0_2,.int .i64 a0_3] 59 (0,0)) (by (with_reducible repeat (first|apply blk_drewN|apply blk_drew|apply blk_alloc));exact BK176.out)) : gb176 ≠ gb190));have n9_ := Aside0.mk ((by rw [hg];exact Nat.ne_of_gt (blk_lt (g := gb176) (o := .cells #[.int .i64 a0_0,.int .i64 a0_1,.int .i64 a0_2,.int .i64 a0_3] 59 (0,0)) (by (with_reducible repeat (first|apply blk_drewN|apply blk_drew|apply blk_alloc));exact BK176.out)) : gb190 ≠ gb176));have n10_ := Aside0.mk ((by rw [hg];exact Nat.ne_of_lt (blk_lt (g := gb177) (o := .cells #[.int .i64 a1_0,.int .i64 a1_1] 48 (0,0)) (by (with_reducible repeat (first|apply blk_drewN|apply blk_drew|apply blk_alloc));exact BK177.out)) : gb177 ≠ gb190));have n11_ := Aside0.mk ((by rw [hg];exact Nat.ne_of_gt (blk_lt (g := gb177) (o := .cells #[.int .i64 a1_0,.int .i64 a1_1] 48 (0,0)) (by (with_reducible repeat (first|apply blk_drewN|apply blk_drew|apply blk_alloc));exact BK177.out)) : gb190 ≠ gb177));clear HO180;clear HO188;clear BK176;clear BK177;clear HB;have HO180 := n0_;have HO188 := n1_;have BK176 := n2_;have BK177 := n3_;have HB := n4_;have BK190 := n5_;have GW190 := n6_;have GE190 := n7_;have NB176_190 := n8_;have NB190_176 := n9_;have NB177_190 := n10_;have NB190_177 := n11_;clear n0_ n1_ n2_ n3_ n4_ n5_ n6_ n7_ n8_ n9_ n10_ n11_;clear hb hbox hg;have hnb149 := NB190_176.out;have hnc149 := NB176_190.out;have hnb150 := NB190_177.out;have hnc150 := NB177_190.out;have hcz151_0 : w148.cell? ⟨gb190,0,none⟩ = some (.int .i64 0) := (blk_cell BK190.out 0).trans rfl;have hcz151_1 : w148.cell? ⟨gb190,1,none⟩ = some (.int .i64 0) := (blk_cell BK190.out 1).trans rfl;have hcz151_2 : w148.cell? ⟨gb190,2,none⟩ = some (.int .i64 0) := (blk_cell BK190.out 2).trans rfl;have hcz151_3 : w148.cell? ⟨gb190,3,none⟩ = some (.int .i64 0) := (blk_cell BK190.out 3).trans rfl;have hfz151_0 := blk_frozen BK190.out 0;have hfz151_1 := blk_frozen BK190.out 1;have hfz151_2 := blk_frozen BK190.out 2;have hfz151_3 := blk_frozen BK190.out 3;obtain ⟨Ao152,co152,eo152⟩ := Kd.R_slice HO188.out;subst eo152)|(go_at_call 56;(with_reducible refine (bivouaclaw19_awake.calls k  t191 _ A139.out).mono ?_);rintro e w153 ⟨rfl,hb⟩;have n0_ := Aside0.mk (Kd.V_below (by (with_reducible repeat (first|apply Kd.V_alloc|apply Kd.V_drewN|apply Kd.V_drew));exact (Kd.V_mono (Kd.V_far (p := ⟨gb190,3,none⟩) (Kd.V_far (p := ⟨gb190,2,none⟩) (Kd.V_far (p := ⟨gb190,1,none⟩) (Kd.V_far (p := ⟨gb190,0,none⟩) (Kd.V_mono HO180.out (fun k_ hk => (⟨hk,hk.2⟩ : _ ∧ k_ ≠ gb190))) (fun _ hk => hk.2) (.int .i64 t181)) (fun _ hk => hk.2) (.int .i64 t182)) (fun _ hk => hk.2) (.int .i64 t183)) (fun _ hk => hk.2) (.int .i64 t184)) (fun _ h_ => h_.1))) hb);have n1_ := Aside0.mk (Kd.R_below (by (with_reducible repeat (first|apply Kd.R_alloc|apply Kd.R_drewN|apply Kd.R_drew));exact (Kd.R_mono (Kd.R_far (p := ⟨gb190,3,none⟩) (Kd.R_far (p := ⟨gb190,2,none⟩) (Kd.R_far (p := ⟨gb190,1,none⟩) (Kd.R_far (p := ⟨gb190,0,none⟩) (Kd.R_types HO188.out BK190.out (by decide)) (fun _ hk => hk.2) (.int .i64 t181)) (fun _ hk => hk.2) (.int .i64 t182)) (fun _ hk => hk.2) (.int .i64 t183)) (fun _ hk => hk.2) (.int .i64 t184)) (fun _ h_ => h_.1))) hb);have n2_ := Aside0.mk (blk_below (g := gb176) (o := .cells #[.int .i64 a0_0,.int .i64 a0_1,.int .i64 a0_2,.int .i64 a0_3] 59 (0,0)) (by (with_reducible repeat (first|apply blk_drewN|apply blk_drew|apply blk_alloc));refine blk_far ?_ NB176_190.out _;(with_reducible repeat (first|apply blk_drewN|apply blk_drew|apply blk_alloc));refine blk_far ?_ NB176_190.out _;(with_reducible repeat (first|apply blk_drewN|apply blk_drew|apply blk_alloc));refine blk_far ?_ NB176_190.out _;(with_reducible repeat (first|apply blk_drewN|apply blk_drew|apply blk_alloc));refine blk_far ?_ NB176_190.out _;(with_reducible repeat (first|apply blk_drewN|apply blk_drew|apply blk_alloc));exact BK176.out) hb);have n3_ := Aside0.mk (blk_below (g := gb177) (o := .cells #[.int .i64 a1_0,.int .i64 a1_1] 48 (0,0)) (by (with_reducible repeat (first|apply blk_drewN|apply blk_drew|apply blk_alloc));refine blk_far ?_ NB177_190.out _;(with_reducible repeat (first|apply blk_drewN|apply blk_drew|apply blk_alloc));refine blk_far ?_ NB177_190.out _;(with_reducible repeat (first|apply blk_drewN|apply blk_drew|apply blk_alloc));refine blk_far ?_ NB177_190.out _;(with_reducible repeat (first|apply blk_drewN|apply blk_drew|apply blk_alloc));refine blk_far ?_ NB177_190.out _;(with_reducible repeat (first|apply blk_drewN|apply blk_drew|apply blk_alloc));exact BK177.out) hb);have n4_ := Aside0.mk (blk_below (g := gb190) (o := .cells #[.int .i64 t181,.int .i64 t182,.int .i64 t183,.int .i64 t184] 59 (0,0)) (by (with_reducible repeat (first|apply blk_drewN|apply blk_drew|apply blk_alloc));refine blk_put (cs := #[.int .i64 t181,.int .i64 t182,.int .i64 t183,.int .i64 0]) ?_ 3 _ rfl;(with_reducible repeat (first|apply blk_drewN|apply blk_drew|apply blk_alloc));refine blk_put (cs := #[.int .i64 t181,.int .i64 t182,.int .i64 0,.int .i64 0]) ?_ 2 _ rfl;(with_reducible repeat (first|apply blk_drewN|apply blk_drew|apply blk_alloc));refine blk_put (cs := #[.int .i64 t181,.int .i64 0,.int .i64 0,.int .i64 0]) ?_ 1 _ rfl;(with_reducible repeat (first|apply blk_drewN|apply blk_drew|apply blk_alloc));refine blk_put (cs := #[.int .i64 0,.int .i64 0,.int .i64 0,.int .i64 0]) ?_ 0 _ rfl;(with_reducible repeat (first|apply blk_drewN|apply blk_drew|apply blk_alloc));exact BK190.out) hb);have n5_ := Aside0.mk (below_step (by repeat (first|(with_reducible first|exact HB.out|apply below_alloc|apply pw_below_drewN|apply below_drew1|refine below_set ?_ GE176.out|refine below_set ?_ GE177.out|refine below_set ?_ GE190.out)|exact HB.out)) hb);clear HO180;clear HO188;clear BK176;clear BK177;clear BK190;clear HB;have HO180 := n0_;have HO188 := n1_;have BK176 := n2_;have BK177 := n3_;have BK190 := n4_;have HB := n5_;clear n0_ n1_ n2_ n3_ n4_ n5_;(try clear hb);(try clear hb2);(try clear hk);(try clear hi))))
   go_ret
   exact ⟨by first|rfl|(exact congrArg (fun b_ => Ending.returned (Value.bool b_)) HRES.out)|(simp [errW_none,errW_some] <;> rfl)|(simp [*,errW_none,errW_some] <;> rfl),by repeat (first|(with_reducible first|exact HB.out|apply below_alloc|apply pw_below_drewN|apply below_drew1|refine below_set ?_ GE176.out|refine below_set ?_ GE177.out|refine below_set ?_ GE190.out)|exact HB.out)⟩
  ·
   rw [if_neg c138] at H
   exact absurd H (by simp)
end Go.Proofs.Ytikhgdbbbingbaa.MPu
