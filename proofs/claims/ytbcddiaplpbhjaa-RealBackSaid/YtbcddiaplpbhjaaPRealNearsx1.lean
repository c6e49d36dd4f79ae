-- PRINTED BY print.sh 35421559b90ae4d0a3588c463048766b98c2df88dd9212a6774a882060cdf62d: not written by this session
import Derived.Test.YtbcddiaplpbhjaaPRealNearsx0
namespace Go.Proofs.Ytbcddiaplpbhjaa.PRealNears
open Go.RowKit Go.Proofs.YtbcddiaplpbhjaaW.PrintWords Go.Proofs.YtbcddiaplpbhjaaW.PrintLast Go.Proofs.YtbcddiaplpbhjaaW.PrintMore
attribute [local go_sem] max2_int min2_int max_two min_two max_three min_three max_four min_four   -- for this text's walks alone
set_option linter.unusedVariables false
set_option linter.unusedSimpArgs false

-- NOT PRINTED: function 16 (math_Float64frombits)

-- NOT PRINTED: function 54 (math_IsNaN)

-- NOT PRINTED: function 61 (math_archFloor)

-- NOT PRINTED: function 22 (math_Float64bits)

-- NOT PRINTED: function 65 (math_Abs)

-- NOT PRINTED: function 63 (math_IsInf)

-- NOT PRINTED: function 68 (math_archTrunc)

-- NOT PRINTED: function 67 (math_Copysign)

-- NOT PRINTED: function 69 (math_trunc)

-- NOT PRINTED: function 66 (math_Trunc)

-- NOT PRINTED: function 64 (math_Modf)

-- NOT PRINTED: function 62 (math_floor)

-- NOT PRINTED: function 55 (math_Floor)

-- NOT PRINTED: function 34 (real_scaled)

-- NOT PRINTED: function 15 (real_Of)

-- NOT PRINTED: function 14 (real_Bits)

-- NOT PRINTED: function 19 (real_Near)

-- NOT PRINTED: function 18 (bivouaclaw04_awake)

/-! ### bivouacref04_Parts: function 35 -/
def bivouacref04_Parts.j0 : Nat → Bool → Int → Int → Bool → Option (Bool × Int × Int × Int)
  | 0, _, _, _, _ => none
  | k + 1, x6, x7, x8, x23 => if x23 = true then (some (x6, 0, 0, 2)) else (if x7 = 2047 then (some (x6, 0, 0, 1)) else (if x7 = 0 then (some (x6, x8, (-1074), 0)) else (some (x6, IntKind.u64.wrap (x8 + 4503599627370496), wrap64 (x7 - 1075), 0))))
def bivouacref04_Parts.f (k : Nat) (a0 : Int) : Option (Bool × Int × Int × Int) := if (wrap64 (Go.bits .and .u64 (a0 / 4503599627370496) 2047)) = 2047 then (bivouacref04_Parts.j0 k ((a0 / 9223372036854775808) == 1) (wrap64 (Go.bits .and .u64 (a0 / 4503599627370496) 2047)) (Go.bits .and .u64 a0 4503599627370495) ((Go.bits .and .u64 a0 4503599627370495) != 0)) else (bivouacref04_Parts.j0 k ((a0 / 9223372036854775808) == 1) (wrap64 (Go.bits .and .u64 (a0 / 4503599627370496) 2047)) (Go.bits .and .u64 a0 4503599627370495) false)
theorem bivouacref04_Parts.mono_l : ∀ k, (∀ y0 y1 y2 y3, LeO (bivouacref04_Parts.j0 k y0 y1 y2 y3) (bivouacref04_Parts.j0 (k + 1) y0 y1 y2 y3))
  | 0 => fun _ _ _ _ r h => by simp [bivouacref04_Parts.j0] at h
  | k + 1 => by
    have ih0 := bivouacref04_Parts.mono_l k
    · intro y0 y1 y2 y3
      unfold bivouacref04_Parts.j0
      repeat' first
      | (with_reducible exact ih0 _ _ _ _)
      | (with_reducible exact LeO.refl _)
      | (with_reducible exact LeO.none _)
      | (with_reducible refine LeO.ite ?_ ?_)
      | (with_reducible refine LeO.bind ?_ (fun _ => ?_))
      | exact ih0 _ _ _ _
      | exact LeO.none _
      | refine LeO.ite ?_ ?_
      | refine LeO.bind ?_ (fun _ => ?_)
theorem bivouacref04_Parts.mono : ∀ a0 k, LeO (bivouacref04_Parts.f k a0) (bivouacref04_Parts.f (k + 1) a0) := by
  intro a0 k
  have ih0 := bivouacref04_Parts.mono_l k
  unfold bivouacref04_Parts.f
  repeat' first
      | (with_reducible exact ih0 _ _ _ _)
      | (with_reducible exact LeO.refl _)
      | (with_reducible exact LeO.none _)
      | (with_reducible refine LeO.ite ?_ ?_)
      | (with_reducible refine LeO.bind ?_ (fun _ => ?_))
      | exact ih0 _ _ _ _
      | exact LeO.none _
      | refine LeO.ite ?_ ?_
      | refine LeO.bind ?_ (fun _ => ?_)
set_option maxHeartbeats 8000000 in
set_option maxRecDepth 100000 in
theorem bivouacref04_Parts.calls (k : Nat) (a0 : Int) (r1 : Bool) (r2 : Int) (r3 : Int) (r4 : Int) (w : World) (h : bivouacref04_Parts.f k a0 = some (r1, r2, r3, r4)) :
    Calls Try.prog 35 #[.int .u64 a0] w fun e w' => e = .returned (.tuple #[.bool r1, .int .u64 r2, .int .i64 r3, .int .i64 r4]) ∧ Drawn0 w w' := by
  have H : (if (wrap64 (Go.bits .and .u64 (a0 / 4503599627370496) 2047)) = 2047 then (bivouacref04_Parts.j0 k ((a0 / 9223372036854775808) == 1) (wrap64 (Go.bits .and .u64 (a0 / 4503599627370496) 2047)) (Go.bits .and .u64 a0 4503599627370495) ((Go.bits .and .u64 a0 4503599627370495) != 0)) else (bivouacref04_Parts.j0 k ((a0 / 9223372036854775808) == 1) (wrap64 (Go.bits .and .u64 (a0 / 4503599627370496) 2047)) (Go.bits .and .u64 a0 4503599627370495) false)) = some (r1, r2, r3, r4) := h
  clear h
  have HC2 := Aside0.mk H
  clear H
  go_enter Try.func35, Try.ntmps35
  go_upto_region 4 with (fail)
  go_cut [23] (fun v23 wc => ∃ (kq : Nat) (x23_1 : Bool), v23 = .bool x23_1 ∧ Aside0 (bivouacref04_Parts.j0 kq ((a0 / 9223372036854775808) == 1) (wrap64 (Go.bits .and .u64 (a0 / 4503599627370496) 2047)) (Go.bits .and .u64 a0 4503599627370495) x23_1 = some (r1, r2, r3, r4)) ∧ Aside0 (kq ≤ k) ∧ Drawn0 w wc)
  case first =>
    have H := HC2.out
    clear HC2
    by_cases c3 : (wrap64 (Go.bits .and .u64 (a0 / 4503599627370496) 2047)) = 2047
    · rw [if_pos c3] at H
      have c3b0 : ((wrap64 (Go.bits .and .u64 (a0 / 4503599627370496) 2047)) == 2047) = true := beq_iff_eq.mpr c3
      have c3b1 : ((wrap64 (Go.bits .and .u64 (a0 / 4503599627370496) 2047)) != 2047) = false := bne_eq_false_iff_eq.mpr c3
      clear c3
      (first | rw [c3b0] | (simp only [i64_w, i32_w]; rw [c3b0]) | skip)
      have H' := Aside0.mk H
      clear H
      go_wp2
      go_meet
      case rel => exact ⟨_, (((Go.bits .and .u64 a0 4503599627370495) != 0)), (by first | rfl | (simp; done) | (simp [*]; done)), H', ⟨by first | omega | exact Nat.le_refl _⟩, by repeat (first | exact Drawn0.refl _ | apply Drawn0.step)⟩
    · rw [if_neg c3] at H
      have c3b0 : ((wrap64 (Go.bits .and .u64 (a0 / 4503599627370496) 2047)) == 2047) = false := beq_eq_false_iff_ne.mpr c3
      have c3b1 : ((wrap64 (Go.bits .and .u64 (a0 / 4503599627370496) 2047)) != 2047) = true := bne_iff_ne.mpr c3
      (first | rw [c3b0] | (simp only [i64_w, i32_w]; rw [c3b0]) | skip)
      have H' := Aside0.mk H
      clear H
      go_wp2
      go_meet
      case rel => exact ⟨_, (false), (by first | rfl | (simp; done) | (simp [*]; done)), H', ⟨by first | omega | exact Nat.le_refl _⟩, by repeat (first | exact Drawn0.refl _ | apply Drawn0.step)⟩
  case rest =>
    clear HC2
    try clear p2
    try clear c3
    try clear c3b0
    try clear c3b1
    obtain ⟨kq, x23_1, rfl, HA, HJ1, ⟨mc1, rfl⟩⟩ := hcut
    cases kq with
    | zero => exact absurd HA.out (by simp [bivouacref04_Parts.j0])
    | succ kj1 =>
      have H := HA.out
      clear HA
      simp only [bivouacref04_Parts.j0] at H
      by_cases c4 : x23_1 = true
      · subst c4
        have H1 : (some (((a0 / 9223372036854775808) == 1), 0, 0, 2)) = some (r1, r2, r3, r4) := by rw [if_pos rfl] at H; exact H
        clear H
        have H := H1
        clear H1
        simp only [Option.some.injEq, Prod.mk.injEq] at H
        obtain ⟨rfl, rfl, rfl, rfl⟩ := H
        go_wp2
        refine bodyPost_ret (results_list (rs := [.tmp 2, .tmp 3, .tmp 4, .tmp 5]) rfl (by simp) (.tmp (.tmp (.tmp (.tmp .nil))))) rfl ?_
        exact ⟨by first | rfl | (simp; done) | (simp [*]; done), by repeat (first | exact Drawn0.refl _ | apply Drawn0.step)⟩
      · replace c4 := Bool.eq_false_iff.mpr c4
        subst c4
        have H1 : (if (wrap64 (Go.bits .and .u64 (a0 / 4503599627370496) 2047)) = 2047 then (some (((a0 / 9223372036854775808) == 1), 0, 0, 1)) else (if (wrap64 (Go.bits .and .u64 (a0 / 4503599627370496) 2047)) = 0 then (some (((a0 / 9223372036854775808) == 1), (Go.bits .and .u64 a0 4503599627370495), (-1074), 0)) else (some (((a0 / 9223372036854775808) == 1), IntKind.u64.wrap ((Go.bits .and .u64 a0 4503599627370495) + 4503599627370496), wrap64 ((wrap64 (Go.bits .and .u64 (a0 / 4503599627370496) 2047)) - 1075), 0)))) = some (r1, r2, r3, r4) := by rw [if_neg (show ¬ (false = true) by decide)] at H; exact H
        clear H
        have H := H1
        clear H1
        by_cases c5 : (wrap64 (Go.bits .and .u64 (a0 / 4503599627370496) 2047)) = 2047
        · rw [if_pos c5] at H
          have c5b0 : ((wrap64 (Go.bits .and .u64 (a0 / 4503599627370496) 2047)) == 2047) = true := beq_iff_eq.mpr c5
          have c5b1 : ((wrap64 (Go.bits .and .u64 (a0 / 4503599627370496) 2047)) != 2047) = false := bne_eq_false_iff_eq.mpr c5
          clear c5
          simp only [Option.some.injEq, Prod.mk.injEq] at H
          obtain ⟨rfl, rfl, rfl, rfl⟩ := H
          go_wp2
          refine bodyPost_ret (results_list (rs := [.tmp 2, .tmp 3, .tmp 4, .tmp 5]) rfl (by simp) (.tmp (.tmp (.tmp (.tmp .nil))))) rfl ?_
          exact ⟨by first | rfl | (simp; done) | (simp [*]; done), by repeat (first | exact Drawn0.refl _ | apply Drawn0.step)⟩
        · rw [if_neg c5] at H
          have c5b0 : ((wrap64 (Go.bits .and .u64 (a0 / 4503599627370496) 2047)) == 2047) = false := beq_eq_false_iff_ne.mpr c5
          have c5b1 : ((wrap64 (Go.bits .and .u64 (a0 / 4503599627370496) 2047)) != 2047) = true := bne_iff_ne.mpr c5
          by_cases c6 : (wrap64 (Go.bits .and .u64 (a0 / 4503599627370496) 2047)) = 0
          · rw [if_pos c6] at H
            have c6b0 : ((wrap64 (Go.bits .and .u64 (a0 / 4503599627370496) 2047)) == 0) = true := beq_iff_eq.mpr c6
            have c6b1 : ((wrap64 (Go.bits .and .u64 (a0 / 4503599627370496) 2047)) != 0) = false := bne_eq_false_iff_eq.mpr c6
            clear c6
            simp only [Option.some.injEq, Prod.mk.injEq] at H
            obtain ⟨rfl, rfl, rfl, rfl⟩ := H
            go_wp2
            refine bodyPost_ret (results_list (rs := [.tmp 2, .tmp 3, .tmp 4, .tmp 5]) rfl (by simp) (.tmp (.tmp (.tmp (.tmp .nil))))) rfl ?_
            exact ⟨by first | rfl | (simp; done) | (simp [*]; done), by repeat (first | exact Drawn0.refl _ | apply Drawn0.step)⟩
          · rw [if_neg c6] at H
            have c6b0 : ((wrap64 (Go.bits .and .u64 (a0 / 4503599627370496) 2047)) == 0) = false := beq_eq_false_iff_ne.mpr c6
            have c6b1 : ((wrap64 (Go.bits .and .u64 (a0 / 4503599627370496) 2047)) != 0) = true := bne_iff_ne.mpr c6
            simp only [Option.some.injEq, Prod.mk.injEq] at H
            obtain ⟨rfl, rfl, rfl, rfl⟩ := H
            go_wp2
            refine bodyPost_ret (results_list (rs := [.tmp 2, .tmp 3, .tmp 4, .tmp 5]) rfl (by simp) (.tmp (.tmp (.tmp (.tmp .nil))))) rfl ?_
            exact ⟨by first | rfl | (simp; done) | (simp [*]; done), by repeat (first | exact Drawn0.refl _ | apply Drawn0.step)⟩

/-! ### bivouacref04_one: function 56 -/
def bivouacref04_one.f (a0 : Bool) : Option (Int) := if a0 = true then (some 1) else (some 0)
set_option maxHeartbeats 8000000 in
set_option maxRecDepth 100000 in
theorem bivouacref04_one.calls (a0 : Bool) (r : Int) (w : World) (h : bivouacref04_one.f a0 = some r) :
    Calls Try.prog 56 #[.bool a0] w fun e w' => e = .returned (.int .i64 r) ∧ Drawn0 w w' := by
  have H : (if a0 = true then (some 1) else (some 0)) = some r := h
  clear h
  by_cases c2 : a0 = true
  · subst c2
    have H1 : (some 1) = some r := by rw [if_pos rfl] at H; exact H
    clear H
    have H := H1
    clear H1
    obtain rfl := Option.some.inj H
    go_enter Try.func56, Try.ntmps56
    go_wp2
    go_ret
    exact ⟨by first | rfl | (simp; done) | (simp [*]; done), by repeat (first | exact Drawn0.refl _ | apply Drawn0.step)⟩
  · replace c2 := Bool.eq_false_iff.mpr c2
    subst c2
    have H1 : (some 0) = some r := by rw [if_neg (show ¬ (false = true) by decide)] at H; exact H
    clear H
    have H := H1
    clear H1
    obtain rfl := Option.some.inj H
    go_enter Try.func56, Try.ntmps56
    go_wp2
    go_ret
    exact ⟨by first | rfl | (simp; done) | (simp [*]; done), by repeat (first | exact Drawn0.refl _ | apply Drawn0.step)⟩

/-! ### bivouacref04_Scaled: function 36 -/
mutual
def bivouacref04_Scaled.j1 : Nat → Int → Int → Bool → Bool → Option (Int × Int × Bool)
  | 0, _, _, _, _ => none
  | k + 1, x0, x1, x7, x8 => if x0 = 0 then (bivouacref04_Scaled.j2 k x0 x1 x7 x8 (decide (x1 < 0))) else (bivouacref04_Scaled.j2 k x0 x1 x7 x8 false)
def bivouacref04_Scaled.j2 : Nat → Int → Int → Bool → Bool → Bool → Option (Int × Int × Bool)
  | 0, _, _, _, _, _ => none
  | k + 1, x0, x1, x7, x8, x38 => if x38 = true then ((bivouacref04_one.f x7).bind fun t101 => (some (0, t101, true))) else (bivouacref04_Scaled.l1 k x0 x1 x7 x8)
def bivouacref04_Scaled.l1 : Nat → Int → Int → Bool → Bool → Option (Int × Int × Bool)
  | 0, _, _, _, _ => none
  | k + 1, x0, x1, x7, x8 => if x1 > 0 then (bivouacref04_Scaled.j4 k x0 x1 x7 x8 (x0 != 0)) else (bivouacref04_Scaled.j4 k x0 x1 x7 x8 false)
def bivouacref04_Scaled.j4 : Nat → Int → Int → Bool → Bool → Bool → Option (Int × Int × Bool)
  | 0, _, _, _, _, _ => none
  | k + 1, x0, x1, x7, x8, x46 => if x46 = true then (if (IntKind.u64.wrap (x0 * 2)) ≥ 140737488355328 then (some (0, 0, false)) else (bivouacref04_Scaled.l1 k (IntKind.u64.wrap (x0 * 2)) (wrap64 (x1 - 1)) x7 x8)) else (if x0 ≥ 140737488355328 then (some (0, 0, false)) else (if x8 = true then (if x7 = true then (some (x0, 2 + 1, true)) else (some (x0, 2, true))) else (if x7 = true then (some (x0, 0 + 1, true)) else (some (x0, 0, true)))))
def bivouacref04_Scaled.l0 : Nat → Int → Int → Bool → Bool → Option (Int × Int × Bool)
  | 0, _, _, _, _ => none
  | k + 1, x0, x1, x7, x8 => if x1 < 0 then (if x7 = true then (if (x0 / 2) = 0 then (if ((Go.bits .and .u64 x0 1) = 1) then (bivouacref04_Scaled.l0 k (x0 / 2) (wrap64 (x1 + 1)) true ((Go.bits .and .u64 x0 1) == 1)) else (bivouacref04_Scaled.j1 k (x0 / 2) (wrap64 (x1 + 1)) true ((Go.bits .and .u64 x0 1) == 1))) else (bivouacref04_Scaled.l0 k (x0 / 2) (wrap64 (x1 + 1)) true ((Go.bits .and .u64 x0 1) == 1))) else (if (x0 / 2) = 0 then (if ((Go.bits .and .u64 x0 1) = 1) then (bivouacref04_Scaled.l0 k (x0 / 2) (wrap64 (x1 + 1)) x8 ((Go.bits .and .u64 x0 1) == 1)) else (if x8 = true then (bivouacref04_Scaled.j1 k (x0 / 2) (wrap64 (x1 + 1)) true ((Go.bits .and .u64 x0 1) == 1)) else (bivouacref04_Scaled.j1 k (x0 / 2) (wrap64 (x1 + 1)) ((Go.bits .and .u64 x0 1) == 1) ((Go.bits .and .u64 x0 1) == 1)))) else (bivouacref04_Scaled.l0 k (x0 / 2) (wrap64 (x1 + 1)) x8 ((Go.bits .and .u64 x0 1) == 1)))) else (bivouacref04_Scaled.j1 k x0 x1 x7 x8)
end
def bivouacref04_Scaled.f (k : Nat) (a0 : Int) (a1 : Int) : Option (Int × Int × Bool) := bivouacref04_Scaled.l0 k a0 a1 false false
theorem bivouacref04_Scaled.mono_l : ∀ k, (∀ y0 y1 y2 y3, LeO (bivouacref04_Scaled.j1 k y0 y1 y2 y3) (bivouacref04_Scaled.j1 (k + 1) y0 y1 y2 y3)) ∧ (∀ y0 y1 y2 y3 y4, LeO (bivouacref04_Scaled.j2 k y0 y1 y2 y3 y4) (bivouacref04_Scaled.j2 (k + 1) y0 y1 y2 y3 y4)) ∧ (∀ y0 y1 y2 y3, LeO (bivouacref04_Scaled.l1 k y0 y1 y2 y3) (bivouacref04_Scaled.l1 (k + 1) y0 y1 y2 y3)) ∧ (∀ y0 y1 y2 y3 y4, LeO (bivouacref04_Scaled.j4 k y0 y1 y2 y3 y4) (bivouacref04_Scaled.j4 (k + 1) y0 y1 y2 y3 y4)) ∧ (∀ y0 y1 y2 y3, LeO (bivouacref04_Scaled.l0 k y0 y1 y2 y3) (bivouacref04_Scaled.l0 (k + 1) y0 y1 y2 y3))
  | 0 => ⟨fun _ _ _ _ r h => by simp [bivouacref04_Scaled.j1] at h, fun _ _ _ _ _ r h => by simp [bivouacref04_Scaled.j2] at h, fun _ _ _ _ r h => by simp [bivouacref04_Scaled.l1] at h, fun _ _ _ _ _ r h => by simp [bivouacref04_Scaled.j4] at h, fun _ _ _ _ r h => by simp [bivouacref04_Scaled.l0] at h⟩
  | k + 1 => by
    obtain ⟨ih0, ih1, ih2, ih3, ih4⟩ := bivouacref04_Scaled.mono_l k
    refine ⟨?_, ?_, ?_, ?_, ?_⟩
    · intro y0 y1 y2 y3
      unfold bivouacref04_Scaled.j1
      repeat' first
      | (with_reducible exact ih0 _ _ _ _)
      | (with_reducible exact ih1 _ _ _ _ _)
      | (with_reducible exact ih2 _ _ _ _)
      | (with_reducible exact ih3 _ _ _ _ _)
      | (with_reducible exact ih4 _ _ _ _)
      | (with_reducible exact LeO.refl _)
      | (with_reducible exact LeO.none _)
      | (with_reducible refine LeO.ite ?_ ?_)
      | (with_reducible refine LeO.bind ?_ (fun _ => ?_))
      | exact ih0 _ _ _ _
      | exact ih1 _ _ _ _ _
      | exact ih2 _ _ _ _
      | exact ih3 _ _ _ _ _
      | exact ih4 _ _ _ _
      | exact LeO.none _
      | refine LeO.ite ?_ ?_
      | refine LeO.bind ?_ (fun _ => ?_)
    · intro y0 y1 y2 y3 y4
      unfold bivouacref04_Scaled.j2
      repeat' first
      | (with_reducible exact ih0 _ _ _ _)
      | (with_reducible exact ih1 _ _ _ _ _)
      | (with_reducible exact ih2 _ _ _ _)
      | (with_reducible exact ih3 _ _ _ _ _)
      | (with_reducible exact ih4 _ _ _ _)
      | (with_reducible exact LeO.refl _)
      | (with_reducible exact LeO.none _)
      | (with_reducible refine LeO.ite ?_ ?_)
      | (with_reducible refine LeO.bind ?_ (fun _ => ?_))
      | exact ih0 _ _ _ _
      | exact ih1 _ _ _ _ _
      | exact ih2 _ _ _ _
      | exact ih3 _ _ _ _ _
      | exact ih4 _ _ _ _
      | exact LeO.none _
      | refine LeO.ite ?_ ?_
      | refine LeO.bind ?_ (fun _ => ?_)
    · intro y0 y1 y2 y3
      unfold bivouacref04_Scaled.l1
      repeat' first
      | (with_reducible exact ih0 _ _ _ _)
      | (with_reducible exact ih1 _ _ _ _ _)
      | (with_reducible exact ih2 _ _ _ _)
      | (with_reducible exact ih3 _ _ _ _ _)
      | (with_reducible exact ih4 _ _ _ _)
      | (with_reducible exact LeO.refl _)
      | (with_reducible exact LeO.none _)
      | (with_reducible refine LeO.ite ?_ ?_)
      | (with_reducible refine LeO.bind ?_ (fun _ => ?_))
      | exact ih0 _ _ _ _
      | exact ih1 _ _ _ _ _
      | exact ih2 _ _ _ _
      | exact ih3 _ _ _ _ _
      | exact ih4 _ _ _ _
      | exact LeO.none _
      | refine LeO.ite ?_ ?_
      | refine LeO.bind ?_ (fun _ => ?_)
    · intro y0 y1 y2 y3 y4
      unfold bivouacref04_Scaled.j4
      repeat' first
      | (with_reducible exact ih0 _ _ _ _)
      | (with_reducible exact ih1 _ _ _ _ _)
      | (with_reducible exact ih2 _ _ _ _)
      | (with_reducible exact ih3 _ _ _ _ _)
      | (with_reducible exact ih4 _ _ _ _)
      | (with_reducible exact LeO.refl _)
      | (with_reducible exact LeO.none _)
      | (with_reducible refine LeO.ite ?_ ?_)
      | (with_reducible refine LeO.bind ?_ (fun _ => ?_))
      | exact ih0 _ _ _ _
      | exact ih1 _ _ _ _ _
      | exact ih2 _ _ _ _
      | exact ih3 _ _ _ _ _
      | exact ih4 _ _ _ _
      | exact LeO.none _
      | refine LeO.ite ?_ ?_
      | refine LeO.bind ?_ (fun _ => ?_)
    · intro y0 y1 y2 y3
      unfold bivouacref04_Scaled.l0
      repeat' first
      | (with_reducible exact ih0 _ _ _ _)
      | (with_reducible exact ih1 _ _ _ _ _)
      | (with_reducible exact ih2 _ _ _ _)
      | (with_reducible exact ih3 _ _ _ _ _)
      | (with_reducible exact ih4 _ _ _ _)
      | (with_reducible exact LeO.refl _)
      | (with_reducible exact LeO.none _)
      | (with_reducible refine LeO.ite ?_ ?_)
      | (with_reducible refine LeO.bind ?_ (fun _ => ?_))
      | exact ih0 _ _ _ _
      | exact ih1 _ _ _ _ _
      | exact ih2 _ _ _ _
      | exact ih3 _ _ _ _ _
      | exact ih4 _ _ _ _
      | exact LeO.none _
      | refine LeO.ite ?_ ?_
      | refine LeO.bind ?_ (fun _ => ?_)
theorem bivouacref04_Scaled.mono : ∀ a0 a1 k, LeO (bivouacref04_Scaled.f k a0 a1) (bivouacref04_Scaled.f (k + 1) a0 a1) := by
  intro a0 a1 k
  obtain ⟨ih0, ih1, ih2, ih3, ih4⟩ := bivouacref04_Scaled.mono_l k
  unfold bivouacref04_Scaled.f
  repeat' first
      | (with_reducible exact ih0 _ _ _ _)
      | (with_reducible exact ih1 _ _ _ _ _)
      | (with_reducible exact ih2 _ _ _ _)
      | (with_reducible exact ih3 _ _ _ _ _)
      | (with_reducible exact ih4 _ _ _ _)
      | (with_reducible exact LeO.refl _)
      | (with_reducible exact LeO.none _)
      | (with_reducible refine LeO.ite ?_ ?_)
      | (with_reducible refine LeO.bind ?_ (fun _ => ?_))
      | exact ih0 _ _ _ _
      | exact ih1 _ _ _ _ _
      | exact ih2 _ _ _ _
      | exact ih3 _ _ _ _ _
      | exact ih4 _ _ _ _
      | exact LeO.none _
      | refine LeO.ite ?_ ?_
      | refine LeO.bind ?_ (fun _ => ?_)
set_option maxHeartbeats 8000000 in
set_option maxRecDepth 100000 in
theorem bivouacref04_Scaled.calls (k : Nat) (a0 : Int) (a1 : Int) (r1 : Int) (r2 : Int) (r3 : Bool) (w : World) (h : bivouacref04_Scaled.f k a0 a1 = some (r1, r2, r3)) :
    Calls Try.prog 36 #[.int .u64 a0, .int .i64 a1] w fun e w' => e = .returned (.tuple #[.int .u64 r1, .int .i64 r2, .bool r3]) ∧ Drawn0 w w' := by
  have H : (bivouacref04_Scaled.l0 k a0 a1 false false) = some (r1, r2, r3) := h
  clear h
  have HC3 := Aside0.mk H
  clear H
  go_enter Try.func36, Try.ntmps36
  go_upto_block 0 with (fail)
  go_cut [0, 1, 7, 8] (fun v0 v1 v7 v8 wc => ∃ (kq : Nat) (x0_2 : Int) (x1_2 : Int) (x7_2 : Bool) (x8_2 : Bool), v0 = .int .u64 x0_2 ∧ v1 = .int .i64 x1_2 ∧ v7 = .bool x7_2 ∧ v8 = .bool x8_2 ∧ Aside0 (bivouacref04_Scaled.j1 kq x0_2 x1_2 x7_2 x8_2 = some (r1, r2, r3)) ∧ Aside0 (kq ≤ k) ∧ Drawn0 w wc)
  case first =>
    have H := HC3.out
    clear HC3
    have H' := Aside0.mk H
    clear H
    go_wp2
    go_loopg [0, 1, 7, 8] k (fun kq v0 v1 v7 v8 w' => ∃ (x0_1 : Int) (x1_1 : Int) (x7_1 : Bool) (x8_1 : Bool), v0 = .int .u64 x0_1 ∧ v1 = .int .i64 x1_1 ∧ v7 = .bool x7_1 ∧ v8 = .bool x8_1 ∧ Aside0 (bivouacref04_Scaled.l0 kq x0_1 x1_1 x7_1 x8_1 = some (r1, r2, r3)) ∧ Aside0 (kq ≤ k) ∧ Drawn0 w w')
    case atStart => exact ⟨(a0), (a1), (false), (false), (by first | rfl | (simp; done) | (simp [*]; done)), (by first | rfl | (simp; done) | (simp [*]; done)), (by first | rfl | (simp; done) | (simp [*]; done)), (by first | rfl | (simp; done) | (simp [*]; done)), H', ⟨Nat.le_refl _⟩, by repeat (first | exact Drawn0.refl _ | apply Drawn0.step)⟩
    case round =>
      clear H'
      try clear p2
      try clear c3
      obtain ⟨x0_1, x1_1, x7_1, x8_1, rfl, rfl, rfl, rfl, HA, HK1, ⟨m1, rfl⟩⟩ := hrel
      cases gk with
      | zero => exact absurd HA.out (by simp [bivouacref04_Scaled.l0])
      | succ k1 =>
        have H := HA.out
        clear HA
        simp only [bivouacref04_Scaled.l0] at H
        by_cases c4 : x1_1 < 0
        · rw [if_pos c4] at H
          have c4b0 : decide (x1_1 < 0) = true := decide_eq_true c4
          clear c4
          (first | rw [c4b0] | (simp only [i64_w, i32_w]; rw [c4b0]) | skip)
          by_cases c5 : x7_1 = true
          · subst c5
            have H1 : (if (x0_1 / 2) = 0 then (if ((Go.bits .and .u64 x0_1 1) = 1) then (bivouacref04_Scaled.l0 k1 (x0_1 / 2) (wrap64 (x1_1 + 1)) true ((Go.bits .and .u64 x0_1 1) == 1)) else (bivouacref04_Scaled.j1 k1 (x0_1 / 2) (wrap64 (x1_1 + 1)) true ((Go.bits .and .u64 x0_1 1) == 1))) else (bivouacref04_Scaled.l0 k1 (x0_1 / 2) (wrap64 (x1_1 + 1)) true ((Go.bits .and .u64 x0_1 1) == 1))) = some (r1, r2, r3) := by rw [if_pos rfl] at H; exact H
            clear H
            have H := H1
            clear H1
            by_cases c6 : (x0_1 / 2) = 0
            · rw [if_pos c6] at H
              have c6b0 : ((x0_1 / 2) == 0) = true := beq_iff_eq.mpr c6
              have c6b1 : ((x0_1 / 2) != 0) = false := bne_eq_false_iff_eq.mpr c6
              clear c6
              by_cases c7 : ((Go.bits .and .u64 x0_1 1) = 1)
              · rw [if_pos c7] at H
                have c7b0 : ((Go.bits .and .u64 x0_1 1) == 1) = true := beq_iff_eq.mpr c7
                have c7b1 : ((Go.bits .and .u64 x0_1 1) != 1) = false := bne_eq_false_iff_eq.mpr c7
                clear c7
                have H' := Aside0.mk H
                clear H
                go_wp2
                go_roundg k1
                case measure => have := HK1.out; omega
                case rel => exact ⟨(x0_1 / 2), (wrap64 (x1_1 + 1)), (true), (((Go.bits .and .u64 x0_1 1) == 1)), (by first | rfl | (simp; done) | (simp [*]; done)), (by first | rfl | (simp; done) | (simp [*]; done)), (by first | rfl | (simp; done) | (simp [*]; done)), (by first | rfl | (simp; done) | (simp [*]; done)), H', ⟨by have := HK1.out; omega⟩, by repeat (first | exact Drawn0.refl _ | apply Drawn0.step)⟩
              · rw [if_neg c7] at H
                have c7b0 : ((Go.bits .and .u64 x0_1 1) == 1) = false := beq_eq_false_iff_ne.mpr c7
                have c7b1 : ((Go.bits .and .u64 x0_1 1) != 1) = true := bne_iff_ne.mpr c7
                have H' := Aside0.mk H
                clear H
                go_wp2
                go_meet
                case rel => exact ⟨_, (x0_1 / 2), (wrap64 (x1_1 + 1)), (true), (((Go.bits .and .u64 x0_1 1) == 1)), (by first | rfl | (simp; done) | (simp [*]; done)), (by first | rfl | (simp; done) | (simp [*]; done)), (by first | rfl | (simp; done) | (simp [*]; done)), (by first | rfl | (simp; done) | (simp [*]; done)), H', ⟨by have := HK1.out; first | omega | exact Nat.le_refl _⟩, by repeat (first | exact Drawn0.refl _ | apply Drawn0.step)⟩
            · rw [if_neg c6] at H
              have c6b0 : ((x0_1 / 2) == 0) = false := beq_eq_false_iff_ne.mpr c6
              have c6b1 : ((x0_1 / 2) != 0) = true := bne_iff_ne.mpr c6
              have H' := Aside0.mk H
              clear H
              go_wp2
              go_roundg k1
              case measure => have := HK1.out; omega
              case rel => exact ⟨(x0_1 / 2), (wrap64 (x1_1 + 1)), (true), (((Go.bits .and .u64 x0_1 1) == 1)), (by first | rfl | (simp; done) | (simp [*]; done)), (by first | rfl | (simp; done) | (simp [*]; done)), (by first | rfl | (simp; done) | (simp [*]; done)), (by first | rfl | (simp; done) | (simp [*]; done)), H', ⟨by have := HK1.out; omega⟩, by repeat (first | exact Drawn0.refl _ | apply Drawn0.step)⟩
          · replace c5 := Bool.eq_false_iff.mpr c5
            subst c5
            have H1 : (if (x0_1 / 2) = 0 then (if ((Go.bits .and .u64 x0_1 1) = 1) then (bivouacref04_Scaled.l0 k1 (x0_1 / 2) (wrap64 (x1_1 + 1)) x8_1 ((Go.bits .and .u64 x0_1 1) == 1)) else (if x8_1 = true then (bivouacref04_Scaled.j1 k1 (x0_1 / 2) (wrap64 (x1_1 + 1)) true ((Go.bits .and .u64 x0_1 1) == 1)) else (bivouacref04_Scaled.j1 k1 (x0_1 / 2) (wrap64 (x1_1 + 1)) ((Go.bits .and .u64 x0_1 1) == 1) ((Go.bits .and .u64 x0_1 1) == 1)))) else (bivouacref04_Scaled.l0 k1 (x0_1 / 2) (wrap64 (x1_1 + 1)) x8_1 ((Go.bits .and .u64 x0_1 1) == 1))) = some (r1, r2, r3) := by rw [if_neg (show ¬ (false = true) by decide)] at H; exact H
            clear H
            have H := H1
            clear H1
            by_cases c8 : (x0_1 / 2) = 0
            · rw [if_pos c8] at H
              have c8b0 : ((x0_1 / 2) == 0) = true := beq_iff_eq.mpr c8
              have c8b1 : ((x0_1 / 2) != 0) = false := bne_eq_false_iff_eq.mpr c8
              clear c8
              by_cases c9 : ((Go.bits .and .u64 x0_1 1) = 1)
              · rw [if_pos c9] at H
                have c9b0 : ((Go.bits .and .u64 x0_1 1) == 1) = true := beq_iff_eq.mpr c9
                have c9b1 : ((Go.bits .and .u64 x0_1 1) != 1) = false := bne_eq_false_iff_eq.mpr c9
                clear c9
                have H' := Aside0.mk H
                clear H
                go_wp2
                go_roundg k1
                case measure => have := HK1.out; omega
                case rel => exact ⟨(x0_1 / 2), (wrap64 (x1_1 + 1)), (x8_1), (((Go.bits .and .u64 x0_1 1) == 1)), (by first | rfl | (simp; done) | (simp [*]; done)), (by first | rfl | (simp; done) | (simp [*]; done)), (by first | rfl | (simp; done) | (simp [*]; done)), (by first | rfl | (simp; done) | (simp [*]; done)), H', ⟨by have := HK1.out; omega⟩, by repeat (first | exact Drawn0.refl _ | apply Drawn0.step)⟩
              · rw [if_neg c9] at H
                have c9b0 : ((Go.bits .and .u64 x0_1 1) == 1) = false := beq_eq_false_iff_ne.mpr c9
                have c9b1 : ((Go.bits .and .u64 x0_1 1) != 1) = true := bne_iff_ne.mpr c9
                by_cases c10 : x8_1 = true
                · subst c10
                  have H1 : (bivouacref04_Scaled.j1 k1 (x0_1 / 2) (wrap64 (x1_1 + 1)) true ((Go.bits .and .u64 x0_1 1) == 1)) = some (r1, r2, r3) := by rw [if_pos rfl] at H; exact H
                  clear H
                  have H := H1
                  clear H1
                  have H' := Aside0.mk H
                  clear H
                  go_wp2
                  go_meet
                  case rel => exact ⟨_, (x0_1 / 2), (wrap64 (x1_1 + 1)), (true), (((Go.bits .and .u64 x0_1 1) == 1)), (by first | rfl | (simp; done) | (simp [*]; done)), (by first | rfl | (simp; done) | (simp [*]; done)), (by first | rfl | (simp; done) | (simp [*]; done)), (by first | rfl | (simp; done) | (simp [*]; done)), H', ⟨by have := HK1.out; first | omega | exact Nat.le_refl _⟩, by repeat (first | exact Drawn0.refl _ | apply Drawn0.step)⟩
                · replace c10 := Bool.eq_false_iff.mpr c10
                  subst c10
                  have H1 : (bivouacref04_Scaled.j1 k1 (x0_1 / 2) (wrap64 (x1_1 + 1)) ((Go.bits .and .u64 x0_1 1) == 1) ((Go.bits .and .u64 x0_1 1) == 1)) = some (r1, r2, r3) := by rw [if_neg (show ¬ (false = true) by decide)] at H; exact H
                  clear H
                  have H := H1
                  clear H1
                  have H' := Aside0.mk H
                  clear H
                  go_wp2
                  go_meet
                  case rel => exact ⟨_, (x0_1 / 2), (wrap64 (x1_1 + 1)), (((Go.bits .and .u64 x0_1 1) == 1)), (((Go.bits .and .u64 x0_1 1) == 1)), (by first | rfl | (simp; done) | (simp [*]; done)), (by first | rfl | (simp; done) | (simp [*]; done)), (by first | rfl | (simp; done) | (simp [*]; done)), (by first | rfl | (simp; done) | (simp [*]; done)), H', ⟨by have := HK1.out; first | omega | exact Nat.le_refl _⟩, by repeat (first | exact Drawn0.refl _ | apply Drawn0.step)⟩
            · rw [if_neg c8] at H
              have c8b0 : ((x0_1 / 2) == 0) = false := beq_eq_false_iff_ne.mpr c8
              have c8b1 : ((x0_1 / 2) != 0) = true := bne_iff_ne.mpr c8
              have H' := Aside0.mk H
              clear H
              go_wp2
              go_roundg k1
              case measure => have := HK1.out; omega
              case rel => exact ⟨(x0_1 / 2), (wrap64 (x1_1 + 1)), (x8_1), (((Go.bits .and .u64 x0_1 1) == 1)), (by first | rfl | (simp; done) | (simp [*]; done)), (by first | rfl | (simp; done) | (simp [*]; done)), (by first | rfl | (simp; done) | (simp [*]; done)), (by first | rfl | (simp; done) | (simp [*]; done)), H', ⟨by have := HK1.out; omega⟩, by repeat (first | exact Drawn0.refl _ | apply Drawn0.step)⟩
        · rw [if_neg c4] at H
          have c4b0 : decide (x1_1 < 0) = false := decide_eq_false c4
          clear c4
          (first | rw [c4b0] | (simp only [i64_w, i32_w]; rw [c4b0]) | skip)
          have H' := Aside0.mk H
          clear H
          go_wp2
          go_meet
          case rel => exact ⟨_, (x0_1), (x1_1), (x7_1), (x8_1), (by first | rfl | (simp; done) | (simp [*]; done)), (by first | rfl | (simp; done) | (simp [*]; done)), (by first | rfl | (simp; done) | (simp [*]; done)), (by first | rfl | (simp; done) | (simp [*]; done)), H', ⟨by have := HK1.out; first | omega | exact Nat.le_refl _⟩, by repeat (first | exact Drawn0.refl _ | apply Drawn0.step)⟩
  case rest =>
    clear HC3
    try clear c1
    try clear p2
    try clear c3
    try clear c4
    try clear c4b0
    try clear c5
    try clear c6
    try clear c6b0
    try clear c6b1
    try clear p6
    try clear c7
    try clear c7b0
    try clear c7b1
    try clear c8
    try clear c8b0
    try clear c8b1
    try clear c9
    try clear c9b0
    try clear c9b1
    try clear c10
    try clear p2
    obtain ⟨kq, x0_2, x1_2, x7_2, x8_2, rfl, rfl, rfl, rfl, HA, HJ2, ⟨mc2, rfl⟩⟩ := hcut
    cases kq with
    | zero => exact absurd HA.out (by simp [bivouacref04_Scaled.j1])
    | succ kj2 =>
      have H := HA.out
      clear HA
      simp only [bivouacref04_Scaled.j1] at H
      have HC11 := Aside0.mk H
      clear H
      go_upto_region 9 with (fail)
      go_cut [38] (fun v38 wc => ∃ (kq : Nat) (x38_10 : Bool), v38 = .bool x38_10 ∧ Aside0 (bivouacref04_Scaled.j2 kq x0_2 x1_2 x7_2 x8_2 x38_10 = some (r1, r2, r3)) ∧ Aside0 (kq ≤ kj2) ∧ Drawn0 w wc)
      case first =>
        have H := HC11.out
        clear HC11
        by_cases c12 : x0_2 = 0
        · rw [if_pos c12] at H
          have c12b0 : (x0_2 == 0) = true := beq_iff_eq.mpr c12
          have c12b1 : (x0_2 != 0) = false := bne_eq_false_iff_eq.mpr c12
          clear c12
          (first | rw [c12b0] | (simp only [i64_w, i32_w]; rw [c12b0]) | skip)
          have H' := Aside0.mk H
          clear H
          go_wp2
          go_meet
          case rel => exact ⟨_, (decide (x1_2 < 0)), (by first | rfl | (simp; done) | (simp [*]; done)), H', ⟨by have := HJ2.out; first | omega | exact Nat.le_refl _⟩, by repeat (first | exact Drawn0.refl _ | apply Drawn0.step)⟩
        · rw [if_neg c12] at H
          have c12b0 : (x0_2 == 0) = false := beq_eq_false_iff_ne.mpr c12
          have c12b1 : (x0_2 != 0) = true := bne_iff_ne.mpr c12
          (first | rw [c12b0] | (simp only [i64_w, i32_w]; rw [c12b0]) | skip)
          have H' := Aside0.mk H
          clear H
          go_wp2
          go_meet
          case rel => exact ⟨_, (false), (by first | rfl | (simp; done) | (simp [*]; done)), H', ⟨by have := HJ2.out; first | omega | exact Nat.le_refl _⟩, by repeat (first | exact Drawn0.refl _ | apply Drawn0.step)⟩
      case rest =>
        clear HC11
        try clear c1
        try clear c2
        try clear p2
        try clear c3
        try clear c4
        try clear c4b0
        try clear c5
        try clear c6
        try clear c6b0
        try clear c6b1
        try clear p6
        try clear c7
        try clear c7b0
        try clear c7b1
        try clear c8
        try clear c8b0
        try clear c8b1
        try clear c9
        try clear c9b0
        try clear c9b1
        try clear c10
        try clear c12
        try clear c12b0
        try clear c12b1
        try clear p2
        try clear p6
        obtain ⟨kq, x38_10, rfl, HA, HJ10, ⟨mc10, rfl⟩⟩ := hcut
        cases kq with
        | zero => exact absurd HA.out (by simp [bivouacref04_Scaled.j2])
        | succ kj10 =>
          have H := HA.out
          clear HA
          simp only [bivouacref04_Scaled.j2] at H
          by_cases c13 : x38_10 = true
          · subst c13
            have H1 : ((bivouacref04_one.f x7_2).bind fun t101 => (some (0, t101, true))) = some (r1, r2, r3) := by rw [if_pos rfl] at H; exact H
            clear H
            have H := H1
            clear H1
            replace H := Option.bind_eq_some_iff.mp H
            obtain ⟨t101, A140, H⟩ := H
            replace H : (some (0, t101, true)) = some (r1, r2, r3) := H
            have A14 := Aside0.mk A140
            clear A140
            simp only [Option.some.injEq, Prod.mk.injEq] at H
            obtain ⟨rfl, rfl, rfl⟩ := H
            go_wp2_with (first | ((with_reducible refine gate_callee (f := 56) rfl ?_); refine goesL_ (some 40) rfl rfl Try.func56 (by kernel_rfl) rfl #[.bool x7_2] rfl (by (try simp only [List.map_toArray, List.map_cons, List.map_nil]); first | done | rfl | (simp only [List.length_drop, List.length_take]; rfl)) ?_; (with_reducible refine (bivouacref04_one.calls x7_2 t101 _ A14.out).mono ?_); rintro e w' ⟨rfl, ⟨nd, rfl⟩⟩; refine ⟨_, rfl, ?_⟩))
            go_ret3
            exact ⟨by first | rfl | (simp; done) | (simp [*]; done), by repeat (first | exact Drawn0.refl _ | apply Drawn0.step)⟩
          · replace c13 := Bool.eq_false_iff.mpr c13
            subst c13
            have H1 : (bivouacref04_Scaled.l1 kj10 x0_2 x1_2 x7_2 x8_2) = some (r1, r2, r3) := by rw [if_neg (show ¬ (false = true) by decide)] at H; exact H
            clear H
            have H := H1
            clear H1
            have H' := Aside0.mk H
            clear H
            go_wp2
            go_loopg [0, 1] kj10 (fun kq v0 v1 w' => ∃ (x0_3 : Int) (x1_3 : Int), v0 = .int .u64 x0_3 ∧ v1 = .int .i64 x1_3 ∧ Aside0 (bivouacref04_Scaled.l1 kq x0_3 x1_3 x7_2 x8_2 = some (r1, r2, r3)) ∧ Aside0 (kq ≤ kj10) ∧ Drawn0 w w')
            case atStart => exact ⟨(x0_2), (x1_2), (by first | rfl | (simp; done) | (simp [*]; done)), (by first | rfl | (simp; done) | (simp [*]; done)), H', ⟨Nat.le_refl _⟩, by repeat (first | exact Drawn0.refl _ | apply Drawn0.step)⟩
            case round =>
              clear H'
              try clear c1
              try clear c2
              try clear p2
              try clear c3
              try clear c4
              try clear c4b0
              try clear c5
              try clear c6
              try clear c6b0
              try clear c6b1
              try clear p6
              try clear c7
              try clear c7b0
              try clear c7b1
              try clear c8
              try clear c8b0
              try clear c8b1
              try clear c9
              try clear c9b0
              try clear c9b1
              try clear c10
              try clear c12
              try clear c12b0
              try clear c12b1
              try clear c13
              try clear p2
              try clear p6
              obtain ⟨x0_3, x1_3, rfl, rfl, HA, HK3, ⟨m3, rfl⟩⟩ := hrel
              cases gk with
              | zero => exact absurd HA.out (by simp [bivouacref04_Scaled.l1])
              | succ k3 =>
                have H := HA.out
                clear HA
                simp only [bivouacref04_Scaled.l1] at H
                have HC15 := Aside0.mk H
                clear H
                go_upto_region 11 with (fail)
                go_cut [46] (fun v46 wc => ∃ (kq : Nat) (x46_14 : Bool), v46 = .bool x46_14 ∧ Aside0 (bivouacref04_Scaled.j4 kq x0_3 x1_3 x7_2 x8_2 x46_14 = some (r1, r2, r3)) ∧ Aside0 (kq ≤ k3) ∧ Drawn0 w wc)
                case first =>
                  have H := HC15.out
                  clear HC15
                  by_cases c16 : x1_3 > 0
                  · rw [if_pos c16] at H
                    have c16b0 : decide (0 < x1_3) = true := decide_eq_true c16
                    clear c16
                    (first | rw [c16b0] | (simp only [i64_w, i32_w]; rw [c16b0]) | skip)
                    have H' := Aside0.mk H
                    clear H
                    go_wp2
                    go_meet
                    case rel => exact ⟨_, ((x0_3 != 0)), (by first | rfl | (simp; done) | (simp [*]; done)), H', ⟨by have := HJ2.out; have := HJ10.out; have := HK3.out; first | omega | exact Nat.le_refl _⟩, by repeat (first | exact Drawn0.refl _ | apply Drawn0.step)⟩
                  · rw [if_neg c16] at H
                    have c16b0 : decide (0 < x1_3) = false := decide_eq_false c16
                    clear c16
                    (first | rw [c16b0] | (simp only [i64_w, i32_w]; rw [c16b0]) | skip)
                    have H' := Aside0.mk H
                    clear H
                    go_wp2
                    go_meet
                    case rel => exact ⟨_, (false), (by first | rfl | (simp; done) | (simp [*]; done)), H', ⟨by have := HJ2.out; have := HJ10.out; have := HK3.out; first | omega | exact Nat.le_refl _⟩, by repeat (first | exact Drawn0.refl _ | apply Drawn0.step)⟩
                case rest =>
                  clear HC15
                  try clear c1
                  try clear c2
                  try clear p2
                  try clear c3
                  try clear c4
                  try clear c4b0
                  try clear c5
                  try clear c6
                  try clear c6b0
                  try clear c6b1
                  try clear p6
                  try clear c7
                  try clear c7b0
                  try clear c7b1
                  try clear c8
                  try clear c8b0
                  try clear c8b1
                  try clear c9
                  try clear c9b0
                  try clear c9b1
                  try clear c10
                  try clear c12
                  try clear c12b0
                  try clear c12b1
                  try clear c13
                  try clear c16
                  try clear c16b0
                  try clear p2
                  try clear p6
                  obtain ⟨kq, x46_14, rfl, HA, HJ14, ⟨mc14, rfl⟩⟩ := hcut
                  cases kq with
                  | zero => exact absurd HA.out (by simp [bivouacref04_Scaled.j4])
                  | succ kj14 =>
                    have H := HA.out
                    clear HA
                    simp only [bivouacref04_Scaled.j4] at H
                    by_cases c17 : x46_14 = true
                    · subst c17
                      have H1 : (if (IntKind.u64.wrap (x0_3 * 2)) ≥ 140737488355328 then (some (0, 0, false)) else (bivouacref04_Scaled.l1 kj14 (IntKind.u64.wrap (x0_3 * 2)) (wrap64 (x1_3 - 1)) x7_2 x8_2)) = some (r1, r2, r3) := by rw [if_pos rfl] at H; exact H
                      clear H
                      have H := H1
                      clear H1
                      by_cases c18 : (IntKind.u64.wrap (x0_3 * 2)) ≥ 140737488355328
                      · rw [if_pos c18] at H
                        have c18b0 : decide (140737488355328 ≤ (IntKind.u64.wrap (x0_3 * 2))) = true := decide_eq_true c18
                        clear c18
                        simp only [Option.some.injEq, Prod.mk.injEq] at H
                        obtain ⟨rfl, rfl, rfl⟩ := H
                        go_wp2
                        go_ret3
                        exact ⟨by first | rfl | (simp; done) | (simp [*]; done), by repeat (first | exact Drawn0.refl _ | apply Drawn0.step)⟩
                      · rw [if_neg c18] at H
                        have c18b0 : decide (140737488355328 ≤ (IntKind.u64.wrap (x0_3 * 2))) = false := decide_eq_false c18
                        clear c18
                        have H' := Aside0.mk H
                        clear H
                        go_wp2
                        go_roundg kj14
                        case measure => have := HJ2.out; have := HJ10.out; have := HK3.out; have := HJ14.out; omega
                        case rel => exact ⟨(IntKind.u64.wrap (x0_3 * 2)), (wrap64 (x1_3 - 1)), (by first | rfl | (simp; done) | (simp [*]; done)), (by first | rfl | (simp; done) | (simp [*]; done)), H', ⟨by have := HJ2.out; have := HJ10.out; have := HK3.out; have := HJ14.out; omega⟩, by repeat (first | exact Drawn0.refl _ | apply Drawn0.step)⟩
                    · replace c17 := Bool.eq_false_iff.mpr c17
                      subst c17
                      have H1 : (if x0_3 ≥ 140737488355328 then (some (0, 0, false)) else (if x8_2 = true then (if x7_2 = true then (some (x0_3, 2 + 1, true)) else (some (x0_3, 2, true))) else (if x7_2 = true then (some (x0_3, 0 + 1, true)) else (some (x0_3, 0, true))))) = some (r1, r2, r3) := by rw [if_neg (show ¬ (false = true) by decide)] at H; exact H
                      clear H
                      have H := H1
                      clear H1
                      by_cases c19 : x0_3 ≥ 140737488355328
                      · rw [if_pos c19] at H
                        have c19b0 : decide (140737488355328 ≤ x0_3) = true := decide_eq_true c19
                        clear c19
                        simp only [Option.some.injEq, Prod.mk.injEq] at H
                        obtain ⟨rfl, rfl, rfl⟩ := H
                        go_wp2
                        go_ret3
                        exact ⟨by first | rfl | (simp; done) | (simp [*]; done), by repeat (first | exact Drawn0.refl _ | apply Drawn0.step)⟩
                      · rw [if_neg c19] at H
                        have c19b0 : decide (140737488355328 ≤ x0_3) = false := decide_eq_false c19
                        clear c19
                        by_cases c20 : x8_2 = true
                        · subst c20
                          have H1 : (if x7_2 = true then (some (x0_3, 2 + 1, true)) else (some (x0_3, 2, true))) = some (r1, r2, r3) := by rw [if_pos rfl] at H; exact H
                          clear H
                          have H := H1
                          clear H1
                          by_cases c21 : x7_2 = true
                          · subst c21
                            have H1 : (some (x0_3, 2 + 1, true)) = some (r1, r2, r3) := by rw [if_pos rfl] at H; exact H
                            clear H
                            have H := H1
                            clear H1
                            simp only [Option.some.injEq, Prod.mk.injEq] at H
                            obtain ⟨rfl, rfl, rfl⟩ := H
                            go_wp2
                            go_ret3
                            exact ⟨by first | rfl | (simp; done) | (simp [*]; done), by repeat (first | exact Drawn0.refl _ | apply Drawn0.step)⟩
                          · replace c21 := Bool.eq_false_iff.mpr c21
                            subst c21
                            have H1 : (some (x0_3, 2, true)) = some (r1, r2, r3) := by rw [if_neg (show ¬ (false = true) by decide)] at H; exact H
                            clear H
                            have H := H1
                            clear H1
                            simp only [Option.some.injEq, Prod.mk.injEq] at H
                            obtain ⟨rfl, rfl, rfl⟩ := H
                            go_wp2
                            go_ret3
                            exact ⟨by first | rfl | (simp; done) | (simp [*]; done), by repeat (first | exact Drawn0.refl _ | apply Drawn0.step)⟩
                        · replace c20 := Bool.eq_false_iff.mpr c20
                          subst c20
                          have H1 : (if x7_2 = true then (some (x0_3, 0 + 1, true)) else (some (x0_3, 0, true))) = some (r1, r2, r3) := by rw [if_neg (show ¬ (false = true) by decide)] at H; exact H
                          clear H
                          have H := H1
                          clear H1
                          by_cases c22 : x7_2 = true
                          · subst c22
                            have H1 : (some (x0_3, 0 + 1, true)) = some (r1, r2, r3) := by rw [if_pos rfl] at H; exact H
                            clear H
                            have H := H1
                            clear H1
                            simp only [Option.some.injEq, Prod.mk.injEq] at H
                            obtain ⟨rfl, rfl, rfl⟩ := H
                            go_wp2
                            go_ret3
                            exact ⟨by first | rfl | (simp; done) | (simp [*]; done), by repeat (first | exact Drawn0.refl _ | apply Drawn0.step)⟩
                          · replace c22 := Bool.eq_false_iff.mpr c22
                            subst c22
                            have H1 : (some (x0_3, 0, true)) = some (r1, r2, r3) := by rw [if_neg (show ¬ (false = true) by decide)] at H; exact H
                            clear H
                            have H := H1
                            clear H1
                            simp only [Option.some.injEq, Prod.mk.injEq] at H
                            obtain ⟨rfl, rfl, rfl⟩ := H
                            go_wp2
                            go_ret3
                            exact ⟨by first | rfl | (simp; done) | (simp [*]; done), by repeat (first | exact Drawn0.refl _ | apply Drawn0.step)⟩

end Go.Proofs.Ytbcddiaplpbhjaa.PRealNears
