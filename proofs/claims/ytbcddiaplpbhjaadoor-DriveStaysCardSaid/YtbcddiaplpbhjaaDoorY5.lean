/- What the claim's proof leans on: texts of this claim, laid together. -/
import Derived.Test.YtbcddiaplpbhjaaDoorY4
namespace Go.Proofs.YtbcddiaplpbhjaaDoor.Dr
open Go Go.RowKit Go.Proofs.YtbcddiaplpbhjaaDoorW.PrintMore Go.Proofs.YtbcddiaplpbhjaaDoorW.PrintWords Go.Proofs.YtbcddiaplpbhjaaDoor.MDr
set_option linter.unusedVariables false
set_option linter.unusedSimpArgs false
theorem w_in {x : Int} (h0 : -9223372036854775808 ≤ x) (h1 : x ≤ 9223372036854775807) : wrap64 x = x := by unfold wrap64; omega
theorem u_in {x : Int} (h0 : 0 ≤ x) (h1 : x ≤ 9223372036854775807) : IntKind.u64.wrap x = x := by rw [wrap_u64]; omega
def offD (a b : Int) : Int := if Tr.nrm (b - a) < Tr.nrm (a - b) then Tr.nrm (b - a) else Tr.nrm (a - b)
theorem off_f (a b : Int) : drive_Off.f a b = some (offD a b) := by
  have h := Tr.nrm_range a
  have h' := Tr.nrm_range b
  unfold drive_Off.f trig_Norm.f
  simp only [Option.bind_some]
  rw [w_in (by omega) (by omega)]
  have h2 := Tr.nrm_range (Tr.nrm a - Tr.nrm b)
  rw [w_in (by omega) (by omega)]
  congr 1
  unfold mn offD Tr.nrm
  split <;> split <;> omega
def Eng (sp tn W H : Int) : Prop := 0 ≤ sp ∧ sp ≤ 65536 ∧ 0 ≤ tn ∧ tn ≤ 32768 ∧ 1 ≤ W ∧ W ≤ 64 ∧ 1 ≤ H ∧ H ≤ 64
def On (W H x y : Int) : Prop := 0 ≤ x ∧ x < W * 65536 ∧ 0 ≤ y ∧ y < H * 65536
instance (sp tn W H : Int) : Decidable (Eng sp tn W H) := by unfold Eng; infer_instance
instance (W H x y : Int) : Decidable (On W H x y) := by unfold On; infer_instance
def May (mx my ma sp tn W H x y : Int) : Prop := Eng sp tn W H ∧ On W H mx my ∧ On W H x y ∧ 0 ≤ ma ∧ ma < 65536
instance (mx my ma sp tn W H x y : Int) : Decidable (May mx my ma sp tn W H x y) := by unfold May; infer_instance
theorem may_f (sp tn W H : Int) : drive_may.f sp tn W H = some (decide (Eng sp tn W H)) := by
  unfold drive_may.f
  by_cases h : Eng sp tn W H
  · rw [decide_eq_true h]
    unfold Eng at h
    rw [if_pos (by omega), if_pos (by omega), if_pos (by omega), if_pos (by omega), if_pos (by omega), if_pos (by omega), if_pos (by omega), decide_eq_true (by omega)]
  · rw [decide_eq_false h]
    unfold Eng at h
    repeat' split
    all_goals first
      | rfl
      | (congr 1; exact decide_eq_false (by omega))
theorem on_f {sp tn W H : Int} (hE : Eng sp tn W H) (x y : Int) : drive_on.f sp tn W H x y = some (decide (On W H x y)) := by
  unfold Eng at hE
  unfold drive_on.f drive_end.f
  simp only [Option.bind_some]
  rw [w_in (x := W * 65536) (by omega) (by omega), w_in (x := H * 65536) (by omega) (by omega), w_in (by omega) (by omega), w_in (by omega) (by omega)]
  by_cases h : On W H x y
  · rw [decide_eq_true h]
    unfold On at h
    rw [if_pos (by omega), if_pos (by omega), if_pos (by omega), decide_eq_true (by omega)]
  · rw [decide_eq_false h]
    unfold On at h
    repeat' split
    all_goals first
      | rfl
      | (congr 1; exact decide_eq_false (by omega))
def clampS (v n : Int) : Int := if v < 0 then 0 else if v ≥ n * 65536 then n * 65536 - 1 else v
def turnS (mx my ma tn x y : Int) : Int := Tr.toward ma (256 * Tr.headR (x - mx) (y - my)) tn
noncomputable def stepS (mx my ma sp tn W H x y : Int) : Int × Int × Int × Bool :=
  if mx = x ∧ my = y then (mx, my, ma, true) else
  if offD (turnS mx my ma tn x y) (256 * Tr.headR (x - mx) (y - my)) > 8192 then (mx, my, turnS mx my ma tn x y, false) else
  if Rt.rt ((x - mx) * (x - mx) + (y - my) * (y - my)) ≤ sp then (x, y, turnS mx my ma tn x y, true) else
  (clampS (mx + sp * Tr.cosA (turnS mx my ma tn x y) / 65536) W, clampS (my + sp * Tr.sinA (turnS mx my ma tn x y) / 65536) H, turnS mx my ma tn x y, false)
theorem mul_in {a b : Int} {A B : Nat} (ha : -(A : Int) ≤ a ∧ a ≤ A) (hb : -(B : Int) ≤ b ∧ b ≤ B) : -((A * B : Nat) : Int) ≤ a * b ∧ a * b ≤ (A * B : Nat) := by
  have h : (a * b).natAbs ≤ A * B := by rw [Int.natAbs_mul]; exact Nat.mul_le_mul (by omega) (by omega)
  omega
theorem sq_nonneg' (x : Int) : 0 ≤ x * x := by
  rcases Int.le_total 0 x with h | h
  · exact Int.mul_nonneg h h
  · exact Int.mul_nonneg_of_nonpos_of_nonpos h h
theorem far_no {v : Int} (h0 : -1073741824 ≤ v) (h1 : v ≤ 1073741824) : Tg.farB v = false := by
  unfold Tg.farB; simp; omega
theorem headR_range (x y : Int) : 0 ≤ Tr.headR x y ∧ Tr.headR x y < 256 := (Tr.headR_best x y).1
theorem vel (sp c : Int) (h0 : 0 ≤ sp) (h1 : sp ≤ 65536) (hc : -65536 ≤ c ∧ c ≤ 65536) : -65536 ≤ sp * c / 65536 ∧ sp * c / 65536 ≤ 65536 ∧ fix_Mul.f sp c = some (sp * c / 65536, 0) ∧ bivouacref14_times.f sp c = some (sp * c / 65536) := by
  have hm := mul_in (a := sp) (b := c) (A := 65536) (B := 65536) (by omega) (by omega)
  have e1 : mulDiv sp c 65536 = (sp * c / 65536, 0) := by
    unfold mulDiv
    rw [if_neg (by decide)]
    unfold flr
    rw [if_pos (by decide)]
    exact fitted_in (by unfold fits; omega)
  have e2 : timesS sp c = sp * c / 65536 := by
    unfold timesS Bg.floorS
    rw [if_pos (by unfold Bg.I64; omega)]
  refine ⟨by omega, by omega, ?_, ?_⟩
  · unfold fix_Mul.f num_MulDiv.f
    rw [if_pos (by unfold fits; omega), if_pos (by unfold fits; omega), if_pos (by unfold fits; omega), e1]
    rfl
  · unfold bivouacref14_times.f
    rw [if_pos (by unfold fits; omega), if_pos (by unfold fits; omega), e2]
theorem clampS_f {W : Int} (v : Int) (hW : 1 ≤ W ∧ W ≤ 64) : num_Clamp.f v 0 (W * 65536 - 1) = some (clampS v W) ∧ bivouacref14_clamp.f v W = some (clampS v W) := by
  unfold num_Clamp.f bivouacref14_clamp.f clampS mn
  rw [w_in (x := W * 65536) (by omega) (by omega), w_in (x := W * 65536 - 1) (by omega) (by omega)]
  constructor
  · repeat' split
    all_goals first | rfl | (congr 1; omega) | omega
  · repeat' split
    all_goals first | rfl | (congr 1; omega) | omega
theorem clampS_range {W : Int} (v : Int) (hW : 1 ≤ W ∧ W ≤ 64) : 0 ≤ clampS v W ∧ clampS v W < W * 65536 := by
  unfold clampS
  repeat' split
  all_goals omega
section
variable {mx my ma sp tn W H x y : Int}
theorem step_not (h : ¬ May mx my ma sp tn W H x y) (k : Nat) : drive_Step.f (k + 1) mx my ma sp tn W H x y = some (0, 0, 0, false, 1) := by
  unfold drive_Step.f
  rw [may_f, Option.bind_some]
  have hj : drive_Step.j0 (k + 1) x y true mx my ma sp tn W H = some (0, 0, 0, false, 1) := by rw [drive_Step.j0, if_pos rfl]
  by_cases hE : Eng sp tn W H
  · rw [if_pos (decide_eq_true hE), on_f hE, Option.bind_some]
    by_cases h1 : On W H mx my
    · rw [if_pos (decide_eq_true h1), on_f hE, Option.bind_some]
      by_cases h2 : On W H x y
      · rw [if_pos (decide_eq_true h2)]
        by_cases h3 : ma < 0
        · rw [if_pos h3, hj]
        · rw [if_neg h3, decide_eq_true (show ma ≥ 65536 by unfold May at h; simp only [hE, h1, h2, true_and] at h; omega), hj]
      · rw [if_neg (by simpa using h2), hj]
    · rw [if_neg (by simpa using h1), hj]
  · rw [if_neg (by simpa using hE), hj]
theorem dist_in (h : May mx my ma sp tn W H x y) : -4194304 ≤ x - mx ∧ x - mx ≤ 4194304 ∧ -4194304 ≤ y - my ∧ y - my ≤ 4194304 := by
  unfold May Eng On at h; omega
theorem sq_in (h : May mx my ma sp tn W H x y) : 0 ≤ (x - mx) * (x - mx) ∧ (x - mx) * (x - mx) ≤ 17592186044416 ∧ 0 ≤ (y - my) * (y - my) ∧ (y - my) * (y - my) ≤ 17592186044416 := by
  have hd := dist_in h
  have h1 := mul_in (a := x - mx) (b := x - mx) (A := 4194304) (B := 4194304) (by omega) (by omega)
  have h2 := mul_in (a := y - my) (b := y - my) (A := 4194304) (B := 4194304) (by omega) (by omega)
  have h3 := sq_nonneg' (x - mx)
  have h4 := sq_nonneg' (y - my)
  omega
set_option maxHeartbeats 2000000 in
theorem step_f (h : May mx my ma sp tn W H x y) (k : Nat) :
    drive_Step.f (k + 2) mx my ma sp tn W H x y = some ((stepS mx my ma sp tn W H x y).1, (stepS mx my ma sp tn W H x y).2.1, (stepS mx my ma sp tn W H x y).2.2.1, (stepS mx my ma sp tn W H x y).2.2.2, 0) := by
  have hd := dist_in h
  have hq := sq_in h
  obtain ⟨hE, h1, h2, h3, h4⟩ := h
  have hr := headR_range (x - mx) (y - my)
  have hhead : trig_Heading.f (x - mx) (y - my) = some (Tr.headR (x - mx) (y - my), 0) := by
    unfold trig_Heading.f
    rw [if_neg (by rw [far_no (by omega) (by omega)]; decide), if_neg (by rw [far_no (by omega) (by omega)]; decide), Tr.head_eq _ _ (by omega) (by omega)]
  have hlen : fix_Length.f (x - mx) (y - my) = some (Rt.rt ((x - mx) * (x - mx) + (y - my) * (y - my)), 0) := by
    unfold fix_Length.f fix_Root.f
    have hb := rt_bound (n := (x - mx) * (x - mx) + (y - my) * (y - my)) (m := 8388608) (by omega) (by decide) (by omega)
    rw [if_neg (by omega), if_neg (by omega), if_neg (by omega), if_neg (by omega), w_in (x := (x - mx) * (x - mx)) (by omega) (by omega), w_in (x := (y - my) * (y - my)) (by omega) (by omega), w_in (x := _ + _) (by omega) (by omega), u_in (by omega) (by omega), if_pos (by omega), if_pos (by omega), Option.bind_some, w_in (by omega) (by omega)]
  unfold drive_Step.f
  rw [may_f, Option.bind_some, if_pos (decide_eq_true hE), on_f hE, Option.bind_some, if_pos (decide_eq_true h1), on_f hE, Option.bind_some, if_pos (decide_eq_true h2), if_neg (by omega), decide_eq_false (by omega)]
  rw [drive_Step.j0, if_neg (by decide)]
  have hE' := hE
  unfold Eng at hE'
  unfold On at h1 h2
  rw [w_in (x := x - mx) (by omega) (by omega), w_in (x := y - my) (by omega) (by omega)]
  by_cases hz : mx = x ∧ my = y
  · rw [if_pos (by omega), drive_Step.j1, if_pos (by simp; omega)]
    unfold stepS
    rw [if_pos hz]
  · have hj : drive_Step.j1 (k + 1) x y (x - mx) (y - my) false mx my ma sp tn W H = some ((stepS mx my ma sp tn W H x y).1, (stepS mx my ma sp tn W H x y).2.1, (stepS mx my ma sp tn W H x y).2.2.1, (stepS mx my ma sp tn W H x y).2.2.2, 0) := by
      rw [drive_Step.j1, if_neg (by decide), hhead, Option.bind_some]
      unfold trig_Toward.f
      simp only [Option.bind_some]
      rw [w_in (x := Tr.headR (x - mx) (y - my) * 256) (by omega) (by omega), Int.mul_comm (Tr.headR (x - mx) (y - my)) 256, off_f, Option.bind_some]
      unfold stepS
      rw [if_neg hz]
      show (if offD (turnS mx my ma tn x y) (256 * Tr.headR (x - mx) (y - my)) > 8192 then some (mx, my, turnS mx my ma tn x y, false, 0) else _) = _
      by_cases ho : offD (turnS mx my ma tn x y) (256 * Tr.headR (x - mx) (y - my)) > 8192
      · rw [if_pos ho, if_pos ho]
      · rw [if_neg ho, if_neg ho, hlen, Option.bind_some]
        by_cases hl : Rt.rt ((x - mx) * (x - mx) + (y - my) * (y - my)) ≤ sp
        · rw [if_pos hl, if_pos hl]; rfl
        · rw [if_neg hl, if_neg hl]
          show ((trig_Vec.f (turnS mx my ma tn x y) sp).bind _) = _
          have hc := Tr.cosA_bound (turnS mx my ma tn x y)
          have hs := Tr.sinA_bound (turnS mx my ma tn x y)
          obtain ⟨c1, c2, c3, _⟩ := vel sp _ (by omega) (by omega) hc
          obtain ⟨s1, s2, s3, _⟩ := vel sp _ (by omega) (by omega) hs
          have hv : trig_Vec.f (turnS mx my ma tn x y) sp = some (sp * Tr.cosA (turnS mx my ma tn x y) / 65536, sp * Tr.sinA (turnS mx my ma tn x y) / 65536, 0) := by
            unfold trig_Vec.f trig_far.f trig_Cos.f trig_Sin.f
            rw [if_neg (by omega), Option.bind_some, if_neg (by simp; omega), Option.bind_some, c3, Option.bind_some, Option.bind_some, s3, Option.bind_some]
          rw [hv, Option.bind_some]
          unfold drive_end.f
          simp only [Option.bind_some]
          rw [w_in (x := W * 65536) (by omega) (by omega), w_in (x := H * 65536) (by omega) (by omega), w_in (x := W * 65536 - 1) (by omega) (by omega), w_in (x := H * 65536 - 1) (by omega) (by omega),
            w_in (x := mx + _) (by omega) (by omega), w_in (x := my + _) (by omega) (by omega), (clampS_f _ (by omega)).1, Option.bind_some, (clampS_f _ (by omega)).1, Option.bind_some]
          rfl
    by_cases hx : x - mx = 0
    · rw [if_pos hx, show ((y - my) == 0) = false from by simp; omega, hj]
    · rw [if_neg hx, hj]
theorem stepS_may (h : May mx my ma sp tn W H x y) : May (stepS mx my ma sp tn W H x y).1 (stepS mx my ma sp tn W H x y).2.1 (stepS mx my ma sp tn W H x y).2.2.1 sp tn W H x y := by
  obtain ⟨hE, h1, h2, h3, h4⟩ := h
  have ht := Tr.toward_range ma (256 * Tr.headR (x - mx) (y - my)) tn
  have hE' := hE
  unfold Eng at hE'
  unfold stepS
  split
  · exact ⟨hE, h1, h2, h3, h4⟩
  · split
    · exact ⟨hE, h1, h2, ht⟩
    · split
      · exact ⟨hE, h2, h2, ht⟩
      · have hc := clampS_range (mx + sp * Tr.cosA (turnS mx my ma tn x y) / 65536) (W := W) (by omega)
        have hs := clampS_range (my + sp * Tr.sinA (turnS mx my ma tn x y) / 65536) (W := H) (by omega)
        exact ⟨hE, ⟨hc.1, hc.2, hs.1, hs.2⟩, h2, ht⟩
end
end Go.Proofs.YtbcddiaplpbhjaaDoor.Dr
namespace Go.Proofs.YtbcddiaplpbhjaaDoor.Dr
open Go Go.RowKit Go.Proofs.YtbcddiaplpbhjaaDoorW.PrintMore Go.Proofs.YtbcddiaplpbhjaaDoorW.PrintWords Go.Proofs.YtbcddiaplpbhjaaDoor.MDr
set_option linter.unusedVariables false
set_option linter.unusedSimpArgs false
noncomputable def goS (sp tn W H x y : Int) : Nat → Int → Int → Int → Int × Int × Int × Int × Bool
  | 0, a, b, c => (a, b, c, 0, false)
  | n + 1, a, b, c =>
    if (stepS a b c sp tn W H x y).2.2.2 = true then ((stepS a b c sp tn W H x y).1, (stepS a b c sp tn W H x y).2.1, (stepS a b c sp tn W H x y).2.2.1, 1, true) else
    ((goS sp tn W H x y n (stepS a b c sp tn W H x y).1 (stepS a b c sp tn W H x y).2.1 (stepS a b c sp tn W H x y).2.2.1).1,
      (goS sp tn W H x y n (stepS a b c sp tn W H x y).1 (stepS a b c sp tn W H x y).2.1 (stepS a b c sp tn W H x y).2.2.1).2.1,
      (goS sp tn W H x y n (stepS a b c sp tn W H x y).1 (stepS a b c sp tn W H x y).2.1 (stepS a b c sp tn W H x y).2.2.1).2.2.1,
      (goS sp tn W H x y n (stepS a b c sp tn W H x y).1 (stepS a b c sp tn W H x y).2.1 (stepS a b c sp tn W H x y).2.2.1).2.2.2.1 + 1,
      (goS sp tn W H x y n (stepS a b c sp tn W H x y).1 (stepS a b c sp tn W H x y).2.1 (stepS a b c sp tn W H x y).2.2.1).2.2.2.2)
section
variable {sp tn W H x y : Int}
theorem l0_f (N4 N : Int) (hN : N ≤ 9223372036854775807) (hm : mx 0 N4 = N) : ∀ (n : Nat) (i mx my ma : Int) (k : Nat), 0 ≤ i → i + n = N → May mx my ma sp tn W H x y →
    drive_Steps.l0 (k + n + 3) x y N4 N i mx my ma sp tn W H = some ((goS sp tn W H x y n mx my ma).1, (goS sp tn W H x y n mx my ma).2.1, (goS sp tn W H x y n mx my ma).2.2.1, i + (goS sp tn W H x y n mx my ma).2.2.2.1, 0)
  | 0, i, mx, my, ma, k, h0, hi, hM => by
    rw [drive_Steps.l0, if_neg (by omega), hm]
    unfold goS
    simp only [Int.add_zero]
    rw [show N = i by omega]
  | n + 1, i, mx, my, ma, k, h0, hi, hM => by
    rw [show k + (n + 1) + 3 = (k + n + 3) + 1 by omega, drive_Steps.l0, if_pos (by omega), show k + n + 3 = (k + n + 1) + 2 by omega, step_f hM, Option.bind_some]
    by_cases ht : (stepS mx my ma sp tn W H x y).2.2.2 = true
    · rw [if_pos ht]
      unfold goS
      rw [if_pos ht, w_in (by omega) (by omega)]
    · rw [if_neg ht, w_in (by omega) (by omega), show k + n + 1 + 2 = k + n + 3 by omega]
      have := l0_f N4 N hN hm n (i + 1) _ _ _ k (by omega) (by omega) (stepS_may hM)
      rw [this]
      conv => rhs; unfold goS
      rw [if_neg ht]
      simp only []
      rw [show i + 1 + (goS sp tn W H x y n (stepS mx my ma sp tn W H x y).1 (stepS mx my ma sp tn W H x y).2.1 (stepS mx my ma sp tn W H x y).2.2.1).2.2.2.1 = i + ((goS sp tn W H x y n (stepS mx my ma sp tn W H x y).1 (stepS mx my ma sp tn W H x y).2.1 (stepS mx my ma sp tn W H x y).2.2.1).2.2.2.1 + 1) by omega]
theorem steps_f {mx my ma : Int} (hM : May mx my ma sp tn W H x y) (z : Int) (n : Nat) (hz : (if 0 < z then z else 0) = n) (hn : n ≤ 9223372036854775807) (k : Nat) :
    drive_Steps.f (k + n + 3) mx my ma sp tn W H x y z = some ((goS sp tn W H x y n mx my ma).1, (goS sp tn W H x y n mx my ma).2.1, (goS sp tn W H x y n mx my ma).2.2.1, (goS sp tn W H x y n mx my ma).2.2.2.1, 0) := by
  unfold drive_Steps.f
  rw [show k + n + 3 = (k + n + 1) + 2 by omega, step_f hM, Option.bind_some, if_pos rfl, show k + n + 1 + 2 = k + n + 3 by omega]
  rw [l0_f z _ (by unfold Go.Proofs.YtbcddiaplpbhjaaDoorW.PrintWords.mx; omega) rfl n 0 mx my ma k (by omega) (by unfold Go.Proofs.YtbcddiaplpbhjaaDoorW.PrintWords.mx; omega) hM, Int.zero_add]
end
theorem e1 : stepS 0 0 0 65536 32768 4 4 196608 0 = (65536, 0, 0, false) := by
  have h : turnS 0 0 0 32768 196608 0 = 0 := by unfold turnS; rw [← Tr.head_eq _ _ (by omega) (by omega)]; decide +kernel
  unfold stepS
  rw [if_neg (by decide), h, if_neg (by rw [← Tr.head_eq _ _ (by omega) (by omega)]; decide +kernel), Rt.rt_eq (r := 196608) (by decide) (by unfold Rt.isRoot; decide), if_neg (by decide), show Tr.cosA 0 = 65536 by decide +kernel, show Tr.sinA 0 = 0 by decide +kernel]
  rfl
theorem e2 : stepS 65536 0 0 65536 32768 4 4 196608 0 = (131072, 0, 0, false) := by
  have h : turnS 65536 0 0 32768 196608 0 = 0 := by unfold turnS; rw [← Tr.head_eq _ _ (by omega) (by omega)]; decide +kernel
  unfold stepS
  rw [if_neg (by decide), h, if_neg (by rw [← Tr.head_eq _ _ (by omega) (by omega)]; decide +kernel), Rt.rt_eq (r := 131072) (by decide) (by unfold Rt.isRoot; decide), if_neg (by decide), show Tr.cosA 0 = 65536 by decide +kernel, show Tr.sinA 0 = 0 by decide +kernel]
  rfl
theorem e3 : stepS 131072 0 0 65536 32768 4 4 196608 0 = (196608, 0, 0, true) := by
  have h : turnS 131072 0 0 32768 196608 0 = 0 := by unfold turnS; rw [← Tr.head_eq _ _ (by omega) (by omega)]; decide +kernel
  unfold stepS
  rw [if_neg (by decide), h, if_neg (by rw [← Tr.head_eq _ _ (by omega) (by omega)]; decide +kernel), Rt.rt_eq (r := 65536) (by decide) (by unfold Rt.isRoot; decide), if_pos (by decide)]
theorem e4 : stepS 0 0 0 65536 4096 4 4 0 196608 = (0, 0, 4096, false) := by
  have h : turnS 0 0 0 4096 0 196608 = 4096 := by unfold turnS; rw [← Tr.head_eq _ _ (by omega) (by omega)]; decide +kernel
  unfold stepS
  rw [if_neg (by decide), h, if_pos (by rw [← Tr.head_eq _ _ (by omega) (by omega)]; decide +kernel)]
theorem e5 : goS 65536 32768 4 4 196608 0 9 0 0 0 = (196608, 0, 0, 3, true) := by
  unfold goS
  simp only [e1]
  unfold goS
  simp only [e2]
  unfold goS
  simp only [e3]
  rfl
theorem awake_f : bivouaclaw14_awake.f 12 = some true := by
  unfold bivouaclaw14_awake.f bivouaclaw14_engine.f
  simp only [Option.bind_some]
  rw [step_f (k := 10) (show May 0 0 0 65536 32768 4 4 196608 0 by decide), Option.bind_some, steps_f (k := 0) (show May 0 0 0 65536 32768 4 4 196608 0 by decide) 9 9 (by decide) (by decide), Option.bind_some,
    step_f (k := 10) (show May 0 0 0 65536 4096 4 4 0 196608 by decide), Option.bind_some, e1, e4, e5]
  rfl
theorem awake_k (k : Nat) : bivouaclaw14_awake.f (k + 12) = some true := by
  induction k with
  | zero => exact awake_f
  | succ k ih => rw [show k + 1 + 12 = (k + 12) + 1 by omega]; exact bivouaclaw14_awake.mono _ _ ih
end Go.Proofs.YtbcddiaplpbhjaaDoor.Dr
namespace Go.Proofs.YtbcddiaplpbhjaaDoor.MDr
open Go.RowKit Go.Proofs.YtbcddiaplpbhjaaDoorW.PrintWords Go.Proofs.YtbcddiaplpbhjaaDoorW.PrintLast Go.Proofs.YtbcddiaplpbhjaaDoorW.PrintMore
attribute [local go_sem] max2_int min2_int max_two min_two max_three min_three max_four min_four
set_option linter.unusedVariables false
set_option linter.unusedSimpArgs false
attribute [local go_sem high] eqA26
mutual
noncomputable def DSt.l0 : Nat → Int → Int → Int → Int → Int → Int → Int → Int → Int → Int → Int → Int → Int → Int → Option (Bool)
  | 0, _, _, _, _, _, _, _, _, _, _, _, _, _, _ => none
  | k + 1, x4, x184000, x184001, x184002, x184003, x184004, x184005, x184006, x184007, x184008, x184009, x185000, x185001, x185002 => if x4 < x184009 then (DSt.j1 k x4 (decide (x4 < 60)) x184000 x184001 x184002 x184003 x184004 x184005 x184006 x184007 x184008 x184009 x185000 x185001 x185002) else (DSt.j1 k x4 false x184000 x184001 x184002 x184003 x184004 x184005 x184006 x184007 x184008 x184009 x185000 x185001 x185002)
noncomputable def DSt.j1 : Nat → Int → Bool → Int → Int → Int → Int → Int → Int → Int → Int → Int → Int → Int → Int → Int → Option (Bool)
  | 0, _, _, _, _, _, _, _, _, _, _, _, _, _, _, _ => none
  | k + 1, x4, x22, x184000, x184001, x184002, x184003, x184004, x184005, x184006, x184007, x184008, x184009, x185000, x185001, x185002 => if x22 = true then ((drive_Step.f k x185000 x185001 x185002 x184003 x184004 x184005 x184006 x184007 x184008).bind fun bt186 => (if bt186.2.2.2.2 = 0 then (if bt186.2.2.2.1 = true then (if bt186.1 = x184007 then (if bt186.2.1 = x184008 then (if bt186.1 < 0 then (DSt.j2 k x4 bt186.2.2.2.1 (wrap64 (bt186.1 - x185000)) (wrap64 (bt186.2.1 - x185001)) true x184000 x184001 x184002 x184003 x184004 x184005 x184006 x184007 x184008 x184009 x185000 x185001 x185002 bt186.1 bt186.2.1 bt186.2.2.1) else (if bt186.1 ≥ (wrap64 (x184005 * 65536)) then (DSt.j2 k x4 bt186.2.2.2.1 (wrap64 (bt186.1 - x185000)) (wrap64 (bt186.2.1 - x185001)) true x184000 x184001 x184002 x184003 x184004 x184005 x184006 x184007 x184008 x184009 x185000 x185001 x185002 bt186.1 bt186.2.1 bt186.2.2.1) else (if bt186.2.1 < 0 then (DSt.j2 k x4 bt186.2.2.2.1 (wrap64 (bt186.1 - x185000)) (wrap64 (bt186.2.1 - x185001)) true x184000 x184001 x184002 x184003 x184004 x184005 x184006 x184007 x184008 x184009 x185000 x185001 x185002 bt186.1 bt186.2.1 bt186.2.2.1) else (if bt186.2.1 ≥ (wrap64 (x184006 * 65536)) then (DSt.j2 k x4 bt186.2.2.2.1 (wrap64 (bt186.1 - x185000)) (wrap64 (bt186.2.1 - x185001)) true x184000 x184001 x184002 x184003 x184004 x184005 x184006 x184007 x184008 x184009 x185000 x185001 x185002 bt186.1 bt186.2.1 bt186.2.2.1) else (if bt186.2.2.1 < 0 then (DSt.j2 k x4 bt186.2.2.2.1 (wrap64 (bt186.1 - x185000)) (wrap64 (bt186.2.1 - x185001)) true x184000 x184001 x184002 x184003 x184004 x184005 x184006 x184007 x184008 x184009 x185000 x185001 x185002 bt186.1 bt186.2.1 bt186.2.2.1) else (DSt.j2 k x4 bt186.2.2.2.1 (wrap64 (bt186.1 - x185000)) (wrap64 (bt186.2.1 - x185001)) (decide (bt186.2.2.1 > 65535)) x184000 x184001 x184002 x184003 x184004 x184005 x184006 x184007 x184008 x184009 x185000 x185001 x185002 bt186.1 bt186.2.1 bt186.2.2.1)))))) else (DSt.j2 k x4 bt186.2.2.2.1 (wrap64 (bt186.1 - x185000)) (wrap64 (bt186.2.1 - x185001)) true x184000 x184001 x184002 x184003 x184004 x184005 x184006 x184007 x184008 x184009 x185000 x185001 x185002 bt186.1 bt186.2.1 bt186.2.2.1)) else (DSt.j2 k x4 bt186.2.2.2.1 (wrap64 (bt186.1 - x185000)) (wrap64 (bt186.2.1 - x185001)) true x184000 x184001 x184002 x184003 x184004 x184005 x184006 x184007 x184008 x184009 x185000 x185001 x185002 bt186.1 bt186.2.1 bt186.2.2.1)) else (if bt186.1 < 0 then (DSt.j2 k x4 bt186.2.2.2.1 (wrap64 (bt186.1 - x185000)) (wrap64 (bt186.2.1 - x185001)) true x184000 x184001 x184002 x184003 x184004 x184005 x184006 x184007 x184008 x184009 x185000 x185001 x185002 bt186.1 bt186.2.1 bt186.2.2.1) else (if bt186.1 ≥ (wrap64 (x184005 * 65536)) then (DSt.j2 k x4 bt186.2.2.2.1 (wrap64 (bt186.1 - x185000)) (wrap64 (bt186.2.1 - x185001)) true x184000 x184001 x184002 x184003 x184004 x184005 x184006 x184007 x184008 x184009 x185000 x185001 x185002 bt186.1 bt186.2.1 bt186.2.2.1) else (if bt186.2.1 < 0 then (DSt.j2 k x4 bt186.2.2.2.1 (wrap64 (bt186.1 - x185000)) (wrap64 (bt186.2.1 - x185001)) true x184000 x184001 x184002 x184003 x184004 x184005 x184006 x184007 x184008 x184009 x185000 x185001 x185002 bt186.1 bt186.2.1 bt186.2.2.1) else (if bt186.2.1 ≥ (wrap64 (x184006 * 65536)) then (DSt.j2 k x4 bt186.2.2.2.1 (wrap64 (bt186.1 - x185000)) (wrap64 (bt186.2.1 - x185001)) true x184000 x184001 x184002 x184003 x184004 x184005 x184006 x184007 x184008 x184009 x185000 x185001 x185002 bt186.1 bt186.2.1 bt186.2.2.1) else (if bt186.2.2.1 < 0 then (DSt.j2 k x4 bt186.2.2.2.1 (wrap64 (bt186.1 - x185000)) (wrap64 (bt186.2.1 - x185001)) true x184000 x184001 x184002 x184003 x184004 x184005 x184006 x184007 x184008 x184009 x185000 x185001 x185002 bt186.1 bt186.2.1 bt186.2.2.1) else (DSt.j2 k x4 bt186.2.2.2.1 (wrap64 (bt186.1 - x185000)) (wrap64 (bt186.2.1 - x185001)) (decide (bt186.2.2.1 > 65535)) x184000 x184001 x184002 x184003 x184004 x184005 x184006 x184007 x184008 x184009 x185000 x185001 x185002 bt186.1 bt186.2.1 bt186.2.2.1))))))) else (if x4 = 0 then (if bt186.2.2.2.1 = true then (some false) else ((bivouaclaw14_awake.f k).bind fun t192 => (some t192))) else (some false)))) else ((bivouaclaw14_awake.f k).bind fun t185 => (some t185))
noncomputable def DSt.j2 : Nat → Int → Bool → Int → Int → Bool → Int → Int → Int → Int → Int → Int → Int → Int → Int → Int → Int → Int → Int → Int → Int → Int → Option (Bool)
  | 0, _, _, _, _, _, _, _, _, _, _, _, _, _, _, _, _, _, _, _, _, _ => none
  | k + 1, x4, x6, x8, x9, x110, x184000, x184001, x184002, x184003, x184004, x184005, x184006, x184007, x184008, x184009, x185000, x185001, x185002, x192000, x192001, x192002 => if x110 = true then (some false) else (if x8 > (wrap64 (x184003 + 1)) then (DSt.j3 k x4 x6 true x184000 x184001 x184002 x184003 x184004 x184005 x184006 x184007 x184008 x184009 x192000 x192001 x192002) else (if x8 < (wrap64 ((wrap64 (-x184003)) - 1)) then (DSt.j3 k x4 x6 true x184000 x184001 x184002 x184003 x184004 x184005 x184006 x184007 x184008 x184009 x192000 x192001 x192002) else (if x9 > (wrap64 (x184003 + 1)) then (DSt.j3 k x4 x6 true x184000 x184001 x184002 x184003 x184004 x184005 x184006 x184007 x184008 x184009 x192000 x192001 x192002) else (if x9 < (wrap64 ((wrap64 (-x184003)) - 1)) then (DSt.j3 k x4 x6 true x184000 x184001 x184002 x184003 x184004 x184005 x184006 x184007 x184008 x184009 x192000 x192001 x192002) else ((drive_Off.f x192002 x185002).bind fun t193 => (DSt.j3 k x4 x6 (decide (t193 > x184004)) x184000 x184001 x184002 x184003 x184004 x184005 x184006 x184007 x184008 x184009 x192000 x192001 x192002))))))
noncomputable def DSt.j3 : Nat → Int → Bool → Bool → Int → Int → Int → Int → Int → Int → Int → Int → Int → Int → Int → Int → Int → Option (Bool)
  | 0, _, _, _, _, _, _, _, _, _, _, _, _, _, _, _, _ => none
  | k + 1, x4, x6, x153, x184000, x184001, x184002, x184003, x184004, x184005, x184006, x184007, x184008, x184009, x192000, x192001, x192002 => if x153 = true then (some false) else (if x6 = true then ((drive_Step.f k x192000 x192001 x192002 x184003 x184004 x184005 x184006 x184007 x184008).bind fun bt194 => (if (bt194.1 == x192000 && (bt194.2.1 == x192001 && (bt194.2.2.1 == x192002))) = true then (if bt194.2.2.2.1 = true then (if bt194.2.2.2.2 = 0 then ((bivouaclaw14_awake.f k).bind fun t200 => (some t200)) else (some false)) else (some false)) else (some false))) else (DSt.l0 k (wrap64 (x4 + 1)) x184000 x184001 x184002 x184003 x184004 x184005 x184006 x184007 x184008 x184009 x192000 x192001 x192002))
end
noncomputable def DSt.f (k : Nat) (a0_0 : Int) (a0_1 : Int) (a0_2 : Int) (a0_3 : Int) (a0_4 : Int) (a0_5 : Int) (a0_6 : Int) (a0_7 : Int) (a0_8 : Int) (a0_9 : Int) : Option (Bool) := DSt.l0 k 0 a0_0 a0_1 a0_2 a0_3 a0_4 a0_5 a0_6 a0_7 a0_8 a0_9 a0_0 a0_1 a0_2
theorem DSt.mono_l : ∀ k, (∀ y0 y1 y2 y3 y4 y5 y6 y7 y8 y9 y10 y11 y12 y13, LeO (DSt.l0 k y0 y1 y2 y3 y4 y5 y6 y7 y8 y9 y10 y11 y12 y13) (DSt.l0 (k + 1) y0 y1 y2 y3 y4 y5 y6 y7 y8 y9 y10 y11 y12 y13)) ∧ (∀ y0 y1 y2 y3 y4 y5 y6 y7 y8 y9 y10 y11 y12 y13 y14, LeO (DSt.j1 k y0 y1 y2 y3 y4 y5 y6 y7 y8 y9 y10 y11 y12 y13 y14) (DSt.j1 (k + 1) y0 y1 y2 y3 y4 y5 y6 y7 y8 y9 y10 y11 y12 y13 y14)) ∧ (∀ y0 y1 y2 y3 y4 y5 y6 y7 y8 y9 y10 y11 y12 y13 y14 y15 y16 y17 y18 y19 y20, LeO (DSt.j2 k y0 y1 y2 y3 y4 y5 y6 y7 y8 y9 y10 y11 y12 y13 y14 y15 y16 y17 y18 y19 y20) (DSt.j2 (k + 1) y0 y1 y2 y3 y4 y5 y6 y7 y8 y9 y10 y11 y12 y13 y14 y15 y16 y17 y18 y19 y20)) ∧ (∀ y0 y1 y2 y3 y4 y5 y6 y7 y8 y9 y10 y11 y12 y13 y14 y15, LeO (DSt.j3 k y0 y1 y2 y3 y4 y5 y6 y7 y8 y9 y10 y11 y12 y13 y14 y15) (DSt.j3 (k + 1) y0 y1 y2 y3 y4 y5 y6 y7 y8 y9 y10 y11 y12 y13 y14 y15))
  | 0 => ⟨fun _ _ _ _ _ _ _ _ _ _ _ _ _ _ r h => by simp [DSt.l0] at h, fun _ _ _ _ _ _ _ _ _ _ _ _ _ _ _ r h => by simp [DSt.j1] at h, fun _ _ _ _ _ _ _ _ _ _ _ _ _ _ _ _ _ _ _ _ _ r h => by simp [DSt.j2] at h, fun _ _ _ _ _ _ _ _ _ _ _ _ _ _ _ _ r h => by simp [DSt.j3] at h⟩
  | k + 1 => by
    obtain ⟨ih0, ih1, ih2, ih3⟩ := DSt.mono_l k
    refine ⟨?_, ?_, ?_, ?_⟩
    · intro y0 y1 y2 y3 y4 y5 y6 y7 y8 y9 y10 y11 y12 y13
      unfold DSt.l0
      repeat' first
      | (with_reducible exact ih0 _ _ _ _ _ _ _ _ _ _ _ _ _ _)
      | (with_reducible exact ih1 _ _ _ _ _ _ _ _ _ _ _ _ _ _ _)
      | (with_reducible exact ih2 _ _ _ _ _ _ _ _ _ _ _ _ _ _ _ _ _ _ _ _ _)
      | (with_reducible exact ih3 _ _ _ _ _ _ _ _ _ _ _ _ _ _ _ _)
      | (with_reducible exact bivouaclaw14_awake.mono _)
      | (with_reducible exact drive_Step.mono _ _ _ _ _ _ _ _ _ _)
      | (with_reducible exact LeO.refl _)
      | (with_reducible exact LeO.none _)
      | (with_reducible refine LeO.ite ?_ ?_)
      | (with_reducible refine LeO.bind ?_ (fun _ => ?_))
      | exact ih0 _ _ _ _ _ _ _ _ _ _ _ _ _ _
      | exact ih1 _ _ _ _ _ _ _ _ _ _ _ _ _ _ _
      | exact ih2 _ _ _ _ _ _ _ _ _ _ _ _ _ _ _ _ _ _ _ _ _
      | exact ih3 _ _ _ _ _ _ _ _ _ _ _ _ _ _ _ _
      | exact bivouaclaw14_awake.mono _
      | exact drive_Step.mono _ _ _ _ _ _ _ _ _ _
      | exact LeO.none _
      | refine LeO.ite ?_ ?_
      | refine LeO.bind ?_ (fun _ => ?_)
    · intro y0 y1 y2 y3 y4 y5 y6 y7 y8 y9 y10 y11 y12 y13 y14
      unfold DSt.j1
      repeat' first
      | (with_reducible exact ih0 _ _ _ _ _ _ _ _ _ _ _ _ _ _)
      | (with_reducible exact ih1 _ _ _ _ _ _ _ _ _ _ _ _ _ _ _)
      | (with_reducible exact ih2 _ _ _ _ _ _ _ _ _ _ _ _ _ _ _ _ _ _ _ _ _)
      | (with_reducible exact ih3 _ _ _ _ _ _ _ _ _ _ _ _ _ _ _ _)
      | (with_reducible exact bivouaclaw14_awake.mono _)
      | (with_reducible exact drive_Step.mono _ _ _ _ _ _ _ _ _ _)
      | (with_reducible exact LeO.refl _)
      | (with_reducible exact LeO.none _)
      | (with_reducible refine LeO.ite ?_ ?_)
      | (with_reducible refine LeO.bind ?_ (fun _ => ?_))
      | exact ih0 _ _ _ _ _ _ _ _ _ _ _ _ _ _
      | exact ih1 _ _ _ _ _ _ _ _ _ _ _ _ _ _ _
      | exact ih2 _ _ _ _ _ _ _ _ _ _ _ _ _ _ _ _ _ _ _ _ _
      | exact ih3 _ _ _ _ _ _ _ _ _ _ _ _ _ _ _ _
      | exact bivouaclaw14_awake.mono _
      | exact drive_Step.mono _ _ _ _ _ _ _ _ _ _
      | exact LeO.none _
      | refine LeO.ite ?_ ?_
      | refine LeO.bind ?_ (fun _ => ?_)
    · intro y0 y1 y2 y3 y4 y5 y6 y7 y8 y9 y10 y11 y12 y13 y14 y15 y16 y17 y18 y19 y20
      unfold DSt.j2
      repeat' first
      | (with_reducible exact ih0 _ _ _ _ _ _ _ _ _ _ _ _ _ _)
      | (with_reducible exact ih1 _ _ _ _ _ _ _ _ _ _ _ _ _ _ _)
      | (with_reducible exact ih2 _ _ _ _ _ _ _ _ _ _ _ _ _ _ _ _ _ _ _ _ _)
      | (with_reducible exact ih3 _ _ _ _ _ _ _ _ _ _ _ _ _ _ _ _)
      | (with_reducible exact bivouaclaw14_awake.mono _)
      | (with_reducible exact drive_Step.mono _ _ _ _ _ _ _ _ _ _)
      | (with_reducible exact LeO.refl _)
      | (with_reducible exact LeO.none _)
      | (with_reducible refine LeO.ite ?_ ?_)
      | (with_reducible refine LeO.bind ?_ (fun _ => ?_))
      | exact ih0 _ _ _ _ _ _ _ _ _ _ _ _ _ _
      | exact ih1 _ _ _ _ _ _ _ _ _ _ _ _ _ _ _
      | exact ih2 _ _ _ _ _ _ _ _ _ _ _ _ _ _ _ _ _ _ _ _ _
      | exact ih3 _ _ _ _ _ _ _ _ _ _ _ _ _ _ _ _
      | exact bivouaclaw14_awake.mono _
      | exact drive_Step.mono _ _ _ _ _ _ _ _ _ _
      | exact LeO.none _
      | refine LeO.ite ?_ ?_
      | refine LeO.bind ?_ (fun _ => ?_)
    · intro y0 y1 y2 y3 y4 y5 y6 y7 y8 y9 y10 y11 y12 y13 y14 y15
      unfold DSt.j3
      repeat' first
      | (with_reducible exact ih0 _ _ _ _ _ _ _ _ _ _ _ _ _ _)
      | (with_reducible exact ih1 _ _ _ _ _ _ _ _ _ _ _ _ _ _ _)
      | (with_reducible exact ih2 _ _ _ _ _ _ _ _ _ _ _ _ _ _ _ _ _ _ _ _ _)
      | (with_reducible exact ih3 _ _ _ _ _ _ _ _ _ _ _ _ _ _ _ _)
      | (with_reducible exact bivouaclaw14_awake.mono _)
      | (with_reducible exact drive_Step.mono _ _ _ _ _ _ _ _ _ _)
      | (with_reducible exact LeO.refl _)
      | (with_reducible exact LeO.none _)
      | (with_reducible refine LeO.ite ?_ ?_)
      | (with_reducible refine LeO.bind ?_ (fun _ => ?_))
      | exact ih0 _ _ _ _ _ _ _ _ _ _ _ _ _ _
      | exact ih1 _ _ _ _ _ _ _ _ _ _ _ _ _ _ _
      | exact ih2 _ _ _ _ _ _ _ _ _ _ _ _ _ _ _ _ _ _ _ _ _
      | exact ih3 _ _ _ _ _ _ _ _ _ _ _ _ _ _ _ _
      | exact bivouaclaw14_awake.mono _
      | exact drive_Step.mono _ _ _ _ _ _ _ _ _ _
      | exact LeO.none _
      | refine LeO.ite ?_ ?_
      | refine LeO.bind ?_ (fun _ => ?_)
theorem DSt.mono : ∀ a0 a1 a2 a3 a4 a5 a6 a7 a8 a9 k, LeO (DSt.f k a0 a1 a2 a3 a4 a5 a6 a7 a8 a9) (DSt.f (k + 1) a0 a1 a2 a3 a4 a5 a6 a7 a8 a9) := by
  intro a0 a1 a2 a3 a4 a5 a6 a7 a8 a9 k
  obtain ⟨ih0, ih1, ih2, ih3⟩ := DSt.mono_l k
  unfold DSt.f
  repeat' first
      | (with_reducible exact ih0 _ _ _ _ _ _ _ _ _ _ _ _ _ _)
      | (with_reducible exact ih1 _ _ _ _ _ _ _ _ _ _ _ _ _ _ _)
      | (with_reducible exact ih2 _ _ _ _ _ _ _ _ _ _ _ _ _ _ _ _ _ _ _ _ _)
      | (with_reducible exact ih3 _ _ _ _ _ _ _ _ _ _ _ _ _ _ _ _)
      | (with_reducible exact bivouaclaw14_awake.mono _)
      | (with_reducible exact drive_Step.mono _ _ _ _ _ _ _ _ _ _)
      | (with_reducible exact LeO.refl _)
      | (with_reducible exact LeO.none _)
      | (with_reducible refine LeO.ite ?_ ?_)
      | (with_reducible refine LeO.bind ?_ (fun _ => ?_))
      | exact ih0 _ _ _ _ _ _ _ _ _ _ _ _ _ _
      | exact ih1 _ _ _ _ _ _ _ _ _ _ _ _ _ _ _
      | exact ih2 _ _ _ _ _ _ _ _ _ _ _ _ _ _ _ _ _ _ _ _ _
      | exact ih3 _ _ _ _ _ _ _ _ _ _ _ _ _ _ _ _
      | exact bivouaclaw14_awake.mono _
      | exact drive_Step.mono _ _ _ _ _ _ _ _ _ _
      | exact LeO.none _
      | refine LeO.ite ?_ ?_
      | refine LeO.bind ?_ (fun _ => ?_)
def DSt.T8 : Bool × List (List Nat × List Nat) := (true, [([], []), ([0], [0]), ([], []), ([2], [2]), ([1, 3], [1, 3]), ([], []), ([5], [5]), ([], []), ([7], [7]), ([6, 8], [6, 8]), ([4, 0, 1, 2, 3, 4], [4]), ([9, 10, 0, 1, 2, 3, 4, 5, 6, 7, 8, 9, 10], [9])])
def DSt.B8 : List Nat := [0, 1, 0, 4, 15, 0, 32, 0, 128, 480, 31, 2047]
theorem DSt.tab8 : rtab .any (opsOf Tryd.f6 8) = DSt.T8 := by kernel_rfl
theorem DSt.bits8 : waitsOk DSt.T8.2 DSt.B8 = true := by kernel_rfl
def DSt.T11 : Bool × List (List Nat × List Nat) := (true, [([], []), ([], []), ([1], [1]), ([2], [2]), ([3], [3]), ([0, 4], [0, 4]), ([5], [5]), ([6], [6]), ([6], [6]), ([8, 6], [6, 8]), ([9, 6], [6, 9]), ([10, 6], [6, 10]), ([11, 6], [6, 11]), ([7, 12, 6], [6, 7, 12]), ([6, 13], [6, 13]), ([14, 6], [14]), ([15], [15]), ([15], [15]), ([17, 15], [15, 17]), ([18, 15], [15, 18]), ([19, 15], [15, 19]), ([16, 20, 15], [15, 16, 20]), ([15, 21], [15, 21]), ([22, 15], [22]), ([23], [23]), ([23], [23]), ([25, 23], [23, 25]), ([26, 23], [23, 26]), ([27, 23], [23, 27]), ([28, 23], [23, 28]), ([24, 29, 23], [23, 24, 29]), ([23, 30], [23, 30]), ([31, 23], [31]), ([32], [32]), ([33, 32], [32, 33]), ([32], [32]), ([35, 32], [32, 35]), ([34, 36, 32, 32], [32, 34, 36]), ([32], [32]), ([38, 32], [32, 38]), ([39, 32], [32, 39]), ([37, 40, 32], [32, 37, 40]), ([32, 41], [32, 41])])
def DSt.B11 : List Nat := [0, 0, 2, 6, 14, 31, 63, 127, 127, 383, 895, 1919, 3967, 8191, 16383, 32767, 65535, 65535, 196607, 458751, 983039, 2097151, 4194303, 8388607, 16777215, 16777215, 50331647, 117440511, 251658239, 520093695, 1073741823, 2147483647, 4294967295, 8589934591, 17179869183, 8589934591, 42949672959, 137438953471, 8589934591, 283467841535, 833223655423, 2199023255551, 4398046511103]
theorem DSt.tab11 : rtab .any (opsOf Tryd.f6 11) = DSt.T11 := by kernel_rfl
theorem DSt.bits11 : waitsOk DSt.T11.2 DSt.B11 = true := by kernel_rfl
theorem LS_ {A : Type} (l : List A) (i : Nat) (a : A) : l.toArray.setIfInBounds i a = (l.set i a).toArray := by simp
theorem L0_ {A : Type} (l : List A) (a b : A) : (a :: l).set 0 b = b :: l := rfl
theorem L1_ {A : Type} (l : List A) (n : Nat) (a b : A) : (a :: l).set (n + 1) b = a :: l.set n b := rfl
abbrev m0_ : Array Bool := #[false, false, false, false, false, false, false, false, false, false, false, false]
abbrev m1_ : Array Bool := #[true, false, false, false, false, false, false, false, false, false, false, false]
abbrev m2_ : Array Bool := #[true, false, true, false, false, false, false, false, false, false, false, false]
abbrev m3_ : Array Bool := #[true, false, true, false, false, true, false, false, false, false, false, false]
abbrev m4_ : Array Bool := #[true, false, true, false, false, true, false, true, false, false, false, false]
abbrev m5_ : Array Bool := #[true, true, true, false, false, true, false, true, false, false, false, false]
abbrev m6_ : Array Bool := #[true, true, true, true, false, true, false, true, false, false, false, false]
abbrev m7_ : Array Bool := #[true, true, true, true, true, true, false, true, false, false, false, false]
abbrev m8_ : Array Bool := #[true, true, true, true, true, true, false, true, false, false, true, false]
abbrev m9_ : Array Bool := #[true, true, true, true, true, true, true, true, false, false, true, false]
abbrev m10_ : Array Bool := #[true, true, true, true, true, true, true, true, true, false, true, false]
abbrev m11_ : Array Bool := #[true, true, true, true, true, true, true, true, true, true, true, false]
abbrev m12_ : Array Bool := #[true, true, true, true, true, true, true, true, true, true, true, true]
abbrev m13_ : Array Bool := #[false, false, false, false, false, false, false, false, false, false, false, false, false, false, false, false, false, false, false, false, false, false, false, false, false, false, false, false, false, false, false, false, false, false, false, false, false, false, false, false, false, false, false]
abbrev m14_ : Array Bool := #[true, false, false, false, false, false, false, false, false, false, false, false, false, false, false, false, false, false, false, false, false, false, false, false, false, false, false, false, false, false, false, false, false, false, false, false, false, false, false, false, false, false, false]
abbrev m15_ : Array Bool := #[true, true, false, false, false, false, false, false, false, false, false, false, false, false, false, false, false, false, false, false, false, false, false, false, false, false, false, false, false, false, false, false, false, false, false, false, false, false, false, false, false, false, false]
abbrev m16_ : Array Bool := #[true, true, true, false, false, false, false, false, false, false, false, false, false, false, false, false, false, false, false, false, false, false, false, false, false, false, false, false, false, false, false, false, false, false, false, false, false, false, false, false, false, false, false]
abbrev m17_ : Array Bool := #[true, true, true, true, false, false, false, false, false, false, false, false, false, false, false, false, false, false, false, false, false, false, false, false, false, false, false, false, false, false, false, false, false, false, false, false, false, false, false, false, false, false, false]
abbrev m18_ : Array Bool := #[true, true, true, true, true, false, false, false, false, false, false, false, false, false, false, false, false, false, false, false, false, false, false, false, false, false, false, false, false, false, false, false, false, false, false, false, false, false, false, false, false, false, false]
abbrev m19_ : Array Bool := #[true, true, true, true, true, true, false, false, false, false, false, false, false, false, false, false, false, false, false, false, false, false, false, false, false, false, false, false, false, false, false, false, false, false, false, false, false, false, false, false, false, false, false]
abbrev m20_ : Array Bool := #[true, true, true, true, true, true, true, false, false, false, false, false, false, false, false, false, false, false, false, false, false, false, false, false, false, false, false, false, false, false, false, false, false, false, false, false, false, false, false, false, false, false, false]
abbrev m21_ : Array Bool := #[true, true, true, true, true, true, true, true, false, false, false, false, false, false, false, false, false, false, false, false, false, false, false, false, false, false, false, false, false, false, false, false, false, false, false, false, false, false, false, false, false, false, false]
abbrev m22_ : Array Bool := #[true, true, true, true, true, true, true, true, true, false, false, false, false, false, false, false, false, false, false, false, false, false, false, false, false, false, false, false, false, false, false, false, false, false, false, false, false, false, false, false, false, false, false]
abbrev m23_ : Array Bool := #[true, true, true, true, true, true, true, true, true, true, false, false, false, false, false, false, false, false, false, false, false, false, false, false, false, false, false, false, false, false, false, false, false, false, false, false, false, false, false, false, false, false, false]
abbrev m24_ : Array Bool := #[true, true, true, true, true, true, true, true, true, true, true, false, false, false, false, false, false, false, false, false, false, false, false, false, false, false, false, false, false, false, false, false, false, false, false, false, false, false, false, false, false, false, false]
abbrev m25_ : Array Bool := #[true, true, true, true, true, true, true, true, true, true, true, true, false, false, false, false, false, false, false, false, false, false, false, false, false, false, false, false, false, false, false, false, false, false, false, false, false, false, false, false, false, false, false]
abbrev m26_ : Array Bool := #[true, true, true, true, true, true, true, true, true, true, true, true, true, false, false, false, false, false, false, false, false, false, false, false, false, false, false, false, false, false, false, false, false, false, false, false, false, false, false, false, false, false, false]
abbrev m27_ : Array Bool := #[true, true, true, true, true, true, true, true, true, true, true, true, true, true, false, false, false, false, false, false, false, false, false, false, false, false, false, false, false, false, false, false, false, false, false, false, false, false, false, false, false, false, false]
abbrev m28_ : Array Bool := #[true, true, true, true, true, true, true, true, true, true, true, true, true, true, true, false, false, false, false, false, false, false, false, false, false, false, false, false, false, false, false, false, false, false, false, false, false, false, false, false, false, false, false]
abbrev m29_ : Array Bool := #[true, true, true, true, true, true, true, true, true, true, true, true, true, true, true, true, false, false, false, false, false, false, false, false, false, false, false, false, false, false, false, false, false, false, false, false, false, false, false, false, false, false, false]
abbrev m30_ : Array Bool := #[true, true, true, true, true, true, true, true, true, true, true, true, true, true, true, true, true, false, false, false, false, false, false, false, false, false, false, false, false, false, false, false, false, false, false, false, false, false, false, false, false, false, false]
abbrev m31_ : Array Bool := #[true, true, true, true, true, true, true, true, true, true, true, true, true, true, true, true, true, true, false, false, false, false, false, false, false, false, false, false, false, false, false, false, false, false, false, false, false, false, false, false, false, false, false]
abbrev m32_ : Array Bool := #[true, true, true, true, true, true, true, true, true, true, true, true, true, true, true, true, true, true, true, false, false, false, false, false, false, false, false, false, false, false, false, false, false, false, false, false, false, false, false, false, false, false, false]
abbrev m33_ : Array Bool := #[true, true, true, true, true, true, true, true, true, true, true, true, true, true, true, true, true, true, true, true, false, false, false, false, false, false, false, false, false, false, false, false, false, false, false, false, false, false, false, false, false, false, false]
abbrev m34_ : Array Bool := #[true, true, true, true, true, true, true, true, true, true, true, true, true, true, true, true, true, true, true, true, true, false, false, false, false, false, false, false, false, false, false, false, false, false, false, false, false, false, false, false, false, false, false]
abbrev m35_ : Array Bool := #[true, true, true, true, true, true, true, true, true, true, true, true, true, true, true, true, true, true, true, true, true, true, false, false, false, false, false, false, false, false, false, false, false, false, false, false, false, false, false, false, false, false, false]
abbrev m36_ : Array Bool := #[true, true, true, true, true, true, true, true, true, true, true, true, true, true, true, true, true, true, true, true, true, true, true, false, false, false, false, false, false, false, false, false, false, false, false, false, false, false, false, false, false, false, false]
abbrev m37_ : Array Bool := #[true, true, true, true, true, true, true, true, true, true, true, true, true, true, true, true, true, true, true, true, true, true, true, true, false, false, false, false, false, false, false, false, false, false, false, false, false, false, false, false, false, false, false]
abbrev m38_ : Array Bool := #[true, true, true, true, true, true, true, true, true, true, true, true, true, true, true, true, true, true, true, true, true, true, true, true, true, false, false, false, false, false, false, false, false, false, false, false, false, false, false, false, false, false, false]
abbrev m39_ : Array Bool := #[true, true, true, true, true, true, true, true, true, true, true, true, true, true, true, true, true, true, true, true, true, true, true, true, true, true, false, false, false, false, false, false, false, false, false, false, false, false, false, false, false, false, false]
abbrev m40_ : Array Bool := #[true, true, true, true, true, true, true, true, true, true, true, true, true, true, true, true, true, true, true, true, true, true, true, true, true, true, true, false, false, false, false, false, false, false, false, false, false, false, false, false, false, false, false]
abbrev m41_ : Array Bool := #[true, true, true, true, true, true, true, true, true, true, true, true, true, true, true, true, true, true, true, true, true, true, true, true, true, true, true, true, false, false, false, false, false, false, false, false, false, false, false, false, false, false, false]
abbrev m42_ : Array Bool := #[true, true, true, true, true, true, true, true, true, true, true, true, true, true, true, true, true, true, true, true, true, true, true, true, true, true, true, true, true, false, false, false, false, false, false, false, false, false, false, false, false, false, false]
abbrev m43_ : Array Bool := #[true, true, true, true, true, true, true, true, true, true, true, true, true, true, true, true, true, true, true, true, true, true, true, true, true, true, true, true, true, true, false, false, false, false, false, false, false, false, false, false, false, false, false]
abbrev m44_ : Array Bool := #[true, true, true, true, true, true, true, true, true, true, true, true, true, true, true, true, true, true, true, true, true, true, true, true, true, true, true, true, true, true, true, false, false, false, false, false, false, false, false, false, false, false, false]
abbrev m45_ : Array Bool := #[true, true, true, true, true, true, true, true, true, true, true, true, true, true, true, true, true, true, true, true, true, true, true, true, true, true, true, true, true, true, true, true, false, false, false, false, false, false, false, false, false, false, false]
abbrev m46_ : Array Bool := #[true, true, true, true, true, true, true, true, true, true, true, true, true, true, true, true, true, true, true, true, true, true, true, true, true, true, true, true, true, true, true, true, true, false, false, false, false, false, false, false, false, false, false]
abbrev m47_ : Array Bool := #[true, true, true, true, true, true, true, true, true, true, true, true, true, true, true, true, true, true, true, true, true, true, true, true, true, true, true, true, true, true, true, true, true, true, false, false, false, false, false, false, false, false, false]
abbrev m48_ : Array Bool := #[true, true, true, true, true, true, true, true, true, true, true, true, true, true, true, true, true, true, true, true, true, true, true, true, true, true, true, true, true, true, true, true, true, true, true, false, false, false, false, false, false, false, false]
abbrev m49_ : Array Bool := #[true, true, true, true, true, true, true, true, true, true, true, true, true, true, true, true, true, true, true, true, true, true, true, true, true, true, true, true, true, true, true, true, true, true, true, true, false, false, false, false, false, false, false]
abbrev m50_ : Array Bool := #[true, true, true, true, true, true, true, true, true, true, true, true, true, true, true, true, true, true, true, true, true, true, true, true, true, true, true, true, true, true, true, true, true, true, true, true, true, false, false, false, false, false, false]
abbrev m51_ : Array Bool := #[true, true, true, true, true, true, true, true, true, true, true, true, true, true, true, true, true, true, true, true, true, true, true, true, true, true, true, true, true, true, true, true, true, true, true, true, true, true, false, false, false, false, false]
abbrev m52_ : Array Bool := #[true, true, true, true, true, true, true, true, true, true, true, true, true, true, true, true, true, true, true, true, true, true, true, true, true, true, true, true, true, true, true, true, true, true, true, true, true, true, true, false, false, false, false]
abbrev m53_ : Array Bool := #[true, true, true, true, true, true, true, true, true, true, true, true, true, true, true, true, true, true, true, true, true, true, true, true, true, true, true, true, true, true, true, true, true, true, true, true, true, true, true, true, false, false, false]
abbrev m54_ : Array Bool := #[true, true, true, true, true, true, true, true, true, true, true, true, true, true, true, true, true, true, true, true, true, true, true, true, true, true, true, true, true, true, true, true, true, true, true, true, true, true, true, true, true, false, false]
abbrev m55_ : Array Bool := #[true, true, true, true, true, true, true, true, true, true, true, true, true, true, true, true, true, true, true, true, true, true, true, true, true, true, true, true, true, true, true, true, true, true, true, true, true, true, true, true, true, true, false]
abbrev m56_ : Array Bool := #[true, true, true, true, true, true, true, true, true, true, true, true, true, true, true, true, true, true, true, true, true, true, true, true, true, true, true, true, true, true, true, true, true, true, true, true, true, true, true, true, true, true, true]
abbrev m57_ : Array Bool := #[true, true, true, true, true, true, true, true, true, true, true, true, true, true, true, true, true, true, true, true, true, true, true, true, true, true, true, true, true, true, true, true, true, true, false, true, false, false, false, false, false, false, false]
abbrev m58_ : Array Bool := #[true, true, true, true, true, true, true, true, true, true, true, true, true, true, true, true, true, true, true, true, true, true, true, true, true, true, true, true, true, true, true, true, true, true, false, true, false, false, true, false, false, false, false]
abbrev m59_ : Array Bool := #[true, true, true, true, true, true, true, true, true, true, true, true, true, true, true, true, true, true, true, true, true, true, true, true, true, true, true, true, true, true, true, true, true, true, false, true, false, false, true, true, false, false, false]
abbrev m60_ : Array Bool := #[true, true, true, true, true, true, true, true, true, true, true, true, true, true, true, true, true, true, true, true, true, true, true, true, true, true, true, true, true, true, true, true, true, true, true, true, false, false, true, true, false, false, false]
abbrev m61_ : Array Bool := #[true, true, true, true, true, true, true, true, true, true, true, true, true, true, true, true, true, true, true, true, true, true, true, true, true, true, true, true, true, true, true, true, true, true, true, true, true, false, true, true, false, false, false]
abbrev m62_ : Array Bool := #[true, true, true, true, true, true, true, true, true, true, true, true, true, true, true, true, true, true, true, true, true, true, true, true, true, true, true, true, true, true, true, true, true, true, true, true, true, false, true, true, true, false, false]
end Go.Proofs.YtbcddiaplpbhjaaDoor.MDr
