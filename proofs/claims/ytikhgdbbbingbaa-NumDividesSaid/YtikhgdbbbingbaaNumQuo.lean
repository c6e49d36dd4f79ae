/- What the laws' quotient does. -/
import Derived.Test.YtikhgdbbbingbaaNumIs
namespace Go.Proofs.Ytikhgdbbbingbaa
open Go Go.RowKit Go.Proofs.Ytikhgdbbbingbaa.Dg Go.Proofs.Ytikhgdbbbingbaa.Bg
set_option linter.unusedVariables false

theorem cmp_lt (x y : Int) : cmpI x y < 0 ↔ x < y := by unfold cmpI; split <;> (try split) <;> omega
theorem cmp_ge (x y : Int) : 0 ≤ cmpI x y ↔ y ≤ x := by unfold cmpI; split <;> (try split) <;> omega

/-- y above 0: below, above, and the floor itself -/
theorem lo_pos (x y : Int) (hy : 0 < y) : loB x y = decide (x / y < -9223372036854775808) := by
  unfold loB
  rw [decide_eq_decide, cmp_lt]
  constructor
  · intro h; exact Int.ediv_lt_of_lt_mul hy h
  · intro h; exact Int.lt_mul_of_ediv_lt hy h
theorem hi_pos (x y : Int) (hy : 0 < y) : hiB x y = decide (9223372036854775808 ≤ x / y) := by
  unfold hiB
  rw [decide_eq_decide, cmp_ge]
  exact (Int.le_ediv_iff_mul_le hy).symm
theorem fl_pos (x y : Int) (hy : 0 < y) : flB x y (x / y) = true := by
  unfold flB
  have h := Int.mul_ediv_add_emod x y
  rw [Int.mul_comm] at h
  have h0 := Int.emod_nonneg x (show y ≠ 0 by omega)
  have h1 := Int.emod_lt_of_pos x hy
  rw [decide_eq_false (show ¬ x - x / y * y < 0 by omega), decide_eq_true ((cmp_lt _ _).2 (show x - x / y * y < y by omega))]; rfl

theorem lo_any (x y : Int) (hy : y ≠ 0) : (if y < 0 then loB (-x) (-y) else loB x y) = decide (flr x y < -9223372036854775808) := by
  unfold flr
  by_cases h : 0 < y
  · rw [if_neg (by omega), if_pos h, lo_pos x y h]
  · rw [if_pos (by omega), if_neg h, lo_pos _ _ (by omega)]
theorem hi_any (x y : Int) (hy : y ≠ 0) : (if y < 0 then hiB (-x) (-y) else hiB x y) = decide (9223372036854775808 ≤ flr x y) := by
  unfold flr
  by_cases h : 0 < y
  · rw [if_neg (by omega), if_pos h, hi_pos x y h]
  · rw [if_pos (by omega), if_neg h, hi_pos _ _ (by omega)]
theorem fl_any (x y : Int) (hy : y ≠ 0) : (if y < 0 then flB (-x) (-y) (flr x y) else flB x y (flr x y)) = true := by
  unfold flr
  by_cases h : 0 < y
  · rw [if_neg (by omega), if_pos h, fl_pos x y h]
  · rw [if_pos (by omega), if_neg h, fl_pos _ _ (by omega)]

theorem md_i64 {x : Int} (h : I64 x) : Md x := by obtain ⟨a, b⟩ := h; unfold Md; omega
theorem md_mul {x y : Int} (h : I64 x) (k : I64 y) : Md (x * y) := by
  obtain ⟨a, b⟩ := h
  obtain ⟨c, d⟩ := k
  have h1 : (x * y).natAbs ≤ 9223372036854775808 * 9223372036854775808 := by
    rw [Int.natAbs_mul]; exact Nat.mul_le_mul (by omega) (by omega)
  unfold Md; omega

/-- what a quotient is: by 0 refused, else rounded down -/
def quoS (x y : Int) : Int × Int := if y = 0 then (0, 9) else fitted (flr x y)

set_option maxHeartbeats 4000000 in
theorem quo_any (x y : Int) (v1 v2 : Value) (w : World) (h1 : Is w v1 x) (h2 : Is w v2 y) (s1 : Md x) (s2 : I64 y) :
    Calls Try.prog 25 #[.int .i64 (quoS x y).1, .int .i64 (quoS x y).2, v1, v2] w (TellsBool w true) := by
  have HBW := Lib.hid (fun w1 (i1 : Is w1 v1 x) (i2 : Is w1 v2 y) => belowB_any v1 v2 x y w1 i1 i2 s1 s2)
  have HO := Lib.hid (fun a w1 (ha : I64 a) => of_any a w1 ha.1 ha.2)
  have I1 := Lib.hid (fun w1 hb => h1.below (w' := w1) hb)
  have I2 := Lib.hid (fun w1 hb => h2.below (w' := w1) hb)
  have HFL := Lib.hid (fun (hq : I64 (flr x y)) w1 u (i1 : Is w1 v1 x) (i2 : Is w1 v2 y) (i3 : Is w1 u (flr x y)) => floorB_any v1 v2 u x y (flr x y) w1 i1 i2 i3 s1 (md_i64 s2) (md_i64 hq) (md_mul hq s2))
  obtain ⟨a1, c1, rfl, r1⟩ := h1.form
  obtain ⟨a2, c2, rfl, r2⟩ := h2.form
  have hm0 := canon_nil (n := y.natAbs)
  obtain ⟨b1, e1⟩ : ∃ b, decide (x < 0) = b := ⟨_, rfl⟩
  obtain ⟨b2, e2⟩ : ∃ b, decide (y < 0) = b := ⟨_, rfl⟩
  obtain ⟨l1, f1⟩ : ∃ b, (canon x.natAbs).length = b := ⟨_, rfl⟩
  obtain ⟨l2, f2⟩ : ∃ b, (canon y.natAbs).length = b := ⟨_, rfl⟩
  rw [e1, f1] at I1 HBW HFL
  rw [e2, f2] at I2 HBW HFL
  rw [f2] at hm0
  rw [e1, e2, f1, f2]
  have BX := Lib.hid (box_new w b1 (.slice a1 l1 c1))
  obtain ⟨W1, hW1⟩ : ∃ W1, w.alloc (.cells #[.bool b1, .slice a1 l1 c1] 29) = W1 := ⟨_, rfl⟩
  have s11 : W1.heap.size = w.heap.size + 1 := by rw [← hW1]; simp
  have BB1 : Below w.heap.size w W1 := by rw [← hW1]; exact (Below.refl _ _).alloc (Nat.le_refl _) _
  rw [hW1] at BX
  have BY := Lib.hid (box_new W1 b2 (.slice a2 l2 c2))
  have BX2 := Lib.hid (BX.out.below (B := W1.heap.size) (by omega) ((Below.refl W1.heap.size W1).alloc (Nat.le_refl _) (.cells #[.bool b2, .slice a2 l2 c2] 29)))
  have BB := Lib.hid (show Below w.heap.size w (W1.alloc (.cells #[.bool b2, .slice a2 l2 c2] 29)) from BB1.alloc (by omega) _)
  rw [s11] at BY
  rw [← hW1] at BX2 BY BB
  change Hid (Box w.heap.size b1 (.slice a1 l1 c1) (tw2 w b1 b2 a1 a2 l1 l2 c1 c2)) at BX2
  change Hid (Box (w.heap.size + 1) b2 (.slice a2 l2 c2) (tw2 w b1 b2 a1 a2 l1 l2 c1 c2)) at BY
  change Hid (Below w.heap.size w (tw2 w b1 b2 a1 a2 l1 l2 c1 c2)) at BB
  have BS := Lib.hid (show (tw2 w b1 b2 a1 a2 l1 l2 c1 c2).heap.size = w.heap.size + 2 by unfold tw2; simp)
  clear h1 h2 r1 r2 e1 e2 f1 f2 s1 s2 hW1 s11 BB1 BX W1
  by_cases hy : y = 0
  · obtain rfl : l2 = 0 := hm0.2 (by omega)
    have hq : quoS x y = (0, 9) := if_pos hy
    rw [hq]
    clear hm0 hy hq
    go_enter Try.func25, Try.ntmps25
    go_wp2
    go_ret
    exact ⟨rfl, BB.out⟩
  · have hmp : ((l2 : Int) == 0) = false := by have := mt hm0.1 (by omega); simp; omega
    have hq : quoS x y = fitted (flr x y) := if_neg hy
    rw [hq]
    have k1 := lo_any x y hy
    have k2 := hi_any x y hy
    have k3 := fl_any x y hy
    rw [k1, k2] at HBW
    rw [k3] at HFL
    clear hm0 k1 k2 k3 hq
    obtain ⟨q, hq⟩ : ∃ q, flr x y = q := ⟨_, rfl⟩
    rw [hq] at HBW HFL ⊢
    clear hq hy
    by_cases hf : fits q
    · rw [fitted_in hf, decide_eq_false (show ¬ q < -9223372036854775808 by have := hf.1; omega), decide_eq_false (show ¬ 9223372036854775808 ≤ q by have := hf.2; omega)] at *
      have HQ := Lib.hid (show I64 q from hf)
      have HFL2 := Lib.hid (HFL.out hf)
      clear hf HFL
      go_enter Try.func25, Try.ntmps25
      go_upto_region 3 with fail
      change Code.wp _ _ _ _ (tw2 w b1 b2 a1 a2 l1 l2 c1 c2)
      obtain ⟨W, hW⟩ : ∃ W, tw2 w b1 b2 a1 a2 l1 l2 c1 c2 = W := ⟨_, rfl⟩
      rw [hW] at BX2 BY BB BS ⊢
      clear hW
      obtain ⟨x0, x1⟩ := BX2.out
      obtain ⟨y0, y1⟩ := BY.out
      go_wp2_with (first
        | (go_at_call 66; refine (HBW.out _ (I1.out _ BB.out) (I2.out _ BB.out)).mono ?_; rintro e w1 ⟨rfl, hbl⟩; have B1 := Lib.hid hbl; obtain ⟨x0', x1'⟩ := BX2.out.below (by have := BS.out; omega) hbl; obtain ⟨y0', y1'⟩ := BY.out.below (by have := BS.out; omega) hbl; clear hbl))
      go_region_held3 (fun w' => w'.cell? ⟨w.heap.size, 0, none⟩ = some (.bool b1) ∧ w'.cell? ⟨w.heap.size, 1, none⟩ = some (.slice a1 l1 c1) ∧ w'.cell? ⟨w.heap.size + 1, 0, none⟩ = some (.bool b2) ∧ w'.cell? ⟨w.heap.size + 1, 1, none⟩ = some (.slice a2 l2 c2))
        (first | exact ⟨x0'', x1'', y0'', y1''⟩ | go_keep)
        (first
          | (go_at_call 67; refine (HFL2.out _ _ (I1.out _ (BB.out.trans (B2.out.mono BB.out.size))) (I2.out _ (BB.out.trans (B2.out.mono BB.out.size))) R2.out).mono ?_; rintro e w3 ⟨rfl, hbl⟩; have B3 := Lib.hid (B2.out.trans (hbl.mono B2.out.size)); clear x0'' x1'' y0'' y1''; obtain ⟨x0'', x1''⟩ := BX2.out.below (by have := BS.out; omega) B3.out; obtain ⟨y0'', y1''⟩ := BY.out.below (by have := BS.out; omega) B3.out; clear hbl)
          | (go_at_call 26; refine (HO.out _ _ HQ.out).mono ?_; rintro e w2 ⟨r, rfl, hi, hbl⟩; have hbl2 : Below w1.heap.size w1 w2 := (by first | exact hbl | exact below_undrew hbl); have B2 := Lib.hid (B1.out.trans (hbl2.mono B1.out.size)); obtain ⟨x0'', x1''⟩ := BX2.out.below (by have := BS.out; omega) B2.out; obtain ⟨y0'', y1''⟩ := BY.out.below (by have := BS.out; omega) B2.out; have R2 := Lib.hid hi; clear hi hbl hbl2))
      go_wp2
      go_ret
      exact ⟨rfl, BB.out.trans (B3.out.mono BB.out.size)⟩
    · rw [fitted_out hf]
      have hor : decide (q < -9223372036854775808) = true ∨ decide (q < -9223372036854775808) = false ∧ decide (9223372036854775808 ≤ q) = true := by
        unfold fits at hf
        by_cases h : q < -9223372036854775808
        · exact Or.inl (decide_eq_true h)
        · exact Or.inr ⟨decide_eq_false h, decide_eq_true (by omega)⟩
      obtain ⟨lo, hlo⟩ : ∃ b, decide (q < -9223372036854775808) = b := ⟨_, rfl⟩
      obtain ⟨hi, hhi⟩ : ∃ b, decide (9223372036854775808 ≤ q) = b := ⟨_, rfl⟩
      rw [hlo] at HBW hor
      rw [hhi] at HBW hor
      clear hlo hhi hf HFL
      rcases hor with rfl | ⟨rfl, rfl⟩
      all_goals
        go_enter Try.func25, Try.ntmps25
        go_upto_region 3 with fail
        change Code.wp _ _ _ _ (tw2 w b1 b2 a1 a2 l1 l2 c1 c2)
        obtain ⟨W, hW⟩ : ∃ W, tw2 w b1 b2 a1 a2 l1 l2 c1 c2 = W := ⟨_, rfl⟩
        rw [hW] at BX2 BY BB BS ⊢
        clear hW
        obtain ⟨x0, x1⟩ := BX2.out
        obtain ⟨y0, y1⟩ := BY.out
        go_wp2_with (first
          | (go_at_call 66; refine (HBW.out _ (I1.out _ BB.out) (I2.out _ BB.out)).mono ?_; rintro e w1 ⟨rfl, hbl⟩; have B1 := Lib.hid hbl; clear hbl))
        go_ret
        exact ⟨rfl, BB.out.trans (B1.out.mono BB.out.size)⟩
end Go.Proofs.Ytikhgdbbbingbaa
