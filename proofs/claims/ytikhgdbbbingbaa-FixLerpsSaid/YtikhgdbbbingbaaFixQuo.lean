/- What the second chapter's laws share: the quotient that is rounded down, the product of big numbers. -/
import Derived.Test.YtikhgdbbbingbaaNumQuo
import Derived.Test.YtikhgdbbbingbaaFix
namespace Go.Proofs.Ytikhgdbbbingbaa
open Go Go.RowKit Go.Proofs.Ytikhgdbbbingbaa.Dg Go.Proofs.Ytikhgdbbbingbaa.Bg
set_option linter.unusedVariables false

set_option maxHeartbeats 4000000 in
theorem floors_any (x y : Int) (v1 v2 : Value) (w : World) (h1 : Is w v1 x) (h2 : Is w v2 y) (s1 : Md x) (s2 : I64 y) (hy : y ≠ 0) :
    Calls Try.prog 38 #[.int .i64 (fitted (flr x y)).1, .int .i64 (fitted (flr x y)).2, v1, v2] w (TellsBool w true) := by
  have HBW := Lib.hid (fun w1 (i1 : Is w1 v1 x) (i2 : Is w1 v2 y) => belowB_any v1 v2 x y w1 i1 i2 s1 s2)
  have HO := Lib.hid (fun a w1 (ha : I64 a) => of_any a w1 ha.1 ha.2)
  have I1 := Lib.hid (fun w1 hb => h1.below (w' := w1) hb)
  have I2 := Lib.hid (fun w1 hb => h2.below (w' := w1) hb)
  have HFL := Lib.hid (fun (hq : I64 (flr x y)) w1 u (i1 : Is w1 v1 x) (i2 : Is w1 v2 y) (i3 : Is w1 u (flr x y)) => floorB_any v1 v2 u x y (flr x y) w1 i1 i2 i3 s1 (md_i64 s2) (md_i64 hq) (md_mul hq s2))
  obtain ⟨a1, c1, rfl, r1⟩ := h1.form
  obtain ⟨a2, c2, rfl, r2⟩ := h2.form
  have hm0 := canon_nil (n := y.natAbs)
  obtain ⟨b1, e1⟩ : ∃ b, decide (x < 0) = b := ⟨_, rfl⟩
  obtain ⟨b2, e2⟩ : ∃ b, decide (y < 0) = b := ⟨_, rfl⟩
  obtain ⟨l1, f1⟩ : ∃ b, (canon x.natAbs).length = b := ⟨_, rfl⟩
  obtain ⟨l2, f2⟩ : ∃ b, (canon y.natAbs).length = b := ⟨_, rfl⟩
  rw [e1, f1] at I1 HBW HFL
  rw [e2, f2] at I2 HBW HFL
  rw [f2] at hm0
  rw [e1, e2, f1, f2]
  have BX := Lib.hid (box_new w b1 (.slice a1 l1 c1))
  obtain ⟨W1, hW1⟩ : ∃ W1, w.alloc (.cells #[.bool b1, .slice a1 l1 c1] 29) = W1 := ⟨_, rfl⟩
  have s11 : W1.heap.size = w.heap.size + 1 := by rw [← hW1]; simp
  have BB1 : Below w.heap.size w W1 := by rw [← hW1]; exact (Below.refl _ _).alloc (Nat.le_refl _) _
  rw [hW1] at BX
  have BY := Lib.hid (box_new W1 b2 (.slice a2 l2 c2))
  have BX2 := Lib.hid (BX.out.below (B := W1.heap.size) (by omega) ((Below.refl W1.heap.size W1).alloc (Nat.le_refl _) (.cells #[.bool b2, .slice a2 l2 c2] 29)))
  have BB := Lib.hid (show Below w.heap.size w (W1.alloc (.cells #[.bool b2, .slice a2 l2 c2] 29)) from BB1.alloc (by omega) _)
  rw [s11] at BY
  rw [← hW1] at BX2 BY BB
  change Hid (Box w.heap.size b1 (.slice a1 l1 c1) (tw2 w b1 b2 a1 a2 l1 l2 c1 c2)) at BX2
  change Hid (Box (w.heap.size + 1) b2 (.slice a2 l2 c2) (tw2 w b1 b2 a1 a2 l1 l2 c1 c2)) at BY
  change Hid (Below w.heap.size w (tw2 w b1 b2 a1 a2 l1 l2 c1 c2)) at BB
  have BS := Lib.hid (show (tw2 w b1 b2 a1 a2 l1 l2 c1 c2).heap.size = w.heap.size + 2 by unfold tw2; simp)
  clear h1 h2 r1 r2 e1 e2 f1 f2 s1 s2 hW1 s11 BB1 BX W1
  · skip
    have k1 := lo_any x y hy
    have k2 := hi_any x y hy
    have k3 := fl_any x y hy
    rw [k1, k2] at HBW
    rw [k3] at HFL
    clear hm0 k1 k2 k3
    obtain ⟨q, hq⟩ : ∃ q, flr x y = q := ⟨_, rfl⟩
    rw [hq] at HBW HFL ⊢
    clear hq hy
    by_cases hf : fits q
    · rw [fitted_in hf, decide_eq_false (show ¬ q < -9223372036854775808 by have := hf.1; omega), decide_eq_false (show ¬ 9223372036854775808 ≤ q by have := hf.2; omega)] at *
      have HQ := Lib.hid (show I64 q from hf)
      have HFL2 := Lib.hid (HFL.out hf)
      clear hf HFL
      go_enter Try.func38, Try.ntmps38
      go_upto_region 1 with fail
      change Code.wp _ _ _ _ (tw2 w b1 b2 a1 a2 l1 l2 c1 c2)
      obtain ⟨W, hW⟩ : ∃ W, tw2 w b1 b2 a1 a2 l1 l2 c1 c2 = W := ⟨_, rfl⟩
      rw [hW] at BX2 BY BB BS ⊢
      clear hW
      obtain ⟨x0, x1⟩ := BX2.out
      obtain ⟨y0, y1⟩ := BY.out
      go_wp2_with (first
        | (go_at_call 66; refine (HBW.out _ (I1.out _ BB.out) (I2.out _ BB.out)).mono ?_; rintro e w1 ⟨rfl, hbl⟩; have B1 := Lib.hid hbl; obtain ⟨x0', x1'⟩ := BX2.out.below (by have := BS.out; omega) hbl; obtain ⟨y0', y1'⟩ := BY.out.below (by have := BS.out; omega) hbl; clear hbl))
      go_region_held3 (fun w' => w'.cell? ⟨w.heap.size, 0, none⟩ = some (.bool b1) ∧ w'.cell? ⟨w.heap.size, 1, none⟩ = some (.slice a1 l1 c1) ∧ w'.cell? ⟨w.heap.size + 1, 0, none⟩ = some (.bool b2) ∧ w'.cell? ⟨w.heap.size + 1, 1, none⟩ = some (.slice a2 l2 c2))
        (first | exact ⟨x0'', x1'', y0'', y1''⟩ | go_keep)
        (first
          | (go_at_call 67; refine (HFL2.out _ _ (I1.out _ (BB.out.trans (B2.out.mono BB.out.size))) (I2.out _ (BB.out.trans (B2.out.mono BB.out.size))) R2.out).mono ?_; rintro e w3 ⟨rfl, hbl⟩; have B3 := Lib.hid (B2.out.trans (hbl.mono B2.out.size)); clear x0'' x1'' y0'' y1''; obtain ⟨x0'', x1''⟩ := BX2.out.below (by have := BS.out; omega) B3.out; obtain ⟨y0'', y1''⟩ := BY.out.below (by have := BS.out; omega) B3.out; clear hbl)
          | (go_at_call 26; refine (HO.out _ _ HQ.out).mono ?_; rintro e w2 ⟨r, rfl, hi, hbl⟩; have hbl2 : Below w1.heap.size w1 w2 := (by first | exact hbl | exact below_undrew hbl); have B2 := Lib.hid (B1.out.trans (hbl2.mono B1.out.size)); obtain ⟨x0'', x1''⟩ := BX2.out.below (by have := BS.out; omega) B2.out; obtain ⟨y0'', y1''⟩ := BY.out.below (by have := BS.out; omega) B2.out; have R2 := Lib.hid hi; clear hi hbl hbl2))
      go_wp2
      go_ret
      exact ⟨rfl, BB.out.trans (B3.out.mono BB.out.size)⟩
    · rw [fitted_out hf]
      have hor : decide (q < -9223372036854775808) = true ∨ decide (q < -9223372036854775808) = false ∧ decide (9223372036854775808 ≤ q) = true := by
        unfold fits at hf
        by_cases h : q < -9223372036854775808
        · exact Or.inl (decide_eq_true h)
        · exact Or.inr ⟨decide_eq_false h, decide_eq_true (by omega)⟩
      obtain ⟨lo, hlo⟩ : ∃ b, decide (q < -9223372036854775808) = b := ⟨_, rfl⟩
      obtain ⟨hi, hhi⟩ : ∃ b, decide (9223372036854775808 ≤ q) = b := ⟨_, rfl⟩
      rw [hlo] at HBW hor
      rw [hhi] at HBW hor
      clear hlo hhi hf HFL
      rcases hor with rfl | ⟨rfl, rfl⟩
      all_goals
        go_enter Try.func38, Try.ntmps38
        go_upto_region 1 with fail
        change Code.wp _ _ _ _ (tw2 w b1 b2 a1 a2 l1 l2 c1 c2)
        obtain ⟨W, hW⟩ : ∃ W, tw2 w b1 b2 a1 a2 l1 l2 c1 c2 = W := ⟨_, rfl⟩
        rw [hW] at BX2 BY BB BS ⊢
        clear hW
        obtain ⟨x0, x1⟩ := BX2.out
        obtain ⟨y0, y1⟩ := BY.out
        go_wp2_with (first
          | (go_at_call 66; refine (HBW.out _ (I1.out _ BB.out) (I2.out _ BB.out)).mono ?_; rintro e w1 ⟨rfl, hbl⟩; have B1 := Lib.hid hbl; clear hbl))
        go_ret
        exact ⟨rfl, BB.out.trans (B1.out.mono BB.out.size)⟩

theorem zero_free (w : World) (B : Nat) (h : B = w.heap.size) : (w.alloc (.cells #[.bool false, .slice none 0 0] 29)).frozen? ⟨B, 0, none⟩ = false ∧ (w.alloc (.cells #[.bool false, .slice none 0 0] 29)).frozen? ⟨B, 1, none⟩ = false := by
  subst h
  exact ⟨World.frozen?_alloc_at _ _ _ _ rfl, World.frozen?_alloc_at _ _ _ _ rfl⟩

set_option maxHeartbeats 2000000 in
theorem refMul_any (a b : Int) (w : World) (ha : I64 a) (hb : I64 b) : Calls Try.prog 39 #[.int .i64 a, .int .i64 b] w (TellsBig w (a * b)) := by
  have HO := Lib.hid (fun a w1 (ha : I64 a) => of_any a w1 ha.1 ha.2)
  have HM := Lib.hid (fun w u v (hu : Is w u a) (hv : Is w v b) => mulB_any u v a b w hu hv (sm_i64 ha) (sm_i64 hb) (md_mul ha hb).sm)
  have HA := Lib.hid ha
  have HB := Lib.hid hb
  obtain ⟨z, hz⟩ : ∃ z, a * b = z := ⟨_, rfl⟩
  rw [hz] at HM ⊢
  have Z := Lib.hid (zero_at w w.heap.size rfl)
  have ZF := Lib.hid (zero_free w w.heap.size rfl)
  have BW := Lib.hid (show Below w.heap.size w (w.alloc (.cells #[.bool false, .slice none 0 0] 29)) from (Below.refl _ _).alloc (Nat.le_refl _) _)
  have BS := Lib.hid (show (w.alloc (.cells #[.bool false, .slice none 0 0] 29)).heap.size = w.heap.size + 1 by simp)
  clear hz ha hb
  go_enter Try.func39, Try.ntmps39
  go_upto_region 1 with fail
  obtain ⟨V, hV⟩ : ∃ V, w.alloc (.cells #[.bool false, .slice none 0 0] 29) = V := ⟨_, rfl⟩
  rw [hV] at Z ZF BW BS ⊢
  clear hV
  go_wp2_with fail
  refine (HO.out _ _ HA.out).mono ?_
  rintro e w1 ⟨r1, rfl, hi, hbl⟩
  have R1 := Lib.hid hi
  have B1 := Lib.hid (show Below V.heap.size V w1 from hbl)
  clear hi hbl
  go_wp2_with fail
  refine (HO.out _ _ HB.out).mono ?_
  rintro e w2 ⟨r2, rfl, hi, hbl⟩
  have R2 := Lib.hid hi
  have R1' := Lib.hid (R1.out.below hbl)
  have B2 := Lib.hid (B1.out.trans (hbl.mono B1.out.size))
  clear hi hbl R1
  go_wp2_with fail
  refine (HM.out _ _ _ R1'.out R2.out).mono ?_
  rintro e w3 ⟨r3, rfl, hi, hbl⟩
  obtain ⟨sa, scp, rfl, hrd⟩ := hi.form
  have RD := Lib.hid hrd
  have B3 := Lib.hid (B2.out.trans (hbl.mono B2.out.size))
  clear hi hbl hrd R1' R2
  have k0 := (B3.out.cell (p := ⟨w.heap.size, 0, none⟩) (show w.heap.size < V.heap.size by have := BS.out; omega)).trans Z.out.1
  have k1 := (B3.out.cell (p := ⟨w.heap.size, 1, none⟩) (show w.heap.size < V.heap.size by have := BS.out; omega)).trans Z.out.2
  have f0 := (B3.out.frozen (p := ⟨w.heap.size, 0, none⟩) (show w.heap.size < V.heap.size by have := BS.out; omega)).trans ZF.out.1
  have f1 := (B3.out.frozen (p := ⟨w.heap.size, 1, none⟩) (show w.heap.size < V.heap.size by have := BS.out; omega)).trans ZF.out.2
  go_wp2_with fail
  exact bodyPost_ret (res_big Try.results39 rfl (put2_cells k0 k1)) rfl (tells_put2 RD.out k0 k1 (nb _) (ns _ _ _) (BW.out.trans (B3.out.mono BW.out.size)) (by omega))
end Go.Proofs.Ytikhgdbbbingbaa
