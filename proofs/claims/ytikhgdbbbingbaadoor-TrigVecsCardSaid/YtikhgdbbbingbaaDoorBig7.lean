/- What Add, Sub and Cmp do, whatever the signs. -/
import Derived.Test.YtikhgdbbbingbaaDoorBig6
namespace Go.Proofs.YtikhgdbbbingbaaDoor.Bg
open Go Go.RowKit Go.Proofs.YtikhgdbbbingbaaDoor.Dg
set_option linter.unusedVariables false

theorem TellsBig.eq {w w' : World} {x y : Int} {e : Ending} (h : TellsBig w x e w') (hxy : x = y) : TellsBig w y e w' := by rw [← hxy]; exact h

theorem addB_any (v1 v2 : Value) (x y : Int) (w : World) (h1 : Is w v1 x) (h2 : Is w v2 y) (s1 : Sm x) (s2 : Sm y) : Calls Tryd.prog 35 #[v1, v2] w (TellsBig w (x + y)) := by
  obtain ⟨a1, c1, rfl, r1⟩ := h1.form
  obtain ⟨a2, c2, rfl, r2⟩ := h2.form
  have l1 := s1.len
  have l2 := s2.len
  by_cases hx : x < 0 <;> by_cases hy : y < 0
  · rw [decide_eq_true hx, decide_eq_true hy]
    refine (add_same a1 a2 c1 c2 _ _ true w _ _ rfl rfl r1 r2 (by omega) (by omega)).mono fun e w' h => h.eq ?_
    unfold sgn; simp; omega
  · rw [decide_eq_true hx, decide_eq_false hy]
    by_cases hlt : y.natAbs ≤ x.natAbs
    · refine (add_first a1 a2 c1 c2 _ _ true w _ _ rfl rfl r1 r2 (by omega) (by omega) hlt (by omega)).mono fun e w' h => h.eq ?_
      unfold sgn; simp; omega
    · refine (add_second a1 a2 c1 c2 _ _ true w _ _ rfl rfl r1 r2 (by omega) (by omega) (by omega)).mono fun e w' h => h.eq ?_
      unfold sgn; simp; omega
  · rw [decide_eq_false hx, decide_eq_true hy]
    by_cases hlt : y.natAbs ≤ x.natAbs
    · refine (add_first a1 a2 c1 c2 _ _ false w _ _ rfl rfl r1 r2 (by omega) (by omega) hlt (by omega)).mono fun e w' h => h.eq ?_
      unfold sgn; simp; omega
    · refine (add_second a1 a2 c1 c2 _ _ false w _ _ rfl rfl r1 r2 (by omega) (by omega) (by omega)).mono fun e w' h => h.eq ?_
      unfold sgn; simp; omega
  · rw [decide_eq_false hx, decide_eq_false hy]
    refine (add_same a1 a2 c1 c2 _ _ false w _ _ rfl rfl r1 r2 (by omega) (by omega)).mono fun e w' h => h.eq ?_
    unfold sgn; simp; omega

theorem Sm.neg {x : Int} (h : Sm x) : Sm (-x) := ⟨by have := h.2; omega, by have := h.1; omega⟩

set_option maxHeartbeats 2000000 in
theorem subB_any (v1 v2 : Value) (x y : Int) (w : World) (h1 : Is w v1 x) (h2 : Is w v2 y) (s1 : Sm x) (s2 : Sm y) : Calls Tryd.prog 31 #[v1, v2] w (TellsBig w (x - y)) := by
  have I1 := Lib.hid (fun w1 hb => h1.below (w' := w1) hb)
  have HM := Lib.hid (fun w1 hb => minusB_any v2 y w1 (h2.below (w' := w1) hb) s2)
  have HA := Lib.hid (fun w1 r (hi : Is w1 r (-y)) (h1 : Is w1 v1 x) => addB_any v1 r x (-y) w1 h1 hi s1 s2.neg)
  have HE := Lib.hid (show x + -y = x - y by omega)
  obtain ⟨a1, c1, rfl, r1⟩ := h1.form
  obtain ⟨a2, c2, rfl, r2⟩ := h2.form
  obtain ⟨b1, e1⟩ : ∃ b, decide (x < 0) = b := ⟨_, rfl⟩
  obtain ⟨b2, e2⟩ : ∃ b, decide (y < 0) = b := ⟨_, rfl⟩
  obtain ⟨l1, e3⟩ : ∃ b, (canon x.natAbs).length = b := ⟨_, rfl⟩
  obtain ⟨l2, e4⟩ : ∃ b, (canon y.natAbs).length = b := ⟨_, rfl⟩
  rw [e1, e3] at I1 HA ⊢
  rw [e2, e4] at HM ⊢
  rw [HE.out] at HA
  obtain ⟨z, hz⟩ : ∃ z, x - y = z := ⟨_, rfl⟩
  rw [hz] at HA ⊢
  have BX := Lib.hid (boxes_at w b1 (.slice a1 l1 c1) b2 (.slice a2 l2 c2))
  have BB := Lib.hid (boxes_below w b1 (.slice a1 l1 c1) b2 (.slice a2 l2 c2))
  have BS := Lib.hid (boxes_size w b1 (.slice a1 l1 c1) b2 (.slice a2 l2 c2))
  clear h1 h2 r1 r2 e1 e2 e3 e4 hz s1 s2 HE
  go_enter Tryd.func31, Tryd.ntmps31
  go_upto_region 1 with fail
  change Code.wp _ _ _ _ (boxes w b1 (.slice a1 l1 c1) b2 (.slice a2 l2 c2))
  obtain ⟨W, hW⟩ : ∃ W, boxes w b1 (.slice a1 l1 c1) b2 (.slice a2 l2 c2) = W := ⟨_, rfl⟩
  rw [hW] at BX BB BS ⊢
  clear hW
  obtain ⟨x0, x1, y0, y1, z0, z1, f0, f1⟩ := BX.out
  go_region_held3 (fun w' => w'.cell? ⟨w.heap.size, 0, none⟩ = some (.bool b1) ∧ w'.cell? ⟨w.heap.size, 1, none⟩ = some (.slice a1 l1 c1) ∧ w'.cell? ⟨w.heap.size + 1, 0, none⟩ = some (.bool b2) ∧ w'.cell? ⟨w.heap.size + 1, 1, none⟩ = some (.slice a2 l2 c2)) (first | exact ⟨put2_other (by omega) x0'', put2_other (by omega) x1'', put2_other (by omega) y0'', put2_other (by omega) y1''⟩ | go_keep)
    (first
      | (go_at_call 37; refine (HM.out _ (by first | exact BB.out | exact BB.out.drew)).mono ?_; rintro e w1 ⟨r, rfl, hi, hbl⟩; have hbl2 : Below W.heap.size W w1 := (by first | exact hbl | exact below_undrew hbl); have BX1 := Lib.hid (BX.out.below (by have := BS.out; omega) hbl2); obtain ⟨x0', x1', y0', y1', z0', z1', f0', f1'⟩ := BX1.out; have R := Lib.hid hi; have B1 := Lib.hid hbl2; clear hi hbl hbl2)
      | (go_at_call 35; refine (HA.out _ _ R.out (I1.out _ (BB.out.trans (B1.out.mono BB.out.size)))).mono ?_; rintro e w2 ⟨r, rfl, hIs, hbl⟩; obtain ⟨sa, scp, rfl, hrd⟩ := hIs.form; have BX2 := Lib.hid (BX1.out.below (by have := BS.out; have := B1.out.size; omega) hbl); obtain ⟨x0'', x1'', y0'', y1'', z0'', z1'', f0'', f1''⟩ := BX2.out; have RD := Lib.hid hrd; have B2 := Lib.hid hbl; clear hIs hrd hbl))
  go_wp2
  exact bodyPost_ret (res_big Tryd.results31 rfl (put2_cells z0'' z1'')) rfl (tells_put2 RD.out z0'' z1'' (nb _) (ns _ _ _) (BB.out.trans ((B1.out.mono BB.out.size).trans (B2.out.mono (Nat.le_trans BB.out.size B1.out.size)))) (by omega))
end Go.Proofs.YtikhgdbbbingbaaDoor.Bg
