/- What Add and Sub do. -/
import Derived.Test.YtikhgdbbbingbaaDoorBig5
namespace Go.Proofs.YtikhgdbbbingbaaDoor.Bg
open Go Go.RowKit Go.Proofs.YtikhgdbbbingbaaDoor.Dg
set_option linter.unusedVariables false

theorem canon_mono (m n : Nat) (h : m ≤ n) : (canon m).length ≤ (canon n).length := canon_len m _ (by
  have h1 := val_lt (canon_ok n)
  rw [val_canon] at h1; omega)

theorem minus_any (v1 v2 : Value) (n m : Nat) (w : World) (h1 : Reads w v1 (canon n)) (h2 : Reads w v2 (canon m)) (hm : m ≤ n) (hn : 0 < n) (hl : (canon n).length ≤ 1000) :
    Calls Tryd.prog 41 #[v1, v2] w (Told w ((n : Int) - m) (canon n).length) := by
  rcases h1 with ⟨rfl, e⟩ | ⟨b, off, len, cap, rfl, rfl, hc, hs, hr⟩
  · rw [canon_pos n hn] at e; cases e
  · have := minus_row b off cap v2 (canon n) (canon m) w hs hc hr h2 (canon_ok n) (canon_ok m) (by omega) (canon_mono m n hm) (by rw [val_canon, val_canon]; omega)
    rw [val_canon, val_canon] at this
    exact this

theorem put2_other {w : World} {B b o : Nat} {x y v : Value} (hne : B ≠ b) (h : w.cell? ⟨b, o, none⟩ = some v) : (put2 w B x y).cell? ⟨b, o, none⟩ = some v := by
  unfold put2
  rw [World.cell?_setCell_other _ _ _ _ (fun e => hne (congrArg Addr.block e)), World.cell?_setCell_other _ _ _ _ (fun e => hne (congrArg Addr.block e))]; exact h
theorem below_undrew {B : Nat} {w w' : World} (h : Below B w.drew w') : Below B w w' := ⟨h.os, h.tape, h.output, h.size, h.block⟩

/-- the three boxes of a call of two numbers -/
def boxes (w : World) (b0 : Bool) (s0 : Value) (b1 : Bool) (s1 : Value) : World :=
  ((w.alloc (.cells #[.bool b0, s0] 38)).alloc (.cells #[.bool b1, s1] 38)).alloc (.cells #[.bool false, .slice none 0 0] 38)
theorem boxes_below (w : World) (b0 : Bool) (s0 : Value) (b1 : Bool) (s1 : Value) : Below w.heap.size w (boxes w b0 s0 b1 s1) :=
  (((Below.refl _ _).alloc (Nat.le_refl _) _).alloc (by simp) _).alloc (by simp; omega) _
theorem boxes_size (w : World) (b0 : Bool) (s0 : Value) (b1 : Bool) (s1 : Value) : (boxes w b0 s0 b1 s1).heap.size = w.heap.size + 3 := by unfold boxes; simp

/-- what lies in the boxes, in whatever world behind -/
structure BoxesAt (w w' : World) (b0 : Bool) (s0 : Value) (b1 : Bool) (s1 : Value) : Prop where
  x0 : w'.cell? ⟨w.heap.size, 0, none⟩ = some (.bool b0)
  x1 : w'.cell? ⟨w.heap.size, 1, none⟩ = some s0
  y0 : w'.cell? ⟨w.heap.size + 1, 0, none⟩ = some (.bool b1)
  y1 : w'.cell? ⟨w.heap.size + 1, 1, none⟩ = some s1
  z0 : w'.cell? ⟨w.heap.size + 2, 0, none⟩ = some (.bool false)
  z1 : w'.cell? ⟨w.heap.size + 2, 1, none⟩ = some (.slice none 0 0)
  f0 : w'.frozen? ⟨w.heap.size + 2, 0, none⟩ = false
  f1 : w'.frozen? ⟨w.heap.size + 2, 1, none⟩ = false
theorem boxes_at (w : World) (b0 : Bool) (s0 : Value) (b1 : Bool) (s1 : Value) : BoxesAt w (boxes w b0 s0 b1 s1) b0 s0 b1 s1 := by
  unfold boxes
  refine ⟨?_, ?_, ?_, ?_, ?_, ?_, ?_, ?_⟩
  · rw [World.cell?_alloc_past _ _ _ (by simp <;> omega), World.cell?_alloc_past _ _ _ (by simp), World.cell?_alloc_at _ _ _ _ rfl]; rfl
  · rw [World.cell?_alloc_past _ _ _ (by simp <;> omega), World.cell?_alloc_past _ _ _ (by simp), World.cell?_alloc_at _ _ _ _ rfl]; rfl
  · rw [World.cell?_alloc_past _ _ _ (by simp), World.cell?_alloc_at _ _ _ _ (by simp)]; rfl
  · rw [World.cell?_alloc_past _ _ _ (by simp), World.cell?_alloc_at _ _ _ _ (by simp)]; rfl
  · rw [World.cell?_alloc_at _ _ _ _ (by simp)]; rfl
  · rw [World.cell?_alloc_at _ _ _ _ (by simp)]; rfl
  · rw [World.frozen?_alloc_at _ _ _ _ (by simp)]
  · rw [World.frozen?_alloc_at _ _ _ _ (by simp)]
theorem BoxesAt.below {w w' w2 : World} {b0 : Bool} {s0 : Value} {b1 : Bool} {s1 : Value} (h : BoxesAt w w' b0 s0 b1 s1) (hs : w.heap.size + 3 ≤ w'.heap.size) (hb : Below w'.heap.size w' w2) : BoxesAt w w2 b0 s0 b1 s1 := by
  obtain ⟨a, b, c, d, e, f, g, i⟩ := h
  refine ⟨?_, ?_, ?_, ?_, ?_, ?_, ?_, ?_⟩
  all_goals first
    | (rw [hb.cell (show _ < w'.heap.size by show _ < _; simp only; omega)]; assumption)
    | (rw [hb.frozen (show _ < w'.heap.size by show _ < _; simp only; omega)]; assumption)
theorem BoxesAt.drewN {w w' : World} {b0 : Bool} {s0 : Value} {b1 : Bool} {s1 : Value} (h : BoxesAt w w' b0 s0 b1 s1) (n : Nat) : BoxesAt w (w'.drewN n) b0 s0 b1 s1 := ⟨h.x0, h.x1, h.y0, h.y1, h.z0, h.z1, h.f0, h.f1⟩

set_option maxHeartbeats 2000000 in
theorem add_same (a1 a2 : Option Addr) (c1 c2 : Nat) (n1 n2 : Nat) (b : Bool) (w : World) (l1 l2 : Nat) (e1 : (canon n1).length = l1) (e2 : (canon n2).length = l2)
    (h1 : Reads w (.slice a1 l1 c1) (canon n1)) (h2 : Reads w (.slice a2 l2 c2) (canon n2)) (hl1 : l1 ≤ 1000) (hl2 : l2 ≤ 1000) :
    Calls Tryd.prog 35 #[.agg #[.bool b, .slice a1 l1 c1], .agg #[.bool b, .slice a2 l2 c2]] w (TellsBig w (sgn b ((n1 : Int) + n2))) := by
  have BX := Lib.hid (boxes_at w b (.slice a1 l1 c1) b (.slice a2 l2 c2))
  have BB := Lib.hid (boxes_below w b (.slice a1 l1 c1) b (.slice a2 l2 c2))
  have BS := Lib.hid (boxes_size w b (.slice a1 l1 c1) b (.slice a2 l2 c2))
  have HP := Lib.hid (fun w1 hb => plus_any _ _ _ _ w1 (h1.below (w' := w1) hb) (h2.below (w' := w1) hb) (canon_ok _) (canon_ok _) (by omega) (by omega))
  rw [val_canon, val_canon] at HP
  have HT := Lib.hid (fun w1 v ds (hr : Reads w1 v ds) ho hl => trim_any b v ds w1 hr ho hl)
  obtain ⟨z, hz⟩ : ∃ z, (n1 : Int) + n2 = z := ⟨_, rfl⟩
  rw [hz] at HP ⊢
  obtain ⟨L, hL⟩ : ∃ L, (canon n1).length + (canon n2).length + 1 = L := ⟨_, rfl⟩
  rw [hL] at HP
  have hL2 : L ≤ 100000 := by omega
  clear hL
  clear h1 h2 hz e1 e2
  have hbb : ((b : Bool) == b) = true := by cases b <;> rfl
  go_enter Tryd.func35, Tryd.ntmps35
  go_upto_region 2 with fail
  change Code.wp _ _ _ _ (boxes w b (.slice a1 l1 c1) b (.slice a2 l2 c2))
  obtain ⟨W, hW⟩ : ∃ W, boxes w b (.slice a1 l1 c1) b (.slice a2 l2 c2) = W := ⟨_, rfl⟩
  rw [hW] at BX BB BS ⊢
  clear hW
  obtain ⟨x0, x1, y0, y1, z0, z1, f0, f1⟩ := BX.out
  go_region_held3 (fun w' => w'.cell? ⟨w.heap.size, 0, none⟩ = some (.bool b) ∧ w'.cell? ⟨w.heap.size, 1, none⟩ = some (.slice a1 l1 c1) ∧ w'.cell? ⟨w.heap.size + 1, 0, none⟩ = some (.bool b) ∧ w'.cell? ⟨w.heap.size + 1, 1, none⟩ = some (.slice a2 l2 c2)) (first | exact ⟨put2_other (by omega) x0'', put2_other (by omega) x1'', put2_other (by omega) y0'', put2_other (by omega) y1''⟩ | go_keep)
    (first
      | (go_at_call 39; refine (HP.out _ (by first | exact BB.out | exact BB.out.drew)).mono ?_; rintro e w1 ⟨r, ds, rfl, hr, ho, hv, hl, hbl⟩; have hbl2 : Below W.heap.size W w1 := (by first | exact hbl | exact below_undrew hbl); have BX1 := Lib.hid (BX.out.below (by have := BS.out; omega) hbl2); obtain ⟨x0', x1', y0', y1', z0', z1', f0', f1'⟩ := BX1.out; have R := Lib.hid hr; have O := Lib.hid ho; have V := Lib.hid hv; have B1 := Lib.hid hbl2; clear hr ho hv hbl hbl2)
      | (go_at_call 30; refine (HT.out _ _ _ R.out O.out (by omega)).mono ?_; rintro e w2 ⟨r, rfl, hIs, hbl⟩; rw [V.out] at hIs; obtain ⟨sa, scp, rfl, hrd⟩ := hIs.form; have BX2 := Lib.hid (BX1.out.below (by have := BS.out; have := B1.out.size; omega) hbl); obtain ⟨x0'', x1'', y0'', y1'', z0'', z1'', f0'', f1''⟩ := BX2.out; have RD := Lib.hid hrd; have B2 := Lib.hid hbl; clear hIs hrd hbl))
  go_wp2
  exact bodyPost_ret (res_big Tryd.results35 rfl (put2_cells z0'' z1'')) rfl (tells_put2 RD.out z0'' z1'' (nb _) (ns _ _ _) (BB.out.trans ((B1.out.mono BB.out.size).trans (B2.out.mono (Nat.le_trans BB.out.size B1.out.size)))) (by omega))

set_option maxHeartbeats 2000000 in
theorem add_first (a1 a2 : Option Addr) (c1 c2 : Nat) (n1 n2 : Nat) (b : Bool) (w : World) (l1 l2 : Nat) (e1 : (canon n1).length = l1) (e2 : (canon n2).length = l2)
    (h1 : Reads w (.slice a1 l1 c1) (canon n1)) (h2 : Reads w (.slice a2 l2 c2) (canon n2)) (hl1 : l1 ≤ 1000) (hl2 : l2 ≤ 1000) (hlt : n2 ≤ n1) (hpos : 0 < n1) :
    Calls Tryd.prog 35 #[.agg #[.bool b, .slice a1 l1 c1], .agg #[.bool (!b), .slice a2 l2 c2]] w (TellsBig w (sgn b ((n1 : Int) - n2))) := by
  have BX := Lib.hid (boxes_at w b (.slice a1 l1 c1) (!b) (.slice a2 l2 c2))
  have BB := Lib.hid (boxes_below w b (.slice a1 l1 c1) (!b) (.slice a2 l2 c2))
  have BS := Lib.hid (boxes_size w b (.slice a1 l1 c1) (!b) (.slice a2 l2 c2))
  have HS := Lib.hid (fun w1 hb => sizes_any _ _ _ _ w1 (h1.below (w' := w1) hb) (h2.below (w' := w1) hb) (canon_ok _) (canon_ok _) (by omega) (by omega))
  rw [val_canon, val_canon] at HS
  have hcv : 0 ≤ cmpI (n1 : Int) n2 := by unfold cmpI; rw [if_neg (by omega)]; split <;> omega
  obtain ⟨cv, hcv2⟩ : ∃ cv, cmpI (n1 : Int) n2 = cv := ⟨_, rfl⟩
  unfold CmpPost at HS
  rw [hcv2] at HS hcv
  clear hcv2
  have HP := Lib.hid (fun w1 hb => minus_any _ _ n1 n2 w1 (h1.below (w' := w1) hb) (h2.below (w' := w1) hb) hlt hpos (by omega))
  have HT := Lib.hid (fun w1 v ds (hr : Reads w1 v ds) ho hl => trim_any b v ds w1 hr ho hl)
  obtain ⟨z, hz⟩ : ∃ z, (n1 : Int) - n2 = z := ⟨_, rfl⟩
  rw [hz] at HP ⊢
  obtain ⟨L, hL⟩ : ∃ L, (canon n1).length = L := ⟨_, rfl⟩
  rw [hL] at HP
  have hL2 : L ≤ 100000 := by omega
  clear hL
  clear h1 h2 hz e1 e2
  have hbb : ((b : Bool) == !b) = false := by cases b <;> rfl
  clear hlt hpos
  go_enter Tryd.func35, Tryd.ntmps35
  go_upto_region 4 with (go_at_call 40; refine (HS.out _ BB.out).mono ?_; rintro e w' ⟨rfl, rfl⟩)
  change Code.wp _ _ _ _ (boxes w b (.slice a1 l1 c1) (!b) (.slice a2 l2 c2))
  obtain ⟨W, hW⟩ : ∃ W, boxes w b (.slice a1 l1 c1) (!b) (.slice a2 l2 c2) = W := ⟨_, rfl⟩
  rw [hW] at BX BB BS ⊢
  clear hW
  obtain ⟨x0, x1, y0, y1, z0, z1, f0, f1⟩ := BX.out
  go_region_held3 (fun w' => w'.cell? ⟨w.heap.size, 0, none⟩ = some (.bool b) ∧ w'.cell? ⟨w.heap.size, 1, none⟩ = some (.slice a1 l1 c1) ∧ w'.cell? ⟨w.heap.size + 1, 0, none⟩ = some (.bool (!b)) ∧ w'.cell? ⟨w.heap.size + 1, 1, none⟩ = some (.slice a2 l2 c2)) (first | exact ⟨put2_other (by omega) x0'', put2_other (by omega) x1'', put2_other (by omega) y0'', put2_other (by omega) y1''⟩ | go_keep)
    (first
      | (go_at_call 41; refine (HP.out _ (by first | exact BB.out | exact BB.out.drew)).mono ?_; rintro e w1 ⟨r, ds, rfl, hr, ho, hv, hl, hbl⟩; have hbl2 : Below W.heap.size W w1 := (by first | exact hbl | exact below_undrew hbl); have BX1 := Lib.hid (BX.out.below (by have := BS.out; omega) hbl2); obtain ⟨x0', x1', y0', y1', z0', z1', f0', f1'⟩ := BX1.out; have R := Lib.hid hr; have O := Lib.hid ho; have V := Lib.hid hv; have B1 := Lib.hid hbl2; clear hr ho hv hbl hbl2)
      | (go_at_call 30; refine (HT.out _ _ _ R.out O.out (by omega)).mono ?_; rintro e w2 ⟨r, rfl, hIs, hbl⟩; rw [V.out] at hIs; obtain ⟨sa, scp, rfl, hrd⟩ := hIs.form; have BX2 := Lib.hid (BX1.out.below (by have := BS.out; have := B1.out.size; omega) hbl); obtain ⟨x0'', x1'', y0'', y1'', z0'', z1'', f0'', f1''⟩ := BX2.out; have RD := Lib.hid hrd; have B2 := Lib.hid hbl; clear hIs hrd hbl))
  go_wp2
  exact bodyPost_ret (res_big Tryd.results35 rfl (put2_cells z0'' z1'')) rfl (tells_put2 RD.out z0'' z1'' (nb _) (ns _ _ _) (BB.out.trans ((B1.out.mono BB.out.size).trans (B2.out.mono (Nat.le_trans BB.out.size B1.out.size)))) (by omega))

set_option maxHeartbeats 2000000 in
theorem add_second (a1 a2 : Option Addr) (c1 c2 : Nat) (n1 n2 : Nat) (b : Bool) (w : World) (l1 l2 : Nat) (e1 : (canon n1).length = l1) (e2 : (canon n2).length = l2)
    (h1 : Reads w (.slice a1 l1 c1) (canon n1)) (h2 : Reads w (.slice a2 l2 c2) (canon n2)) (hl1 : l1 ≤ 1000) (hl2 : l2 ≤ 1000) (hlt : n1 < n2) :
    Calls Tryd.prog 35 #[.agg #[.bool b, .slice a1 l1 c1], .agg #[.bool (!b), .slice a2 l2 c2]] w (TellsBig w (sgn (!b) ((n2 : Int) - n1))) := by
  have BX := Lib.hid (boxes_at w b (.slice a1 l1 c1) (!b) (.slice a2 l2 c2))
  have BB := Lib.hid (boxes_below w b (.slice a1 l1 c1) (!b) (.slice a2 l2 c2))
  have BS := Lib.hid (boxes_size w b (.slice a1 l1 c1) (!b) (.slice a2 l2 c2))
  have HS := Lib.hid (fun w1 hb => sizes_any _ _ _ _ w1 (h1.below (w' := w1) hb) (h2.below (w' := w1) hb) (canon_ok _) (canon_ok _) (by omega) (by omega))
  rw [val_canon, val_canon] at HS
  have hcv : cmpI (n1 : Int) n2 < 0 := by unfold cmpI; rw [if_pos (by omega)]; omega
  obtain ⟨cv, hcv2⟩ : ∃ cv, cmpI (n1 : Int) n2 = cv := ⟨_, rfl⟩
  unfold CmpPost at HS
  rw [hcv2] at HS hcv
  clear hcv2
  have HP := Lib.hid (fun w1 hb => minus_any _ _ n2 n1 w1 (h2.below (w' := w1) hb) (h1.below (w' := w1) hb) (by omega) (by omega) (by omega))
  have HT := Lib.hid (fun w1 v ds (hr : Reads w1 v ds) ho hl => trim_any (!b) v ds w1 hr ho hl)
  obtain ⟨z, hz⟩ : ∃ z, (n2 : Int) - n1 = z := ⟨_, rfl⟩
  rw [hz] at HP ⊢
  obtain ⟨L, hL⟩ : ∃ L, (canon n2).length = L := ⟨_, rfl⟩
  rw [hL] at HP
  have hL2 : L ≤ 100000 := by omega
  clear hL
  clear h1 h2 hz e1 e2
  have hbb : ((b : Bool) == !b) = false := by cases b <;> rfl
  clear hlt
  go_enter Tryd.func35, Tryd.ntmps35
  go_upto_region 5 with (go_at_call 40; refine (HS.out _ BB.out).mono ?_; rintro e w' ⟨rfl, rfl⟩)
  change Code.wp _ _ _ _ (boxes w b (.slice a1 l1 c1) (!b) (.slice a2 l2 c2))
  obtain ⟨W, hW⟩ : ∃ W, boxes w b (.slice a1 l1 c1) (!b) (.slice a2 l2 c2) = W := ⟨_, rfl⟩
  rw [hW] at BX BB BS ⊢
  clear hW
  obtain ⟨x0, x1, y0, y1, z0, z1, f0, f1⟩ := BX.out
  go_region_held3 (fun w' => w'.cell? ⟨w.heap.size, 0, none⟩ = some (.bool b) ∧ w'.cell? ⟨w.heap.size, 1, none⟩ = some (.slice a1 l1 c1) ∧ w'.cell? ⟨w.heap.size + 1, 0, none⟩ = some (.bool (!b)) ∧ w'.cell? ⟨w.heap.size + 1, 1, none⟩ = some (.slice a2 l2 c2)) (first | exact ⟨put2_other (by omega) x0'', put2_other (by omega) x1'', put2_other (by omega) y0'', put2_other (by omega) y1''⟩ | go_keep)
    (first
      | (go_at_call 41; refine (HP.out _ (by first | exact BB.out | exact BB.out.drew)).mono ?_; rintro e w1 ⟨r, ds, rfl, hr, ho, hv, hl, hbl⟩; have hbl2 : Below W.heap.size W w1 := (by first | exact hbl | exact below_undrew hbl); have BX1 := Lib.hid (BX.out.below (by have := BS.out; omega) hbl2); obtain ⟨x0', x1', y0', y1', z0', z1', f0', f1'⟩ := BX1.out; have R := Lib.hid hr; have O := Lib.hid ho; have V := Lib.hid hv; have B1 := Lib.hid hbl2; clear hr ho hv hbl hbl2)
      | (go_at_call 30; refine (HT.out _ _ _ R.out O.out (by omega)).mono ?_; rintro e w2 ⟨r, rfl, hIs, hbl⟩; rw [V.out] at hIs; obtain ⟨sa, scp, rfl, hrd⟩ := hIs.form; have BX2 := Lib.hid (BX1.out.below (by have := BS.out; have := B1.out.size; omega) hbl); obtain ⟨x0'', x1'', y0'', y1'', z0'', z1'', f0'', f1''⟩ := BX2.out; have RD := Lib.hid hrd; have B2 := Lib.hid hbl; clear hIs hrd hbl))
  go_wp2
  exact bodyPost_ret (res_big Tryd.results35 rfl (put2_cells z0'' z1'')) rfl (tells_put2 RD.out z0'' z1'' (nb _) (ns _ _ _) (BB.out.trans ((B1.out.mono BB.out.size).trans (B2.out.mono (Nat.le_trans BB.out.size B1.out.size)))) (by omega))

end Go.Proofs.YtikhgdbbbingbaaDoor.Bg
