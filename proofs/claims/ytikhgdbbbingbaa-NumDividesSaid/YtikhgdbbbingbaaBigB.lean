/- What Below does. -/
import Derived.Test.YtikhgdbbbingbaaBigF
namespace Go.Proofs.Ytikhgdbbbingbaa.Bg
open Go Go.RowKit Go.Proofs.Ytikhgdbbbingbaa.Dg
set_option linter.unusedVariables false

/-- the two boxes of Below -/
structure Tw (w wx : World) (x y : Int) : Prop where
  a : Holds w.heap.size x wx
  b : Holds (w.heap.size + 1) y wx
  sz : w.heap.size + 2 ≤ wx.heap.size
  bel : Below w.heap.size w wx
theorem Tw.below {w wx w2 : World} {x y : Int} (h : Tw w wx x y) (hb : Below wx.heap.size wx w2) : Tw w w2 x y := by
  have := h.sz
  exact ⟨h.a.below (by omega) hb, h.b.below (by omega) hb, Nat.le_trans h.sz hb.size, h.bel.trans (hb.mono h.bel.size)⟩
def tw2 (w : World) (b1 b2 : Bool) (a1 a2 : Option Addr) (l1 l2 c1 c2 : Nat) : World :=
  (w.alloc (.cells #[.bool b1, .slice a1 l1 c1] 29)).alloc (.cells #[.bool b2, .slice a2 l2 c2] 29)
theorem tw_new {w : World} {x y : Int} {b1 b2 : Bool} {a1 a2 : Option Addr} {l1 l2 c1 c2 : Nat} (h1 : Is w (.agg #[.bool b1, .slice a1 l1 c1]) x) (h2 : Is w (.agg #[.bool b2, .slice a2 l2 c2]) y) :
    Tw w (tw2 w b1 b2 a1 a2 l1 l2 c1 c2) x y := by
  unfold tw2
  have k1 := holds_new h1
  have bl1 : Below w.heap.size w (w.alloc (.cells #[.bool b1, .slice a1 l1 c1] 29)) := (Below.refl _ _).alloc (Nat.le_refl _) _
  have s1 : (w.alloc (.cells #[.bool b1, .slice a1 l1 c1] 29)).heap.size = w.heap.size + 1 := by simp
  have k2 := holds_new (h2.below bl1)
  generalize w.alloc (.cells #[.bool b1, .slice a1 l1 c1] 29) = W1 at *
  have bl2 : Below W1.heap.size W1 (W1.alloc (.cells #[.bool b2, .slice a2 l2 c2] 29)) := (Below.refl _ _).alloc (Nat.le_refl _) _
  have k1' := k1.below (by omega) bl2
  have e1 : W1.heap.size = w.heap.size + 1 := s1
  rw [e1] at k2
  exact ⟨k1', k2, by simp; omega, bl1.trans (bl2.mono (by omega))⟩
theorem tw_negated {w W w2 : World} {x y X Y : Int} {ba bb b1 b2 : Bool} {sa sb s1 s2 : Option Addr} {la lb l1 l2 ca cb c1 c2 : Nat} (h : Tw w W x y) (hb : Below W.heap.size W w2)
    (ha : BoxF w.heap.size ba (.slice sa la ca) w2) (hc : BoxF (w.heap.size + 1) bb (.slice sb lb cb) w2) (i1 : Is w2 (.agg #[.bool b1, .slice s1 l1 c1]) X) (i2 : Is w2 (.agg #[.bool b2, .slice s2 l2 c2]) Y) :
    Tw w (put2 (put2 w2 w.heap.size (.bool b1) (.slice s1 l1 c1)) (w.heap.size + 1) (.bool b2) (.slice s2 l2 c2)) X Y := by
  have h2 := h.below hb
  have k1 := Holds.put ha.bx ha.f0 ha.f1 i1
  have kk : Keeps w2 (put2 w2 w.heap.size (.bool b1) (.slice s1 l1 c1)) := put2_keeps ha.c0 ha.c1 (nb _) (ns _ _ _)
  have bb1 : BoxF (w.heap.size + 1) bb (.slice sb lb cb) (put2 w2 w.heap.size (.bool b1) (.slice s1 l1 c1)) := by
    refine ⟨put2_other (by omega) hc.c0, put2_other (by omega) hc.c1, ?_, ?_⟩
    · unfold put2; rw [World.frozen?_setCell, World.frozen?_setCell]; exact hc.f0
    · unfold put2; rw [World.frozen?_setCell, World.frozen?_setCell]; exact hc.f1
  refine ⟨k1.other bb1.bx (by omega), Holds.put bb1.bx bb1.f0 bb1.f1 (i2.keeps kk), ?_, put2_below (put2_below h2.bel (Nat.le_refl _)) (by omega)⟩
  have := h2.sz
  exact Nat.le_trans this (Nat.le_trans kk.size (put2_keeps bb1.c0 bb1.c1 (nb _) (ns _ _ _)).size)

def TellsBB (w : World) (x y : Bool) (e : Ending) (w' : World) : Prop := e = .returned (.tuple #[.bool x, .bool y]) ∧ Below w.heap.size w w'
theorem ret_bb {a b x y : Bool} (h1 : a = x) (h2 : b = y) : Ending.returned (.tuple #[.bool a, .bool b]) = .returned (.tuple #[.bool x, .bool y]) := by rw [h1, h2]
/-- is x by y, y above 0, rounded down, below the int64s, above them? -/
def loB (x y : Int) : Bool := decide (cmpI x (-9223372036854775808 * y) < 0)
def hiB (x y : Int) : Bool := decide (0 ≤ cmpI x (9223372036854775808 * y))

set_option maxRecDepth 100000 in
set_option maxHeartbeats 4000000 in
theorem belowB_any (v1 v2 : Value) (x y : Int) (w : World) (h1 : Is w v1 x) (h2 : Is w v2 y) (s1 : Md x) (s2 : I64 y) :
    Calls Try.prog 66 #[v1, v2] w (TellsBB w (if y < 0 then loB (-x) (-y) else loB x y) (if y < 0 then hiB (-x) (-y) else hiB x y)) := by
  obtain ⟨X, hX⟩ : ∃ X, X = if y < 0 then -x else x := ⟨_, rfl⟩
  obtain ⟨Y, hY⟩ : ∃ Y, Y = if y < 0 then -y else y := ⟨_, rfl⟩
  have hg1 : (if y < 0 then loB (-x) (-y) else loB x y) = loB X Y := by rw [hX, hY]; split <;> rfl
  have hg2 : (if y < 0 then hiB (-x) (-y) else hiB x y) = hiB X Y := by rw [hX, hY]; split <;> rfl
  rw [hg1, hg2]
  have sX : Md X := by rw [hX]; split; exact s1.neg; exact s1
  have sY0 : -9223372036854775808 ≤ Y ∧ Y ≤ 9223372036854775808 := by rw [hY]; obtain ⟨a, b⟩ := s2; split <;> omega
  have sY : Sm Y := by unfold Sm; omega
  have sL : Sm (-9223372036854775808 * Y) := by unfold Sm; omega
  have sH : Sm (9223372036854775808 * Y) := by unfold Sm; omega
  have s2' : Sm y := sm_i64 s2
  obtain ⟨a1, c1, rfl, r1⟩ := h1.form
  obtain ⟨a2, c2, rfl, r2⟩ := h2.form
  have FN := Lib.hid (tw_new h1 h2)
  have HMa := Lib.hid (fun w1 v (hi : Is w1 v x) => minusB_any v x w1 hi s1.sm)
  have HMb := Lib.hid (fun w1 v (hi : Is w1 v y) => minusB_any v y w1 hi s2')
  have HO := Lib.hid (fun a w1 (ha : I64 a) => of_any a w1 ha.1 ha.2)
  have HMul1 := Lib.hid (fun w1 u v (hu : Is w1 u (-9223372036854775808)) (hv : Is w1 v Y) => mulB_any u v (-9223372036854775808) Y w1 hu hv (sm_i64 (by decide)) sY sL)
  have HMul2 := Lib.hid (fun w1 u v (hu : Is w1 u 9223372036854775808) (hv : Is w1 v Y) => mulB_any u v 9223372036854775808 Y w1 hu hv (by unfold Sm; omega) sY sH)
  have HAdd := Lib.hid (fun w1 u v (hu : Is w1 u 9223372036854775807) (hv : Is w1 v 1) => (addB_any u v 9223372036854775807 1 w1 hu hv (sm_i64 (by decide)) (sm_i64 (by decide))).mono fun e w' h => show TellsBig w1 9223372036854775808 e w' from h.eq (by omega))
  obtain ⟨zl, hzl⟩ : ∃ z, -9223372036854775808 * Y = z := ⟨_, rfl⟩
  obtain ⟨zh, hzh⟩ : ∃ z, 9223372036854775808 * Y = z := ⟨_, rfl⟩
  rw [hzl] at HMul1 sL
  rw [hzh] at HMul2 sH
  have HCmp1 := Lib.hid (fun w1 u v (hu : Is w1 u X) (hv : Is w1 v zl) => cmpB_any u v X zl w1 hu hv sX.sm sL)
  have HCmp2 := Lib.hid (fun w1 u v (hu : Is w1 u X) (hv : Is w1 v zh) => cmpB_any u v X zh w1 hu hv sX.sm sH)
  have HF1 := Lib.hid (show loB X Y = decide (cmpI X zl < 0) by rw [← hzl]; rfl)
  have HF2 := Lib.hid (show hiB X Y = decide (0 ≤ cmpI X zh) by rw [← hzh]; rfl)
  have HXX := Lib.hid (fun (h : y < 0) => show -x = X ∧ -y = Y by rw [hX, hY, if_pos h, if_pos h]; exact ⟨rfl, rfl⟩)
  have HXY := Lib.hid (fun (h : ¬ y < 0) => show x = X ∧ y = Y by rw [hX, hY, if_neg h, if_neg h]; exact ⟨rfl, rfl⟩)
  obtain ⟨b1, e1⟩ : ∃ b, decide (x < 0) = b := ⟨_, rfl⟩
  obtain ⟨b2, e2⟩ : ∃ b, decide (y < 0) = b := ⟨_, rfl⟩
  obtain ⟨l1, f1⟩ : ∃ b, (canon x.natAbs).length = b := ⟨_, rfl⟩
  obtain ⟨l2, f2⟩ : ∃ b, (canon y.natAbs).length = b := ⟨_, rfl⟩
  rw [e1, e2, f1, f2] at FN
  rw [e1, e2, f1, f2]
  have E2 := Lib.hid e2
  obtain ⟨lo, hlo⟩ : ∃ c, cmpI X zl = c := ⟨_, rfl⟩
  obtain ⟨hi, hhi⟩ : ∃ c, cmpI X zh = c := ⟨_, rfl⟩
  rw [hlo] at HCmp1 HF1
  rw [hhi] at HCmp2 HF2
  clear h1 h2 r1 r2 e1 e2 f1 f2 s1 s2 s2' sX sY sL sH sY0 hX hY hg1 hg2 hzl hzh hlo hhi
  go_enter Try.func66, Try.ntmps66
  go_upto_if 9 with fail
  change Code.wp _ _ _ _ (tw2 w b1 b2 a1 a2 l1 l2 c1 c2)
  obtain ⟨W, hW⟩ : ∃ W, tw2 w b1 b2 a1 a2 l1 l2 c1 c2 = W := ⟨_, rfl⟩
  rw [hW] at FN ⊢
  clear hW
  go_cut [] (fun wx => Tw w wx X Y)
  case first =>
    cases b2 with
    | false =>
      obtain ⟨k1, k2⟩ := HXY.out (of_decide_eq_false E2.out)
      have F := FN.out
      rw [k1, k2] at F
      have F2 := Lib.hid F
      clear k1 k2 F
      go_wp2_with fail
      go_meet
      case rel => exact F2.out
    | true =>
      obtain ⟨k1, k2⟩ := HXX.out (of_decide_eq_true E2.out)
      rw [k1] at HMa
      rw [k2] at HMb
      clear k1 k2
      obtain ⟨ba, sa, la, ca, bxa, isa, fa0, fa1, -⟩ := FN.out.a
      obtain ⟨bb, sb, lb, cb, bxb, isb, fb0, fb1, -⟩ := FN.out.b
      have IA := Lib.hid isa
      have IB := Lib.hid isb
      have XA := Lib.hid (show BoxF _ _ _ _ from ⟨bxa.1, bxa.2, fa0, fa1⟩)
      have XB := Lib.hid (show BoxF _ _ _ _ from ⟨bxb.1, bxb.2, fb0, fb1⟩)
      obtain ⟨x0, x1⟩ := bxa
      obtain ⟨y0, y1⟩ := bxb
      have SZ := Lib.hid FN.out.sz
      clear isa isb
      go_wp2_with fail
      go_region_with (first
        | (go_at_call 69; refine (HMb.out _ _ (IB.out.below B1.out)).mono ?_; rintro e w2 ⟨r2, rfl, hi2, hbl⟩; have B2 := Lib.hid (B1.out.trans (hbl.mono B1.out.size)); obtain ⟨x0'', x1'', fa0'', fa1''⟩ := XA.out.below (by have := SZ.out; omega) B2.out; obtain ⟨y0'', y1'', fb0'', fb1''⟩ := XB.out.below (by have := SZ.out; omega) B2.out; obtain ⟨ra2, rc2, rfl, -⟩ := hi2.form; have R2 := Lib.hid hi2; have R1' := Lib.hid (R1.out.below hbl); clear hi2 hbl)
        | (go_at_call 69; refine (HMa.out _ _ (IA.out.below (by first | exact Below.refl _ _ | exact (Below.refl _ _).drew))).mono ?_; rintro e w1 ⟨r1, rfl, hi1, hbl⟩; have hbl2 : Below W.heap.size W w1 := (by first | exact hbl | exact below_undrew hbl); have B1 := Lib.hid hbl2; obtain ⟨x0', x1', fa0', fa1'⟩ := XA.out.below (by have := SZ.out; omega) B1.out; obtain ⟨y0', y1', fb0', fb1'⟩ := XB.out.below (by have := SZ.out; omega) B1.out; obtain ⟨ra1, rc1, rfl, -⟩ := hi1.form; have R1 := Lib.hid hi1; clear hi1 hbl hbl2))
      all_goals
        go_wp2_with fail
        go_meet
        case rel => exact tw_negated FN.out B2.out ⟨x0'', x1'', fa0'', fa1''⟩ ⟨y0'', y1'', fb0'', fb1''⟩ R1'.out R2.out
  case rest =>
    have FW := Lib.hid hcut
    clear hcut
    obtain ⟨ba, sa, la, ca, bxa, isa, fa0, fa1, -⟩ := FW.out.a
    obtain ⟨bb, sb, lb, cb, bxb, isb, fb0, fb1, -⟩ := FW.out.b
    have IA := Lib.hid isa
    have IB := Lib.hid isb
    have XA := Lib.hid (show BoxF _ _ _ _ from ⟨bxa.1, bxa.2, fa0, fa1⟩)
    have XB := Lib.hid (show BoxF _ _ _ _ from ⟨bxb.1, bxb.2, fb0, fb1⟩)
    obtain ⟨x0, x1⟩ := bxa
    obtain ⟨y0, y1⟩ := bxb
    have SZ := Lib.hid FW.out.sz
    clear isa isb
    go_upto_region 3 with fail
    go_region_held3 (fun w' => w'.cell? ⟨w.heap.size, 0, none⟩ = some (.bool ba) ∧ w'.cell? ⟨w.heap.size, 1, none⟩ = some (.slice sa la ca) ∧ w'.cell? ⟨w.heap.size + 1, 0, none⟩ = some (.bool bb) ∧ w'.cell? ⟨w.heap.size + 1, 1, none⟩ = some (.slice sb lb cb))
        (first
          | exact ⟨x0', x1', y0', y1'⟩
          | go_keep)
        (first
          | (go_at_call 29; refine (HCmp1.out _ _ _ (IA.out.below B2.out) R2.out).mono ?_; rintro e w3 ⟨rfl, hbl⟩; have B3 := Lib.hid (B2.out.trans (hbl.mono B2.out.size)); have hx' := XA.out.below (by have := SZ.out; omega) B3.out; have hy' := XB.out.below (by have := SZ.out; omega) B3.out; (try clear x0' x1' y0' y1'); have x0' := hx'.c0; have x1' := hx'.c1; have y0' := hy'.c0; have y1' := hy'.c1; clear hx' hy'; clear hbl)
          | (go_at_call 28; refine (HMul1.out _ _ _ R1.out (IB.out.below B1.out)).mono ?_; rintro e w2 ⟨r2, rfl, hi2, hbl⟩; have B2 := Lib.hid (B1.out.trans (hbl.mono B1.out.size)); have hx' := XA.out.below (by have := SZ.out; omega) B2.out; have hy' := XB.out.below (by have := SZ.out; omega) B2.out; (try clear x0' x1' y0' y1'); have x0' := hx'.c0; have x1' := hx'.c1; have y0' := hy'.c0; have y1' := hy'.c1; clear hx' hy'; have R2 := Lib.hid hi2; clear hi2 hbl)
          | (go_at_call 26; refine (HO.out _ _ (by decide)).mono ?_; rintro e w1 ⟨r1, rfl, hi1, hbl⟩; have hbl2 : Below wc.heap.size wc w1 := (by first | exact hbl | exact below_undrew hbl); have B1 := Lib.hid hbl2; have hx' := XA.out.below (by have := SZ.out; omega) B1.out; have hy' := XB.out.below (by have := SZ.out; omega) B1.out; (try clear x0' x1' y0' y1'); have x0' := hx'.c0; have x1' := hx'.c1; have y0' := hy'.c0; have y1' := hy'.c1; clear hx' hy'; have R1 := Lib.hid hi1; clear hi1 hbl hbl2))
    go_upto_region 4 with fail
    go_region_held3 (fun w' => w'.cell? ⟨w.heap.size, 0, none⟩ = some (.bool ba) ∧ w'.cell? ⟨w.heap.size, 1, none⟩ = some (.slice sa la ca) ∧ w'.cell? ⟨w.heap.size + 1, 0, none⟩ = some (.bool bb) ∧ w'.cell? ⟨w.heap.size + 1, 1, none⟩ = some (.slice sb lb cb))
        (first
          | exact ⟨x0', x1', y0', y1'⟩
          | go_keep)
        (first
          | (go_at_call 29; refine (HCmp2.out _ _ _ (IA.out.below B7.out) R7.out).mono ?_; rintro e w8 ⟨rfl, hbl⟩; have B8 := Lib.hid (B7.out.trans (hbl.mono B7.out.size)); have hx' := XA.out.below (by have := SZ.out; omega) B8.out; have hy' := XB.out.below (by have := SZ.out; omega) B8.out; (try clear x0' x1' y0' y1'); have x0' := hx'.c0; have x1' := hx'.c1; have y0' := hy'.c0; have y1' := hy'.c1; clear hx' hy'; clear hbl)
          | (go_at_call 28; refine (HMul2.out _ _ _ R6.out (IB.out.below B6.out)).mono ?_; rintro e w7 ⟨r7, rfl, hi7, hbl⟩; have B7 := Lib.hid (B6.out.trans (hbl.mono B6.out.size)); have hx' := XA.out.below (by have := SZ.out; omega) B7.out; have hy' := XB.out.below (by have := SZ.out; omega) B7.out; (try clear x0' x1' y0' y1'); have x0' := hx'.c0; have x1' := hx'.c1; have y0' := hy'.c0; have y1' := hy'.c1; clear hx' hy'; have R7 := Lib.hid hi7; clear hi7 hbl)
          | (go_at_call 36; refine (HAdd.out _ _ _ R4'.out R5.out).mono ?_; rintro e w6 ⟨r6, rfl, hi6, hbl⟩; have B6 := Lib.hid (B5.out.trans (hbl.mono B5.out.size)); have hx' := XA.out.below (by have := SZ.out; omega) B6.out; have hy' := XB.out.below (by have := SZ.out; omega) B6.out; (try clear x0' x1' y0' y1'); have x0' := hx'.c0; have x1' := hx'.c1; have y0' := hy'.c0; have y1' := hy'.c1; clear hx' hy'; have R6 := Lib.hid hi6; clear hi6 hbl)
          | (go_at_call 26; refine (HO.out _ _ (by decide)).mono ?_; rintro e w5 ⟨r5, rfl, hi5, hbl⟩; have R4' := Lib.hid (R4.out.below hbl); have B5 := Lib.hid (B4.out.trans (hbl.mono B4.out.size)); have hx' := XA.out.below (by have := SZ.out; omega) B5.out; have hy' := XB.out.below (by have := SZ.out; omega) B5.out; (try clear x0' x1' y0' y1'); have x0' := hx'.c0; have x1' := hx'.c1; have y0' := hy'.c0; have y1' := hy'.c1; clear hx' hy'; have R5 := Lib.hid hi5; clear hi5 hbl)
          | (go_at_call 26; refine (HO.out _ _ (by decide)).mono ?_; rintro e w4 ⟨r4, rfl, hi4, hbl⟩; have hbl2 : Below wc.heap.size wc w4 := B3.out.trans ((show Below w3.heap.size w3 w4 by first | exact hbl | exact below_undrew hbl).mono B3.out.size); have B4 := Lib.hid hbl2; have hx' := XA.out.below (by have := SZ.out; omega) B4.out; have hy' := XB.out.below (by have := SZ.out; omega) B4.out; (try clear x0' x1' y0' y1'); have x0' := hx'.c0; have x1' := hx'.c1; have y0' := hy'.c0; have y1' := hy'.c1; clear hx' hy'; have R4 := Lib.hid hi4; clear hi4 hbl hbl2))
    go_wp2
    go_ret2
    exact ⟨ret_bb HF1.out.symm HF2.out.symm, FW.out.bel.trans (B8.out.mono FW.out.bel.size)⟩
end Go.Proofs.Ytikhgdbbbingbaa.Bg
