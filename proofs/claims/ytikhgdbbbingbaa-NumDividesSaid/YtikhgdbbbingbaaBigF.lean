/- What Floor does. -/
import Derived.Test.YtikhgdbbbingbaaBigM
namespace Go.Proofs.Ytikhgdbbbingbaa.Bg
open Go Go.RowKit Go.Proofs.Ytikhgdbbbingbaa.Dg
set_option linter.unusedVariables false

/-- a box that holds a number -/
def Holds (p : Nat) (z : Int) (w : World) : Prop := ∃ b sa l cap, Box p b (.slice sa l cap) w ∧ Is w (.agg #[.bool b, .slice sa l cap]) z ∧ w.frozen? ⟨p, 0, none⟩ = false ∧ w.frozen? ⟨p, 1, none⟩ = false ∧ b = decide (z < 0)
theorem Holds.below {p : Nat} {z : Int} {w w2 : World} (h : Holds p z w) (hp : p < w.heap.size) (hb : Below w.heap.size w w2) : Holds p z w2 := by
  obtain ⟨b, sa, l, cap, h1, h2, h3, h4, h5⟩ := h
  exact ⟨b, sa, l, cap, h1.below hp hb, h2.below hb, by rw [hb.frozen (p := ⟨p, 0, none⟩) hp]; exact h3, by rw [hb.frozen (p := ⟨p, 1, none⟩) hp]; exact h4, h5⟩
theorem Holds.drewN {p : Nat} {z : Int} {w : World} (h : Holds p z w) (n : Nat) : Holds p z (w.drewN n) := h
theorem Holds.put {p : Nat} {z : Int} {w : World} {b b' : Bool} {sa sa' : Option Addr} {l cap l' cap' : Nat} (h : Box p b (.slice sa l cap) w) (f0 : w.frozen? ⟨p, 0, none⟩ = false) (f1 : w.frozen? ⟨p, 1, none⟩ = false) (hn : Is w (.agg #[.bool b', .slice sa' l' cap']) z) :
    Holds p z (put2 w p (.bool b') (.slice sa' l' cap')) := by
  have hb : b' = decide (z < 0) := by obtain ⟨s, e, _⟩ := hn; simp at e; exact e.1
  refine ⟨b', sa', l', cap', put2_cells h.1 h.2, hn.keeps (put2_keeps h.1 h.2 (nb _) (ns _ _ _)), ?_, ?_, hb⟩
  · unfold put2; rw [World.frozen?_setCell, World.frozen?_setCell]; exact f0
  · unfold put2; rw [World.frozen?_setCell, World.frozen?_setCell]; exact f1
theorem Holds.other {p q : Nat} {z : Int} {w : World} {b : Bool} {sa : Option Addr} {l cap : Nat} {x y : Value} (h : Holds p z w) (hq : Box q b (.slice sa l cap) w) (hne : q ≠ p) : Holds p z (put2 w q x y) := by
  obtain ⟨b1, sa1, l1, cap1, h1, h2, h3, h4, h5⟩ := h
  refine ⟨b1, sa1, l1, cap1, ⟨put2_other hne h1.1, put2_other hne h1.2⟩, h2.keeps (put2_keeps hq.1 hq.2 (nb _) (ns _ _ _)), ?_, ?_, h5⟩
  · unfold put2; rw [World.frozen?_setCell, World.frozen?_setCell]; exact h3
  · unfold put2; rw [World.frozen?_setCell, World.frozen?_setCell]; exact h4
theorem holds_new {w : World} {z : Int} {b : Bool} {sa : Option Addr} {l cap : Nat} (h : Is w (.agg #[.bool b, .slice sa l cap]) z) : Holds w.heap.size z (w.alloc (.cells #[.bool b, .slice sa l cap] 29)) := by
  have hb : b = decide (z < 0) := by obtain ⟨s, e, _⟩ := h; simp at e; exact e.1
  refine ⟨b, sa, l, cap, box_new _ _ _, h.below ((Below.refl _ _).alloc (Nat.le_refl _) _), ?_, ?_, hb⟩
  · rw [World.frozen?_alloc_at _ _ _ _ rfl]
  · rw [World.frozen?_alloc_at _ _ _ _ rfl]

structure BoxF (p : Nat) (b : Bool) (s : Value) (w : World) : Prop where
  c0 : w.cell? ⟨p, 0, none⟩ = some (.bool b)
  c1 : w.cell? ⟨p, 1, none⟩ = some s
  f0 : w.frozen? ⟨p, 0, none⟩ = false
  f1 : w.frozen? ⟨p, 1, none⟩ = false
theorem BoxF.below {p : Nat} {b : Bool} {s : Value} {w w2 : World} {B : Nat} (h : BoxF p b s w) (hp : p < B) (hb : Below B w w2) : BoxF p b s w2 :=
  ⟨by rw [hb.cell (p := ⟨p, 0, none⟩) hp]; exact h.c0, by rw [hb.cell (p := ⟨p, 1, none⟩) hp]; exact h.c1, by rw [hb.frozen (p := ⟨p, 0, none⟩) hp]; exact h.f0, by rw [hb.frozen (p := ⟨p, 1, none⟩) hp]; exact h.f1⟩
theorem BoxF.bx {p : Nat} {b : Bool} {s : Value} {w : World} (h : BoxF p b s w) : Box p b s w := ⟨h.c0, h.c1⟩

/-- the three boxes of Floor -/
structure Fl (w wx : World) (x y z : Int) : Prop where
  a : Holds w.heap.size x wx
  b : Holds (w.heap.size + 1) y wx
  q : Holds (w.heap.size + 2) z wx
  sz : w.heap.size + 3 ≤ wx.heap.size
  bel : Below w.heap.size w wx
theorem Fl.below {w wx w2 : World} {x y z : Int} (h : Fl w wx x y z) (hb : Below wx.heap.size wx w2) : Fl w w2 x y z := by
  have := h.sz
  exact ⟨h.a.below (by omega) hb, h.b.below (by omega) hb, h.q.below (by omega) hb, Nat.le_trans h.sz hb.size, h.bel.trans (hb.mono h.bel.size)⟩
theorem fl_new {w : World} {x y z : Int} {v1 v2 v3 : Value} {b1 b2 b3 : Bool} {a1 a2 a3 : Option Addr} {l1 l2 l3 c1 c2 c3 : Nat} (h1 : Is w (.agg #[.bool b1, .slice a1 l1 c1]) x) (h2 : Is w (.agg #[.bool b2, .slice a2 l2 c2]) y) (h3 : Is w (.agg #[.bool b3, .slice a3 l3 c3]) z) :
    Fl w (((w.alloc (.cells #[.bool b1, .slice a1 l1 c1] 29)).alloc (.cells #[.bool b2, .slice a2 l2 c2] 29)).alloc (.cells #[.bool b3, .slice a3 l3 c3] 29)) x y z := by
  have k1 := holds_new h1
  have bl1 : Below w.heap.size w (w.alloc (.cells #[.bool b1, .slice a1 l1 c1] 29)) := (Below.refl _ _).alloc (Nat.le_refl _) _
  have s1 : (w.alloc (.cells #[.bool b1, .slice a1 l1 c1] 29)).heap.size = w.heap.size + 1 := by simp
  have k2 := holds_new (h2.below bl1)
  have h3' := h3.below bl1
  generalize w.alloc (.cells #[.bool b1, .slice a1 l1 c1] 29) = W1 at *
  have bl2 : Below W1.heap.size W1 (W1.alloc (.cells #[.bool b2, .slice a2 l2 c2] 29)) := (Below.refl _ _).alloc (Nat.le_refl _) _
  have s2 : (W1.alloc (.cells #[.bool b2, .slice a2 l2 c2] 29)).heap.size = W1.heap.size + 1 := by simp
  have k3 := holds_new (h3'.below bl2)
  have k1' := k1.below (by omega) bl2
  generalize W1.alloc (.cells #[.bool b2, .slice a2 l2 c2] 29) = W2 at *
  have bl3 : Below W2.heap.size W2 (W2.alloc (.cells #[.bool b3, .slice a3 l3 c3] 29)) := (Below.refl _ _).alloc (Nat.le_refl _) _
  have k1'' := k1'.below (by omega) bl3
  have k2'' := k2.below (by omega) bl3
  have e1 : W1.heap.size = w.heap.size + 1 := s1
  have e2 : W2.heap.size = w.heap.size + 2 := by omega
  rw [e1] at k2''
  rw [e2] at k3
  refine ⟨k1'', k2'', k3, by simp; omega, bl1.trans ((bl2.mono (by omega)).trans (bl3.mono (by omega)))⟩

def fl3 (w : World) (b1 b2 b3 : Bool) (a1 a2 a3 : Option Addr) (l1 l2 l3 c1 c2 c3 : Nat) : World :=
  ((w.alloc (.cells #[.bool b1, .slice a1 l1 c1] 29)).alloc (.cells #[.bool b2, .slice a2 l2 c2] 29)).alloc (.cells #[.bool b3, .slice a3 l3 c3] 29)

theorem fl_negated {w W w2 : World} {x y q X Y : Int} {ba bb b1 b2 : Bool} {sa sb s1 s2 : Option Addr} {la lb l1 l2 ca cb c1 c2 : Nat} (h : Fl w W x y q) (hb : Below W.heap.size W w2)
    (ha : BoxF w.heap.size ba (.slice sa la ca) w2) (hc : BoxF (w.heap.size + 1) bb (.slice sb lb cb) w2) (i1 : Is w2 (.agg #[.bool b1, .slice s1 l1 c1]) X) (i2 : Is w2 (.agg #[.bool b2, .slice s2 l2 c2]) Y) :
    Fl w (put2 (put2 w2 w.heap.size (.bool b1) (.slice s1 l1 c1)) (w.heap.size + 1) (.bool b2) (.slice s2 l2 c2)) X Y q := by
  have h2 := h.below hb
  have k1 := Holds.put ha.bx ha.f0 ha.f1 i1
  have bq1 := h2.q.other (x := .bool b1) (y := .slice s1 l1 c1) ha.bx (by omega)
  have kk : Keeps w2 (put2 w2 w.heap.size (.bool b1) (.slice s1 l1 c1)) := put2_keeps ha.c0 ha.c1 (nb _) (ns _ _ _)
  have bb1 : BoxF (w.heap.size + 1) bb (.slice sb lb cb) (put2 w2 w.heap.size (.bool b1) (.slice s1 l1 c1)) := by
    refine ⟨put2_other (by omega) hc.c0, put2_other (by omega) hc.c1, ?_, ?_⟩
    · unfold put2; rw [World.frozen?_setCell, World.frozen?_setCell]; exact hc.f0
    · unfold put2; rw [World.frozen?_setCell, World.frozen?_setCell]; exact hc.f1
  refine ⟨k1.other bb1.bx (by omega), Holds.put bb1.bx bb1.f0 bb1.f1 (i2.keeps kk), bq1.other bb1.bx (by omega), ?_, put2_below (put2_below h2.bel (Nat.le_refl _)) (by omega)⟩
  have := h2.sz
  exact Nat.le_trans this (Nat.le_trans kk.size (put2_keeps bb1.c0 bb1.c1 (nb _) (ns _ _ _)).size)

theorem fl_put {w w5 : World} {x y q : Int} {p : Nat} {a b : Value} {bb : Bool} {sa : Option Addr} {l c : Nat} (h : Fl w w5 x y q) (hb : BoxF p bb (.slice sa l c) w5) (hp : w.heap.size + 3 ≤ p) : Fl w (put2 w5 p a b) x y q :=
  ⟨h.a.other hb.bx (by omega), h.b.other hb.bx (by omega), h.q.other hb.bx (by omega), Nat.le_trans h.sz (put2_keeps hb.c0 hb.c1 (nb _) (ns _ _ _)).size, put2_below h.bel (by omega)⟩
theorem boxF_new (w : World) : BoxF w.heap.size false (.slice none 0 0) (w.alloc (.cells #[.bool false, .slice none 0 0] 29)) := by
  obtain ⟨a, b⟩ := zero_at w w.heap.size rfl
  exact ⟨a, b, by rw [World.frozen?_alloc_at _ _ _ _ rfl], by rw [World.frozen?_alloc_at _ _ _ _ rfl]⟩

/-- not too great for a product -/
def Md (x : Int) : Prop := -10000000000000000000000000000000000000000000000000 < x ∧ x < 10000000000000000000000000000000000000000000000000
theorem Md.sm {x : Int} (h : Md x) : Sm x := by obtain ⟨a, b⟩ := h; unfold Sm; omega
theorem Md.neg {x : Int} (h : Md x) : Md (-x) := by obtain ⟨a, b⟩ := h; unfold Md; omega
theorem Md.sub {x y : Int} (h : Md x) (k : Md y) : Sm (x - y) := by obtain ⟨a, b⟩ := h; obtain ⟨c, d⟩ := k; unfold Sm; omega

/-- is q the greatest whole number not above x by y, y above 0? -/
def flB (x y q : Int) : Bool := !(decide (x - q * y < 0)) && decide (cmpI (x - q * y) y < 0)

set_option maxRecDepth 100000 in
set_option maxHeartbeats 4000000 in
theorem floorB_any (v1 v2 v3 : Value) (x y q : Int) (w : World) (h1 : Is w v1 x) (h2 : Is w v2 y) (h3 : Is w v3 q) (s1 : Md x) (s2 : Md y) (s3 : Md q) (s4 : Md (q * y)) :
    Calls Try.prog 67 #[v1, v2, v3] w (TellsBool w (if y < 0 then flB (-x) (-y) q else flB x y q)) := by
  obtain ⟨X, hX⟩ : ∃ X, X = if y < 0 then -x else x := ⟨_, rfl⟩
  obtain ⟨Y, hY⟩ : ∃ Y, Y = if y < 0 then -y else y := ⟨_, rfl⟩
  have hgoal : (if y < 0 then flB (-x) (-y) q else flB x y q) = flB X Y q := by rw [hX, hY]; split <;> rfl
  rw [hgoal]
  have sX : Md X := by rw [hX]; split; exact s1.neg; exact s1
  have sY : Md Y := by rw [hY]; split; exact s2.neg; exact s2
  have sQ : Md (q * Y) := by rw [hY]; split; (rw [Int.mul_neg]; exact s4.neg); exact s4
  obtain ⟨a1, c1, rfl, r1⟩ := h1.form
  obtain ⟨a2, c2, rfl, r2⟩ := h2.form
  obtain ⟨a3, c3, rfl, r3⟩ := h3.form
  have FN := Lib.hid (fl_new (v1 := undef) (v2 := undef) (v3 := undef) h1 h2 h3)
  have HMa := Lib.hid (fun w1 v (hi : Is w1 v x) => minusB_any v x w1 hi s1.sm)
  have HMb := Lib.hid (fun w1 v (hi : Is w1 v y) => minusB_any v y w1 hi s2.sm)
  have HMul := Lib.hid (fun w1 u v (hu : Is w1 u q) (hv : Is w1 v Y) => mulB_any u v q Y w1 hu hv s3.sm sY.sm sQ.sm)
  have HSub := Lib.hid (fun w1 u v (hu : Is w1 u X) (hv : Is w1 v (q * Y)) => subB_any u v X (q * Y) w1 hu hv sX.sm sQ.sm)
  have HCmp := Lib.hid (fun w1 u v (hu : Is w1 u (X - q * Y)) (hv : Is w1 v Y) => cmpB_any u v (X - q * Y) Y w1 hu hv (sX.sub sQ) sY.sm)
  have HXX := Lib.hid (fun (h : y < 0) => show -x = X ∧ -y = Y by rw [hX, hY, if_pos h, if_pos h]; exact ⟨rfl, rfl⟩)
  have HXY := Lib.hid (fun (h : ¬ y < 0) => show x = X ∧ y = Y by rw [hX, hY, if_neg h, if_neg h]; exact ⟨rfl, rfl⟩)
  obtain ⟨b1, e1⟩ : ∃ b, decide (x < 0) = b := ⟨_, rfl⟩
  obtain ⟨b2, e2⟩ : ∃ b, decide (y < 0) = b := ⟨_, rfl⟩
  obtain ⟨b3, e3⟩ : ∃ b, decide (q < 0) = b := ⟨_, rfl⟩
  obtain ⟨l1, f1⟩ : ∃ b, (canon x.natAbs).length = b := ⟨_, rfl⟩
  obtain ⟨l2, f2⟩ : ∃ b, (canon y.natAbs).length = b := ⟨_, rfl⟩
  obtain ⟨l3, f3⟩ : ∃ b, (canon q.natAbs).length = b := ⟨_, rfl⟩
  rw [e1, e2, e3, f1, f2, f3] at FN
  change Hid (Fl w (fl3 w b1 b2 b3 a1 a2 a3 l1 l2 l3 c1 c2 c3) x y q) at FN
  rw [e1, e2, e3, f1, f2, f3]
  have E2 := Lib.hid e2
  clear h1 h2 h3 r1 r2 r3 e1 e2 e3 f1 f2 f3 s1 s2 s3 s4 sX sY sQ hX hY hgoal
  go_enter Try.func67, Try.ntmps67
  go_upto_if 9 with fail
  change Code.wp _ _ _ _ (fl3 w b1 b2 b3 a1 a2 a3 l1 l2 l3 c1 c2 c3)
  obtain ⟨W, hW⟩ : ∃ W, fl3 w b1 b2 b3 a1 a2 a3 l1 l2 l3 c1 c2 c3 = W := ⟨_, rfl⟩
  rw [hW] at FN ⊢
  clear hW
  go_cut [] (fun wx => Fl w wx X Y q)
  case first =>
    cases b2 with
    | false =>
      obtain ⟨k1, k2⟩ := HXY.out (of_decide_eq_false E2.out)
      have F := FN.out
      rw [k1, k2] at F
      have F2 := Lib.hid F
      clear k1 k2 F
      go_wp2_with fail
      go_meet
      case rel => exact F2.out
    | true =>
      obtain ⟨k1, k2⟩ := HXX.out (of_decide_eq_true E2.out)
      rw [k1] at HMa
      rw [k2] at HMb
      clear k1 k2
      obtain ⟨ba, sa, la, ca, bxa, isa, fa0, fa1, -⟩ := FN.out.a
      obtain ⟨bb, sb, lb, cb, bxb, isb, fb0, fb1, -⟩ := FN.out.b
      have IA := Lib.hid isa
      have IB := Lib.hid isb
      have XA := Lib.hid (show BoxF _ _ _ _ from ⟨bxa.1, bxa.2, fa0, fa1⟩)
      have XB := Lib.hid (show BoxF _ _ _ _ from ⟨bxb.1, bxb.2, fb0, fb1⟩)
      obtain ⟨x0, x1⟩ := bxa
      obtain ⟨y0, y1⟩ := bxb
      have SZ := Lib.hid FN.out.sz
      clear isa isb
      go_wp2_with fail
      go_region_with (first
        | (go_at_call 69; refine (HMb.out _ _ (IB.out.below B1.out)).mono ?_; rintro e w2 ⟨r2, rfl, hi2, hbl⟩; have B2 := Lib.hid (B1.out.trans (hbl.mono B1.out.size)); obtain ⟨x0'', x1'', fa0'', fa1''⟩ := XA.out.below (by have := SZ.out; omega) B2.out; obtain ⟨y0'', y1'', fb0'', fb1''⟩ := XB.out.below (by have := SZ.out; omega) B2.out; obtain ⟨ra2, rc2, rfl, -⟩ := hi2.form; have R2 := Lib.hid hi2; have R1' := Lib.hid (R1.out.below hbl); clear hi2 hbl)
        | (go_at_call 69; refine (HMa.out _ _ (IA.out.below (by first | exact Below.refl _ _ | exact (Below.refl _ _).drew))).mono ?_; rintro e w1 ⟨r1, rfl, hi1, hbl⟩; have hbl2 : Below W.heap.size W w1 := (by first | exact hbl | exact below_undrew hbl); have B1 := Lib.hid hbl2; obtain ⟨x0', x1', fa0', fa1'⟩ := XA.out.below (by have := SZ.out; omega) B1.out; obtain ⟨y0', y1', fb0', fb1'⟩ := XB.out.below (by have := SZ.out; omega) B1.out; obtain ⟨ra1, rc1, rfl, -⟩ := hi1.form; have R1 := Lib.hid hi1; clear hi1 hbl hbl2))
      all_goals
        go_wp2_with fail
        go_meet
        case rel => exact fl_negated FN.out B2.out ⟨x0'', x1'', fa0'', fa1''⟩ ⟨y0'', y1'', fb0'', fb1''⟩ R1'.out R2.out
  case rest =>
    have FW := Lib.hid hcut
    clear hcut
    obtain ⟨ba, sa, la, ca, bxa, isa, fa0, fa1, -⟩ := FW.out.a
    obtain ⟨bb, sb, lb, cb, bxb, isb, fb0, fb1, -⟩ := FW.out.b
    obtain ⟨bq, sq, lq, cq, bxq, isq, fq0, fq1, -⟩ := FW.out.q
    have IA := Lib.hid isa
    have IB := Lib.hid isb
    have IQ := Lib.hid isq
    have XA := Lib.hid (show BoxF _ _ _ _ from ⟨bxa.1, bxa.2, fa0, fa1⟩)
    have XB := Lib.hid (show BoxF _ _ _ _ from ⟨bxb.1, bxb.2, fb0, fb1⟩)
    have XQ := Lib.hid (show BoxF _ _ _ _ from ⟨bxq.1, bxq.2, fq0, fq1⟩)
    obtain ⟨x0, x1⟩ := bxa
    obtain ⟨y0, y1⟩ := bxb
    obtain ⟨q0, q1⟩ := bxq
    have SZ := Lib.hid FW.out.sz
    clear isa isb isq
    go_upto_region 3 with fail
    go_cut [7] (fun s wx => ∃ p, s = .pointer (some ⟨p, 0, none⟩) ∧ Fl w wx X Y q ∧ Holds p (X - q * Y) wx)
    case first =>
      go_region_held3 (fun w' => w'.cell? ⟨w.heap.size, 0, none⟩ = some (.bool ba) ∧ w'.cell? ⟨w.heap.size, 1, none⟩ = some (.slice sa la ca) ∧ w'.cell? ⟨w.heap.size + 1, 0, none⟩ = some (.bool bb) ∧ w'.cell? ⟨w.heap.size + 1, 1, none⟩ = some (.slice sb lb cb) ∧ w'.cell? ⟨w.heap.size + 2, 0, none⟩ = some (.bool bq) ∧ w'.cell? ⟨w.heap.size + 2, 1, none⟩ = some (.slice sq lq cq))
        (first
          | exact ⟨x0'', x1'', y0'', y1'', q0'', q1''⟩
          | exact ⟨put2_other (by have := SZ.out; have := B4.out.size; omega) x0'', put2_other (by have := SZ.out; have := B4.out.size; omega) x1'', put2_other (by have := SZ.out; have := B4.out.size; omega) y0'', put2_other (by have := SZ.out; have := B4.out.size; omega) y1'', put2_other (by have := SZ.out; have := B4.out.size; omega) q0'', put2_other (by have := SZ.out; have := B4.out.size; omega) q1''⟩
          | exact ⟨x0', x1', y0', y1', q0', q1'⟩
          | exact ⟨by rw [World.cell?_alloc_past _ _ _ (by have := SZ.out; simp; omega)]; first | exact x0'' | exact x0' | exact x0, by rw [World.cell?_alloc_past _ _ _ (by have := SZ.out; simp; omega)]; first | exact x1'' | exact x1' | exact x1, by rw [World.cell?_alloc_past _ _ _ (by have := SZ.out; simp; omega)]; first | exact y0'' | exact y0' | exact y0, by rw [World.cell?_alloc_past _ _ _ (by have := SZ.out; simp; omega)]; first | exact y1'' | exact y1' | exact y1, by rw [World.cell?_alloc_past _ _ _ (by have := SZ.out; simp; omega)]; first | exact q0'' | exact q0' | exact q0, by rw [World.cell?_alloc_past _ _ _ (by have := SZ.out; simp; omega)]; first | exact q1'' | exact q1' | exact q1⟩
          | go_keep)
        (first
          | (go_at_call 28; refine (HMul.out _ _ _ (IQ.out.below (by first | exact Below.refl _ _ | exact (Below.refl _ _).drew | exact (Below.refl _ _).drew.alloc (Nat.le_refl _) _)) (IB.out.below (by first | exact Below.refl _ _ | exact (Below.refl _ _).drew | exact (Below.refl _ _).drew.alloc (Nat.le_refl _) _))).mono ?_; rintro e w4 ⟨r4, rfl, hi4, hbl⟩; have hbl2 : Below wc.heap.size wc w4 := (by first | exact hbl | exact below_undrew hbl | exact ((Below.refl _ _).drew.alloc (Nat.le_refl _) _).trans (hbl.mono (by simp))); have B4 := Lib.hid hbl2; obtain ⟨x0', x1', fa0', fa1'⟩ := XA.out.below (by have := SZ.out; omega) B4.out; obtain ⟨y0', y1', fb0', fb1'⟩ := XB.out.below (by have := SZ.out; omega) B4.out; obtain ⟨q0', q1', fq0', fq1'⟩ := XQ.out.below (by have := SZ.out; omega) B4.out; obtain ⟨ra4, rc4, rfl, -⟩ := hi4.form; have R4 := Lib.hid hi4; (try have Z4 := Lib.hid (show BoxF wc.heap.size false (.slice none 0 0) w4 from (boxF_new wc.drew).below (by simp) hbl)); (try obtain ⟨zc0, zc1, zf0, zf1⟩ := Z4.out); clear hi4 hbl hbl2)
          | (go_at_call 27; refine (HSub.out _ _ _ (IA.out.below (by first | exact B4.out | exact B4.out.alloc B4.out.size _)) (by first | exact R4.out | exact R4.out.below ((Below.refl _ _).alloc (Nat.le_refl _) _))).mono ?_; rintro e w5 ⟨r5, rfl, hi5, hbl⟩; have hbl2 : Below wc.heap.size wc w5 := (by first | exact B4.out.trans (hbl.mono B4.out.size) | exact (B4.out.alloc B4.out.size _).trans (hbl.mono (by have := B4.out.size; simp; omega))); have B5 := Lib.hid hbl2; obtain ⟨x0'', x1'', fa0'', fa1''⟩ := XA.out.below (by have := SZ.out; omega) B5.out; obtain ⟨y0'', y1'', fb0'', fb1''⟩ := XB.out.below (by have := SZ.out; omega) B5.out; obtain ⟨q0'', q1'', fq0'', fq1''⟩ := XQ.out.below (by have := SZ.out; omega) B5.out; obtain ⟨ra5, rc5, rfl, -⟩ := hi5.form; have R5 := Lib.hid hi5; (try have Z5 := Lib.hid (show BoxF wc.heap.size false (.slice none 0 0) w5 from Z4.out.below (by first | exact Nat.lt_of_lt_of_le (World.block_lt_of_cell? _ _ Z4.out.c0) (Nat.le_refl _)) hbl)); (try have Z5 := Lib.hid (show BoxF w4.heap.size false (.slice none 0 0) w5 from (boxF_new w4).below (by simp) hbl)); (try obtain ⟨zc0', zc1', zf0', zf1'⟩ := Z5.out); clear hi5 hbl hbl2))
      all_goals
        go_wp2_with fail
        go_meet
        case rel => first
          | exact ⟨_, rfl, (FW.out.below B5.out).below ((Below.refl _ _).alloc (Nat.le_refl _) _), holds_new R5.out⟩
          | exact ⟨_, rfl, fl_put (FW.out.below B5.out) Z5.out (by have := SZ.out; have := B4.out.size; omega), Holds.put Z5.out.bx Z5.out.f0 Z5.out.f1 R5.out⟩
    case rest =>
      obtain ⟨p, rfl, F5, H5⟩ := hcut
      obtain ⟨br, sr, lr, cr, bxr, isr, -, -, hbr⟩ := H5
      obtain ⟨bc, sc, lc, cc, bxc, isc, -, -, -⟩ := F5.b
      obtain ⟨z0, z1⟩ := bxr
      obtain ⟨t0, t1⟩ := bxc
      have BEL := Lib.hid F5.bel
      have IR := Lib.hid isr
      have IC := Lib.hid isc
      have HBR := Lib.hid hbr
      clear hbr isr isc F5
      obtain ⟨cv, hcv⟩ : ∃ c, cmpI (X - q * Y) Y = c := ⟨_, rfl⟩
      rw [hcv] at HCmp
      have HF := Lib.hid (show flB X Y q = (!br && decide (cv < 0)) by rw [HBR.out, ← hcv]; rfl)
      clear hcv
      cases br with
      | true =>
        go_wp2_with fail
        go_ret
        exact ⟨ret_bool (by rw [HF.out]; rfl), BEL.out⟩
      | false =>
        go_wp2_with (go_at_call 29; refine (HCmp.out _ _ _ IR.out IC.out).mono ?_; rintro e w6 ⟨rfl, hbl⟩; have B6 := Lib.hid (BEL.out.trans (hbl.mono BEL.out.size)); clear hbl)
        go_ret
        exact ⟨ret_bool (by rw [HF.out]; simp), B6.out⟩
end Go.Proofs.Ytikhgdbbbingbaa.Bg
