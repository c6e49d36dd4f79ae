/- What Floor does. -/
import Derived.Test.YtikhgdbbbingbaaDoorBigM
namespace Go.Proofs.YtikhgdbbbingbaaDoor.Bg
open Go Go.RowKit Go.Proofs.YtikhgdbbbingbaaDoor.Dg
set_option linter.unusedVariables false

/-- a box that holds a number -/
def Holds (p : Nat) (z : Int) (w : World) : Prop := ∃ b sa l cap, Box p b (.slice sa l cap) w ∧ Is w (.agg #[.bool b, .slice sa l cap]) z ∧ w.frozen? ⟨p, 0, none⟩ = false ∧ w.frozen? ⟨p, 1, none⟩ = false ∧ b = decide (z < 0)
theorem Holds.below {p : Nat} {z : Int} {w w2 : World} (h : Holds p z w) (hp : p < w.heap.size) (hb : Below w.heap.size w w2) : Holds p z w2 := by
  obtain ⟨b, sa, l, cap, h1, h2, h3, h4, h5⟩ := h
  exact ⟨b, sa, l, cap, h1.below hp hb, h2.below hb, by rw [hb.frozen (p := ⟨p, 0, none⟩) hp]; exact h3, by rw [hb.frozen (p := ⟨p, 1, none⟩) hp]; exact h4, h5⟩
theorem Holds.drewN {p : Nat} {z : Int} {w : World} (h : Holds p z w) (n : Nat) : Holds p z (w.drewN n) := h
theorem Holds.put {p : Nat} {z : Int} {w : World} {b b' : Bool} {sa sa' : Option Addr} {l cap l' cap' : Nat} (h : Box p b (.slice sa l cap) w) (f0 : w.frozen? ⟨p, 0, none⟩ = false) (f1 : w.frozen? ⟨p, 1, none⟩ = false) (hn : Is w (.agg #[.bool b', .slice sa' l' cap']) z) :
    Holds p z (put2 w p (.bool b') (.slice sa' l' cap')) := by
  have hb : b' = decide (z < 0) := by obtain ⟨s, e, _⟩ := hn; simp at e; exact e.1
  refine ⟨b', sa', l', cap', put2_cells h.1 h.2, hn.keeps (put2_keeps h.1 h.2 (nb _) (ns _ _ _)), ?_, ?_, hb⟩
  · unfold put2; rw [World.frozen?_setCell, World.frozen?_setCell]; exact f0
  · unfold put2; rw [World.frozen?_setCell, World.frozen?_setCell]; exact f1
theorem Holds.other {p q : Nat} {z : Int} {w : World} {b : Bool} {sa : Option Addr} {l cap : Nat} {x y : Value} (h : Holds p z w) (hq : Box q b (.slice sa l cap) w) (hne : q ≠ p) : Holds p z (put2 w q x y) := by
  obtain ⟨b1, sa1, l1, cap1, h1, h2, h3, h4, h5⟩ := h
  refine ⟨b1, sa1, l1, cap1, ⟨put2_other hne h1.1, put2_other hne h1.2⟩, h2.keeps (put2_keeps hq.1 hq.2 (nb _) (ns _ _ _)), ?_, ?_, h5⟩
  · unfold put2; rw [World.frozen?_setCell, World.frozen?_setCell]; exact h3
  · unfold put2; rw [World.frozen?_setCell, World.frozen?_setCell]; exact h4
theorem holds_new {w : World} {z : Int} {b : Bool} {sa : Option Addr} {l cap : Nat} (h : Is w (.agg #[.bool b, .slice sa l cap]) z) : Holds w.heap.size z (w.alloc (.cells #[.bool b, .slice sa l cap] 38)) := by
  have hb : b = decide (z < 0) := by obtain ⟨s, e, _⟩ := h; simp at e; exact e.1
  refine ⟨b, sa, l, cap, box_new _ _ _, h.below ((Below.refl _ _).alloc (Nat.le_refl _) _), ?_, ?_, hb⟩
  · rw [World.frozen?_alloc_at _ _ _ _ rfl]
  · rw [World.frozen?_alloc_at _ _ _ _ rfl]

structure BoxF (p : Nat) (b : Bool) (s : Value) (w : World) : Prop where
  c0 : w.cell? ⟨p, 0, none⟩ = some (.bool b)
  c1 : w.cell? ⟨p, 1, none⟩ = some s
  f0 : w.frozen? ⟨p, 0, none⟩ = false
  f1 : w.frozen? ⟨p, 1, none⟩ = false
theorem BoxF.below {p : Nat} {b : Bool} {s : Value} {w w2 : World} {B : Nat} (h : BoxF p b s w) (hp : p < B) (hb : Below B w w2) : BoxF p b s w2 :=
  ⟨by rw [hb.cell (p := ⟨p, 0, none⟩) hp]; exact h.c0, by rw [hb.cell (p := ⟨p, 1, none⟩) hp]; exact h.c1, by rw [hb.frozen (p := ⟨p, 0, none⟩) hp]; exact h.f0, by rw [hb.frozen (p := ⟨p, 1, none⟩) hp]; exact h.f1⟩
theorem BoxF.bx {p : Nat} {b : Bool} {s : Value} {w : World} (h : BoxF p b s w) : Box p b s w := ⟨h.c0, h.c1⟩

/-- the three boxes of Floor -/
structure Fl (w wx : World) (x y z : Int) : Prop where
  a : Holds w.heap.size x wx
  b : Holds (w.heap.size + 1) y wx
  q : Holds (w.heap.size + 2) z wx
  sz : w.heap.size + 3 ≤ wx.heap.size
  bel : Below w.heap.size w wx
theorem Fl.below {w wx w2 : World} {x y z : Int} (h : Fl w wx x y z) (hb : Below wx.heap.size wx w2) : Fl w w2 x y z := by
  have := h.sz
  exact ⟨h.a.below (by omega) hb, h.b.below (by omega) hb, h.q.below (by omega) hb, Nat.le_trans h.sz hb.size, h.bel.trans (hb.mono h.bel.size)⟩
theorem fl_new {w : World} {x y z : Int} {v1 v2 v3 : Value} {b1 b2 b3 : Bool} {a1 a2 a3 : Option Addr} {l1 l2 l3 c1 c2 c3 : Nat} (h1 : Is w (.agg #[.bool b1, .slice a1 l1 c1]) x) (h2 : Is w (.agg #[.bool b2, .slice a2 l2 c2]) y) (h3 : Is w (.agg #[.bool b3, .slice a3 l3 c3]) z) :
    Fl w (((w.alloc (.cells #[.bool b1, .slice a1 l1 c1] 38)).alloc (.cells #[.bool b2, .slice a2 l2 c2] 38)).alloc (.cells #[.bool b3, .slice a3 l3 c3] 38)) x y z := by
  have k1 := holds_new h1
  have bl1 : Below w.heap.size w (w.alloc (.cells #[.bool b1, .slice a1 l1 c1] 38)) := (Below.refl _ _).alloc (Nat.le_refl _) _
  have s1 : (w.alloc (.cells #[.bool b1, .slice a1 l1 c1] 38)).heap.size = w.heap.size + 1 := by simp
  have k2 := holds_new (h2.below bl1)
  have h3' := h3.below bl1
  generalize w.alloc (.cells #[.bool b1, .slice a1 l1 c1] 38) = W1 at *
  have bl2 : Below W1.heap.size W1 (W1.alloc (.cells #[.bool b2, .slice a2 l2 c2] 38)) := (Below.refl _ _).alloc (Nat.le_refl _) _
  have s2 : (W1.alloc (.cells #[.bool b2, .slice a2 l2 c2] 38)).heap.size = W1.heap.size + 1 := by simp
  have k3 := holds_new (h3'.below bl2)
  have k1' := k1.below (by omega) bl2
  generalize W1.alloc (.cells #[.bool b2, .slice a2 l2 c2] 38) = W2 at *
  have bl3 : Below W2.heap.size W2 (W2.alloc (.cells #[.bool b3, .slice a3 l3 c3] 38)) := (Below.refl _ _).alloc (Nat.le_refl _) _
  have k1'' := k1'.below (by omega) bl3
  have k2'' := k2.below (by omega) bl3
  have e1 : W1.heap.size = w.heap.size + 1 := s1
  have e2 : W2.heap.size = w.heap.size + 2 := by omega
  rw [e1] at k2''
  rw [e2] at k3
  refine ⟨k1'', k2'', k3, by simp; omega, bl1.trans ((bl2.mono (by omega)).trans (bl3.mono (by omega)))⟩

def fl3 (w : World) (b1 b2 b3 : Bool) (a1 a2 a3 : Option Addr) (l1 l2 l3 c1 c2 c3 : Nat) : World :=
  ((w.alloc (.cells #[.bool b1, .slice a1 l1 c1] 38)).alloc (.cells #[.bool b2, .slice a2 l2 c2] 38)).alloc (.cells #[.bool b3, .slice a3 l3 c3] 38)

theorem fl_negated {w W w2 : World} {x y q X Y : Int} {ba bb b1 b2 : Bool} {sa sb s1 s2 : Option Addr} {la lb l1 l2 ca cb c1 c2 : Nat} (h : Fl w W x y q) (hb : Below W.heap.size W w2)
    (ha : BoxF w.heap.size ba (.slice sa la ca) w2) (hc : BoxF (w.heap.size + 1) bb (.slice sb lb cb) w2) (i1 : Is w2 (.agg #[.bool b1, .slice s1 l1 c1]) X) (i2 : Is w2 (.agg #[.bool b2, .slice s2 l2 c2]) Y) :
    Fl w (put2 (put2 w2 w.heap.size (.bool b1) (.slice s1 l1 c1)) (w.heap.size + 1) (.bool b2) (.slice s2 l2 c2)) X Y q := by
  have h2 := h.below hb
  have k1 := Holds.put ha.bx ha.f0 ha.f1 i1
  have bq1 := h2.q.other (x := .bool b1) (y := .slice s1 l1 c1) ha.bx (by omega)
  have kk : Keeps w2 (put2 w2 w.heap.size (.bool b1) (.slice s1 l1 c1)) := put2_keeps ha.c0 ha.c1 (nb _) (ns _ _ _)
  have bb1 : BoxF (w.heap.size + 1) bb (.slice sb lb cb) (put2 w2 w.heap.size (.bool b1) (.slice s1 l1 c1)) := by
    refine ⟨put2_other (by omega) hc.c0, put2_other (by omega) hc.c1, ?_, ?_⟩
    · unfold put2; rw [World.frozen?_setCell, World.frozen?_setCell]; exact hc.f0
    · unfold put2; rw [World.frozen?_setCell, World.frozen?_setCell]; exact hc.f1
  refine ⟨k1.other bb1.bx (by omega), Holds.put bb1.bx bb1.f0 bb1.f1 (i2.keeps kk), bq1.other bb1.bx (by omega), ?_, put2_below (put2_below h2.bel (Nat.le_refl _)) (by omega)⟩
  have := h2.sz
  exact Nat.le_trans this (Nat.le_trans kk.size (put2_keeps bb1.c0 bb1.c1 (nb _) (ns _ _ _)).size)

theorem fl_put {w w5 : World} {x y q : Int} {p : Nat} {a b : Value} {bb : Bool} {sa : Option Addr} {l c : Nat} (h : Fl w w5 x y q) (hb : BoxF p bb (.slice sa l c) w5) (hp : w.heap.size + 3 ≤ p) : Fl w (put2 w5 p a b) x y q :=
  ⟨h.a.other hb.bx (by omega), h.b.other hb.bx (by omega), h.q.other hb.bx (by omega), Nat.le_trans h.sz (put2_keeps hb.c0 hb.c1 (nb _) (ns _ _ _)).size, put2_below h.bel (by omega)⟩
theorem boxF_new (w : World) : BoxF w.heap.size false (.slice none 0 0) (w.alloc (.cells #[.bool false, .slice none 0 0] 38)) := by
  obtain ⟨a, b⟩ := zero_at w w.heap.size rfl
  exact ⟨a, b, by rw [World.frozen?_alloc_at _ _ _ _ rfl], by rw [World.frozen?_alloc_at _ _ _ _ rfl]⟩

/-- not too great for a product -/
def Md (x : Int) : Prop := -10000000000000000000000000000000000000000000000000 < x ∧ x < 10000000000000000000000000000000000000000000000000
theorem Md.sm {x : Int} (h : Md x) : Sm x := by obtain ⟨a, b⟩ := h; unfold Sm; omega
theorem Md.neg {x : Int} (h : Md x) : Md (-x) := by obtain ⟨a, b⟩ := h; unfold Md; omega
theorem Md.sub {x y : Int} (h : Md x) (k : Md y) : Sm (x - y) := by obtain ⟨a, b⟩ := h; obtain ⟨c, d⟩ := k; unfold Sm; omega

/-- is q the greatest whole number not above x by y, y above 0? -/
def flB (x y q : Int) : Bool := !(decide (x - q * y < 0)) && decide (cmpI (x - q * y) y < 0)

end Go.Proofs.YtikhgdbbbingbaaDoor.Bg
