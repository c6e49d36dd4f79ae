/- What Below does. -/
import Derived.Test.YtikhgdbbbingbaaDoorBigF
namespace Go.Proofs.YtikhgdbbbingbaaDoor.Bg
open Go Go.RowKit Go.Proofs.YtikhgdbbbingbaaDoor.Dg
set_option linter.unusedVariables false

/-- the two boxes of Below -/
structure Tw (w wx : World) (x y : Int) : Prop where
  a : Holds w.heap.size x wx
  b : Holds (w.heap.size + 1) y wx
  sz : w.heap.size + 2 ≤ wx.heap.size
  bel : Below w.heap.size w wx
theorem Tw.below {w wx w2 : World} {x y : Int} (h : Tw w wx x y) (hb : Below wx.heap.size wx w2) : Tw w w2 x y := by
  have := h.sz
  exact ⟨h.a.below (by omega) hb, h.b.below (by omega) hb, Nat.le_trans h.sz hb.size, h.bel.trans (hb.mono h.bel.size)⟩
def tw2 (w : World) (b1 b2 : Bool) (a1 a2 : Option Addr) (l1 l2 c1 c2 : Nat) : World :=
  (w.alloc (.cells #[.bool b1, .slice a1 l1 c1] 38)).alloc (.cells #[.bool b2, .slice a2 l2 c2] 38)
theorem tw_new {w : World} {x y : Int} {b1 b2 : Bool} {a1 a2 : Option Addr} {l1 l2 c1 c2 : Nat} (h1 : Is w (.agg #[.bool b1, .slice a1 l1 c1]) x) (h2 : Is w (.agg #[.bool b2, .slice a2 l2 c2]) y) :
    Tw w (tw2 w b1 b2 a1 a2 l1 l2 c1 c2) x y := by
  unfold tw2
  have k1 := holds_new h1
  have bl1 : Below w.heap.size w (w.alloc (.cells #[.bool b1, .slice a1 l1 c1] 38)) := (Below.refl _ _).alloc (Nat.le_refl _) _
  have s1 : (w.alloc (.cells #[.bool b1, .slice a1 l1 c1] 38)).heap.size = w.heap.size + 1 := by simp
  have k2 := holds_new (h2.below bl1)
  generalize w.alloc (.cells #[.bool b1, .slice a1 l1 c1] 38) = W1 at *
  have bl2 : Below W1.heap.size W1 (W1.alloc (.cells #[.bool b2, .slice a2 l2 c2] 38)) := (Below.refl _ _).alloc (Nat.le_refl _) _
  have k1' := k1.below (by omega) bl2
  have e1 : W1.heap.size = w.heap.size + 1 := s1
  rw [e1] at k2
  exact ⟨k1', k2, by simp; omega, bl1.trans (bl2.mono (by omega))⟩
theorem tw_negated {w W w2 : World} {x y X Y : Int} {ba bb b1 b2 : Bool} {sa sb s1 s2 : Option Addr} {la lb l1 l2 ca cb c1 c2 : Nat} (h : Tw w W x y) (hb : Below W.heap.size W w2)
    (ha : BoxF w.heap.size ba (.slice sa la ca) w2) (hc : BoxF (w.heap.size + 1) bb (.slice sb lb cb) w2) (i1 : Is w2 (.agg #[.bool b1, .slice s1 l1 c1]) X) (i2 : Is w2 (.agg #[.bool b2, .slice s2 l2 c2]) Y) :
    Tw w (put2 (put2 w2 w.heap.size (.bool b1) (.slice s1 l1 c1)) (w.heap.size + 1) (.bool b2) (.slice s2 l2 c2)) X Y := by
  have h2 := h.below hb
  have k1 := Holds.put ha.bx ha.f0 ha.f1 i1
  have kk : Keeps w2 (put2 w2 w.heap.size (.bool b1) (.slice s1 l1 c1)) := put2_keeps ha.c0 ha.c1 (nb _) (ns _ _ _)
  have bb1 : BoxF (w.heap.size + 1) bb (.slice sb lb cb) (put2 w2 w.heap.size (.bool b1) (.slice s1 l1 c1)) := by
    refine ⟨put2_other (by omega) hc.c0, put2_other (by omega) hc.c1, ?_, ?_⟩
    · unfold put2; rw [World.frozen?_setCell, World.frozen?_setCell]; exact hc.f0
    · unfold put2; rw [World.frozen?_setCell, World.frozen?_setCell]; exact hc.f1
  refine ⟨k1.other bb1.bx (by omega), Holds.put bb1.bx bb1.f0 bb1.f1 (i2.keeps kk), ?_, put2_below (put2_below h2.bel (Nat.le_refl _)) (by omega)⟩
  have := h2.sz
  exact Nat.le_trans this (Nat.le_trans kk.size (put2_keeps bb1.c0 bb1.c1 (nb _) (ns _ _ _)).size)

def TellsBB (w : World) (x y : Bool) (e : Ending) (w' : World) : Prop := e = .returned (.tuple #[.bool x, .bool y]) ∧ Below w.heap.size w w'
theorem ret_bb {a b x y : Bool} (h1 : a = x) (h2 : b = y) : Ending.returned (.tuple #[.bool a, .bool b]) = .returned (.tuple #[.bool x, .bool y]) := by rw [h1, h2]
/-- is x by y, y above 0, rounded down, below the int64s, above them? -/
def loB (x y : Int) : Bool := decide (cmpI x (-9223372036854775808 * y) < 0)
def hiB (x y : Int) : Bool := decide (0 ≤ cmpI x (9223372036854775808 * y))

end Go.Proofs.YtikhgdbbbingbaaDoor.Bg
