/- What Cmp, Is and Fits do. -/
import Derived.Test.YtikhgdbbbingbaaDoorBig7
namespace Go.Proofs.YtikhgdbbbingbaaDoor.Bg
open Go Go.RowKit Go.Proofs.YtikhgdbbbingbaaDoor.Dg
set_option linter.unusedVariables false

/-- a whole number is told, and only new memory was made -/
def TellsInt (w : World) (x : Int) (e : Ending) (w' : World) : Prop := e = .returned (.int .i64 x) ∧ Below w.heap.size w w'
def TellsBool (w : World) (x : Bool) (e : Ending) (w' : World) : Prop := e = .returned (.bool x) ∧ Below w.heap.size w w'

/-- two boxes -/
def boxes2 (w : World) (b0 : Bool) (s0 : Value) (b1 : Bool) (s1 : Value) : World :=
  (w.alloc (.cells #[.bool b0, s0] 38)).alloc (.cells #[.bool b1, s1] 38)
theorem boxes2_below (w : World) (b0 : Bool) (s0 : Value) (b1 : Bool) (s1 : Value) : Below w.heap.size w (boxes2 w b0 s0 b1 s1) :=
  ((Below.refl _ _).alloc (Nat.le_refl _) _).alloc (by simp) _

theorem canon_nil {n : Nat} : (canon n).length = 0 ↔ n = 0 := by
  constructor
  · intro h
    by_cases hn : 0 < n
    · rw [canon_pos n hn] at h; simp at h
    · omega
  · rintro rfl; simp [canon_zero]

set_option maxHeartbeats 2000000 in
theorem cmpB_any (v1 v2 : Value) (x y : Int) (w : World) (h1 : Is w v1 x) (h2 : Is w v2 y) (s1 : Sm x) (s2 : Sm y) : Calls Tryd.prog 38 #[v1, v2] w (TellsInt w (cmpI x y)) := by
  have HS := Lib.hid (fun w1 hb => subB_any v1 v2 x y w1 (h1.below (w' := w1) hb) (h2.below (w' := w1) hb) s1 s2)
  obtain ⟨a1, c1, rfl, r1⟩ := h1.form
  obtain ⟨a2, c2, rfl, r2⟩ := h2.form
  obtain ⟨b1, e1⟩ : ∃ b, decide (x < 0) = b := ⟨_, rfl⟩
  obtain ⟨b2, e2⟩ : ∃ b, decide (y < 0) = b := ⟨_, rfl⟩
  obtain ⟨l1, e3⟩ : ∃ b, (canon x.natAbs).length = b := ⟨_, rfl⟩
  obtain ⟨l2, e4⟩ : ∃ b, (canon y.natAbs).length = b := ⟨_, rfl⟩
  rw [e1, e3, e2, e4] at HS
  rw [e1, e2, e3, e4]
  have BB := Lib.hid (boxes2_below w b1 (.slice a1 l1 c1) b2 (.slice a2 l2 c2))
  have hcz : (cmpI x y = 0 ↔ x - y = 0) ∧ (x - y < 0 → cmpI x y = -1) ∧ (0 < x - y → cmpI x y = 1) := by
    unfold cmpI
    refine ⟨?_, fun h => if_pos (by omega), fun h => by rw [if_neg (by omega), if_pos (by omega)]⟩
    split
    · omega
    · split <;> omega
  obtain ⟨z, hz⟩ : ∃ z, x - y = z := ⟨_, rfl⟩
  obtain ⟨cv, hcv⟩ : ∃ z, cmpI x y = z := ⟨_, rfl⟩
  rw [hz, hcv] at hcz
  rw [hz] at HS
  rw [hcv]
  obtain ⟨k1, k2, k3⟩ := hcz
  obtain ⟨m, hm⟩ : ∃ m, (canon z.natAbs).length = m := ⟨_, rfl⟩
  have hm0 := canon_nil (n := z.natAbs)
  rw [hm] at hm0
  have M := Lib.hid hm
  clear h1 h2 r1 r2 e1 e2 e3 e4 hz hcv s1 s2 hm
  by_cases hz : z = 0
  · obtain rfl : cv = 0 := k1.2 hz
    obtain rfl : m = 0 := hm0.2 (by omega)
    clear k1 k2 k3 hm0 hz
    go_enter Tryd.func38, Tryd.ntmps38
    go_wp2_with (first | (go_at_call 31; refine (HS.out _ BB.out).mono ?_; rintro e w1 ⟨r, rfl, hi, hbl⟩; obtain ⟨sa, scp, rfl, hrd⟩ := hi.form; rw [M.out] at hrd ⊢; have B1 := Lib.hid (BB.out.trans (hbl.mono BB.out.size)); clear hi hbl hrd))
    go_ret
    exact ⟨rfl, (B1.out.alloc B1.out.size _)⟩
  · have hmp : ((m : Int) == 0) = false := by have := mt hm0.1 (by omega); simp; omega
    by_cases hn : z < 0
    · obtain rfl := k2 hn
      have hd : decide (z < 0) = true := decide_eq_true hn
      clear k1 k2 k3 hm0 hz
      go_enter Tryd.func38, Tryd.ntmps38
      go_wp2_with (first | (go_at_call 31; refine (HS.out _ BB.out).mono ?_; rintro e w1 ⟨r, rfl, hi, hbl⟩; obtain ⟨sa, scp, rfl, hrd⟩ := hi.form; rw [M.out, hd] at *; have B1 := Lib.hid (BB.out.trans (hbl.mono BB.out.size)); clear hi hbl hrd))
      go_ret
      exact ⟨rfl, (B1.out.alloc B1.out.size _)⟩
    · obtain rfl := k3 (by omega)
      have hd : decide (z < 0) = false := decide_eq_false hn
      clear k1 k2 k3 hm0 hz
      go_enter Tryd.func38, Tryd.ntmps38
      go_wp2_with (first | (go_at_call 31; refine (HS.out _ BB.out).mono ?_; rintro e w1 ⟨r, rfl, hi, hbl⟩; obtain ⟨sa, scp, rfl, hrd⟩ := hi.form; rw [M.out, hd] at *; have B1 := Lib.hid (BB.out.trans (hbl.mono BB.out.size)); clear hi hbl hrd))
      go_ret
      exact ⟨rfl, (B1.out.alloc B1.out.size _)⟩
end Go.Proofs.YtikhgdbbbingbaaDoor.Bg
