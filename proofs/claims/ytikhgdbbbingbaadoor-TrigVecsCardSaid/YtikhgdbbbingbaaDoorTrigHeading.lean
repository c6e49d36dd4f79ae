/- What trig's Heading does. -/
import Derived.Test.YtikhgdbbbingbaaDoorTrigWalk
import Derived.Deep.RegionHeld3
namespace Go.Proofs.YtikhgdbbbingbaaDoor.Tg
open Go Go.RowKit
set_option linter.unusedVariables false

theorem Tab.drewN {w : World} (h : Tab w) (n : Nat) : Tab (w.drewN n) := ⟨h.size, h.sines⟩

def farB (v : Int) : Bool := decide (v < -1073741824 ∨ 1073741824 < v)
theorem farB_false {v : Int} (h : farB v = false) : -1073741824 ≤ v ∧ v ≤ 1073741824 := by
  have := of_decide_eq_false h; omega
theorem farB_true {v : Int} (h : farB v = true) : v < -1073741824 ∨ 1073741824 < v := of_decide_eq_true h

theorem far_any (v : Int) (w : World) : Calls Tryd.prog 27 #[.int .i64 v] w fun e w' => e = .returned (.bool (farB v)) ∧ w = w' := by
  by_cases h : v < -1073741824
  · have HD : Hid (true = farB v) := (decide_eq_true (Or.inl h)).symm
    go_enter Tryd.func27, Tryd.ntmps27
    go_wp2
    go_ret
    exact ⟨ret_bool HD.out, rfl⟩
  · have HD := Lib.hid (show decide (1073741824 < v) = farB v by unfold farB; simp [h])
    go_enter Tryd.func27, Tryd.ntmps27
    go_wp2
    go_ret
    exact ⟨ret_bool HD.out, rfl⟩

/-- Heading's own four cells: x, y, the best wind, how far one goes along it -/
structure HM (w : World) (B : Nat) (x y : Int) (s : Int × Int) : Prop where
  size : B + 4 ≤ w.heap.size
  cx : w.cell? ⟨B, 0, none⟩ = some (.int .i64 x)
  cy : w.cell? ⟨B + 1, 0, none⟩ = some (.int .i64 y)
  cb : w.cell? ⟨B + 2, 0, none⟩ = some (.int .i64 s.1)
  cm : w.cell? ⟨B + 3, 0, none⟩ = some (.int .i64 s.2)
  fb : w.frozen? ⟨B + 2, 0, none⟩ = false
  fm : w.frozen? ⟨B + 3, 0, none⟩ = false

theorem HM.set {w : World} {B : Nat} {x y : Int} {s : Int × Int} (h : HM w B x y s) (n : Nat) (d v : Int) :
    HM (((w.drewN n).setCell ⟨B + 2, 0, none⟩ (.int .i64 d)).setCell ⟨B + 3, 0, none⟩ (.int .i64 v)) B x y (d, v) := by
  obtain ⟨hsz, cx, cy, cb, cm, fb, fm⟩ := h
  refine ⟨by simpa using hsz, ?_, ?_, ?_, ?_, by simpa using fb, by simpa using fm⟩
  · rw [World.cell?_setCell_far _ _ _ _ (by show _ ≠ _; simp), World.cell?_setCell_far _ _ _ _ (by show _ ≠ _; simp)]; exact cx
  · rw [World.cell?_setCell_far _ _ _ _ (by show _ ≠ _; simp), World.cell?_setCell_far _ _ _ _ (by show _ ≠ _; simp)]; exact cy
  · rw [World.cell?_setCell_far _ _ _ _ (by show _ ≠ _; simp)]
    exact World.cell?_setCell_same _ _ _ (u := .int .i64 s.1) cb
  · refine World.cell?_setCell_same _ _ _ (u := .int .i64 s.2) ?_
    rw [World.cell?_setCell_far _ _ _ _ (by show _ ≠ _; simp)]; exact cm
theorem HM.drewN {w : World} {B : Nat} {x y : Int} {s : Int × Int} (h : HM w B x y s) (n : Nat) : HM (w.drewN n) B x y s :=
  ⟨h.size, h.cx, h.cy, h.cb, h.cm, h.fb, h.fm⟩
theorem below_drewN (B : Nat) (w : World) (n : Nat) : Below B w (w.drewN n) := ⟨rfl, rfl, rfl, Nat.le_refl _, fun _ _ => rfl⟩

set_option maxHeartbeats 1000000 in
theorem try_any (B : Nat) (x y d : Int) (s : Int × Int) (w : World) (ht : Tab w) (hm : HM w B x y s)
    (hx : -1073741824 ≤ x ∧ x ≤ 1073741824) (hy : -1073741824 ≤ y ∧ y ≤ 1073741824) (h0 : 0 ≤ d) (h1 : d < 256) :
    Calls Tryd.prog 28 #[.int .i64 d, .pointer (some ⟨B, 0, none⟩), .pointer (some ⟨B + 1, 0, none⟩), .pointer (some ⟨B + 3, 0, none⟩), .pointer (some ⟨B + 2, 0, none⟩)] w fun e w' =>
      e = .returned (.tuple #[]) ∧ HM w' B x y (Tr.try1 x y s d) ∧ Below B w w' := by
  have HH := Lib.hid hm
  obtain ⟨b, m⟩ := s
  obtain ⟨hsz, cx, cy, cb, cm, fb, fm⟩ := hm
  simp only at cb cm
  have hb := Tr.vel_bound x y d hx hy h0 h1
  have hcos := fun n => (cos_any (256 * d) _ (ht.drewN n))
  have hsin := fun n => (sin_any (256 * d) _ (ht.drewN n))
  have HC : Hid (Tr.try1 x y (b, m) d = if m < x * Tr.cosA (256 * d) + y * Tr.sinA (256 * d) then (d, x * Tr.cosA (256 * d) + y * Tr.sinA (256 * d)) else (b, m)) := rfl
  replace hb : (-70368744177664 ≤ x * Tr.cosA (256 * d) ∧ x * Tr.cosA (256 * d) ≤ 70368744177664) ∧ (-70368744177664 ≤ y * Tr.sinA (256 * d) ∧ y * Tr.sinA (256 * d) ≤ 70368744177664) := hb
  obtain ⟨c, hc⟩ : ∃ c, Tr.cosA (256 * d) = c := ⟨_, rfl⟩
  obtain ⟨sn, hs⟩ : ∃ c, Tr.sinA (256 * d) = c := ⟨_, rfl⟩
  rw [hc] at hcos hb HC
  rw [hs] at hsin hb HC
  clear hc hs
  obtain ⟨p1, hp1⟩ : ∃ q, x * c = q := ⟨_, rfl⟩
  obtain ⟨p2, hp2⟩ : ∃ q, y * sn = q := ⟨_, rfl⟩
  rw [hp1, hp2] at hb HC
  have hcos' := Lib.hid hcos
  have hsin' := Lib.hid hsin
  clear hcos hsin ht
  by_cases h : m < p1 + p2
  · go_enter Tryd.func28, Tryd.ntmps28
    go_wp2
    go_quiet ((first | (go_at_call 14; exact Calls.quiet_of_same ((hcos'.out _).mono fun _ _ q => ⟨q.1, q.2.symm⟩)) | (go_at_call 12; exact Calls.quiet_of_same ((hsin'.out _).mono fun _ _ q => ⟨q.1, q.2.symm⟩))))
    go_wp2
    go_end0
    exact ⟨rfl, by rw [HC.out, if_pos h]; exact HH.out.set nq d _, ((below_drewN B w nq).setCell (by simp) _).setCell (by simp) _⟩
  · go_enter Tryd.func28, Tryd.ntmps28
    go_wp2
    go_quiet ((first | (go_at_call 14; exact Calls.quiet_of_same ((hcos'.out _).mono fun _ _ q => ⟨q.1, q.2.symm⟩)) | (go_at_call 12; exact Calls.quiet_of_same ((hsin'.out _).mono fun _ _ q => ⟨q.1, q.2.symm⟩))))
    go_wp2
    go_end0
    exact ⟨rfl, by rw [HC.out, if_neg (by omega)]; exact HH.out.drewN nq, below_drewN B w nq⟩
end Go.Proofs.YtikhgdbbbingbaaDoor.Tg
