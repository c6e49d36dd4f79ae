/- What the laws' is and quotient do. -/
import Derived.Test.YtikhgdbbbingbaaNumRow
import Derived.Test.YtikhgdbbbingbaaBigB
namespace Go.Proofs.Ytikhgdbbbingbaa
open Go Go.RowKit Go.Proofs.Ytikhgdbbbingbaa.Dg Go.Proofs.Ytikhgdbbbingbaa.Bg
set_option linter.unusedVariables false

theorem cmp_self (z : Int) : cmpI z z = 0 := by unfold cmpI; rw [if_neg (by omega), if_neg (by omega)]

set_option maxHeartbeats 2000000 in
theorem is_any (z : Int) (v : Value) (w : World) (h : Is w v z) (s : Sm z) :
    Calls Try.prog 32 #[.int .i64 (fitted z).1, .int .i64 (fitted z).2, v] w (TellsBool w true) := by
  have I1 := Lib.hid (fun w1 hb => h.below (w' := w1) hb)
  have HF := Lib.hid (fun w1 (hi : Is w1 v z) => fitsB_any v z w1 hi s)
  have HI := Lib.hid (fun (hz : I64 z) w1 (hi : Is w1 v z) => isB_any v z z w1 hi s hz)
  rw [cmp_self] at HI
  obtain ⟨a1, c1, rfl, r1⟩ := h.form
  obtain ⟨b1, e1⟩ : ∃ b, decide (z < 0) = b := ⟨_, rfl⟩
  obtain ⟨l1, e3⟩ : ∃ b, (canon z.natAbs).length = b := ⟨_, rfl⟩
  rw [e1, e3] at I1 HF HI ⊢
  have BX := Lib.hid (box_new w b1 (.slice a1 l1 c1))
  have BB := Lib.hid (show Below w.heap.size w (w.alloc (.cells #[.bool b1, .slice a1 l1 c1] 29)) from (Below.refl _ _).alloc (Nat.le_refl _) _)
  have BS := Lib.hid (show (w.alloc (.cells #[.bool b1, .slice a1 l1 c1] 29)).heap.size = w.heap.size + 1 by simp)
  clear h r1 e1 e3 s
  by_cases hz : fits z
  · rw [fitted_in hz, show decide (I64 z) = true from decide_eq_true hz] at *
    have HZ := Lib.hid hz
    clear hz
    go_enter Try.func32, Try.ntmps32
    go_wp2_with (first
      | (go_at_call 50; refine (HF.out _ (I1.out _ BB.out)).mono ?_; rintro e w1 ⟨rfl, hbl⟩; have B1 := Lib.hid (BB.out.trans (hbl.mono BB.out.size)); obtain ⟨x0, x1⟩ := BX.out.below (by simp) hbl; clear hbl)
      | (go_at_call 44; refine (HI.out HZ.out _ (I1.out _ B1.out)).mono ?_; rintro e w2 ⟨rfl, hbl⟩; have B2 := Lib.hid (B1.out.trans (hbl.mono B1.out.size)); clear hbl))
    go_ret
    exact ⟨rfl, B2.out⟩
  · rw [fitted_out hz, show decide (I64 z) = false from decide_eq_false hz] at *
    clear hz
    go_enter Try.func32, Try.ntmps32
    go_wp2_with (first
      | (go_at_call 50; refine (HF.out _ (I1.out _ BB.out)).mono ?_; rintro e w1 ⟨rfl, hbl⟩; have B1 := Lib.hid (BB.out.trans (hbl.mono BB.out.size)); clear hbl))
    go_ret
    exact ⟨rfl, B1.out⟩
end Go.Proofs.Ytikhgdbbbingbaa
