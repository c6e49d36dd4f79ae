/- What num.MulDiv does. -/
import Derived.Test.YtikhgdbbbingbaaDoorDiv64b
import Derived.Deep.RegionWith
import Derived.Deep.RegionHeld3
namespace Go.Proofs.YtikhgdbbbingbaaDoor
open Go Go.RowKit
set_option linter.unusedVariables false

def absI (a : Int) : Int := if a < 0 then -a else a
theorem absI_pos (a : Int) : 0 ≤ absI a := by unfold absI; split <;> omega

theorem ret_u64 {a b : Int} (h : a = b) : Ending.returned (.int .u64 a) = .returned (.int .u64 b) := by rw [h]
theorem ret_bool {a b : Bool} (h : a = b) : Ending.returned (.bool a) = .returned (.bool b) := by rw [h]
theorem size_any (a : Int) (w : World) (h0 : -9223372036854775808 ≤ a) (h1 : a ≤ 9223372036854775807) : Calls Tryd.prog 43 #[.int .i64 a] w fun e w' => e = .returned (.int .u64 (absI a)) ∧ w = w' := by
  have HA := Lib.hid (show (a < 0 → IntKind.u64.wrap (-IntKind.u64.wrap a) = absI a) ∧ (0 ≤ a → IntKind.u64.wrap a = absI a) by
    unfold absI; rw [wrap_u64, wrap_u64]; split <;> omega)
  by_cases h : a < 0
  · have e := HA.out.1 h
    go_enter Tryd.func43, Tryd.ntmps43
    go_wp2
    go_ret
    exact ⟨rfl, rfl⟩
  · have e := HA.out.2 (by omega)
    have HE := Lib.hid (show a = absI a by unfold absI; rw [if_neg h])
    go_enter Tryd.func43, Tryd.ntmps43
    go_wp2
    go_ret
    exact ⟨ret_u64 (by first | rfl | exact e | exact HE.out), rfl⟩

theorem mul64_any (a b : Int) (w : World) (ha0 : 0 ≤ a) (ha1 : a ≤ 18446744073709551615) (hb0 : 0 ≤ b) (hb1 : b ≤ 18446744073709551615) :
    Calls Tryd.prog 42 #[.int .u64 a, .int .u64 b] w fun e w' => e = .returned (.tuple #[.int .u64 (a * b / 18446744073709551616), .int .u64 (a * b % 18446744073709551616)]) ∧ w = w' := by
  obtain ⟨n, rfl⟩ : ∃ n : Nat, a = n := ⟨a.toNat, by omega⟩
  obtain ⟨m, rfl⟩ : ∃ n : Nat, b = n := ⟨b.toNat, by omega⟩
  refine (Tryd.bits_Mul64 n m (by omega) (by omega) w).mono ?_
  rintro e w' ⟨rfl, rfl⟩
  exact ⟨by simp, rfl⟩

def belowB (a b c : Int) : Bool := (((decide (a < 0) != decide (b < 0)) != decide (c < 0)) && a != 0) && b != 0

set_option maxHeartbeats 1000000 in
theorem below_any (a b c : Int) (B : Nat) (w : World) (ca : w.cell? ⟨B, 0, none⟩ = some (.int .i64 a)) (cb : w.cell? ⟨B + 1, 0, none⟩ = some (.int .i64 b)) (cc : w.cell? ⟨B + 2, 0, none⟩ = some (.int .i64 c)) :
    Calls Tryd.prog 44 #[.pointer (some ⟨B, 0, none⟩), .pointer (some ⟨B + 1, 0, none⟩), .pointer (some ⟨B + 2, 0, none⟩)] w fun e w' => e = .returned (.bool (belowB a b c)) ∧ w = w' := by
  by_cases ha : a < 0 <;> by_cases hb : b < 0 <;> by_cases hc : c < 0
  all_goals
    first
    | have dA := Lib.hid (show decide (a < 0) = true from decide_eq_true ha)
    | have dA := Lib.hid (show decide (a < 0) = false from decide_eq_false ha)
    first
    | have dB := Lib.hid (show decide (b < 0) = true from decide_eq_true hb)
    | have dB := Lib.hid (show decide (b < 0) = false from decide_eq_false hb)
    first
    | have dC := Lib.hid (show decide (c < 0) = true from decide_eq_true hc)
    | have dC := Lib.hid (show decide (c < 0) = false from decide_eq_false hc)
    go_enter Tryd.func44, Tryd.ntmps44
    go_wp2
    all_goals go_ret
    all_goals exact ⟨ret_bool (by first | rfl | (unfold belowB; rw [dA.out, dB.out, dC.out]; first | rfl | (simp; done)) | (unfold belowB; simp; done)), rfl⟩
end Go.Proofs.YtikhgdbbbingbaaDoor
