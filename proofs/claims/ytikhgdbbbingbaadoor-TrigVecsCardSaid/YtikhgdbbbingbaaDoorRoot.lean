/- What the roots do. -/
import Derived.Test.YtikhgdbbbingbaaDoorProg
import Derived.Test.YtikhgdbbbingbaaDoorShelf
import Derived.WalkKit
import Derived.WalkSpells
import Derived.WalkLawsBesides
import Derived.Deep.QuietTactic
import Derived.BigQuiet
import Derived.Lib.Hide
import Derived.Lib.ItoaNum
import Derived.WalkMore
import Derived.IntWalk
import Derived.Test.YtikhgdbbbingbaaDoorRootPure
namespace Go.Proofs.YtikhgdbbbingbaaDoor.Rt
open Go Go.RowKit
set_option linter.unusedVariables false

theorem ret_u {a b : Int} (h : a = b) : Ending.returned (.int .u64 a) = .returned (.int .u64 b) := by rw [h]

theorem p2_pow (k : Nat) : p2 k = ((2 ^ k : Nat) : Int) := by
  induction k with
  | zero => rfl
  | succ k ih => rw [p2, ih, Nat.pow_succ]; omega

/-- the power of two that is above the root -/
theorem start_facts (n : Int) (h0 : 0 < n) (h1 : n ≤ 18446744073709551615) : ∃ L h : Nat, Lib.bitLen n.toNat = L ∧ 1 ≤ L ∧ L ≤ 64 ∧ (L + 1) / 2 = h ∧ h ≤ 32 ∧ rt n ≤ p2 h ∧ p2 h ≤ 4294967296 := by
  have hb := Lib.bitLenAux_bounds 64 n.toNat (by omega) (by omega)
  change 1 ≤ Lib.bitLen n.toNat ∧ 2 ^ (Lib.bitLen n.toNat - 1) ≤ n.toNat ∧ n.toNat < 2 ^ Lib.bitLen n.toNat at hb
  have hl := Lib.bitLen_le n.toNat 64 (by omega) (by omega)
  obtain ⟨L, hL⟩ : ∃ L, Lib.bitLen n.toNat = L := ⟨_, rfl⟩
  rw [hL] at hb hl
  refine ⟨L, (L + 1) / 2, hL, hb.1, hl, rfl, by omega, ?_, ?_⟩
  · have h2 : n < p2 ((L + 1) / 2) * p2 ((L + 1) / 2) := by
      rw [← p2_add]
      have h3 : p2 L ≤ p2 ((L + 1) / 2 + (L + 1) / 2) := p2_mono (by omega)
      rw [p2_pow L] at h3
      omega
    have := rt_lt (show 0 ≤ n by omega) (Int.le_of_lt (p2_pos _)) h2
    omega
  · have h3 : p2 ((L + 1) / 2) ≤ p2 32 := p2_mono (by omega)
    exact h3

end Go.Proofs.YtikhgdbbbingbaaDoor.Rt
