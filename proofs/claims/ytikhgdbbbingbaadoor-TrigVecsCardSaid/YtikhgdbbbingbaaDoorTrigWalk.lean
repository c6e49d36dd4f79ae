/- What the functions of trig do, call by call. -/
import Derived.Test.YtikhgdbbbingbaaDoorProg
import Derived.WalkKit
import Derived.WalkSpells
import Derived.WalkLawsBesides
import Derived.Deep.QuietTactic
import Derived.BigQuiet
import Derived.Lib.Hide
import Derived.Test.YtikhgdbbbingbaaDoorTrigHead
namespace Go.Proofs.YtikhgdbbbingbaaDoor.Tg
open Go Go.RowKit
set_option linter.unusedVariables false

theorem and_mask (i : Nat) (hi : i ≤ 63) (x : Int) : bits .and .i64 x (2 ^ i - 1) = x % 2 ^ i := by
  have hpos : 0 < 2 ^ i := Nat.two_pow_pos i
  have hle : 2 ^ i ≤ 2 ^ 63 := Nat.pow_le_pow_right (by decide) hi
  have hc : ((2 : Int) ^ i - 1) = ((2 ^ i - 1 : Nat) : Int) := by
    rw [Int.natCast_sub hpos]; simp
  have hp : ((2 : Int) ^ i) = ((2 ^ i : Nat) : Int) := by simp
  have hd : (2 ^ i) ∣ (2 ^ 64) := Nat.pow_dvd_pow 2 (by omega)
  have ha : (BitVec.ofInt 64 x).toNat = (x % (2 ^ 64 : Nat)).toNat := by simp [BitVec.toNat_ofInt]
  have hm : 2 ^ i - 1 < 2 ^ 64 := by omega
  rw [hc]
  show IntKind.i64.wrap (((BitVec.ofInt 64 x) &&& (BitVec.ofInt 64 (((2 ^ i - 1 : Nat)) : Int))).toNat : Int) = _
  rw [BitVec.ofInt_natCast, BitVec.toNat_and, BitVec.toNat_ofNat, ha, Nat.mod_eq_of_lt hm, Nat.and_two_pow_sub_one_eq_mod]
  have h1 : (((x % (2 ^ 64 : Nat)).toNat % 2 ^ i : Nat) : Int) = x % 2 ^ i := by
    rw [Int.natCast_emod, Int.toNat_of_nonneg (Int.emod_nonneg _ (by decide)), hp]
    exact Int.emod_emod_of_dvd x (by exact_mod_cast hd)
  rw [h1, IntKind.wrap_i64]
  have h2 : 0 ≤ x % 2 ^ i := Int.emod_nonneg _ (by rw [hp]; omega)
  have h3 : x % 2 ^ i < 2 ^ i := Int.emod_lt_of_pos _ (by rw [hp]; omega)
  have h4 : (2 : Int) ^ i ≤ 9223372036854775808 := by rw [hp]; omega
  omega

theorem and_65535 (x : Int) : bits .and .i64 x 65535 = x % 65536 := by have := and_mask 16 (by decide) x; simpa using this
theorem and_16383 (x : Int) : bits .and .i64 x 16383 = x % 16384 := by have := and_mask 14 (by decide) x; simpa using this
theorem and_255 (x : Int) : bits .and .i64 x 255 = x % 256 := by have := and_mask 8 (by decide) x; simpa using this
theorem and_1 (x : Int) : bits .and .i64 x 1 = x % 2 := by have := and_mask 1 (by decide) x; simpa using this

theorem ret_int {k : IntKind} {a b : Int} (h : a = b) : Ending.returned (.int k a) = .returned (.int k b) := by rw [h]
theorem ret_bool {a b : Bool} (h : a = b) : Ending.returned (.bool a) = .returned (.bool b) := by rw [h]

theorem norm_any (a : Int) (w : World) : Calls Tryd.prog 10 #[.int .i64 a] w fun e w' => e = .returned (.int .i64 (Tr.nrm a)) ∧ w = w' := by
  have hb : bits .and .i64 a 65535 = Tr.nrm a := and_65535 a
  go_enter Tryd.func10, Tryd.ntmps10
  go_wp2
  go_ret
  exact ⟨rfl, rfl⟩

/-- the two tables lie where they lie -/
structure Tab (w : World) : Prop where
  size : 0 < w.heap.size
  sines : ∀ i : Nat, i < 65 → w.cell? ⟨0, i, none⟩ = some (.int .i32 (Tr.tab.getD i 0))

theorem Tab.below {w w' : World} (h : Tab w) (hb : Below w.heap.size w w') : Tab w' := by
  have hs := h.size
  refine ⟨by have := hb.size; omega, fun i hi => ?_⟩
  rw [hb.cell (p := ⟨0, i, none⟩) (show 0 < w.heap.size from hs)]
  exact h.sines i hi

theorem Tab.at {w : World} (h : Tab w) (i : Int) (h0 : 0 ≤ i) (h1 : i < 65) : w.cell? ⟨0, i.toNat, none⟩ = some (.int .i32 (Tr.at_ i)) :=
  h.sines i.toNat (by omega)

set_option maxHeartbeats 1000000 in
theorem sin_odd (a : Int) (w : World) (ht : Tab w) (hq : Tr.nrm a / 16384 % 2 = 1) : Calls Tryd.prog 12 #[.int .i64 a] w fun e w' => e = .returned (.int .i64 (Tr.sinA a)) ∧ w = w' := by
  have hr := Tr.nrm_range a
  have nn := norm_any a
  obtain ⟨p, hp⟩ : ∃ p, Tr.nrm a = p := ⟨_, rfl⟩
  rw [hp] at hr hq nn
  have HP : Hid (Tr.sinA a = Tr.sinP p) := by unfold Tr.sinA; rw [hp]; rfl
  clear hp
  have e1 : bits .and .i64 p 16383 = p % 16384 := and_16383 p
  have e2 : bits .and .i64 (p / 16384) 1 = p / 16384 % 2 := and_1 _
  have e3 : bits .and .i64 (16384 - p % 16384) 255 = (16384 - p % 16384) % 256 := and_255 _
  have hb : ((p / 16384 % 2) == 1) = true := by simpa using hq
  have hc := ht.at ((16384 - p % 16384) / 256) (by omega) (by omega)
  have hv0 := Tr.at_bound ((16384 - p % 16384) / 256) (by omega) (by omega)
  have HC : Hid (Tr.core (16384 - p % 16384) = Tr.at_ ((16384 - p % 16384) / 256) + (Tr.at_ ((16384 - p % 16384) / 256 + 1) - Tr.at_ ((16384 - p % 16384) / 256)) * ((16384 - p % 16384) % 256) / 256) := rfl
  have HQ : Hid (p / 16384 % 2 = 1) := hq
  by_cases hf : 0 < (16384 - p % 16384) % 256
  · have hc1 := ht.at ((16384 - p % 16384) / 256 + 1) (by omega) (by omega)
    have hv1 := Tr.at_bound ((16384 - p % 16384) / 256 + 1) (by omega) (by omega)
    have hle := (Tr.at_rise ((16384 - p % 16384) / 256) (by omega) (by omega)).1
    have hm := Tr.part_range (Tr.at_ ((16384 - p % 16384) / 256 + 1) - Tr.at_ ((16384 - p % 16384) / 256)) ((16384 - p % 16384) % 256) (by omega) (by omega) (by omega)
    obtain ⟨v, hv⟩ : ∃ v, Tr.at_ ((16384 - p % 16384) / 256) = v := ⟨_, rfl⟩
    obtain ⟨v1, hvv⟩ : ∃ v, Tr.at_ ((16384 - p % 16384) / 256 + 1) = v := ⟨_, rfl⟩
    rw [hv, hvv] at hm HC hle
    rw [hv] at hc hv0
    rw [hvv] at hc1 hv1
    obtain ⟨m, hmm⟩ : ∃ m, (v1 - v) * ((16384 - p % 16384) % 256) = m := ⟨_, rfl⟩
    rw [hmm] at hm HC
    clear hq hv hvv
    go_enter Tryd.func12, Tryd.ntmps12
    go_wp2_with (first | (go_at_call 10; refine (nn _).mono ?_; rintro e w' ⟨rfl, rfl⟩))
    all_goals go_ret
    all_goals refine ⟨ret_int ?_, rfl⟩
    · rw [HP.out]; unfold Tr.sinP; rw [if_pos HQ.out, if_pos (by omega), HC.out]
    · rw [HP.out]; unfold Tr.sinP; rw [if_pos HQ.out, if_neg (by omega), HC.out]
  · have hm0 : Tr.core (16384 - p % 16384) = Tr.at_ ((16384 - p % 16384) / 256) := by
      rw [HC.out, show (16384 - p % 16384) % 256 = 0 by omega]; simp
    have HM := Lib.hid hm0
    clear hm0 HC
    obtain ⟨v, hv⟩ : ∃ v, Tr.at_ ((16384 - p % 16384) / 256) = v := ⟨_, rfl⟩
    rw [hv] at hc hv0 HM
    clear hq hv
    go_enter Tryd.func12, Tryd.ntmps12
    go_wp2_with (first | (go_at_call 10; refine (nn _).mono ?_; rintro e w' ⟨rfl, rfl⟩))
    all_goals go_ret
    all_goals refine ⟨ret_int ?_, rfl⟩
    · rw [HP.out]; unfold Tr.sinP; rw [if_pos HQ.out, if_pos (by omega), HM.out]
    · rw [HP.out]; unfold Tr.sinP; rw [if_pos HQ.out, if_neg (by omega), HM.out]

set_option maxHeartbeats 1000000 in
theorem sin_even (a : Int) (w : World) (ht : Tab w) (hq : Tr.nrm a / 16384 % 2 ≠ 1) : Calls Tryd.prog 12 #[.int .i64 a] w fun e w' => e = .returned (.int .i64 (Tr.sinA a)) ∧ w = w' := by
  have hr := Tr.nrm_range a
  have nn := norm_any a
  obtain ⟨p, hp⟩ : ∃ p, Tr.nrm a = p := ⟨_, rfl⟩
  rw [hp] at hr hq nn
  have HP : Hid (Tr.sinA a = Tr.sinP p) := by unfold Tr.sinA; rw [hp]; rfl
  clear hp
  obtain ⟨r, hrr⟩ : ∃ r, p % 16384 = r := ⟨_, rfl⟩
  have e1 : bits .and .i64 p 16383 = r := by rw [and_16383]; exact hrr
  have hr0 : 0 ≤ r ∧ r < 16384 := by omega
  have HR : Hid (p % 16384 = r) := hrr
  clear hrr
  have e2 : bits .and .i64 (p / 16384) 1 = p / 16384 % 2 := and_1 _
  have e3 : bits .and .i64 r 255 = r % 256 := and_255 _
  have hb : ((p / 16384 % 2) == 1) = false := by simpa using hq
  have hc := ht.at (r / 256) (by omega) (by omega)
  have hv0 := Tr.at_bound (r / 256) (by omega) (by omega)
  have HC : Hid (Tr.core r = Tr.at_ (r / 256) + (Tr.at_ (r / 256 + 1) - Tr.at_ (r / 256)) * (r % 256) / 256) := rfl
  have HQ : Hid (p / 16384 % 2 ≠ 1) := hq
  by_cases hf : 0 < r % 256
  · have hc1 := ht.at (r / 256 + 1) (by omega) (by omega)
    have hv1 := Tr.at_bound (r / 256 + 1) (by omega) (by omega)
    have hle := (Tr.at_rise (r / 256) (by omega) (by omega)).1
    have hm := Tr.part_range (Tr.at_ (r / 256 + 1) - Tr.at_ (r / 256)) (r % 256) (by omega) (by omega) (by omega)
    obtain ⟨v, hv⟩ : ∃ v, Tr.at_ (r / 256) = v := ⟨_, rfl⟩
    obtain ⟨v1, hvv⟩ : ∃ v, Tr.at_ (r / 256 + 1) = v := ⟨_, rfl⟩
    rw [hv, hvv] at hm HC hle
    rw [hv] at hc hv0
    rw [hvv] at hc1 hv1
    obtain ⟨m, hmm⟩ : ∃ m, (v1 - v) * (r % 256) = m := ⟨_, rfl⟩
    rw [hmm] at hm HC
    clear hq hv hvv
    go_enter Tryd.func12, Tryd.ntmps12
    go_wp2_with (first | (go_at_call 10; refine (nn _).mono ?_; rintro e w' ⟨rfl, rfl⟩))
    all_goals go_ret
    all_goals refine ⟨ret_int ?_, rfl⟩
    · rw [HP.out]; unfold Tr.sinP; rw [if_neg HQ.out, HR.out, if_pos (by omega), HC.out]
    · rw [HP.out]; unfold Tr.sinP; rw [if_neg HQ.out, HR.out, if_neg (by omega), HC.out]
  · have hm0 : Tr.core r = Tr.at_ (r / 256) := by
      rw [HC.out, show r % 256 = 0 by omega]; simp
    have HM := Lib.hid hm0
    clear hm0 HC
    obtain ⟨v, hv⟩ : ∃ v, Tr.at_ (r / 256) = v := ⟨_, rfl⟩
    rw [hv] at hc hv0 HM
    clear hq hv
    go_enter Tryd.func12, Tryd.ntmps12
    go_wp2_with (first | (go_at_call 10; refine (nn _).mono ?_; rintro e w' ⟨rfl, rfl⟩))
    all_goals go_ret
    all_goals refine ⟨ret_int ?_, rfl⟩
    · rw [HP.out]; unfold Tr.sinP; rw [if_neg HQ.out, HR.out, if_pos (by omega), HM.out]
    · rw [HP.out]; unfold Tr.sinP; rw [if_neg HQ.out, HR.out, if_neg (by omega), HM.out]

theorem sin_any (a : Int) (w : World) (ht : Tab w) : Calls Tryd.prog 12 #[.int .i64 a] w fun e w' => e = .returned (.int .i64 (Tr.sinA a)) ∧ w = w' := by
  by_cases hq : Tr.nrm a / 16384 % 2 = 1
  · exact sin_odd a w ht hq
  · exact sin_even a w ht hq

theorem cos_any (a : Int) (w : World) (ht : Tab w) : Calls Tryd.prog 14 #[.int .i64 a] w fun e w' => e = .returned (.int .i64 (Tr.cosA a)) ∧ w = w' := by
  have hr := Tr.nrm_range a
  have nn := norm_any a
  have ss := sin_any (Tr.nrm a + 16384)
  have HS := Lib.hid ss
  clear ss
  have HP : Hid (Tr.cosA a = Tr.sinA (Tr.nrm a + 16384)) := rfl
  obtain ⟨p, hp⟩ : ∃ p, Tr.nrm a = p := ⟨_, rfl⟩
  rw [hp] at hr nn HP HS
  clear hp
  go_enter Tryd.func14, Tryd.ntmps14
  go_wp2_with (first | (go_at_call 10; refine (nn _).mono ?_; rintro e w' ⟨rfl, rfl⟩) | (go_at_call 12; refine (HS.out _ ht).mono ?_; rintro e w' ⟨rfl, rfl⟩))
  go_ret
  exact ⟨ret_int HP.out.symm, rfl⟩
end Go.Proofs.YtikhgdbbbingbaaDoor.Tg
