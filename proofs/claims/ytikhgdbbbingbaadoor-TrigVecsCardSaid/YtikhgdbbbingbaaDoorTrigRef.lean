/- What the document's functions of trig do, and the program's Toward. -/
import Derived.Test.YtikhgdbbbingbaaDoorTrigHeading2
import Derived.Test.YtikhgdbbbingbaaDoorTrigTurn
namespace Go.Proofs.YtikhgdbbbingbaaDoor.Tg
open Go Go.RowKit
set_option linter.unusedVariables false

theorem rnorm_any (a : Int) (w : World) : Calls Tryd.prog 11 #[.int .i64 a] w fun e w' => e = .returned (.int .i64 (Tr.nrm a)) ∧ w = w' := by
  obtain ⟨r, hr⟩ : ∃ r, a.tmod 65536 = r := ⟨_, rfl⟩
  have hrr : (0 ≤ a ∧ r = a % 65536) ∨ (a < 0 ∧ r = -((-a) % 65536)) := by
    by_cases h : 0 ≤ a
    · exact Or.inl ⟨h, by rw [← hr, Tr.tmod_pos _ _ h]⟩
    · exact Or.inr ⟨by omega, by rw [← hr, Tr.tmod_neg _ _ (by omega)]⟩
  have hn : (r < 0 → r + 65536 = Tr.nrm a) ∧ (0 ≤ r → r = Tr.nrm a) := by unfold Tr.nrm; omega
  have hb : -65536 < r ∧ r < 65536 := by omega
  clear hrr
  have HN := Lib.hid hn
  clear hn
  by_cases h : r < 0
  · go_enter Tryd.func11, Tryd.ntmps11
    go_wp2
    go_ret
    exact ⟨ret_int (HN.out.1 h), rfl⟩
  · go_enter Tryd.func11, Tryd.ntmps11
    go_wp2
    go_ret
    exact ⟨ret_int (HN.out.2 (by omega)), rfl⟩

/-- the document's table lies where it lies -/
structure TabR (w : World) : Prop where
  size : 1 < w.heap.size
  quarter : ∀ i : Nat, i < 65 → w.cell? ⟨1, i, none⟩ = some (.int .i64 (Tr.tab.getD i 0))

theorem TabR.below {w w' : World} (h : TabR w) (hb : Below w.heap.size w w') : TabR w' := by
  have hs := h.size
  refine ⟨by have := hb.size; omega, fun i hi => ?_⟩
  rw [hb.cell (p := ⟨1, i, none⟩) (show 1 < w.heap.size from hs)]
  exact h.quarter i hi
theorem TabR.at {w : World} (h : TabR w) (i : Int) (h0 : 0 ≤ i) (h1 : i < 65) : w.cell? ⟨1, i.toNat, none⟩ = some (.int .i64 (Tr.at_ i)) :=
  h.quarter i.toNat (by omega)
theorem TabR.drewN {w : World} (h : TabR w) (n : Nat) : TabR (w.drewN n) := ⟨h.size, h.quarter⟩

theorem first_top (w : World) (ht : TabR w) : Calls Tryd.prog 26 #[.int .i64 16384] w fun e w' => e = .returned (.int .i64 65536) ∧ ∃ n, w' = w.drewN n := by
  have hc := ht.quarter 64 (by omega)
  have e : Tr.tab.getD 64 0 = 65536 := rfl
  rw [e] at hc
  go_enter Tryd.func26, Tryd.ntmps26
  go_wp2
  go_ret
  exact ⟨rfl, 0, rfl⟩

theorem first_low (r : Int) (w : World) (ht : TabR w) (h0 : 0 ≤ r) (h1 : r < 16384) : Calls Tryd.prog 26 #[.int .i64 r] w fun e w' => e = .returned (.int .i64 (Tr.core r)) ∧ ∃ n, w' = w.drewN n := by
  have hc := ht.at (r / 256) (by omega) (by omega)
  have hc1 := ht.at (r / 256 + 1) (by omega) (by omega)
  have hv0 := Tr.at_bound (r / 256) (by omega) (by omega)
  have hv1 := Tr.at_bound (r / 256 + 1) (by omega) (by omega)
  have hle := (Tr.at_rise (r / 256) (by omega) (by omega)).1
  have hm := Tr.part_range (Tr.at_ (r / 256 + 1) - Tr.at_ (r / 256)) (r % 256) (by omega) (by omega) (by omega)
  have HC : Hid (Tr.core r = Tr.at_ (r / 256) + (Tr.at_ (r / 256 + 1) - Tr.at_ (r / 256)) * (r % 256) / 256) := rfl
  obtain ⟨v, hv⟩ : ∃ v, Tr.at_ (r / 256) = v := ⟨_, rfl⟩
  obtain ⟨v1, hvv⟩ : ∃ v, Tr.at_ (r / 256 + 1) = v := ⟨_, rfl⟩
  rw [hv, hvv] at hm HC hle
  rw [hv] at hc hv0
  rw [hvv] at hc1 hv1
  obtain ⟨m, hmm⟩ : ∃ m, (v1 - v) * (r % 256) = m := ⟨_, rfl⟩
  rw [hmm] at hm HC
  have hne : ((r : Int) == 16384) = false := by simp; omega
  clear hv hvv ht
  go_enter Tryd.func26, Tryd.ntmps26
  go_wp2
  go_quiet (fail)
  go_wp2
  go_ret
  exact ⟨ret_int HC.out.symm, _, rfl⟩

theorem first_any (r : Int) (w : World) (ht : TabR w) (h0 : 0 ≤ r) (h1 : r ≤ 16384) : Calls Tryd.prog 26 #[.int .i64 r] w fun e w' => e = .returned (.int .i64 (Tr.core r)) ∧ ∃ n, w' = w.drewN n := by
  by_cases h : r = 16384
  · subst h; rw [Tr.core_top]; exact first_top w ht
  · exact first_low r w ht h0 (by omega)

theorem rsin_any (a : Int) (w : World) (ht : TabR w) : Calls Tryd.prog 13 #[.int .i64 a] w fun e w' => e = .returned (.int .i64 (Tr.sinA a)) ∧ ∃ n, w' = w.drewN n := by
  have hr := Tr.nrm_range a
  have HN := Lib.hid (rnorm_any a)
  have HF := Lib.hid (fun r h0 h1 => first_any r w ht h0 h1)
  have HS : Hid (Tr.sinA a = Tr.sinP (Tr.nrm a)) := rfl
  obtain ⟨p, hp⟩ : ∃ p, Tr.nrm a = p := ⟨_, rfl⟩
  rw [hp] at hr HN HS
  clear hp ht
  by_cases q1 : p < 16384
  · have HQ := Lib.hid (Tr.sinP_1 p hr.1 (by omega))
    go_enter Tryd.func13, Tryd.ntmps13
    go_wp2_with (first | (go_at_call 11; refine (HN.out _).mono ?_; rintro e w' ⟨rfl, rfl⟩) | (go_at_call 26; refine (HF.out _ (by omega) (by omega)).mono ?_; rintro e w' ⟨rfl, n, rfl⟩))
    go_ret
    exact ⟨ret_int (by rw [HS.out, HQ.out]), _, rfl⟩
  · by_cases q2 : p < 32768
    · have HQ := Lib.hid (Tr.sinP_2 p (by omega) q2)
      go_enter Tryd.func13, Tryd.ntmps13
      go_wp2_with (first | (go_at_call 11; refine (HN.out _).mono ?_; rintro e w' ⟨rfl, rfl⟩) | (go_at_call 26; refine (HF.out _ (by omega) (by omega)).mono ?_; rintro e w' ⟨rfl, n, rfl⟩))
      go_ret
      exact ⟨ret_int (by rw [HS.out, HQ.out]), _, rfl⟩
    · by_cases q3 : p < 49152
      · have HQ := Lib.hid (Tr.sinP_3 p (by omega) q3)
        have hb := Tr.core_bound (p - 32768) (by omega) (by omega)
        go_enter Tryd.func13, Tryd.ntmps13
        go_wp2_with (first | (go_at_call 11; refine (HN.out _).mono ?_; rintro e w' ⟨rfl, rfl⟩) | (go_at_call 26; refine (HF.out _ (by omega) (by omega)).mono ?_; rintro e w' ⟨rfl, n, rfl⟩))
        go_ret
        exact ⟨ret_int (by rw [HS.out, HQ.out]), _, rfl⟩
      · have HQ := Lib.hid (Tr.sinP_4 p (by omega) (by omega))
        have hb := Tr.core_bound (65536 - p) (by omega) (by omega)
        go_enter Tryd.func13, Tryd.ntmps13
        go_wp2_with (first | (go_at_call 11; refine (HN.out _).mono ?_; rintro e w' ⟨rfl, rfl⟩) | (go_at_call 26; refine (HF.out _ (by omega) (by omega)).mono ?_; rintro e w' ⟨rfl, n, rfl⟩))
        go_ret
        exact ⟨ret_int (by rw [HS.out, HQ.out]), _, rfl⟩

theorem rcos_any (a : Int) (w : World) (ht : TabR w) : Calls Tryd.prog 15 #[.int .i64 a] w fun e w' => e = .returned (.int .i64 (Tr.cosA a)) ∧ ∃ n, w' = w.drewN n := by
  have hr := Tr.nrm_range a
  have HN := Lib.hid (rnorm_any a)
  have HS := Lib.hid (rsin_any (Tr.nrm a + 16384))
  have HP : Hid (Tr.cosA a = Tr.sinA (Tr.nrm a + 16384)) := rfl
  obtain ⟨p, hp⟩ : ∃ p, Tr.nrm a = p := ⟨_, rfl⟩
  rw [hp] at hr HN HP HS
  clear hp
  go_enter Tryd.func15, Tryd.ntmps15
  go_wp2_with (first | (go_at_call 11; refine (HN.out _).mono ?_; rintro e w' ⟨rfl, rfl⟩) | (go_at_call 13; refine (HS.out _ ht).mono ?_; rintro e w' ⟨rfl, n, rfl⟩))
  go_ret
  exact ⟨ret_int HP.out.symm, _, rfl⟩
end Go.Proofs.YtikhgdbbbingbaaDoor.Tg
