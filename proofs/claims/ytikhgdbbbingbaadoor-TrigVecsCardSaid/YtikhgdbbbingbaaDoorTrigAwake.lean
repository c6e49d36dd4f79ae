/- What the document's Toward does, and the chapter's examples. -/
import Derived.Test.YtikhgdbbbingbaaDoorTrigRef2
namespace Go.Proofs.YtikhgdbbbingbaaDoor.Tg
open Go Go.RowKit
set_option linter.unusedVariables false

theorem rtoward_end (a b m : Int) (k : Nat) (h1 : (k : Int) ≤ Tr.dist a b) (h2 : (k : Int) ≤ Tr.most0 m) (h : ¬ ((k : Int) < m) ∨ ¬ ((k : Int) < Tr.dist a b)) : (k : Int) = Tr.lesser (Tr.dist a b) (Tr.most0 m) := by
  unfold Tr.lesser Tr.most0 at *
  (repeat' split at *) <;> omega

set_option maxHeartbeats 1000000 in
set_option maxRecDepth 100000 in
theorem rtoward_up (f t m : Int) (w : World) (hc : ¬ Tr.nrm (Tr.nrm t - Tr.nrm f) > 32768) : Calls Tryd.prog 21 #[.int .i64 f, .int .i64 t, .int .i64 m] w fun e w' => e = .returned (.int .i64 (Tr.toward f t m)) ∧ w = w' := by
  have HN1 := Lib.hid (rnorm_any f)
  have HN2 := Lib.hid (rnorm_any t)
  have HN3 := Lib.hid (fun a => rnorm_any a)
  have ha := Tr.nrm_range f
  have hb := Tr.nrm_range t
  have HT : Hid (Tr.toward f t m = Tr.part (Tr.nrm f) (Tr.nrm t) (Tr.lesser (Tr.dist (Tr.nrm f) (Tr.nrm t)) (Tr.most0 m))) := rfl
  obtain ⟨a, haa⟩ : ∃ p, Tr.nrm f = p := ⟨_, rfl⟩
  obtain ⟨b, hbb⟩ : ∃ p, Tr.nrm t = p := ⟨_, rfl⟩
  rw [haa] at ha HN1 HT hc
  rw [hbb] at hb HN2 HT hc
  clear haa hbb
  have HD := Tr.dist_range a b
  have HC := Lib.hid hc
  have HQ := Lib.hid (show ∀ k, Tr.part a b (k + 1) = Tr.nrm (Tr.part a b k + 1) from fun k => by rw [Tr.part_step, if_neg HC.out])
  have HE := Lib.hid (rtoward_end a b m)
  obtain ⟨D, hD⟩ : ∃ D, Tr.dist a b = D := ⟨_, rfl⟩
  have HNE := Lib.hid (fun k => Tr.part_ne a b k hb.1 hb.2)
  have HEN := Lib.hid (Tr.part_end a b hb.1 hb.2)
  have HPR := Lib.hid (fun k => Tr.part_range' a b k)
  have HP0 := Lib.hid (Tr.part_zero a b ha.1 ha.2)
  rw [hD] at HD HT HE HNE HEN
  clear hD
  go_enter Tryd.func21, Tryd.ntmps21
  go_wp2_with (first | (go_at_call 11; (first | (with_reducible refine (HN1.out _).mono ?_) | (with_reducible refine (HN2.out _).mono ?_) | (with_reducible refine (HN3.out _ _).mono ?_)); rintro e w' ⟨rfl, rfl⟩))
  go_loop [7, 10] (fun p i => ∃ (k : Nat) (q : Int), (k : Int) ≤ D ∧ (k : Int) ≤ Tr.most0 m ∧ i = .int .i64 k ∧ p = .int .i64 q ∧ Hid (q = Tr.part a b k)) (fun _ i => (32768 - intOf i).toNat)
  case atStart => exact ⟨0, a, by omega, by unfold Tr.most0; split <;> omega, rfl, rfl, by show _ = _; rw [show ((0 : Nat) : Int) = 0 from rfl, HP0.out]⟩
  case round =>
    obtain ⟨k, q, hk1, hk2, rfl, rfl, H1⟩ := hrel
    have hq := HPR.out k
    rw [← H1.out] at hq
    by_cases hlt : (k : Int) < m
    · by_cases hlt2 : (k : Int) < D
      · have hne : ((q : Int) != b) = true := by have := HNE.out k (by omega) hlt2; rw [← H1.out] at this; simpa using this
        have hm2 : ((k + 1 : Nat) : Int) ≤ Tr.most0 m := by unfold Tr.most0; split <;> omega
        have HM2 := Lib.hid hm2
        clear hk2 hm2
        go_wp2_with (first | (go_at_call 11; refine (HN3.out _ _).mono ?_; rintro e w' ⟨rfl, rfl⟩))
        go_round
        case rel => exact ⟨k + 1, _, by omega, HM2.out, by go_num, rfl, by show _ = _; rw [show ((k + 1 : Nat) : Int) = (k : Int) + 1 from by omega, HQ.out, ← H1.out]⟩
        case measure => simp [intOf]; omega
      · have hne : ((q : Int) != b) = false := by
          have e : (k : Int) = D := by omega
          have := HEN.out; rw [← e, ← H1.out] at this; simpa using this
        go_wp2
        go_ret
        exact ⟨ret_int (by rw [HT.out, ← HE.out k hk1 hk2 (Or.inr hlt2), H1.out]), rfl⟩
    · go_wp2
      go_ret
      exact ⟨ret_int (by rw [HT.out, ← HE.out k hk1 hk2 (Or.inl hlt), H1.out]), rfl⟩

set_option maxHeartbeats 1000000 in
set_option maxRecDepth 100000 in
theorem rtoward_down (f t m : Int) (w : World) (hc : Tr.nrm (Tr.nrm t - Tr.nrm f) > 32768) : Calls Tryd.prog 21 #[.int .i64 f, .int .i64 t, .int .i64 m] w fun e w' => e = .returned (.int .i64 (Tr.toward f t m)) ∧ w = w' := by
  have HN1 := Lib.hid (rnorm_any f)
  have HN2 := Lib.hid (rnorm_any t)
  have HN3 := Lib.hid (fun a => rnorm_any a)
  have ha := Tr.nrm_range f
  have hb := Tr.nrm_range t
  have HT : Hid (Tr.toward f t m = Tr.part (Tr.nrm f) (Tr.nrm t) (Tr.lesser (Tr.dist (Tr.nrm f) (Tr.nrm t)) (Tr.most0 m))) := rfl
  obtain ⟨a, haa⟩ : ∃ p, Tr.nrm f = p := ⟨_, rfl⟩
  obtain ⟨b, hbb⟩ : ∃ p, Tr.nrm t = p := ⟨_, rfl⟩
  rw [haa] at ha HN1 HT hc
  rw [hbb] at hb HN2 HT hc
  clear haa hbb
  have HD := Tr.dist_range a b
  have HC := Lib.hid hc
  have HQ := Lib.hid (show ∀ k, Tr.part a b (k + 1) = Tr.nrm (Tr.part a b k + (-1)) from fun k => by rw [Tr.part_step, if_pos HC.out]; rfl)
  have HE := Lib.hid (rtoward_end a b m)
  obtain ⟨D, hD⟩ : ∃ D, Tr.dist a b = D := ⟨_, rfl⟩
  have HNE := Lib.hid (fun k => Tr.part_ne a b k hb.1 hb.2)
  have HEN := Lib.hid (Tr.part_end a b hb.1 hb.2)
  have HPR := Lib.hid (fun k => Tr.part_range' a b k)
  have HP0 := Lib.hid (Tr.part_zero a b ha.1 ha.2)
  rw [hD] at HD HT HE HNE HEN
  clear hD
  go_enter Tryd.func21, Tryd.ntmps21
  go_wp2_with (first | (go_at_call 11; (first | (with_reducible refine (HN1.out _).mono ?_) | (with_reducible refine (HN2.out _).mono ?_) | (with_reducible refine (HN3.out _ _).mono ?_)); rintro e w' ⟨rfl, rfl⟩))
  go_loop [7, 10] (fun p i => ∃ (k : Nat) (q : Int), (k : Int) ≤ D ∧ (k : Int) ≤ Tr.most0 m ∧ i = .int .i64 k ∧ p = .int .i64 q ∧ Hid (q = Tr.part a b k)) (fun _ i => (32768 - intOf i).toNat)
  case atStart => exact ⟨0, a, by omega, by unfold Tr.most0; split <;> omega, rfl, rfl, by show _ = _; rw [show ((0 : Nat) : Int) = 0 from rfl, HP0.out]⟩
  case round =>
    obtain ⟨k, q, hk1, hk2, rfl, rfl, H1⟩ := hrel
    have hq := HPR.out k
    rw [← H1.out] at hq
    by_cases hlt : (k : Int) < m
    · by_cases hlt2 : (k : Int) < D
      · have hne : ((q : Int) != b) = true := by have := HNE.out k (by omega) hlt2; rw [← H1.out] at this; simpa using this
        have hm2 : ((k + 1 : Nat) : Int) ≤ Tr.most0 m := by unfold Tr.most0; split <;> omega
        have HM2 := Lib.hid hm2
        clear hk2 hm2
        go_wp2_with (first | (go_at_call 11; refine (HN3.out _ _).mono ?_; rintro e w' ⟨rfl, rfl⟩))
        go_round
        case rel => exact ⟨k + 1, _, by omega, HM2.out, by go_num, rfl, by show _ = _; rw [show ((k + 1 : Nat) : Int) = (k : Int) + 1 from by omega, HQ.out, ← H1.out]⟩
        case measure => simp [intOf]; omega
      · have hne : ((q : Int) != b) = false := by
          have e : (k : Int) = D := by omega
          have := HEN.out; rw [← e, ← H1.out] at this; simpa using this
        go_wp2
        go_ret
        exact ⟨ret_int (by rw [HT.out, ← HE.out k hk1 hk2 (Or.inr hlt2), H1.out]), rfl⟩
    · go_wp2
      go_ret
      exact ⟨ret_int (by rw [HT.out, ← HE.out k hk1 hk2 (Or.inl hlt), H1.out]), rfl⟩

theorem rtoward_any (f t m : Int) (w : World) : Calls Tryd.prog 21 #[.int .i64 f, .int .i64 t, .int .i64 m] w fun e w' => e = .returned (.int .i64 (Tr.toward f t m)) ∧ w = w' := by
  by_cases h : Tr.nrm (Tr.nrm t - Tr.nrm f) > 32768
  · exact rtoward_down f t m w h
  · exact rtoward_up f t m w h

theorem lfar_any (v : Int) (w : World) : Calls Tryd.prog 18 #[.int .i64 v] w fun e w' => e = .returned (.bool (farB v)) ∧ w = w' := by
  by_cases h : v < -1073741824
  · have HD : Hid (true = farB v) := (decide_eq_true (Or.inl h)).symm
    go_enter Tryd.func18, Tryd.ntmps18
    go_wp2
    go_ret
    exact ⟨ret_bool HD.out, rfl⟩
  · have HD := Lib.hid (show decide (1073741824 < v) = farB v by unfold farB; simp [h])
    go_enter Tryd.func18, Tryd.ntmps18
    go_wp2
    go_ret
    exact ⟨ret_bool HD.out, rfl⟩

theorem awake_any (w : World) (ht : Tab w) : Calls Tryd.prog 16 #[] w fun e w' => e = .returned (.bool true) ∧ Below w.heap.size w w' := by
  have e1 : Tr.headP 65536 0 = 0 := by decide +kernel
  have e2 : Tr.headP 0 (-65536) = 192 := by decide +kernel
  have e3 : Tr.headP 65536 65536 = 32 := by decide +kernel
  have e4 : Tr.sinA 0 = 0 := by decide +kernel
  have e5 : Tr.sinA 16384 = 65536 := by decide +kernel
  have e6 : Tr.sinA 128 = 804 := by decide +kernel
  have e7 : Tr.cosA 32768 = -65536 := by decide +kernel
  have e8 : Tr.toward 0 65535 10 = 65535 := by decide +kernel
  have e9 : Tr.toward 0 32768 10 = 10 := by decide +kernel
  have e10 : Tr.toward 5 100 (-1) = 5 := by decide +kernel
  have H1 := Lib.hid (fun w ht => heading_any 65536 0 w ht rfl rfl)
  have H2 := Lib.hid (fun w ht => heading_any 0 (-65536) w ht rfl rfl)
  have H3 := Lib.hid (fun w ht => heading_any 65536 65536 w ht rfl rfl)
  rw [e1] at H1
  rw [e2] at H2
  rw [e3] at H3
  have HS1 := Lib.hid (fun w ht => sin_any 0 w ht)
  have HS2 := Lib.hid (fun w ht => sin_any 16384 w ht)
  have HS3 := Lib.hid (fun w ht => sin_any 128 w ht)
  rw [e4] at HS1
  rw [e5] at HS2
  rw [e6] at HS3
  have HC1 := Lib.hid (fun w ht => cos_any 32768 w ht)
  rw [e7] at HC1
  have HT1 := Lib.hid (fun w => toward_any 0 65535 10 w)
  have HT2 := Lib.hid (fun w => toward_any 0 32768 10 w)
  have HT3 := Lib.hid (fun w => toward_any 5 100 (-1) w)
  rw [e8] at HT1
  rw [e9] at HT2
  rw [e10] at HT3
  have h0 := Lib.hid ht
  clear e1 e2 e3 e4 e5 e6 e7 e8 e9 e10 ht
  go_enter Tryd.func16, Tryd.ntmps16
  go_wp2_with fail
  refine (H1.out _ h0.out).mono ?_
  rintro e w1 ⟨rfl, hb⟩
  have h1 := Lib.hid (h0.out.below hb); have b1 := Lib.hid hb; clear hb
  go_wp2_with fail
  refine (H2.out _ h1.out).mono ?_
  rintro e w2 ⟨rfl, hb⟩
  have h2 := Lib.hid (h1.out.below hb); have b2 := Lib.hid hb; clear hb
  go_wp2_with fail
  refine (H3.out _ h2.out).mono ?_
  rintro e w3 ⟨rfl, hb⟩
  have h3 := Lib.hid (h2.out.below hb); have b3 := Lib.hid hb; clear hb
  have B := Lib.hid ((b1.out.trans (b2.out.mono b1.out.size)).trans (b3.out.mono (Nat.le_trans b1.out.size b2.out.size)))
  go_wp2_with (first
    | (go_at_call 12; (first | (with_reducible refine (HS1.out _ h3.out).mono ?_) | (with_reducible refine (HS2.out _ h3.out).mono ?_) | (with_reducible refine (HS3.out _ h3.out).mono ?_)); rintro e w' ⟨rfl, rfl⟩)
    | (go_at_call 14; refine (HC1.out _ h3.out).mono ?_; rintro e w' ⟨rfl, rfl⟩)
    | (go_at_call 20; (first | (with_reducible refine (HT1.out _).mono ?_) | (with_reducible refine (HT2.out _).mono ?_) | (with_reducible refine (HT3.out _).mono ?_)); rintro e w' ⟨rfl, rfl⟩))
  go_ret
  exact ⟨rfl, B.out⟩
end Go.Proofs.YtikhgdbbbingbaaDoor.Tg
