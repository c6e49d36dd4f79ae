/- TrigCloses: turned again and again one comes to the angle in as few turns as the shorter way asks, and stays there. No conditions beyond the row's own: the listed tables read as the program's text lays them. -/
import Derived.Test.YtemilgbgmgmpiaaDoorTrigLaid
import Derived.Test.YtemilgbgmgmpiaaDoorTrigClose
import Derived.Test.YtemilgbgmgmpiaaDoorCards
import Derived.Test.YtemilgbgmgmpiaaDoorTie
import Derived.SevenTiedAt
namespace Go.Proofs.YtemilgbgmgmpiaaDoor.TrigCloses
open Go Go.RowKit Go.ChangeShapes Go.WideShapes Go.ChangeAt
set_option linter.unusedVariables false

set_option maxHeartbeats 1000000 in
set_option maxRecDepth 100000 in
theorem walk_1 (f t m : Int) (W : World) (ht : Tab W) (hm : m < 512) :
    Calls Tryd.prog 8 #[.int .i64 f, .int .i64 t, .int .i64 m] W fun e w' => e = .returned (.bool true) ∧ Below W.heap.size W w' := by
  have HT := Lib.hid ht
  have HN1 := Lib.hid (norm_any f W)
  have HN2 := Lib.hid (norm_any t W)
  have ha := Tr.nrm_range f
  have hb := Tr.nrm_range t
  obtain ⟨a, haa⟩ : ∃ p, Tr.nrm f = p := ⟨_, rfl⟩
  rw [haa] at ha HN1
  have HN3 := Lib.hid (norm_any (wrap64 (t - a)) W)
  rw [show Tr.nrm (wrap64 (t - a)) = Tr.nrm (Tr.nrm t - a) by unfold Tr.nrm wrap64; omega] at HN3
  have hdr := Tr.nrm_range (Tr.nrm t - a)
  have hD0 := Tr.dist_range a (Tr.nrm t)
  have HDD : Hid (Tr.dist a (Tr.nrm t) = if Tr.nrm (Tr.nrm t - a) > 32768 then 65536 - Tr.nrm (Tr.nrm t - a) else Tr.nrm (Tr.nrm t - a)) := rfl
  have HTD := Lib.hid (fun q h0 h1 => Tr.toward_dist q t 512 h0 h1 (by omega))
  have HTT := Lib.hid (fun q h0 h1 => Tr.toward_there q t 512 h0 h1 (by omega))
  have HTR := Lib.hid (fun q => Tr.toward_range q t 512)
  have HTA := Lib.hid (fun q => toward_any q t 512 W)
  have HZ := Lib.hid (fun q h0 h1 => Tr.dist_zero q (Tr.nrm t) h0 h1 hb.1 hb.2)
  have HSELF := Lib.hid (Tr.dist_self (Tr.nrm t))
  obtain ⟨b, hbb⟩ : ∃ p, Tr.nrm t = p := ⟨_, rfl⟩
  rw [hbb] at hb HN2 HN3 hdr hD0 HDD HTD HTT HZ HSELF
  obtain ⟨d, hd⟩ : ∃ p, Tr.nrm (b - a) = p := ⟨_, rfl⟩
  rw [hd] at HN3 hdr HDD
  obtain ⟨D, hD⟩ : ∃ p, Tr.dist a b = p := ⟨_, rfl⟩
  rw [hD] at hD0 HDD
  have HD := Lib.hid hD
  have hNb := Tr.turns_bound D 512 hD0.1 hD0.2 (by omega)
  have HST := Lib.hid (fun k => Tr.rem_step D 512 k (by omega))
  have HEND := Lib.hid (Tr.rem_end D 512 (by omega))
  have HZERO := Lib.hid (Tr.rem_zero D 512 hD0.1)
  obtain ⟨N, hN⟩ : ∃ p, (D + 512 - 1) / 512 = p := ⟨_, rfl⟩
  rw [hN] at hNb HST HEND
  have hge : 0 ≤ D + 512 - 1 := by omega
  clear haa hbb hd hD ht
  by_cases hq : 32768 < d
  all_goals
    have hdD : D = d ∨ D = 65536 - d := by have := HDD.out; split at this <;> omega
    have HdD := Lib.hid (show (if 32768 < d then 65536 - d else d) = D from HDD.out.symm)
    have e0 : (if 32768 < d then 65536 - d else d) = D := HDD.out.symm
    first | rw [if_pos hq] at e0 | rw [if_neg hq] at e0
    go_enter Tryd.func8, Tryd.ntmps8
    go_wp2_with (first | (go_at_call 10; (first | (with_reducible refine HN1.out.mono ?_) | (with_reducible refine HN2.out.mono ?_) | (with_reducible refine HN3.out.mono ?_)); rintro e w' ⟨rfl, rfl⟩))
    go_loop [7, 9] (fun p i => ∃ (k : Nat) (q : Int), (k : Int) ≤ N ∧ i = .int .i64 k ∧ p = .int .i64 q ∧ 0 ≤ q ∧ q < 65536 ∧ Hid (Tr.dist q b = Tr.rem D 512 k)) (fun _ i => (65 - intOf i).toNat)
    case atStart => exact ⟨0, a, by omega, rfl, rfl, ha.1, ha.2, by show _ = _; rw [HD.out]; exact HZERO.out.symm⟩
    case round =>
      obtain ⟨k, q, hk, rfl, rfl, q0, q1, H1⟩ := hrel
      by_cases hlt : (k : Int) < N
      · have hs := HST.out k (by omega) hlt
        rw [← H1.out] at hs
        have hne : ((q : Int) == b) = false := by
          have h1 := hs.1
          have h2 := HSELF.out
          by_cases e : q = b
          · rw [e, h2] at h1; omega
          · simpa using e
        have HS2 := Lib.hid hs.2
        have hrg := HTR.out q
        clear hs
        go_wp2_with (first
          | (go_at_call 10; refine HN2.out.mono ?_; rintro e w' ⟨rfl, rfl⟩)
          | (go_at_call 20; refine (HTA.out _).mono ?_; rintro e w' ⟨rfl, rfl⟩))
        go_round
        case rel => exact ⟨k + 1, _, by omega, by go_num, rfl, hrg.1, hrg.2, by show _ = _; rw [HTD.out q q0 q1, show ((k + 1 : Nat) : Int) = (k : Int) + 1 from by omega, HS2.out]⟩
        case measure => simp [intOf]; omega
      · have hk' : (k : Int) = N := by omega
        have h1 := H1.out
        rw [hk', HEND.out] at h1
        have hqb : q = b := HZ.out q q0 q1 h1
        have HTH := Lib.hid (HTT.out q q0 q1 hqb)
        have HQ := Lib.hid hqb
        have hbq : ((q : Int) == b) = true := by simpa using hqb
        have HTB := Lib.hid (HTA.out q)
        rw [HTH.out] at HTB
        clear hqb h1 hk'
        go_wp2_with (first
          | (go_at_call 10; refine HN2.out.mono ?_; rintro e w' ⟨rfl, rfl⟩)
          | (go_at_call 20; refine HTB.out.mono ?_; rintro e w' ⟨rfl, rfl⟩)
          | (go_at_call 16; refine (awake_any _ HT.out).mono ?_; rintro e w' ⟨rfl, hb⟩; have HB := Lib.hid hb; clear hb))
        go_ret
        exact ⟨rfl, HB.out⟩

set_option maxHeartbeats 1000000 in
set_option maxRecDepth 100000 in
theorem walk_2 (f t m : Int) (W : World) (ht : Tab W) (hm : 65536 < m) :
    Calls Tryd.prog 8 #[.int .i64 f, .int .i64 t, .int .i64 m] W fun e w' => e = .returned (.bool true) ∧ Below W.heap.size W w' := by
  have HT := Lib.hid ht
  have HN1 := Lib.hid (norm_any f W)
  have HN2 := Lib.hid (norm_any t W)
  have ha := Tr.nrm_range f
  have hb := Tr.nrm_range t
  obtain ⟨a, haa⟩ : ∃ p, Tr.nrm f = p := ⟨_, rfl⟩
  rw [haa] at ha HN1
  have HN3 := Lib.hid (norm_any (wrap64 (t - a)) W)
  rw [show Tr.nrm (wrap64 (t - a)) = Tr.nrm (Tr.nrm t - a) by unfold Tr.nrm wrap64; omega] at HN3
  have hdr := Tr.nrm_range (Tr.nrm t - a)
  have hD0 := Tr.dist_range a (Tr.nrm t)
  have HDD : Hid (Tr.dist a (Tr.nrm t) = if Tr.nrm (Tr.nrm t - a) > 32768 then 65536 - Tr.nrm (Tr.nrm t - a) else Tr.nrm (Tr.nrm t - a)) := rfl
  have HTD := Lib.hid (fun q h0 h1 => Tr.toward_dist q t 512 h0 h1 (by omega))
  have HTT := Lib.hid (fun q h0 h1 => Tr.toward_there q t 512 h0 h1 (by omega))
  have HTR := Lib.hid (fun q => Tr.toward_range q t 512)
  have HTA := Lib.hid (fun q => toward_any q t 512 W)
  have HZ := Lib.hid (fun q h0 h1 => Tr.dist_zero q (Tr.nrm t) h0 h1 hb.1 hb.2)
  have HSELF := Lib.hid (Tr.dist_self (Tr.nrm t))
  obtain ⟨b, hbb⟩ : ∃ p, Tr.nrm t = p := ⟨_, rfl⟩
  rw [hbb] at hb HN2 HN3 hdr hD0 HDD HTD HTT HZ HSELF
  obtain ⟨d, hd⟩ : ∃ p, Tr.nrm (b - a) = p := ⟨_, rfl⟩
  rw [hd] at HN3 hdr HDD
  obtain ⟨D, hD⟩ : ∃ p, Tr.dist a b = p := ⟨_, rfl⟩
  rw [hD] at hD0 HDD
  have HD := Lib.hid hD
  have hNb := Tr.turns_bound D 512 hD0.1 hD0.2 (by omega)
  have HST := Lib.hid (fun k => Tr.rem_step D 512 k (by omega))
  have HEND := Lib.hid (Tr.rem_end D 512 (by omega))
  have HZERO := Lib.hid (Tr.rem_zero D 512 hD0.1)
  obtain ⟨N, hN⟩ : ∃ p, (D + 512 - 1) / 512 = p := ⟨_, rfl⟩
  rw [hN] at hNb HST HEND
  have hge : 0 ≤ D + 512 - 1 := by omega
  clear haa hbb hd hD ht
  by_cases hq : 32768 < d
  all_goals
    have hdD : D = d ∨ D = 65536 - d := by have := HDD.out; split at this <;> omega
    have HdD := Lib.hid (show (if 32768 < d then 65536 - d else d) = D from HDD.out.symm)
    have e0 : (if 32768 < d then 65536 - d else d) = D := HDD.out.symm
    first | rw [if_pos hq] at e0 | rw [if_neg hq] at e0
    go_enter Tryd.func8, Tryd.ntmps8
    go_wp2_with (first | (go_at_call 10; (first | (with_reducible refine HN1.out.mono ?_) | (with_reducible refine HN2.out.mono ?_) | (with_reducible refine HN3.out.mono ?_)); rintro e w' ⟨rfl, rfl⟩))
    go_loop [7, 9] (fun p i => ∃ (k : Nat) (q : Int), (k : Int) ≤ N ∧ i = .int .i64 k ∧ p = .int .i64 q ∧ 0 ≤ q ∧ q < 65536 ∧ Hid (Tr.dist q b = Tr.rem D 512 k)) (fun _ i => (65 - intOf i).toNat)
    case atStart => exact ⟨0, a, by omega, rfl, rfl, ha.1, ha.2, by show _ = _; rw [HD.out]; exact HZERO.out.symm⟩
    case round =>
      obtain ⟨k, q, hk, rfl, rfl, q0, q1, H1⟩ := hrel
      by_cases hlt : (k : Int) < N
      · have hs := HST.out k (by omega) hlt
        rw [← H1.out] at hs
        have hne : ((q : Int) == b) = false := by
          have h1 := hs.1
          have h2 := HSELF.out
          by_cases e : q = b
          · rw [e, h2] at h1; omega
          · simpa using e
        have HS2 := Lib.hid hs.2
        have hrg := HTR.out q
        clear hs
        go_wp2_with (first
          | (go_at_call 10; refine HN2.out.mono ?_; rintro e w' ⟨rfl, rfl⟩)
          | (go_at_call 20; refine (HTA.out _).mono ?_; rintro e w' ⟨rfl, rfl⟩))
        go_round
        case rel => exact ⟨k + 1, _, by omega, by go_num, rfl, hrg.1, hrg.2, by show _ = _; rw [HTD.out q q0 q1, show ((k + 1 : Nat) : Int) = (k : Int) + 1 from by omega, HS2.out]⟩
        case measure => simp [intOf]; omega
      · have hk' : (k : Int) = N := by omega
        have h1 := H1.out
        rw [hk', HEND.out] at h1
        have hqb : q = b := HZ.out q q0 q1 h1
        have HTH := Lib.hid (HTT.out q q0 q1 hqb)
        have HQ := Lib.hid hqb
        have hbq : ((q : Int) == b) = true := by simpa using hqb
        have HTB := Lib.hid (HTA.out q)
        rw [HTH.out] at HTB
        clear hqb h1 hk'
        go_wp2_with (first
          | (go_at_call 10; refine HN2.out.mono ?_; rintro e w' ⟨rfl, rfl⟩)
          | (go_at_call 20; refine HTB.out.mono ?_; rintro e w' ⟨rfl, rfl⟩)
          | (go_at_call 16; refine (awake_any _ HT.out).mono ?_; rintro e w' ⟨rfl, hb⟩; have HB := Lib.hid hb; clear hb))
        go_ret
        exact ⟨rfl, HB.out⟩

set_option maxHeartbeats 1000000 in
set_option maxRecDepth 100000 in
theorem walk_3 (f t m : Int) (W : World) (ht : Tab W) (hm : 512 ≤ m) (hm' : m ≤ 65536) :
    Calls Tryd.prog 8 #[.int .i64 f, .int .i64 t, .int .i64 m] W fun e w' => e = .returned (.bool true) ∧ Below W.heap.size W w' := by
  have HT := Lib.hid ht
  have HN1 := Lib.hid (norm_any f W)
  have HN2 := Lib.hid (norm_any t W)
  have ha := Tr.nrm_range f
  have hb := Tr.nrm_range t
  obtain ⟨a, haa⟩ : ∃ p, Tr.nrm f = p := ⟨_, rfl⟩
  rw [haa] at ha HN1
  have HN3 := Lib.hid (norm_any (wrap64 (t - a)) W)
  rw [show Tr.nrm (wrap64 (t - a)) = Tr.nrm (Tr.nrm t - a) by unfold Tr.nrm wrap64; omega] at HN3
  have hdr := Tr.nrm_range (Tr.nrm t - a)
  have hD0 := Tr.dist_range a (Tr.nrm t)
  have HDD : Hid (Tr.dist a (Tr.nrm t) = if Tr.nrm (Tr.nrm t - a) > 32768 then 65536 - Tr.nrm (Tr.nrm t - a) else Tr.nrm (Tr.nrm t - a)) := rfl
  have HTD := Lib.hid (fun q h0 h1 => Tr.toward_dist q t m h0 h1 (by omega))
  have HTT := Lib.hid (fun q h0 h1 => Tr.toward_there q t m h0 h1 (by omega))
  have HTR := Lib.hid (fun q => Tr.toward_range q t m)
  have HTA := Lib.hid (fun q => toward_any q t m W)
  have HZ := Lib.hid (fun q h0 h1 => Tr.dist_zero q (Tr.nrm t) h0 h1 hb.1 hb.2)
  have HSELF := Lib.hid (Tr.dist_self (Tr.nrm t))
  obtain ⟨b, hbb⟩ : ∃ p, Tr.nrm t = p := ⟨_, rfl⟩
  rw [hbb] at hb HN2 HN3 hdr hD0 HDD HTD HTT HZ HSELF
  obtain ⟨d, hd⟩ : ∃ p, Tr.nrm (b - a) = p := ⟨_, rfl⟩
  rw [hd] at HN3 hdr HDD
  obtain ⟨D, hD⟩ : ∃ p, Tr.dist a b = p := ⟨_, rfl⟩
  rw [hD] at hD0 HDD
  have HD := Lib.hid hD
  have hNb := Tr.turns_bound D m hD0.1 hD0.2 (by omega)
  have HST := Lib.hid (fun k => Tr.rem_step D m k (by omega))
  have HEND := Lib.hid (Tr.rem_end D m (by omega))
  have HZERO := Lib.hid (Tr.rem_zero D m hD0.1)
  obtain ⟨N, hN⟩ : ∃ p, (D + m - 1) / m = p := ⟨_, rfl⟩
  rw [hN] at hNb HST HEND
  have hge : 0 ≤ D + m - 1 := by omega
  clear haa hbb hd hD ht
  by_cases hq : 32768 < d
  all_goals
    have hdD : D = d ∨ D = 65536 - d := by have := HDD.out; split at this <;> omega
    have HdD := Lib.hid (show (if 32768 < d then 65536 - d else d) = D from HDD.out.symm)
    have e0 : (if 32768 < d then 65536 - d else d) = D := HDD.out.symm
    first | rw [if_pos hq] at e0 | rw [if_neg hq] at e0
    go_enter Tryd.func8, Tryd.ntmps8
    go_wp2_with (first | (go_at_call 10; (first | (with_reducible refine HN1.out.mono ?_) | (with_reducible refine HN2.out.mono ?_) | (with_reducible refine HN3.out.mono ?_)); rintro e w' ⟨rfl, rfl⟩))
    go_loop [7, 9] (fun p i => ∃ (k : Nat) (q : Int), (k : Int) ≤ N ∧ i = .int .i64 k ∧ p = .int .i64 q ∧ 0 ≤ q ∧ q < 65536 ∧ Hid (Tr.dist q b = Tr.rem D m k)) (fun _ i => (65 - intOf i).toNat)
    case atStart => exact ⟨0, a, by omega, rfl, rfl, ha.1, ha.2, by show _ = _; rw [HD.out]; exact HZERO.out.symm⟩
    case round =>
      obtain ⟨k, q, hk, rfl, rfl, q0, q1, H1⟩ := hrel
      by_cases hlt : (k : Int) < N
      · have hs := HST.out k (by omega) hlt
        rw [← H1.out] at hs
        have hne : ((q : Int) == b) = false := by
          have h1 := hs.1
          have h2 := HSELF.out
          by_cases e : q = b
          · rw [e, h2] at h1; omega
          · simpa using e
        have HS2 := Lib.hid hs.2
        have hrg := HTR.out q
        clear hs
        go_wp2_with (first
          | (go_at_call 10; refine HN2.out.mono ?_; rintro e w' ⟨rfl, rfl⟩)
          | (go_at_call 20; refine (HTA.out _).mono ?_; rintro e w' ⟨rfl, rfl⟩))
        go_round
        case rel => exact ⟨k + 1, _, by omega, by go_num, rfl, hrg.1, hrg.2, by show _ = _; rw [HTD.out q q0 q1, show ((k + 1 : Nat) : Int) = (k : Int) + 1 from by omega, HS2.out]⟩
        case measure => simp [intOf]; omega
      · have hk' : (k : Int) = N := by omega
        have h1 := H1.out
        rw [hk', HEND.out] at h1
        have hqb : q = b := HZ.out q q0 q1 h1
        have HTH := Lib.hid (HTT.out q q0 q1 hqb)
        have HQ := Lib.hid hqb
        have hbq : ((q : Int) == b) = true := by simpa using hqb
        have HTB := Lib.hid (HTA.out q)
        rw [HTH.out] at HTB
        clear hqb h1 hk'
        go_wp2_with (first
          | (go_at_call 10; refine HN2.out.mono ?_; rintro e w' ⟨rfl, rfl⟩)
          | (go_at_call 20; refine HTB.out.mono ?_; rintro e w' ⟨rfl, rfl⟩)
          | (go_at_call 16; refine (awake_any _ HT.out).mono ?_; rintro e w' ⟨rfl, hb⟩; have HB := Lib.hid hb; clear hb))
        go_ret
        exact ⟨rfl, HB.out⟩

theorem walk (f t m : Int) (W : World) (ht : Tab W) :
    Calls Tryd.prog 8 #[.int .i64 f, .int .i64 t, .int .i64 m] W fun e w' => e = .returned (.bool true) ∧ Below W.heap.size W w' := by
  by_cases h1 : m < 512
  · exact walk_1 f t m W ht h1
  · by_cases h2 : 65536 < m
    · exact walk_2 f t m W ht h2
    · exact walk_3 f t m W ht (by omega) (by omega)

theorem door_met (os : Os) (args : Array Value) : laidMetH Tryd.prog laidS ((World.doorLaid Tryd.prog 400 os).forCall (fun _ _ => 0) ⟨#[], args, []⟩).memory :=
  laidMetH_of_parts3 (fuel := 8) (laidMet_of_run' 8 (by kernel_rfl) (by kernel_rfl)) (by kernel_rfl) (by kernel_rfl)

set_option maxRecDepth 100000 in
theorem lifted (os : Os) (started : os.Started) (H : Type) (enc : TypeId × Value → H) :
    ReturnsInHanded {} Tryd.checked os 8 .any (fun w args => (Rows.trigClosesSpec.pre enc Tryd.prog Tryd.f8 [] false w args ∧ laidMetH Tryd.prog laidS w) ∧ sizedMet enc Tryd.prog Tryd.f8 (OpenSpec.ofChange Rows.trigClosesSpec) false w args) (Rows.trigClosesSpec.post enc Tryd.prog Tryd.f8 false true false false) := by
  refine returnsInHanded_of_change_and (C := Tryd.checked) (X := fun w _ => laidMetH Tryd.prog laidS w) (fun _ _ _ hh h => h.of_heap hh) own started (by kernel_rfl) Tryd.func8
    (ChangeSpec.witness_shaped (enc := enc) (C := Tryd.checked) (os := os) (X := fun w _ => laidMetH Tryd.prog laidS w) false (World.doorLaid Tryd.prog 400 os) #[.int .i64 0, .int .i64 0, .int .i64 0] 8 rfl (World.shaped_of_RefB (by kernel_rfl) (by kernel_rfl)) (by kernel_rfl) (by kernel_rfl) (by kernel_rfl) (door_met os _)) ?_
  intro W base args ds gs before hval0 hW _ _ hL _
  have hval : ∀ (j : Nat) t v, Tryd.f8.params[j]? = some t → args[j]? = some v → Value.okWide Tryd.prog W .any base t v := hval0
  have hW' := hW
  obtain ⟨p, q, hA0, hV, rfl, hfz, hnd⟩ := hW
  have hA : DataW.TrodAll enc Tryd.prog W 0 (fun _ => true) true Tryd.f8.params.toList args.toList ds p := hA0
  rw [Tryd.params8] at hA hval
  obtain ⟨v0, vs0, d0, ds0, p0, q0, hargs, rfl, rfl, h0, r0⟩ := trodAll_cons hA
  obtain ⟨v1, vs1, d1, ds1, p1, q1, rfl, rfl, rfl, h1, r1⟩ := trodAll_cons r0
  obtain ⟨v2, vs2, d2, ds2, p2, q2, rfl, rfl, rfl, h2, r2⟩ := trodAll_cons r1
  obtain ⟨rfl, rfl, rfl⟩ := trodAll_nil r2
  obtain rfl : args = #[v0, v1, v2] := by cases args; simp_all
  obtain ⟨rfl, rfl⟩ := trodVars_none hV
  obtain ⟨a0, rfl, rfl, rfl, w0⟩ := open_int Tryd.underlying2 (hval 0 2 v0 rfl rfl) h0
  obtain ⟨a1, rfl, rfl, rfl, w1⟩ := open_int Tryd.underlying2 (hval 1 2 v1 rfl rfl) h1
  obtain ⟨a2, rfl, rfl, rfl, w2⟩ := open_int Tryd.underlying2 (hval 2 2 v2 rfl rfl) h2
  clear hA0 hval0
  simp only [List.append_nil] at hW'
  refine (walk a0 a1 a2  W (tab_of_laid hL)).mono fun e W' ⟨he, hb⟩ => ?_
  subst he
  refine ⟨_, rfl, _, _, _, [], [], [], hW', ?_, ?_, ?_, hb.frame _, fun h => by cases h⟩
  · exact trodAll_cons_mk (shut_bool Tryd.underlying4 _) trodAll_mk0
  · exact (trodAll_cons_mk (shut_int Tryd.underlying2 w0) (trodAll_cons_mk (shut_int Tryd.underlying2 w1) (trodAll_cons_mk (shut_int Tryd.underlying2 w2) trodAll_mk0)))
  · rfl

theorem proved : Rows.TrigClosesSaid :=
  OpenClaim.holds_of_wide 8 Tryd.f8 rfl rfl rfl rfl rfl rfl rfl ⟨rfl, rfl, rfl, rfl, rfl⟩ rfl rfl rfl rfl rfl (by kernel_rfl) Tryd.func8 (by kernel_rfl)
    (of_decide_eq_true (by kernel_rfl)) (by unfold Func.isWrapper; first | (rw [if_pos (by decide +kernel)]; kernel_rfl) | (rw [if_neg (by decide +kernel)]; exact ⟨rfl, rfl⟩))
    (fun os started H enc _ => lifted os started H enc)

theorem card_proved : Rows.TrigClosesCardSaid :=
  Claim7.holds_tied_plain_at .later [] [.data] true (true, _) false
    proved (fun _ h => by cases h) (by kernel_rfl) (fun _ h => by cases h) trigCloses_row_tie rfl ⟨rfl, rfl⟩ (by kernel_rfl) rfl
    (fun f fn hf hfn => by
      obtain rfl : f = 8 := Option.some.inj ((show Tryd.prog.funcNamed "bivouac/bivouaclaw03.TrigCloses" = some 8 by kernel_rfl).symm.trans hf) |>.symm
      obtain rfl : fn = Tryd.f8 := (Option.some.inj (Tryd.func8.symm.trans hfn)).symm
      exact ⟨by kernel_rfl, fun j t ht => by
        rw [Tryd.params8] at ht
        have hm : t ∈ [2, 2, 2] := by simpa using Array.mem_of_getElem? ht
        have hall : ([2, 2, 2].all fun u => !Tryd.prog.wantsStandIn u) = true := by kernel_rfl
        exact (show Tryd.prog.wantsStandIn t = false by simpa using List.all_eq_true.1 hall t hm)⟩)
    (by kernel_rfl)
#print axioms card_proved
end Go.Proofs.YtemilgbgmgmpiaaDoor.TrigCloses
