/- What Toward does, the program's and the document's, and the document's Heading. -/
import Derived.Test.YtikhgdbbbingbaaDoorTrigRef
namespace Go.Proofs.YtikhgdbbbingbaaDoor.Tg
open Go Go.RowKit
set_option linter.unusedVariables false

set_option maxHeartbeats 1000000 in
theorem toward_1 (f t m : Int) (w : World) (hm : m < 0) : Calls Tryd.prog 20 #[.int .i64 f, .int .i64 t, .int .i64 m] w fun e w' => e = .returned (.int .i64 (Tr.toward f t m)) ∧ w = w' := by
  have HN1 := Lib.hid (norm_any f)
  have HN2 := Lib.hid (norm_any t)
  have HN3 := Lib.hid (fun a => norm_any a)
  have ha := Tr.nrm_range f
  have hb := Tr.nrm_range t
  have HT : Hid (Tr.toward f t m = Tr.part (Tr.nrm f) (Tr.nrm t) (Tr.lesser (Tr.dist (Tr.nrm f) (Tr.nrm t)) (Tr.most0 m))) := rfl
  obtain ⟨a, haa⟩ : ∃ p, Tr.nrm f = p := ⟨_, rfl⟩
  obtain ⟨b, hbb⟩ : ∃ p, Tr.nrm t = p := ⟨_, rfl⟩
  rw [haa] at ha HN1 HT
  rw [hbb] at hb HN2 HT
  clear haa hbb
  have e1 : bits .and .i64 (b - a + 65536) 65535 = (b - a + 65536) % 65536 := and_65535 _
  go_enter Tryd.func20, Tryd.ntmps20
  go_wp2_with (first | (go_at_call 10; (first | (with_reducible refine (HN1.out _).mono ?_) | (with_reducible refine (HN2.out _).mono ?_) | (with_reducible refine (HN3.out _ _).mono ?_)); rintro e w' ⟨rfl, rfl⟩))
  all_goals go_ret
  all_goals exact ⟨ret_int (by rw [HT.out]; unfold Tr.part Tr.lesser Tr.dist Tr.most0 Tr.nrm; (repeat' split) <;> omega), rfl⟩

set_option maxHeartbeats 1000000 in
theorem toward_2 (f t m : Int) (w : World) (hm : 65536 < m) : Calls Tryd.prog 20 #[.int .i64 f, .int .i64 t, .int .i64 m] w fun e w' => e = .returned (.int .i64 (Tr.toward f t m)) ∧ w = w' := by
  have HN1 := Lib.hid (norm_any f)
  have HN2 := Lib.hid (norm_any t)
  have HN3 := Lib.hid (fun a => norm_any a)
  have ha := Tr.nrm_range f
  have hb := Tr.nrm_range t
  have HT : Hid (Tr.toward f t m = Tr.part (Tr.nrm f) (Tr.nrm t) (Tr.lesser (Tr.dist (Tr.nrm f) (Tr.nrm t)) (Tr.most0 m))) := rfl
  obtain ⟨a, haa⟩ : ∃ p, Tr.nrm f = p := ⟨_, rfl⟩
  obtain ⟨b, hbb⟩ : ∃ p, Tr.nrm t = p := ⟨_, rfl⟩
  rw [haa] at ha HN1 HT
  rw [hbb] at hb HN2 HT
  clear haa hbb
  have e1 : bits .and .i64 (b - a + 65536) 65535 = (b - a + 65536) % 65536 := and_65535 _
  go_enter Tryd.func20, Tryd.ntmps20
  go_wp2_with (first | (go_at_call 10; (first | (with_reducible refine (HN1.out _).mono ?_) | (with_reducible refine (HN2.out _).mono ?_) | (with_reducible refine (HN3.out _ _).mono ?_)); rintro e w' ⟨rfl, rfl⟩))
  all_goals go_ret
  all_goals exact ⟨ret_int (by rw [HT.out]; unfold Tr.part Tr.lesser Tr.dist Tr.most0 Tr.nrm; (repeat' split) <;> omega), rfl⟩

set_option maxHeartbeats 1000000 in
theorem toward_3 (f t m : Int) (w : World) (hm : 0 ≤ m) (hm' : m ≤ 65536) : Calls Tryd.prog 20 #[.int .i64 f, .int .i64 t, .int .i64 m] w fun e w' => e = .returned (.int .i64 (Tr.toward f t m)) ∧ w = w' := by
  have HN1 := Lib.hid (norm_any f)
  have HN2 := Lib.hid (norm_any t)
  have HN3 := Lib.hid (fun a => norm_any a)
  have ha := Tr.nrm_range f
  have hb := Tr.nrm_range t
  have HT : Hid (Tr.toward f t m = Tr.part (Tr.nrm f) (Tr.nrm t) (Tr.lesser (Tr.dist (Tr.nrm f) (Tr.nrm t)) (Tr.most0 m))) := rfl
  obtain ⟨a, haa⟩ : ∃ p, Tr.nrm f = p := ⟨_, rfl⟩
  obtain ⟨b, hbb⟩ : ∃ p, Tr.nrm t = p := ⟨_, rfl⟩
  rw [haa] at ha HN1 HT
  rw [hbb] at hb HN2 HT
  clear haa hbb
  have e1 : bits .and .i64 (b - a + 65536) 65535 = (b - a + 65536) % 65536 := and_65535 _
  go_enter Tryd.func20, Tryd.ntmps20
  go_wp2_with (first | (go_at_call 10; (first | (with_reducible refine (HN1.out _).mono ?_) | (with_reducible refine (HN2.out _).mono ?_) | (with_reducible refine (HN3.out _ _).mono ?_)); rintro e w' ⟨rfl, rfl⟩))
  all_goals go_ret
  all_goals exact ⟨ret_int (by rw [HT.out]; unfold Tr.part Tr.lesser Tr.dist Tr.most0 Tr.nrm; (repeat' split) <;> omega), rfl⟩

theorem toward_any (f t m : Int) (w : World) : Calls Tryd.prog 20 #[.int .i64 f, .int .i64 t, .int .i64 m] w fun e w' => e = .returned (.int .i64 (Tr.toward f t m)) ∧ w = w' := by
  by_cases h1 : m < 0
  · exact toward_1 f t m w h1
  · by_cases h2 : 65536 < m
    · exact toward_2 f t m w h2
    · exact toward_3 f t m w (by omega) (by omega)

theorem vel_wrap (x y d : Int) (hx : -1073741824 ≤ x ∧ x ≤ 1073741824) (hy : -1073741824 ≤ y ∧ y ≤ 1073741824) (h0 : 0 ≤ d) (h1 : d < 256) :
    wrap64 (wrap64 (x * Tr.cosA (256 * d)) + wrap64 (y * Tr.sinA (256 * d))) = Tr.vel x y d := by
  have hv : (-70368744177664 ≤ x * Tr.cosA (256 * d) ∧ x * Tr.cosA (256 * d) ≤ 70368744177664) ∧ (-70368744177664 ≤ y * Tr.sinA (256 * d) ∧ y * Tr.sinA (256 * d) ≤ 70368744177664) := Tr.vel_bound x y d hx hy h0 h1
  have e : Tr.vel x y d = x * Tr.cosA (256 * d) + y * Tr.sinA (256 * d) := rfl
  rw [e]
  generalize x * Tr.cosA (256 * d) = p at *
  generalize y * Tr.sinA (256 * d) = q at *
  unfold wrap64; omega

theorem try1_lt (x y b m d : Int) (h : m < Tr.vel x y d) : Tr.try1 x y (b, m) d = (d, Tr.vel x y d) := if_pos h
theorem try1_ge (x y b m d : Int) (h : Tr.vel x y d ≤ m) : Tr.try1 x y (b, m) d = (b, m) := if_neg (by simp only; omega)

theorem fst_congr {s t : Int × Int} (h : s = t) : Value.int .i64 s.1 = Value.int .i64 t.1 := by rw [h]
theorem snd_congr {s t : Int × Int} (h : s = t) : Value.int .i64 s.2 = Value.int .i64 t.2 := by rw [h]

set_option maxHeartbeats 1000000 in
set_option maxRecDepth 100000 in
theorem rheading_any (x y : Int) (w : World) (ht : TabR w) (hx : -1073741824 ≤ x ∧ x ≤ 1073741824) (hy : -1073741824 ≤ y ∧ y ≤ 1073741824) :
    Calls Tryd.prog 19 #[.int .i64 x, .int .i64 y] w fun e w' => e = .returned (.int .i64 (Tr.headR x y)) ∧ ∃ n, w' = w.drewN n := by
  have HC := Lib.hid (fun d n => rcos_any d _ (ht.drewN n))
  have HS := Lib.hid (fun d n => rsin_any d _ (ht.drewN n))
  have HC0 := Lib.hid (rcos_any 0 _ ht)
  have HV := Lib.hid (fun d h0 h1 => vel_wrap x y d hx hy h0 h1)
  have HR : Hid (Tr.headR x y = (Tr.tries x y 255 1 (0, Tr.vel x y 0)).1) := rfl
  clear ht
  go_enter Tryd.func19, Tryd.ntmps19
  go_wp2_with (first | (go_at_call 15; refine HC0.out.mono ?_; rintro e w' ⟨rfl, n, rfl⟩) | (go_at_call 13; refine (HS.out _ _).mono ?_; rintro e w' ⟨rfl, m, rfl⟩))
  go_loopw [5, 6, 7] (fun b m d wr => ∃ (k j : Nat) (s : Int × Int), k ≤ 255 ∧ d = .int .i64 (1 + k) ∧ Hid (s = Tr.tries x y k 1 (0, Tr.vel x y 0)) ∧ b = .int .i64 s.1 ∧ m = .int .i64 s.2 ∧ wr = w.drewN j) (fun _ _ d _ => (256 - intOf d).toNat)
  case atStart => exact ⟨0, _, (0, Tr.vel x y 0), by omega, rfl, rfl, rfl, by rw [← HV.out 0 (by omega) (by omega)]; rfl, rfl⟩
  case round =>
    obtain ⟨k, j, ⟨b, m⟩, hk, rfl, H1, rfl, rfl, rfl⟩ := hrel
    by_cases hlt : k < 255
    · have HW := HV.out (1 + k) (by omega) (by omega)
      have HC1 := HC.out (256 * (1 + k))
      have HS1 := HS.out (256 * (1 + k))
      obtain ⟨c, hc⟩ : ∃ c, Tr.cosA (256 * (1 + k)) = c := ⟨_, rfl⟩
      obtain ⟨q, hq⟩ : ∃ c, Tr.sinA (256 * (1 + k)) = c := ⟨_, rfl⟩
      rw [hc] at HC1 HW
      rw [hq] at HS1 HW
      have HC2 := Lib.hid HC1
      have HS2 := Lib.hid HS1
      clear hc hq HC1 HS1
      obtain ⟨p1, hp1⟩ : ∃ p, wrap64 (x * c) = p := ⟨_, rfl⟩
      obtain ⟨p2, hp2⟩ : ∃ p, wrap64 (y * q) = p := ⟨_, rfl⟩
      rw [hp1, hp2] at HW
      obtain ⟨v, hv⟩ : ∃ v, wrap64 (p1 + p2) = v := ⟨_, rfl⟩
      have HVV := Lib.hid (HW.symm.trans hv)
      clear HW
      by_cases hlt2 : m < v
      all_goals
        go_wp2_with (first | (go_at_call 15; refine (HC2.out _).mono ?_; rintro e w' ⟨rfl, n1, rfl⟩) | (go_at_call 13; refine (HS2.out _).mono ?_; rintro e w' ⟨rfl, n2, rfl⟩))
        go_roundw
        case rel =>
          first
          | exact ⟨k + 1, _, (1 + k, v), by omega, by go_num, by show _ = _; rw [Tr.tries_succ, ← H1.out, try1_lt _ _ _ _ _ (by rw [HVV.out]; exact hlt2), HVV.out], rfl, rfl, rfl⟩
          | exact ⟨k + 1, _, (1 + k, wrap64 (p1 + p2)), by omega, by go_num, by show _ = _; rw [Tr.tries_succ, ← H1.out, try1_lt _ _ _ _ _ (by rw [HVV.out]; exact hlt2), HVV.out, hv], rfl, rfl, rfl⟩
          | exact ⟨k + 1, _, (b, m), by omega, by go_num, by show _ = _; rw [Tr.tries_succ, ← H1.out, try1_ge _ _ _ _ _ (by rw [HVV.out]; omega)], rfl, rfl, rfl⟩
        case measure => simp [intOf]; omega
    · obtain rfl : k = 255 := by omega
      go_wp2
      go_ret
      exact ⟨ret_int (by rw [HR.out, ← H1.out]), _, rfl⟩
end Go.Proofs.YtikhgdbbbingbaaDoor.Tg
