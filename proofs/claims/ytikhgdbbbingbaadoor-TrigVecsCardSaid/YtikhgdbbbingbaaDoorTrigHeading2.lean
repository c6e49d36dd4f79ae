/- What trig's Heading does: the whole function. -/
import Derived.Test.YtikhgdbbbingbaaDoorTrigHeading
namespace Go.Proofs.YtikhgdbbbingbaaDoor.Tg
open Go Go.RowKit
set_option linter.unusedVariables false

theorem heading_far (x y : Int) (w : World) (h : farB x = true ∨ farB y = true) :
    Calls Tryd.prog 17 #[.int .i64 x, .int .i64 y] w fun e w' => e = .returned (.tuple #[.int .i64 0, .int .i64 8]) ∧ Below w.heap.size w w' := by
  have hx := far_any x
  have hy := far_any y
  have HX := Lib.hid hx
  have HY := Lib.hid hy
  clear hx hy
  by_cases h1 : farB x = true
  · go_enter Tryd.func17, Tryd.ntmps17
    go_wp2_with (first | (go_at_call 27; refine (HX.out _).mono ?_; rintro e w' ⟨rfl, rfl⟩))
    go_ret2
    exact ⟨rfl, ((Below.refl _ _).alloc (Nat.le_refl _) _).alloc (by simp) _⟩
  · have h1' : farB x = false := by simpa using h1
    have h2 : farB y = true := h.resolve_left h1
    clear h1 h
    go_enter Tryd.func17, Tryd.ntmps17
    go_wp2_with (first | (go_at_call 27; (first | (with_reducible refine (HX.out _).mono ?_) | (with_reducible refine (HY.out _).mono ?_)); rintro e w' ⟨rfl, rfl⟩))
    go_ret2
    exact ⟨rfl, ((Below.refl _ _).alloc (Nat.le_refl _) _).alloc (by simp) _⟩

def own4 (w : World) (x y : Int) : World := (((w.alloc (.cells #[.int .i64 x] 2)).alloc (.cells #[.int .i64 y] 2)).alloc (.cells #[.int .i64 0] 2)).alloc (.cells #[.int .i64 (-9223372036854775808)] 2)

theorem own4_hm (w : World) (x y : Int) : HM (own4 w x y) w.heap.size x y Tr.init := by
  unfold own4 Tr.init
  refine ⟨by simp, ?_, ?_, ?_, ?_, ?_, ?_⟩
  · rw [World.cell?_alloc_past _ _ _ (by simp <;> omega), World.cell?_alloc_past _ _ _ (by simp <;> omega), World.cell?_alloc_past _ _ _ (by simp), World.cell?_alloc_at _ _ _ _ rfl]; rfl
  · rw [World.cell?_alloc_past _ _ _ (by simp <;> omega), World.cell?_alloc_past _ _ _ (by simp), World.cell?_alloc_at _ _ _ _ (by simp)]; rfl
  · rw [World.cell?_alloc_past _ _ _ (by simp), World.cell?_alloc_at _ _ _ _ (by simp)]; rfl
  · rw [World.cell?_alloc_at _ _ _ _ (by simp)]; rfl
  · rw [World.frozen?_alloc_past _ _ _ (by simp), World.frozen?_alloc_at _ _ _ _ (by simp)]
  · rw [World.frozen?_alloc_at _ _ _ _ (by simp)]

theorem own4_below (w : World) (x y : Int) : Below w.heap.size w (own4 w x y) :=
  ((((Below.refl _ _).alloc (Nat.le_refl _) _).alloc (by simp) _).alloc (by simp; omega) _).alloc (by simp; omega) _

theorem HM.steps {w' : World} {B : Nat} {x y F : Int} {s0 : Int × Int} {k : Nat} {d : Int} (h : HM w' B x y (Tr.try1 x y (Tr.tries x y k F s0) d)) (hd : d = F + k) : HM w' B x y (Tr.tries x y (k + 1) F s0) := by
  rw [Tr.tries_succ, ← hd]; exact h

set_option maxRecDepth 100000 in
set_option maxHeartbeats 1000000 in
theorem heading_1 (x y : Int) (w : World) (ht : Tab w) (h1 : farB x = false) (h2 : farB y = false) (q : x < 0) (q' : 0 ≤ y) :
    Calls Tryd.prog 17 #[.int .i64 x, .int .i64 y] w fun e w' => e = .returned (.tuple #[.int .i64 (Tr.headP x y), .int .i64 0]) ∧ Below w.heap.size w w' := by
  have HX := Lib.hid (far_any x)
  have HY := Lib.hid (far_any y)
  have hbx := farB_false h1
  have hby := farB_false h2
  have HT := Lib.hid ht
  have HH := Lib.hid (own4_hm w x y)
  have HB := Lib.hid (own4_below w x y)
  clear ht
  have hmf : ∀ (fn : Fn) (first cap : Array Value) (w : World), (Instr.makeFunc fn first cap).run Tryd.prog w = .ok (.func fn first cap) w := fun _ _ _ _ => rfl
  go_enter Tryd.func17, Tryd.ntmps17
  go_wp2_with (first | (go_at_call 27; (first | (with_reducible refine (HX.out _).mono ?_) | (with_reducible refine (HY.out _).mono ?_)); rintro e w' ⟨rfl, rfl⟩))
  go_loopw [10] (fun d wr => ∃ k : Nat, k ≤ 65 ∧ d = .int .i64 (64 + k) ∧ Hid (HM wr w.heap.size x y (Tr.tries x y k 64 Tr.init)) ∧ Hid (Below w.heap.size w wr)) (fun d _ => (64 + 65 - intOf d).toNat)
  case atStart => exact ⟨0, by omega, rfl, HH.out, HB.out⟩
  case round =>
    obtain ⟨k, hk, rfl, H1, H2⟩ := hrel
    by_cases hlt : k < 65
    · go_wp2_with (first | (go_at_call 28; refine (try_any w.heap.size x y _ _ _ (HT.out.below H2.out) H1.out hbx hby (by omega) (by omega)).mono ?_; rintro e w' ⟨rfl, H3, H4⟩; have H5 := Lib.hid H3; have H6 := Lib.hid H4; clear H3 H4))
      go_roundw
      case rel => exact ⟨k + 1, by omega, by go_num, H5.out.steps (by omega), H2.out.trans H6.out⟩
      case measure => simp [intOf]; omega
    · obtain rfl : k = 65 := by omega
      have hcb := H1.out.cb
      have HF := Lib.hid (show (Tr.tries x y 65 64 Tr.init).1 = Tr.headP x y by unfold Tr.headP; rw [if_pos ⟨q, q'⟩])
      rw [HF.out] at hcb
      clear H1
      go_wp2
      go_ret2
      exact ⟨rfl, H2.out⟩

set_option maxRecDepth 100000 in
set_option maxHeartbeats 1000000 in
theorem heading_2a (x y : Int) (w : World) (ht : Tab w) (h1 : farB x = false) (h2 : farB y = false) (q0 : x < 0) (q' : y < 0) :
    Calls Tryd.prog 17 #[.int .i64 x, .int .i64 y] w fun e w' => e = .returned (.tuple #[.int .i64 (Tr.headP x y), .int .i64 0]) ∧ Below w.heap.size w w' := by
  have HX := Lib.hid (far_any x)
  have HY := Lib.hid (far_any y)
  have hbx := farB_false h1
  have hby := farB_false h2
  have HT := Lib.hid ht
  have HH := Lib.hid (own4_hm w x y)
  have HB := Lib.hid (own4_below w x y)
  clear ht
  have hmf : ∀ (fn : Fn) (first cap : Array Value) (w : World), (Instr.makeFunc fn first cap).run Tryd.prog w = .ok (.func fn first cap) w := fun _ _ _ _ => rfl
  go_enter Tryd.func17, Tryd.ntmps17
  go_wp2_with (first | (go_at_call 27; (first | (with_reducible refine (HX.out _).mono ?_) | (with_reducible refine (HY.out _).mono ?_)); rintro e w' ⟨rfl, rfl⟩))
  go_loopw [10] (fun d wr => ∃ k : Nat, k ≤ 65 ∧ d = .int .i64 (128 + k) ∧ Hid (HM wr w.heap.size x y (Tr.tries x y k 128 Tr.init)) ∧ Hid (Below w.heap.size w wr)) (fun d _ => (128 + 65 - intOf d).toNat)
  case atStart => exact ⟨0, by omega, rfl, HH.out, HB.out⟩
  case round =>
    obtain ⟨k, hk, rfl, H1, H2⟩ := hrel
    by_cases hlt : k < 65
    · go_wp2_with (first | (go_at_call 28; refine (try_any w.heap.size x y _ _ _ (HT.out.below H2.out) H1.out hbx hby (by omega) (by omega)).mono ?_; rintro e w' ⟨rfl, H3, H4⟩; have H5 := Lib.hid H3; have H6 := Lib.hid H4; clear H3 H4))
      go_roundw
      case rel => exact ⟨k + 1, by omega, by go_num, H5.out.steps (by omega), H2.out.trans H6.out⟩
      case measure => simp [intOf]; omega
    · obtain rfl : k = 65 := by omega
      have hcb := H1.out.cb
      have HF := Lib.hid (show (Tr.tries x y 65 128 Tr.init).1 = Tr.headP x y by unfold Tr.headP; rw [if_neg (by omega), if_pos ⟨by omega, q'⟩])
      rw [HF.out] at hcb
      clear H1
      go_wp2
      go_ret2
      exact ⟨rfl, H2.out⟩

set_option maxRecDepth 100000 in
set_option maxHeartbeats 1000000 in
theorem heading_2b (x y : Int) (w : World) (ht : Tab w) (h1 : farB x = false) (h2 : farB y = false) (q : x ≤ 0) (q0 : 0 ≤ x) (q' : y < 0) :
    Calls Tryd.prog 17 #[.int .i64 x, .int .i64 y] w fun e w' => e = .returned (.tuple #[.int .i64 (Tr.headP x y), .int .i64 0]) ∧ Below w.heap.size w w' := by
  have HX := Lib.hid (far_any x)
  have HY := Lib.hid (far_any y)
  have hbx := farB_false h1
  have hby := farB_false h2
  have HT := Lib.hid ht
  have HH := Lib.hid (own4_hm w x y)
  have HB := Lib.hid (own4_below w x y)
  clear ht
  have hmf : ∀ (fn : Fn) (first cap : Array Value) (w : World), (Instr.makeFunc fn first cap).run Tryd.prog w = .ok (.func fn first cap) w := fun _ _ _ _ => rfl
  go_enter Tryd.func17, Tryd.ntmps17
  go_wp2_with (first | (go_at_call 27; (first | (with_reducible refine (HX.out _).mono ?_) | (with_reducible refine (HY.out _).mono ?_)); rintro e w' ⟨rfl, rfl⟩))
  go_loopw [10] (fun d wr => ∃ k : Nat, k ≤ 65 ∧ d = .int .i64 (128 + k) ∧ Hid (HM wr w.heap.size x y (Tr.tries x y k 128 Tr.init)) ∧ Hid (Below w.heap.size w wr)) (fun d _ => (128 + 65 - intOf d).toNat)
  case atStart => exact ⟨0, by omega, rfl, HH.out, HB.out⟩
  case round =>
    obtain ⟨k, hk, rfl, H1, H2⟩ := hrel
    by_cases hlt : k < 65
    · go_wp2_with (first | (go_at_call 28; refine (try_any w.heap.size x y _ _ _ (HT.out.below H2.out) H1.out hbx hby (by omega) (by omega)).mono ?_; rintro e w' ⟨rfl, H3, H4⟩; have H5 := Lib.hid H3; have H6 := Lib.hid H4; clear H3 H4))
      go_roundw
      case rel => exact ⟨k + 1, by omega, by go_num, H5.out.steps (by omega), H2.out.trans H6.out⟩
      case measure => simp [intOf]; omega
    · obtain rfl : k = 65 := by omega
      have hcb := H1.out.cb
      have HF := Lib.hid (show (Tr.tries x y 65 128 Tr.init).1 = Tr.headP x y by unfold Tr.headP; rw [if_neg (by omega), if_pos ⟨q, q'⟩])
      rw [HF.out] at hcb
      clear H1
      go_wp2
      go_ret2
      exact ⟨rfl, H2.out⟩

set_option maxRecDepth 100000 in
set_option maxHeartbeats 1000000 in
theorem heading_4a (x y : Int) (w : World) (ht : Tab w) (h1 : farB x = false) (h2 : farB y = false) (q : 0 ≤ x) (q0 : x ≤ 0) (q' : 0 ≤ y) :
    Calls Tryd.prog 17 #[.int .i64 x, .int .i64 y] w fun e w' => e = .returned (.tuple #[.int .i64 (Tr.headP x y), .int .i64 0]) ∧ Below w.heap.size w w' := by
  have HX := Lib.hid (far_any x)
  have HY := Lib.hid (far_any y)
  have hbx := farB_false h1
  have hby := farB_false h2
  have HT := Lib.hid ht
  have HH := Lib.hid (own4_hm w x y)
  have HB := Lib.hid (own4_below w x y)
  clear ht
  have hmf : ∀ (fn : Fn) (first cap : Array Value) (w : World), (Instr.makeFunc fn first cap).run Tryd.prog w = .ok (.func fn first cap) w := fun _ _ _ _ => rfl
  go_enter Tryd.func17, Tryd.ntmps17
  go_wp2_with (first | (go_at_call 27; (first | (with_reducible refine (HX.out _).mono ?_) | (with_reducible refine (HY.out _).mono ?_)); rintro e w' ⟨rfl, rfl⟩))
  go_loopw [10] (fun d wr => ∃ k : Nat, k ≤ 65 ∧ d = .int .i64 (0 + k) ∧ Hid (HM wr w.heap.size x y (Tr.tries x y k 0 Tr.init)) ∧ Hid (Below w.heap.size w wr)) (fun d _ => (0 + 65 - intOf d).toNat)
  case atStart => exact ⟨0, by omega, rfl, HH.out, HB.out⟩
  case round =>
    obtain ⟨k, hk, rfl, H1, H2⟩ := hrel
    by_cases hlt : k < 65
    · go_wp2_with (first | (go_at_call 28; refine (try_any w.heap.size x y _ _ _ (HT.out.below H2.out) H1.out hbx hby (by omega) (by omega)).mono ?_; rintro e w' ⟨rfl, H3, H4⟩; have H5 := Lib.hid H3; have H6 := Lib.hid H4; clear H3 H4))
      go_roundw
      case rel => exact ⟨k + 1, by omega, by go_num, H5.out.steps (by omega), H2.out.trans H6.out⟩
      case measure => simp [intOf]; omega
    · obtain rfl : k = 65 := by omega
      have hcb := H1.out.cb
      have HF := Lib.hid (show (Tr.tries x y 65 0 Tr.init).1 = Tr.headP x y by unfold Tr.headP; rw [if_neg (by omega), if_neg (by omega), if_neg (by omega)])
      rw [HF.out] at hcb
      clear H1
      go_wp2
      go_ret2
      exact ⟨rfl, H2.out⟩

set_option maxRecDepth 100000 in
set_option maxHeartbeats 1000000 in
theorem heading_4b (x y : Int) (w : World) (ht : Tab w) (h1 : farB x = false) (h2 : farB y = false) (q : 0 < x) (q' : 0 ≤ y) :
    Calls Tryd.prog 17 #[.int .i64 x, .int .i64 y] w fun e w' => e = .returned (.tuple #[.int .i64 (Tr.headP x y), .int .i64 0]) ∧ Below w.heap.size w w' := by
  have HX := Lib.hid (far_any x)
  have HY := Lib.hid (far_any y)
  have hbx := farB_false h1
  have hby := farB_false h2
  have HT := Lib.hid ht
  have HH := Lib.hid (own4_hm w x y)
  have HB := Lib.hid (own4_below w x y)
  clear ht
  have hmf : ∀ (fn : Fn) (first cap : Array Value) (w : World), (Instr.makeFunc fn first cap).run Tryd.prog w = .ok (.func fn first cap) w := fun _ _ _ _ => rfl
  go_enter Tryd.func17, Tryd.ntmps17
  go_wp2_with (first | (go_at_call 27; (first | (with_reducible refine (HX.out _).mono ?_) | (with_reducible refine (HY.out _).mono ?_)); rintro e w' ⟨rfl, rfl⟩))
  go_loopw [10] (fun d wr => ∃ k : Nat, k ≤ 65 ∧ d = .int .i64 (0 + k) ∧ Hid (HM wr w.heap.size x y (Tr.tries x y k 0 Tr.init)) ∧ Hid (Below w.heap.size w wr)) (fun d _ => (0 + 65 - intOf d).toNat)
  case atStart => exact ⟨0, by omega, rfl, HH.out, HB.out⟩
  case round =>
    obtain ⟨k, hk, rfl, H1, H2⟩ := hrel
    by_cases hlt : k < 65
    · go_wp2_with (first | (go_at_call 28; refine (try_any w.heap.size x y _ _ _ (HT.out.below H2.out) H1.out hbx hby (by omega) (by omega)).mono ?_; rintro e w' ⟨rfl, H3, H4⟩; have H5 := Lib.hid H3; have H6 := Lib.hid H4; clear H3 H4))
      go_roundw
      case rel => exact ⟨k + 1, by omega, by go_num, H5.out.steps (by omega), H2.out.trans H6.out⟩
      case measure => simp [intOf]; omega
    · obtain rfl : k = 65 := by omega
      have hcb := H1.out.cb
      have HF := Lib.hid (show (Tr.tries x y 65 0 Tr.init).1 = Tr.headP x y by unfold Tr.headP; rw [if_neg (by omega), if_neg (by omega), if_neg (by omega)])
      rw [HF.out] at hcb
      clear H1
      go_wp2
      go_ret2
      exact ⟨rfl, H2.out⟩

set_option maxRecDepth 100000 in
set_option maxHeartbeats 1000000 in
theorem heading_3 (x y : Int) (w : World) (ht : Tab w) (h1 : farB x = false) (h2 : farB y = false) (q : 0 < x) (q' : y < 0) :
    Calls Tryd.prog 17 #[.int .i64 x, .int .i64 y] w fun e w' => e = .returned (.tuple #[.int .i64 (Tr.headP x y), .int .i64 0]) ∧ Below w.heap.size w w' := by
  have HX := Lib.hid (far_any x)
  have HY := Lib.hid (far_any y)
  have hbx := farB_false h1
  have hby := farB_false h2
  have HT := Lib.hid ht
  have HH := Lib.hid (own4_hm w x y)
  have HB := Lib.hid (own4_below w x y)
  clear ht
  have hmf : ∀ (fn : Fn) (first cap : Array Value) (w : World), (Instr.makeFunc fn first cap).run Tryd.prog w = .ok (.func fn first cap) w := fun _ _ _ _ => rfl
  go_enter Tryd.func17, Tryd.ntmps17
  go_wp2_with (first | (go_at_call 27; (first | (with_reducible refine (HX.out _).mono ?_) | (with_reducible refine (HY.out _).mono ?_)); rintro e w' ⟨rfl, rfl⟩) | (go_at_call 28; refine (try_any w.heap.size x y 0 Tr.init _ (HT.out.below HB.out) HH.out hbx hby (by omega) (by omega)).mono ?_; rintro e w1 ⟨rfl, H3, H4⟩; have H7 := Lib.hid H3; have H8 := Lib.hid H4; clear H3 H4))
  go_loopw [10] (fun d wr => ∃ k : Nat, k ≤ 64 ∧ d = .int .i64 (192 + k) ∧ Hid (HM wr w.heap.size x y (Tr.tries x y k 192 (Tr.try1 x y Tr.init 0))) ∧ Hid (Below w.heap.size w wr)) (fun d _ => (192 + 64 - intOf d).toNat)
  case atStart => exact ⟨0, by omega, rfl, H7.out, HB.out.trans H8.out⟩
  case round =>
    obtain ⟨k, hk, rfl, H1, H2⟩ := hrel
    by_cases hlt : k < 64
    · go_wp2_with (first | (go_at_call 28; refine (try_any w.heap.size x y _ _ _ (HT.out.below H2.out) H1.out hbx hby (by omega) (by omega)).mono ?_; rintro e w' ⟨rfl, H3, H4⟩; have H5 := Lib.hid H3; have H6 := Lib.hid H4; clear H3 H4))
      go_roundw
      case rel => exact ⟨k + 1, by omega, by go_num, H5.out.steps (by omega), H2.out.trans H6.out⟩
      case measure => simp [intOf]; omega
    · obtain rfl : k = 64 := by omega
      have hcb := H1.out.cb
      have HF := Lib.hid (show (Tr.tries x y 64 192 (Tr.try1 x y Tr.init 0)).1 = Tr.headP x y by unfold Tr.headP; rw [if_neg (by omega), if_neg (by omega), if_pos q'])
      rw [HF.out] at hcb
      clear H1
      go_wp2
      go_ret2
      exact ⟨rfl, H2.out⟩

theorem heading_any (x y : Int) (w : World) (ht : Tab w) (h1 : farB x = false) (h2 : farB y = false) :
    Calls Tryd.prog 17 #[.int .i64 x, .int .i64 y] w fun e w' => e = .returned (.tuple #[.int .i64 (Tr.headP x y), .int .i64 0]) ∧ Below w.heap.size w w' := by
  by_cases q : 0 ≤ y
  · by_cases p : x < 0
    · exact heading_1 x y w ht h1 h2 p q
    · by_cases r : x ≤ 0
      · exact heading_4a x y w ht h1 h2 (by omega) r q
      · exact heading_4b x y w ht h1 h2 (by omega) q
  · by_cases p : x ≤ 0
    · by_cases r : x < 0
      · exact heading_2a x y w ht h1 h2 r (by omega)
      · exact heading_2b x y w ht h1 h2 p (by omega) (by omega)
    · exact heading_3 x y w ht h1 h2 (by omega) (by omega)
end Go.Proofs.YtikhgdbbbingbaaDoor.Tg
