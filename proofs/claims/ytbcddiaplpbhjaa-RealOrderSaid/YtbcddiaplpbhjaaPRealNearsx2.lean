-- PRINTED BY print.sh 35421559b90ae4d0a3588c463048766b98c2df88dd9212a6774a882060cdf62d: not written by this session
import Derived.Test.YtbcddiaplpbhjaaPRealNearsx0
import Derived.Test.YtbcddiaplpbhjaaPRealNearsx1
namespace Go.Proofs.Ytbcddiaplpbhjaa.PRealNears
open Go.RowKit Go.Proofs.YtbcddiaplpbhjaaW.PrintWords Go.Proofs.YtbcddiaplpbhjaaW.PrintLast Go.Proofs.YtbcddiaplpbhjaaW.PrintMore
attribute [local go_sem] max2_int min2_int max_two min_two max_three min_three max_four min_four   -- for this text's walks alone
set_option linter.unusedVariables false
set_option linter.unusedSimpArgs false

/-! ### bivouacref04_Of: function 17 -/
def bivouacref04_Of.f (k : Nat) (a0 : Int) : Option (Int × Int) := (bivouacref04_Parts.f k a0).bind fun bt102 => (if bt102.2.2.2 = 2 then (some (0, 14)) else (if bt102.2.2.2 = 1 then (some (0, 8)) else ((bivouacref04_Scaled.f k bt102.2.1 (wrap64 (bt102.2.2.1 + 16))).bind fun bt106 => (if bt106.2.2 = true then (if bt102.1 = true then (if bt106.2.1 > 0 then (if (wrap64 ((wrap64 (-(wrap64 (bt106.1)))) - 1)) < (-70368744177664) then (some (0, 8)) else (if (wrap64 ((wrap64 (-(wrap64 (bt106.1)))) - 1)) ≥ 70368744177664 then (some (0, 8)) else (some (wrap64 ((wrap64 (-(wrap64 (bt106.1)))) - 1), 0)))) else (if (wrap64 (-(wrap64 (bt106.1)))) < (-70368744177664) then (some (0, 8)) else (if (wrap64 (-(wrap64 (bt106.1)))) ≥ 70368744177664 then (some (0, 8)) else (some (wrap64 (-(wrap64 (bt106.1))), 0))))) else (if (wrap64 (bt106.1)) < (-70368744177664) then (some (0, 8)) else (if (wrap64 (bt106.1)) ≥ 70368744177664 then (some (0, 8)) else (some (wrap64 (bt106.1), 0))))) else (some (0, 8))))))
theorem bivouacref04_Of.mono : ∀ a0 k, LeO (bivouacref04_Of.f k a0) (bivouacref04_Of.f (k + 1) a0) := by
  intro a0 k
  unfold bivouacref04_Of.f
  repeat' first
      | (with_reducible exact bivouacref04_Parts.mono _ _)
      | (with_reducible exact bivouacref04_Scaled.mono _ _ _)
      | (with_reducible exact LeO.refl _)
      | (with_reducible exact LeO.none _)
      | (with_reducible refine LeO.ite ?_ ?_)
      | (with_reducible refine LeO.bind ?_ (fun _ => ?_))
      | exact bivouacref04_Parts.mono _ _
      | exact bivouacref04_Scaled.mono _ _ _
      | exact LeO.none _
      | refine LeO.ite ?_ ?_
      | refine LeO.bind ?_ (fun _ => ?_)
set_option maxHeartbeats 8000000 in
set_option maxRecDepth 100000 in
theorem bivouacref04_Of.calls (k : Nat) (a0 : Int) (r1 : Int) (r2 : Int) (w : World) (h : bivouacref04_Of.f k a0 = some (r1, r2)) :
    Calls Try.prog 17 #[.int .u64 a0] w fun e w' => e = .returned (.tuple #[.int .i64 r1, .int .i64 r2]) ∧ Drawn0 w w' := by
  have H : ((bivouacref04_Parts.f k a0).bind fun bt102 => (if bt102.2.2.2 = 2 then (some (0, 14)) else (if bt102.2.2.2 = 1 then (some (0, 8)) else ((bivouacref04_Scaled.f k bt102.2.1 (wrap64 (bt102.2.2.1 + 16))).bind fun bt106 => (if bt106.2.2 = true then (if bt102.1 = true then (if bt106.2.1 > 0 then (if (wrap64 ((wrap64 (-(wrap64 (bt106.1)))) - 1)) < (-70368744177664) then (some (0, 8)) else (if (wrap64 ((wrap64 (-(wrap64 (bt106.1)))) - 1)) ≥ 70368744177664 then (some (0, 8)) else (some (wrap64 ((wrap64 (-(wrap64 (bt106.1)))) - 1), 0)))) else (if (wrap64 (-(wrap64 (bt106.1)))) < (-70368744177664) then (some (0, 8)) else (if (wrap64 (-(wrap64 (bt106.1)))) ≥ 70368744177664 then (some (0, 8)) else (some (wrap64 (-(wrap64 (bt106.1))), 0))))) else (if (wrap64 (bt106.1)) < (-70368744177664) then (some (0, 8)) else (if (wrap64 (bt106.1)) ≥ 70368744177664 then (some (0, 8)) else (some (wrap64 (bt106.1), 0))))) else (some (0, 8))))))) = some (r1, r2) := h
  clear h
  replace H := Option.bind_eq_some_iff.mp H
  obtain ⟨⟨t102, t103, t104, t105⟩, A20, H⟩ := H
  replace H : (if t105 = 2 then (some (0, 14)) else (if t105 = 1 then (some (0, 8)) else ((bivouacref04_Scaled.f k t103 (wrap64 (t104 + 16))).bind fun bt106 => (if bt106.2.2 = true then (if t102 = true then (if bt106.2.1 > 0 then (if (wrap64 ((wrap64 (-(wrap64 (bt106.1)))) - 1)) < (-70368744177664) then (some (0, 8)) else (if (wrap64 ((wrap64 (-(wrap64 (bt106.1)))) - 1)) ≥ 70368744177664 then (some (0, 8)) else (some (wrap64 ((wrap64 (-(wrap64 (bt106.1)))) - 1), 0)))) else (if (wrap64 (-(wrap64 (bt106.1)))) < (-70368744177664) then (some (0, 8)) else (if (wrap64 (-(wrap64 (bt106.1)))) ≥ 70368744177664 then (some (0, 8)) else (some (wrap64 (-(wrap64 (bt106.1))), 0))))) else (if (wrap64 (bt106.1)) < (-70368744177664) then (some (0, 8)) else (if (wrap64 (bt106.1)) ≥ 70368744177664 then (some (0, 8)) else (some (wrap64 (bt106.1), 0))))) else (some (0, 8)))))) = some (r1, r2) := H
  have A2 := Aside0.mk A20
  clear A20
  by_cases c3 : t105 = 2
  · rw [if_pos c3] at H
    have c3b0 : (t105 == 2) = true := beq_iff_eq.mpr c3
    have c3b1 : (t105 != 2) = false := bne_eq_false_iff_eq.mpr c3
    clear c3
    simp only [Option.some.injEq, Prod.mk.injEq] at H
    obtain ⟨rfl, rfl⟩ := H
    go_enter Try.func17, Try.ntmps17
    go_wp2_with (first | ((with_reducible refine gate_callee (f := 35) rfl ?_); refine goesL_ (some 14) rfl rfl Try.func35 (by kernel_rfl) rfl #[.int .u64 a0] rfl (by (try simp only [List.map_toArray, List.map_cons, List.map_nil]); first | done | rfl | (simp only [List.length_drop, List.length_take]; rfl)) ?_; (with_reducible refine (bivouacref04_Parts.calls k a0 t102 t103 t104 t105 _ A2.out).mono ?_); rintro e w' ⟨rfl, ⟨nd, rfl⟩⟩; refine ⟨_, rfl, ?_⟩))
    go_ret2
    exact ⟨by first | rfl | (simp; done) | (simp [*]; done), by repeat (first | exact Drawn0.refl _ | apply Drawn0.step)⟩
  · rw [if_neg c3] at H
    have c3b0 : (t105 == 2) = false := beq_eq_false_iff_ne.mpr c3
    have c3b1 : (t105 != 2) = true := bne_iff_ne.mpr c3
    by_cases c4 : t105 = 1
    · rw [if_pos c4] at H
      have c4b0 : (t105 == 1) = true := beq_iff_eq.mpr c4
      have c4b1 : (t105 != 1) = false := bne_eq_false_iff_eq.mpr c4
      clear c4
      simp only [Option.some.injEq, Prod.mk.injEq] at H
      obtain ⟨rfl, rfl⟩ := H
      go_enter Try.func17, Try.ntmps17
      go_wp2_with (first | ((with_reducible refine gate_callee (f := 35) rfl ?_); refine goesL_ (some 14) rfl rfl Try.func35 (by kernel_rfl) rfl #[.int .u64 a0] rfl (by (try simp only [List.map_toArray, List.map_cons, List.map_nil]); first | done | rfl | (simp only [List.length_drop, List.length_take]; rfl)) ?_; (with_reducible refine (bivouacref04_Parts.calls k a0 t102 t103 t104 t105 _ A2.out).mono ?_); rintro e w' ⟨rfl, ⟨nd, rfl⟩⟩; refine ⟨_, rfl, ?_⟩))
      go_ret2
      exact ⟨by first | rfl | (simp; done) | (simp [*]; done), by repeat (first | exact Drawn0.refl _ | apply Drawn0.step)⟩
    · rw [if_neg c4] at H
      have c4b0 : (t105 == 1) = false := beq_eq_false_iff_ne.mpr c4
      have c4b1 : (t105 != 1) = true := bne_iff_ne.mpr c4
      replace H := Option.bind_eq_some_iff.mp H
      obtain ⟨⟨t106, t107, t108⟩, A50, H⟩ := H
      replace H : (if t108 = true then (if t102 = true then (if t107 > 0 then (if (wrap64 ((wrap64 (-(wrap64 (t106)))) - 1)) < (-70368744177664) then (some (0, 8)) else (if (wrap64 ((wrap64 (-(wrap64 (t106)))) - 1)) ≥ 70368744177664 then (some (0, 8)) else (some (wrap64 ((wrap64 (-(wrap64 (t106)))) - 1), 0)))) else (if (wrap64 (-(wrap64 (t106)))) < (-70368744177664) then (some (0, 8)) else (if (wrap64 (-(wrap64 (t106)))) ≥ 70368744177664 then (some (0, 8)) else (some (wrap64 (-(wrap64 (t106))), 0))))) else (if (wrap64 (t106)) < (-70368744177664) then (some (0, 8)) else (if (wrap64 (t106)) ≥ 70368744177664 then (some (0, 8)) else (some (wrap64 (t106), 0))))) else (some (0, 8))) = some (r1, r2) := H
      have A5 := Aside0.mk A50
      clear A50
      by_cases c6 : t108 = true
      · subst c6
        have H1 : (if t102 = true then (if t107 > 0 then (if (wrap64 ((wrap64 (-(wrap64 (t106)))) - 1)) < (-70368744177664) then (some (0, 8)) else (if (wrap64 ((wrap64 (-(wrap64 (t106)))) - 1)) ≥ 70368744177664 then (some (0, 8)) else (some (wrap64 ((wrap64 (-(wrap64 (t106)))) - 1), 0)))) else (if (wrap64 (-(wrap64 (t106)))) < (-70368744177664) then (some (0, 8)) else (if (wrap64 (-(wrap64 (t106)))) ≥ 70368744177664 then (some (0, 8)) else (some (wrap64 (-(wrap64 (t106))), 0))))) else (if (wrap64 (t106)) < (-70368744177664) then (some (0, 8)) else (if (wrap64 (t106)) ≥ 70368744177664 then (some (0, 8)) else (some (wrap64 (t106), 0))))) = some (r1, r2) := by rw [if_pos rfl] at H; exact H
        clear H
        have H := H1
        clear H1
        by_cases c7 : t102 = true
        · subst c7
          have H1 : (if t107 > 0 then (if (wrap64 ((wrap64 (-(wrap64 (t106)))) - 1)) < (-70368744177664) then (some (0, 8)) else (if (wrap64 ((wrap64 (-(wrap64 (t106)))) - 1)) ≥ 70368744177664 then (some (0, 8)) else (some (wrap64 ((wrap64 (-(wrap64 (t106)))) - 1), 0)))) else (if (wrap64 (-(wrap64 (t106)))) < (-70368744177664) then (some (0, 8)) else (if (wrap64 (-(wrap64 (t106)))) ≥ 70368744177664 then (some (0, 8)) else (some (wrap64 (-(wrap64 (t106))), 0))))) = some (r1, r2) := by rw [if_pos rfl] at H; exact H
          clear H
          have H := H1
          clear H1
          by_cases c8 : t107 > 0
          · rw [if_pos c8] at H
            have c8b0 : decide (0 < t107) = true := decide_eq_true c8
            clear c8
            by_cases c9 : (wrap64 ((wrap64 (-(wrap64 (t106)))) - 1)) < (-70368744177664)
            · rw [if_pos c9] at H
              have c9b0 : decide ((wrap64 ((wrap64 (-(wrap64 (t106)))) - 1)) < (-70368744177664)) = true := decide_eq_true c9
              clear c9
              simp only [Option.some.injEq, Prod.mk.injEq] at H
              obtain ⟨rfl, rfl⟩ := H
              go_enter Try.func17, Try.ntmps17
              go_wp2_with (first | ((with_reducible refine gate_callee (f := 35) rfl ?_); refine goesL_ (some 14) rfl rfl Try.func35 (by kernel_rfl) rfl #[.int .u64 a0] rfl (by (try simp only [List.map_toArray, List.map_cons, List.map_nil]); first | done | rfl | (simp only [List.length_drop, List.length_take]; rfl)) ?_; (with_reducible refine (bivouacref04_Parts.calls k a0 true t103 t104 t105 _ A2.out).mono ?_); rintro e w' ⟨rfl, ⟨nd, rfl⟩⟩; refine ⟨_, rfl, ?_⟩) | ((with_reducible refine gate_callee (f := 36) rfl ?_); refine goesL_ (some 27) rfl rfl Try.func36 (by kernel_rfl) rfl #[.int .u64 t103, .int .i64 (wrap64 (t104 + 16))] rfl (by (try simp only [List.map_toArray, List.map_cons, List.map_nil]); first | done | rfl | (simp only [List.length_drop, List.length_take]; rfl)) ?_; (with_reducible refine (bivouacref04_Scaled.calls k t103 (wrap64 (t104 + 16)) t106 t107 true _ A5.out).mono ?_); rintro e w' ⟨rfl, ⟨nd, rfl⟩⟩; refine ⟨_, rfl, ?_⟩))
              go_ret2
              exact ⟨by first | rfl | (simp; done) | (simp [*]; done), by repeat (first | exact Drawn0.refl _ | apply Drawn0.step)⟩
            · rw [if_neg c9] at H
              have c9b0 : decide ((wrap64 ((wrap64 (-(wrap64 (t106)))) - 1)) < (-70368744177664)) = false := decide_eq_false c9
              clear c9
              by_cases c10 : (wrap64 ((wrap64 (-(wrap64 (t106)))) - 1)) ≥ 70368744177664
              · rw [if_pos c10] at H
                have c10b0 : decide (70368744177664 ≤ (wrap64 ((wrap64 (-(wrap64 (t106)))) - 1))) = true := decide_eq_true c10
                clear c10
                simp only [Option.some.injEq, Prod.mk.injEq] at H
                obtain ⟨rfl, rfl⟩ := H
                go_enter Try.func17, Try.ntmps17
                go_wp2_with (first | ((with_reducible refine gate_callee (f := 35) rfl ?_); refine goesL_ (some 14) rfl rfl Try.func35 (by kernel_rfl) rfl #[.int .u64 a0] rfl (by (try simp only [List.map_toArray, List.map_cons, List.map_nil]); first | done | rfl | (simp only [List.length_drop, List.length_take]; rfl)) ?_; (with_reducible refine (bivouacref04_Parts.calls k a0 true t103 t104 t105 _ A2.out).mono ?_); rintro e w' ⟨rfl, ⟨nd, rfl⟩⟩; refine ⟨_, rfl, ?_⟩) | ((with_reducible refine gate_callee (f := 36) rfl ?_); refine goesL_ (some 27) rfl rfl Try.func36 (by kernel_rfl) rfl #[.int .u64 t103, .int .i64 (wrap64 (t104 + 16))] rfl (by (try simp only [List.map_toArray, List.map_cons, List.map_nil]); first | done | rfl | (simp only [List.length_drop, List.length_take]; rfl)) ?_; (with_reducible refine (bivouacref04_Scaled.calls k t103 (wrap64 (t104 + 16)) t106 t107 true _ A5.out).mono ?_); rintro e w' ⟨rfl, ⟨nd, rfl⟩⟩; refine ⟨_, rfl, ?_⟩))
                go_ret2
                exact ⟨by first | rfl | (simp; done) | (simp [*]; done), by repeat (first | exact Drawn0.refl _ | apply Drawn0.step)⟩
              · rw [if_neg c10] at H
                have c10b0 : decide (70368744177664 ≤ (wrap64 ((wrap64 (-(wrap64 (t106)))) - 1))) = false := decide_eq_false c10
                clear c10
                simp only [Option.some.injEq, Prod.mk.injEq] at H
                obtain ⟨rfl, rfl⟩ := H
                go_enter Try.func17, Try.ntmps17
                go_wp2_with (first | ((with_reducible refine gate_callee (f := 35) rfl ?_); refine goesL_ (some 14) rfl rfl Try.func35 (by kernel_rfl) rfl #[.int .u64 a0] rfl (by (try simp only [List.map_toArray, List.map_cons, List.map_nil]); first | done | rfl | (simp only [List.length_drop, List.length_take]; rfl)) ?_; (with_reducible refine (bivouacref04_Parts.calls k a0 true t103 t104 t105 _ A2.out).mono ?_); rintro e w' ⟨rfl, ⟨nd, rfl⟩⟩; refine ⟨_, rfl, ?_⟩) | ((with_reducible refine gate_callee (f := 36) rfl ?_); refine goesL_ (some 27) rfl rfl Try.func36 (by kernel_rfl) rfl #[.int .u64 t103, .int .i64 (wrap64 (t104 + 16))] rfl (by (try simp only [List.map_toArray, List.map_cons, List.map_nil]); first | done | rfl | (simp only [List.length_drop, List.length_take]; rfl)) ?_; (with_reducible refine (bivouacref04_Scaled.calls k t103 (wrap64 (t104 + 16)) t106 t107 true _ A5.out).mono ?_); rintro e w' ⟨rfl, ⟨nd, rfl⟩⟩; refine ⟨_, rfl, ?_⟩))
                go_ret2
                exact ⟨by first | rfl | (simp; done) | (simp [*]; done), by repeat (first | exact Drawn0.refl _ | apply Drawn0.step)⟩
          · rw [if_neg c8] at H
            have c8b0 : decide (0 < t107) = false := decide_eq_false c8
            clear c8
            by_cases c11 : (wrap64 (-(wrap64 (t106)))) < (-70368744177664)
            · rw [if_pos c11] at H
              have c11b0 : decide ((wrap64 (-(wrap64 (t106)))) < (-70368744177664)) = true := decide_eq_true c11
              clear c11
              simp only [Option.some.injEq, Prod.mk.injEq] at H
              obtain ⟨rfl, rfl⟩ := H
              go_enter Try.func17, Try.ntmps17
              go_wp2_with (first | ((with_reducible refine gate_callee (f := 35) rfl ?_); refine goesL_ (some 14) rfl rfl Try.func35 (by kernel_rfl) rfl #[.int .u64 a0] rfl (by (try simp only [List.map_toArray, List.map_cons, List.map_nil]); first | done | rfl | (simp only [List.length_drop, List.length_take]; rfl)) ?_; (with_reducible refine (bivouacref04_Parts.calls k a0 true t103 t104 t105 _ A2.out).mono ?_); rintro e w' ⟨rfl, ⟨nd, rfl⟩⟩; refine ⟨_, rfl, ?_⟩) | ((with_reducible refine gate_callee (f := 36) rfl ?_); refine goesL_ (some 27) rfl rfl Try.func36 (by kernel_rfl) rfl #[.int .u64 t103, .int .i64 (wrap64 (t104 + 16))] rfl (by (try simp only [List.map_toArray, List.map_cons, List.map_nil]); first | done | rfl | (simp only [List.length_drop, List.length_take]; rfl)) ?_; (with_reducible refine (bivouacref04_Scaled.calls k t103 (wrap64 (t104 + 16)) t106 t107 true _ A5.out).mono ?_); rintro e w' ⟨rfl, ⟨nd, rfl⟩⟩; refine ⟨_, rfl, ?_⟩))
              go_ret2
              exact ⟨by first | rfl | (simp; done) | (simp [*]; done), by repeat (first | exact Drawn0.refl _ | apply Drawn0.step)⟩
            · rw [if_neg c11] at H
              have c11b0 : decide ((wrap64 (-(wrap64 (t106)))) < (-70368744177664)) = false := decide_eq_false c11
              clear c11
              by_cases c12 : (wrap64 (-(wrap64 (t106)))) ≥ 70368744177664
              · rw [if_pos c12] at H
                have c12b0 : decide (70368744177664 ≤ (wrap64 (-(wrap64 (t106))))) = true := decide_eq_true c12
                clear c12
                simp only [Option.some.injEq, Prod.mk.injEq] at H
                obtain ⟨rfl, rfl⟩ := H
                go_enter Try.func17, Try.ntmps17
                go_wp2_with (first | ((with_reducible refine gate_callee (f := 35) rfl ?_); refine goesL_ (some 14) rfl rfl Try.func35 (by kernel_rfl) rfl #[.int .u64 a0] rfl (by (try simp only [List.map_toArray, List.map_cons, List.map_nil]); first | done | rfl | (simp only [List.length_drop, List.length_take]; rfl)) ?_; (with_reducible refine (bivouacref04_Parts.calls k a0 true t103 t104 t105 _ A2.out).mono ?_); rintro e w' ⟨rfl, ⟨nd, rfl⟩⟩; refine ⟨_, rfl, ?_⟩) | ((with_reducible refine gate_callee (f := 36) rfl ?_); refine goesL_ (some 27) rfl rfl Try.func36 (by kernel_rfl) rfl #[.int .u64 t103, .int .i64 (wrap64 (t104 + 16))] rfl (by (try simp only [List.map_toArray, List.map_cons, List.map_nil]); first | done | rfl | (simp only [List.length_drop, List.length_take]; rfl)) ?_; (with_reducible refine (bivouacref04_Scaled.calls k t103 (wrap64 (t104 + 16)) t106 t107 true _ A5.out).mono ?_); rintro e w' ⟨rfl, ⟨nd, rfl⟩⟩; refine ⟨_, rfl, ?_⟩))
                go_ret2
                exact ⟨by first | rfl | (simp; done) | (simp [*]; done), by repeat (first | exact Drawn0.refl _ | apply Drawn0.step)⟩
              · rw [if_neg c12] at H
                have c12b0 : decide (70368744177664 ≤ (wrap64 (-(wrap64 (t106))))) = false := decide_eq_false c12
                clear c12
                simp only [Option.some.injEq, Prod.mk.injEq] at H
                obtain ⟨rfl, rfl⟩ := H
                go_enter Try.func17, Try.ntmps17
                go_wp2_with (first | ((with_reducible refine gate_callee (f := 35) rfl ?_); refine goesL_ (some 14) rfl rfl Try.func35 (by kernel_rfl) rfl #[.int .u64 a0] rfl (by (try simp only [List.map_toArray, List.map_cons, List.map_nil]); first | done | rfl | (simp only [List.length_drop, List.length_take]; rfl)) ?_; (with_reducible refine (bivouacref04_Parts.calls k a0 true t103 t104 t105 _ A2.out).mono ?_); rintro e w' ⟨rfl, ⟨nd, rfl⟩⟩; refine ⟨_, rfl, ?_⟩) | ((with_reducible refine gate_callee (f := 36) rfl ?_); refine goesL_ (some 27) rfl rfl Try.func36 (by kernel_rfl) rfl #[.int .u64 t103, .int .i64 (wrap64 (t104 + 16))] rfl (by (try simp only [List.map_toArray, List.map_cons, List.map_nil]); first | done | rfl | (simp only [List.length_drop, List.length_take]; rfl)) ?_; (with_reducible refine (bivouacref04_Scaled.calls k t103 (wrap64 (t104 + 16)) t106 t107 true _ A5.out).mono ?_); rintro e w' ⟨rfl, ⟨nd, rfl⟩⟩; refine ⟨_, rfl, ?_⟩))
                go_ret2
                exact ⟨by first | rfl | (simp; done) | (simp [*]; done), by repeat (first | exact Drawn0.refl _ | apply Drawn0.step)⟩
        · replace c7 := Bool.eq_false_iff.mpr c7
          subst c7
          have H1 : (if (wrap64 (t106)) < (-70368744177664) then (some (0, 8)) else (if (wrap64 (t106)) ≥ 70368744177664 then (some (0, 8)) else (some (wrap64 (t106), 0)))) = some (r1, r2) := by rw [if_neg (show ¬ (false = true) by decide)] at H; exact H
          clear H
          have H := H1
          clear H1
          by_cases c13 : (wrap64 (t106)) < (-70368744177664)
          · rw [if_pos c13] at H
            have c13b0 : decide ((wrap64 (t106)) < (-70368744177664)) = true := decide_eq_true c13
            clear c13
            simp only [Option.some.injEq, Prod.mk.injEq] at H
            obtain ⟨rfl, rfl⟩ := H
            go_enter Try.func17, Try.ntmps17
            go_wp2_with (first | ((with_reducible refine gate_callee (f := 35) rfl ?_); refine goesL_ (some 14) rfl rfl Try.func35 (by kernel_rfl) rfl #[.int .u64 a0] rfl (by (try simp only [List.map_toArray, List.map_cons, List.map_nil]); first | done | rfl | (simp only [List.length_drop, List.length_take]; rfl)) ?_; (with_reducible refine (bivouacref04_Parts.calls k a0 false t103 t104 t105 _ A2.out).mono ?_); rintro e w' ⟨rfl, ⟨nd, rfl⟩⟩; refine ⟨_, rfl, ?_⟩) | ((with_reducible refine gate_callee (f := 36) rfl ?_); refine goesL_ (some 27) rfl rfl Try.func36 (by kernel_rfl) rfl #[.int .u64 t103, .int .i64 (wrap64 (t104 + 16))] rfl (by (try simp only [List.map_toArray, List.map_cons, List.map_nil]); first | done | rfl | (simp only [List.length_drop, List.length_take]; rfl)) ?_; (with_reducible refine (bivouacref04_Scaled.calls k t103 (wrap64 (t104 + 16)) t106 t107 true _ A5.out).mono ?_); rintro e w' ⟨rfl, ⟨nd, rfl⟩⟩; refine ⟨_, rfl, ?_⟩))
            go_ret2
            exact ⟨by first | rfl | (simp; done) | (simp [*]; done), by repeat (first | exact Drawn0.refl _ | apply Drawn0.step)⟩
          · rw [if_neg c13] at H
            have c13b0 : decide ((wrap64 (t106)) < (-70368744177664)) = false := decide_eq_false c13
            clear c13
            by_cases c14 : (wrap64 (t106)) ≥ 70368744177664
            · rw [if_pos c14] at H
              have c14b0 : decide (70368744177664 ≤ (wrap64 (t106))) = true := decide_eq_true c14
              clear c14
              simp only [Option.some.injEq, Prod.mk.injEq] at H
              obtain ⟨rfl, rfl⟩ := H
              go_enter Try.func17, Try.ntmps17
              go_wp2_with (first | ((with_reducible refine gate_callee (f := 35) rfl ?_); refine goesL_ (some 14) rfl rfl Try.func35 (by kernel_rfl) rfl #[.int .u64 a0] rfl (by (try simp only [List.map_toArray, List.map_cons, List.map_nil]); first | done | rfl | (simp only [List.length_drop, List.length_take]; rfl)) ?_; (with_reducible refine (bivouacref04_Parts.calls k a0 false t103 t104 t105 _ A2.out).mono ?_); rintro e w' ⟨rfl, ⟨nd, rfl⟩⟩; refine ⟨_, rfl, ?_⟩) | ((with_reducible refine gate_callee (f := 36) rfl ?_); refine goesL_ (some 27) rfl rfl Try.func36 (by kernel_rfl) rfl #[.int .u64 t103, .int .i64 (wrap64 (t104 + 16))] rfl (by (try simp only [List.map_toArray, List.map_cons, List.map_nil]); first | done | rfl | (simp only [List.length_drop, List.length_take]; rfl)) ?_; (with_reducible refine (bivouacref04_Scaled.calls k t103 (wrap64 (t104 + 16)) t106 t107 true _ A5.out).mono ?_); rintro e w' ⟨rfl, ⟨nd, rfl⟩⟩; refine ⟨_, rfl, ?_⟩))
              go_ret2
              exact ⟨by first | rfl | (simp; done) | (simp [*]; done), by repeat (first | exact Drawn0.refl _ | apply Drawn0.step)⟩
            · rw [if_neg c14] at H
              have c14b0 : decide (70368744177664 ≤ (wrap64 (t106))) = false := decide_eq_false c14
              clear c14
              simp only [Option.some.injEq, Prod.mk.injEq] at H
              obtain ⟨rfl, rfl⟩ := H
              go_enter Try.func17, Try.ntmps17
              go_wp2_with (first | ((with_reducible refine gate_callee (f := 35) rfl ?_); refine goesL_ (some 14) rfl rfl Try.func35 (by kernel_rfl) rfl #[.int .u64 a0] rfl (by (try simp only [List.map_toArray, List.map_cons, List.map_nil]); first | done | rfl | (simp only [List.length_drop, List.length_take]; rfl)) ?_; (with_reducible refine (bivouacref04_Parts.calls k a0 false t103 t104 t105 _ A2.out).mono ?_); rintro e w' ⟨rfl, ⟨nd, rfl⟩⟩; refine ⟨_, rfl, ?_⟩) | ((with_reducible refine gate_callee (f := 36) rfl ?_); refine goesL_ (some 27) rfl rfl Try.func36 (by kernel_rfl) rfl #[.int .u64 t103, .int .i64 (wrap64 (t104 + 16))] rfl (by (try simp only [List.map_toArray, List.map_cons, List.map_nil]); first | done | rfl | (simp only [List.length_drop, List.length_take]; rfl)) ?_; (with_reducible refine (bivouacref04_Scaled.calls k t103 (wrap64 (t104 + 16)) t106 t107 true _ A5.out).mono ?_); rintro e w' ⟨rfl, ⟨nd, rfl⟩⟩; refine ⟨_, rfl, ?_⟩))
              go_ret2
              exact ⟨by first | rfl | (simp; done) | (simp [*]; done), by repeat (first | exact Drawn0.refl _ | apply Drawn0.step)⟩
      · replace c6 := Bool.eq_false_iff.mpr c6
        subst c6
        have H1 : (some (0, 8)) = some (r1, r2) := by rw [if_neg (show ¬ (false = true) by decide)] at H; exact H
        clear H
        have H := H1
        clear H1
        simp only [Option.some.injEq, Prod.mk.injEq] at H
        obtain ⟨rfl, rfl⟩ := H
        go_enter Try.func17, Try.ntmps17
        go_wp2_with (first | ((with_reducible refine gate_callee (f := 35) rfl ?_); refine goesL_ (some 14) rfl rfl Try.func35 (by kernel_rfl) rfl #[.int .u64 a0] rfl (by (try simp only [List.map_toArray, List.map_cons, List.map_nil]); first | done | rfl | (simp only [List.length_drop, List.length_take]; rfl)) ?_; (with_reducible refine (bivouacref04_Parts.calls k a0 t102 t103 t104 t105 _ A2.out).mono ?_); rintro e w' ⟨rfl, ⟨nd, rfl⟩⟩; refine ⟨_, rfl, ?_⟩) | ((with_reducible refine gate_callee (f := 36) rfl ?_); refine goesL_ (some 27) rfl rfl Try.func36 (by kernel_rfl) rfl #[.int .u64 t103, .int .i64 (wrap64 (t104 + 16))] rfl (by (try simp only [List.map_toArray, List.map_cons, List.map_nil]); first | done | rfl | (simp only [List.length_drop, List.length_take]; rfl)) ?_; (with_reducible refine (bivouacref04_Scaled.calls k t103 (wrap64 (t104 + 16)) t106 t107 false _ A5.out).mono ?_); rintro e w' ⟨rfl, ⟨nd, rfl⟩⟩; refine ⟨_, rfl, ?_⟩))
        go_ret2
        exact ⟨by first | rfl | (simp; done) | (simp [*]; done), by repeat (first | exact Drawn0.refl _ | apply Drawn0.step)⟩

/-! ### bivouacref04_Near: function 20 -/
def bivouacref04_Near.j0 : Nat → Int → Bool → Option (Int × Int)
  | 0, _, _ => none
  | k + 1, x4, x13 => if x13 = true then (if (wrap64 (x4 + 1)) ≥ 70368744177664 then (some (0, 8)) else (some (wrap64 (x4 + 1), 0))) else (if x4 ≥ 70368744177664 then (some (0, 8)) else (some (x4, 0)))
def bivouacref04_Near.f (k : Nat) (a0 : Int) : Option (Int × Int) := (bivouacref04_Of.f k a0).bind fun bt109 => (if bt109.2 = 0 then ((bivouacref04_Parts.f k a0).bind fun bt111 => ((bivouacref04_Scaled.f k bt111.2.1 (wrap64 (bt111.2.2.1 + 16))).bind fun bt115 => (if bt111.1 = true then (if bt115.2.1 > 0 then (bivouacref04_Near.j0 k bt109.1 (decide (bt115.2.1 ≤ 2))) else (bivouacref04_Near.j0 k bt109.1 false)) else (if bt115.2.1 ≥ 2 then (bivouacref04_Near.j0 k bt109.1 true) else (bivouacref04_Near.j0 k bt109.1 false))))) else (some (0, bt109.2)))
theorem bivouacref04_Near.mono_l : ∀ k, (∀ y0 y1, LeO (bivouacref04_Near.j0 k y0 y1) (bivouacref04_Near.j0 (k + 1) y0 y1))
  | 0 => fun _ _ r h => by simp [bivouacref04_Near.j0] at h
  | k + 1 => by
    have ih0 := bivouacref04_Near.mono_l k
    · intro y0 y1
      unfold bivouacref04_Near.j0
      repeat' first
      | (with_reducible exact ih0 _ _)
      | (with_reducible exact bivouacref04_Of.mono _ _)
      | (with_reducible exact bivouacref04_Parts.mono _ _)
      | (with_reducible exact bivouacref04_Scaled.mono _ _ _)
      | (with_reducible exact LeO.refl _)
      | (with_reducible exact LeO.none _)
      | (with_reducible refine LeO.ite ?_ ?_)
      | (with_reducible refine LeO.bind ?_ (fun _ => ?_))
      | exact ih0 _ _
      | exact bivouacref04_Of.mono _ _
      | exact bivouacref04_Parts.mono _ _
      | exact bivouacref04_Scaled.mono _ _ _
      | exact LeO.none _
      | refine LeO.ite ?_ ?_
      | refine LeO.bind ?_ (fun _ => ?_)
theorem bivouacref04_Near.mono : ∀ a0 k, LeO (bivouacref04_Near.f k a0) (bivouacref04_Near.f (k + 1) a0) := by
  intro a0 k
  have ih0 := bivouacref04_Near.mono_l k
  unfold bivouacref04_Near.f
  repeat' first
      | (with_reducible exact ih0 _ _)
      | (with_reducible exact bivouacref04_Of.mono _ _)
      | (with_reducible exact bivouacref04_Parts.mono _ _)
      | (with_reducible exact bivouacref04_Scaled.mono _ _ _)
      | (with_reducible exact LeO.refl _)
      | (with_reducible exact LeO.none _)
      | (with_reducible refine LeO.ite ?_ ?_)
      | (with_reducible refine LeO.bind ?_ (fun _ => ?_))
      | exact ih0 _ _
      | exact bivouacref04_Of.mono _ _
      | exact bivouacref04_Parts.mono _ _
      | exact bivouacref04_Scaled.mono _ _ _
      | exact LeO.none _
      | refine LeO.ite ?_ ?_
      | refine LeO.bind ?_ (fun _ => ?_)
set_option maxHeartbeats 8000000 in
set_option maxRecDepth 100000 in
theorem bivouacref04_Near.calls (k : Nat) (a0 : Int) (r1 : Int) (r2 : Int) (w : World) (h : bivouacref04_Near.f k a0 = some (r1, r2)) :
    Calls Try.prog 20 #[.int .u64 a0] w fun e w' => e = .returned (.tuple #[.int .i64 r1, .int .i64 r2]) ∧ Drawn0 w w' := by
  have H : ((bivouacref04_Of.f k a0).bind fun bt109 => (if bt109.2 = 0 then ((bivouacref04_Parts.f k a0).bind fun bt111 => ((bivouacref04_Scaled.f k bt111.2.1 (wrap64 (bt111.2.2.1 + 16))).bind fun bt115 => (if bt111.1 = true then (if bt115.2.1 > 0 then (bivouacref04_Near.j0 k bt109.1 (decide (bt115.2.1 ≤ 2))) else (bivouacref04_Near.j0 k bt109.1 false)) else (if bt115.2.1 ≥ 2 then (bivouacref04_Near.j0 k bt109.1 true) else (bivouacref04_Near.j0 k bt109.1 false))))) else (some (0, bt109.2)))) = some (r1, r2) := h
  clear h
  replace H := Option.bind_eq_some_iff.mp H
  obtain ⟨⟨t109, t110⟩, A20, H⟩ := H
  replace H : (if t110 = 0 then ((bivouacref04_Parts.f k a0).bind fun bt111 => ((bivouacref04_Scaled.f k bt111.2.1 (wrap64 (bt111.2.2.1 + 16))).bind fun bt115 => (if bt111.1 = true then (if bt115.2.1 > 0 then (bivouacref04_Near.j0 k t109 (decide (bt115.2.1 ≤ 2))) else (bivouacref04_Near.j0 k t109 false)) else (if bt115.2.1 ≥ 2 then (bivouacref04_Near.j0 k t109 true) else (bivouacref04_Near.j0 k t109 false))))) else (some (0, t110))) = some (r1, r2) := H
  have A2 := Aside0.mk A20
  clear A20
  by_cases c3 : t110 = 0
  · rw [if_pos c3] at H
    have c3b0 : (t110 == 0) = true := beq_iff_eq.mpr c3
    have c3b1 : (t110 != 0) = false := bne_eq_false_iff_eq.mpr c3
    clear c3
    replace H := Option.bind_eq_some_iff.mp H
    obtain ⟨⟨t111, t112, t113, t114⟩, A40, H⟩ := H
    replace H : ((bivouacref04_Scaled.f k t112 (wrap64 (t113 + 16))).bind fun bt115 => (if t111 = true then (if bt115.2.1 > 0 then (bivouacref04_Near.j0 k t109 (decide (bt115.2.1 ≤ 2))) else (bivouacref04_Near.j0 k t109 false)) else (if bt115.2.1 ≥ 2 then (bivouacref04_Near.j0 k t109 true) else (bivouacref04_Near.j0 k t109 false)))) = some (r1, r2) := H
    have A4 := Aside0.mk A40
    clear A40
    replace H := Option.bind_eq_some_iff.mp H
    obtain ⟨⟨t115, t116, t117⟩, A50, H⟩ := H
    replace H : (if t111 = true then (if t116 > 0 then (bivouacref04_Near.j0 k t109 (decide (t116 ≤ 2))) else (bivouacref04_Near.j0 k t109 false)) else (if t116 ≥ 2 then (bivouacref04_Near.j0 k t109 true) else (bivouacref04_Near.j0 k t109 false))) = some (r1, r2) := H
    have A5 := Aside0.mk A50
    clear A50
    have HC6 := Aside0.mk H
    clear H
    go_enter Try.func20, Try.ntmps20
    go_upto_region 6 with (first | ((with_reducible refine gate_callee (f := 17) rfl ?_); refine goesL_ (some 16) rfl rfl Try.func17 (by kernel_rfl) rfl #[.int .u64 a0] rfl (by (try simp only [List.map_toArray, List.map_cons, List.map_nil]); first | done | rfl | (simp only [List.length_drop, List.length_take]; rfl)) ?_; (with_reducible refine (bivouacref04_Of.calls k a0 t109 t110 _ A2.out).mono ?_); rintro e w' ⟨rfl, ⟨nd, rfl⟩⟩; refine ⟨_, rfl, ?_⟩) | ((with_reducible refine gate_callee (f := 35) rfl ?_); refine goesL_ (some 24) rfl rfl Try.func35 (by kernel_rfl) rfl #[.int .u64 a0] rfl (by (try simp only [List.map_toArray, List.map_cons, List.map_nil]); first | done | rfl | (simp only [List.length_drop, List.length_take]; rfl)) ?_; (with_reducible refine (bivouacref04_Parts.calls k a0 t111 t112 t113 t114 _ A4.out).mono ?_); rintro e w' ⟨rfl, ⟨nd, rfl⟩⟩; refine ⟨_, rfl, ?_⟩) | ((with_reducible refine gate_callee (f := 36) rfl ?_); refine goesL_ (some 33) rfl rfl Try.func36 (by kernel_rfl) rfl #[.int .u64 t112, .int .i64 (wrap64 (t113 + 16))] rfl (by (try simp only [List.map_toArray, List.map_cons, List.map_nil]); first | done | rfl | (simp only [List.length_drop, List.length_take]; rfl)) ?_; (with_reducible refine (bivouacref04_Scaled.calls k t112 (wrap64 (t113 + 16)) t115 t116 t117 _ A5.out).mono ?_); rintro e w' ⟨rfl, ⟨nd, rfl⟩⟩; refine ⟨_, rfl, ?_⟩))
    (try simp only [Act.put, List.setIfInBounds_toArray, List.set_cons_zero, List.set_cons_succ])
    go_cut [13] (fun v13 wc => ∃ (kq : Nat) (x13_5 : Bool), v13 = .bool x13_5 ∧ Aside0 (bivouacref04_Near.j0 kq t109 x13_5 = some (r1, r2)) ∧ Aside0 (kq ≤ k) ∧ Drawn0 w wc)
    case first =>
      have H := HC6.out
      clear HC6
      by_cases c7 : t111 = true
      · subst c7
        have H1 : (if t116 > 0 then (bivouacref04_Near.j0 k t109 (decide (t116 ≤ 2))) else (bivouacref04_Near.j0 k t109 false)) = some (r1, r2) := by rw [if_pos rfl] at H; exact H
        clear H
        have H := H1
        clear H1
        by_cases c8 : t116 > 0
        · rw [if_pos c8] at H
          have c8b0 : decide (0 < t116) = true := decide_eq_true c8
          clear c8
          (first | rw [c8b0] | (simp only [i64_w, i32_w]; rw [c8b0]) | skip)
          have H' := Aside0.mk H
          clear H
          go_wp2
          go_meet
          case rel => exact ⟨_, (decide (t116 ≤ 2)), (by first | rfl | (simp; done) | (simp [*]; done)), H', ⟨by first | omega | exact Nat.le_refl _⟩, by repeat (first | exact Drawn0.refl _ | apply Drawn0.step)⟩
        · rw [if_neg c8] at H
          have c8b0 : decide (0 < t116) = false := decide_eq_false c8
          clear c8
          (first | rw [c8b0] | (simp only [i64_w, i32_w]; rw [c8b0]) | skip)
          have H' := Aside0.mk H
          clear H
          go_wp2
          go_meet
          case rel => exact ⟨_, (false), (by first | rfl | (simp; done) | (simp [*]; done)), H', ⟨by first | omega | exact Nat.le_refl _⟩, by repeat (first | exact Drawn0.refl _ | apply Drawn0.step)⟩
      · replace c7 := Bool.eq_false_iff.mpr c7
        subst c7
        have H1 : (if t116 ≥ 2 then (bivouacref04_Near.j0 k t109 true) else (bivouacref04_Near.j0 k t109 false)) = some (r1, r2) := by rw [if_neg (show ¬ (false = true) by decide)] at H; exact H
        clear H
        have H := H1
        clear H1
        by_cases c9 : t116 ≥ 2
        · rw [if_pos c9] at H
          have c9b0 : decide (2 ≤ t116) = true := decide_eq_true c9
          clear c9
          have H' := Aside0.mk H
          clear H
          go_wp2
          go_meet
          case rel => exact ⟨_, (true), (by first | rfl | (simp; done) | (simp [*]; done)), H', ⟨by first | omega | exact Nat.le_refl _⟩, by repeat (first | exact Drawn0.refl _ | apply Drawn0.step)⟩
        · rw [if_neg c9] at H
          have c9b0 : decide (2 ≤ t116) = false := decide_eq_false c9
          clear c9
          have H' := Aside0.mk H
          clear H
          go_wp2
          go_meet
          case rel => exact ⟨_, (false), (by first | rfl | (simp; done) | (simp [*]; done)), H', ⟨by first | omega | exact Nat.le_refl _⟩, by repeat (first | exact Drawn0.refl _ | apply Drawn0.step)⟩
    case rest =>
      clear HC6
      try clear c1
      try clear c2
      try clear p2
      try clear c3
      try clear c3b0
      try clear c3b1
      try clear p6
      try clear c7
      try clear c8
      try clear c8b0
      try clear c9
      try clear c9b0
      obtain ⟨kq, x13_5, rfl, HA, HJ5, ⟨mc5, rfl⟩⟩ := hcut
      cases kq with
      | zero => exact absurd HA.out (by simp [bivouacref04_Near.j0])
      | succ kj5 =>
        have H := HA.out
        clear HA
        simp only [bivouacref04_Near.j0] at H
        by_cases c10 : x13_5 = true
        · subst c10
          have H1 : (if (wrap64 (t109 + 1)) ≥ 70368744177664 then (some (0, 8)) else (some (wrap64 (t109 + 1), 0))) = some (r1, r2) := by rw [if_pos rfl] at H; exact H
          clear H
          have H := H1
          clear H1
          by_cases c11 : (wrap64 (t109 + 1)) ≥ 70368744177664
          · rw [if_pos c11] at H
            have c11b0 : decide (70368744177664 ≤ (wrap64 (t109 + 1))) = true := decide_eq_true c11
            clear c11
            simp only [Option.some.injEq, Prod.mk.injEq] at H
            obtain ⟨rfl, rfl⟩ := H
            go_wp2
            go_ret2
            exact ⟨by first | rfl | (simp; done) | (simp [*]; done), by repeat (first | exact Drawn0.refl _ | apply Drawn0.step)⟩
          · rw [if_neg c11] at H
            have c11b0 : decide (70368744177664 ≤ (wrap64 (t109 + 1))) = false := decide_eq_false c11
            clear c11
            simp only [Option.some.injEq, Prod.mk.injEq] at H
            obtain ⟨rfl, rfl⟩ := H
            go_wp2
            go_ret2
            exact ⟨by first | rfl | (simp; done) | (simp [*]; done), by repeat (first | exact Drawn0.refl _ | apply Drawn0.step)⟩
        · replace c10 := Bool.eq_false_iff.mpr c10
          subst c10
          have H1 : (if t109 ≥ 70368744177664 then (some (0, 8)) else (some (t109, 0))) = some (r1, r2) := by rw [if_neg (show ¬ (false = true) by decide)] at H; exact H
          clear H
          have H := H1
          clear H1
          by_cases c12 : t109 ≥ 70368744177664
          · rw [if_pos c12] at H
            have c12b0 : decide (70368744177664 ≤ t109) = true := decide_eq_true c12
            clear c12
            simp only [Option.some.injEq, Prod.mk.injEq] at H
            obtain ⟨rfl, rfl⟩ := H
            go_wp2
            go_ret2
            exact ⟨by first | rfl | (simp; done) | (simp [*]; done), by repeat (first | exact Drawn0.refl _ | apply Drawn0.step)⟩
          · rw [if_neg c12] at H
            have c12b0 : decide (70368744177664 ≤ t109) = false := decide_eq_false c12
            clear c12
            simp only [Option.some.injEq, Prod.mk.injEq] at H
            obtain ⟨rfl, rfl⟩ := H
            go_wp2
            go_ret2
            exact ⟨by first | rfl | (simp; done) | (simp [*]; done), by repeat (first | exact Drawn0.refl _ | apply Drawn0.step)⟩
  · rw [if_neg c3] at H
    have c3b0 : (t110 == 0) = false := beq_eq_false_iff_ne.mpr c3
    have c3b1 : (t110 != 0) = true := bne_iff_ne.mpr c3
    simp only [Option.some.injEq, Prod.mk.injEq] at H
    obtain ⟨rfl, rfl⟩ := H
    go_enter Try.func20, Try.ntmps20
    go_wp2_with (first | ((with_reducible refine gate_callee (f := 17) rfl ?_); refine goesL_ (some 16) rfl rfl Try.func17 (by kernel_rfl) rfl #[.int .u64 a0] rfl (by (try simp only [List.map_toArray, List.map_cons, List.map_nil]); first | done | rfl | (simp only [List.length_drop, List.length_take]; rfl)) ?_; (with_reducible refine (bivouacref04_Of.calls k a0 t109 t110 _ A2.out).mono ?_); rintro e w' ⟨rfl, ⟨nd, rfl⟩⟩; refine ⟨_, rfl, ?_⟩))
    go_ret2
    exact ⟨by first | rfl | (simp; done) | (simp [*]; done), by repeat (first | exact Drawn0.refl _ | apply Drawn0.step)⟩

-- NOT PRINTED: function 4 (bivouaclaw04_RealNears)

end Go.Proofs.Ytbcddiaplpbhjaa.PRealNears
