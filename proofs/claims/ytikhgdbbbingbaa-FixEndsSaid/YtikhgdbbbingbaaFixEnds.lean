/- FixEnds: at nothing it is the first, at a whole the second, and a half lies between, where it is not refused. No conditions beyond the row's own. -/
import Derived.Test.YtikhgdbbbingbaaRows
import Derived.Test.YtikhgdbbbingbaaFix
namespace Go.Proofs.Ytikhgdbbbingbaa.FixEnds
open Go Go.RowKit Go.Proofs.Ytikhgdbbbingbaa.Rt Go.ChangeShapes Go.WideShapes Go.ChangeAt
set_option linter.unusedVariables false

set_option maxRecDepth 100000 in
set_option maxHeartbeats 4000000 in
theorem walk_1 (a b : Int) (W : World) (ha : fits a) (hb : fits b) (hf : fits (b - a)) (hle : a ≤ b) :
    Calls Try.prog 16 #[.int .i64 a, .int .i64 b] W fun e w' => e = .returned (.bool true) ∧ Below W.heap.size W w' := by
  have H1 := Lib.hid (fun w => lerp_any a b 0 w ha hb (by decide))
  have H2 := Lib.hid (fun w => lerp_any a b 65536 w ha hb (by decide))
  have H3 := Lib.hid (fun w => lerp_any a b 32768 w ha hb (by decide))
  rw [show lerp a b 0 = (a, 0) by unfold lerp; rw [if_pos hf, Int.mul_zero, if_pos (by decide), Int.zero_ediv, Int.add_zero, fitted_in ha]] at H1
  rw [show lerp a b 65536 = (b, 0) by unfold lerp; rw [if_pos hf, Int.mul_ediv_cancel _ (by decide), if_pos hf, show a + (b - a) = b by omega, fitted_in hb]] at H2
  have hfh : fits ((b - a) * 32768 / 65536) := by unfold fits at *; omega
  have hfz : fits (a + (b - a) * 32768 / 65536) := by unfold fits at *; omega
  rw [show lerp a b 32768 = (a + (b - a) * 32768 / 65536, 0) by unfold lerp; rw [if_pos hf, if_pos hfh, fitted_in hfz]] at H3
  have K1 : a ≤ a + (b - a) * 32768 / 65536 := by omega
  have K2 : a + (b - a) * 32768 / 65536 ≤ b := by omega
  obtain ⟨z, hz⟩ : ∃ z, a + (b - a) * 32768 / 65536 = z := ⟨_, rfl⟩
  rw [hz] at H3 K1 K2
  clear hz hf hfh hfz ha hb
  go_enter Try.func16, Try.ntmps16
  go_wp2_with fail
  refine (H1.out _).mono ?_
  rintro e w1 ⟨rfl, hbl⟩
  have B1 := Lib.hid (show Below W.heap.size W w1 from hbl)
  clear hbl
  go_wp2_with fail
  refine (H2.out _).mono ?_
  rintro e w2 ⟨rfl, hbl⟩
  have B2 := Lib.hid (show Below W.heap.size W w2 from (B1.out.trans (hbl.mono B1.out.size)))
  clear hbl
  go_wp2_with fail
  refine (H3.out _).mono ?_
  rintro e w3 ⟨rfl, hbl⟩
  have B3 := Lib.hid (show Below W.heap.size W w3 from (B2.out.trans (hbl.mono B2.out.size)))
  clear hbl
  go_wp2_with fail
  refine (awake2_any _).mono ?_
  rintro e w4 ⟨rfl, hbl⟩
  have B4 := Lib.hid (show Below W.heap.size W w4 from (B3.out.trans (hbl.mono B3.out.size)))
  clear hbl
  go_wp2
  go_ret
  exact ⟨rfl, B4.out⟩

set_option maxRecDepth 100000 in
set_option maxHeartbeats 4000000 in
theorem walk_2 (a b : Int) (W : World) (ha : fits a) (hb : fits b) (hf : fits (b - a)) (hle : ¬ a ≤ b) :
    Calls Try.prog 16 #[.int .i64 a, .int .i64 b] W fun e w' => e = .returned (.bool true) ∧ Below W.heap.size W w' := by
  have H1 := Lib.hid (fun w => lerp_any a b 0 w ha hb (by decide))
  have H2 := Lib.hid (fun w => lerp_any a b 65536 w ha hb (by decide))
  have H3 := Lib.hid (fun w => lerp_any a b 32768 w ha hb (by decide))
  rw [show lerp a b 0 = (a, 0) by unfold lerp; rw [if_pos hf, Int.mul_zero, if_pos (by decide), Int.zero_ediv, Int.add_zero, fitted_in ha]] at H1
  rw [show lerp a b 65536 = (b, 0) by unfold lerp; rw [if_pos hf, Int.mul_ediv_cancel _ (by decide), if_pos hf, show a + (b - a) = b by omega, fitted_in hb]] at H2
  have hfh : fits ((b - a) * 32768 / 65536) := by unfold fits at *; omega
  have hfz : fits (a + (b - a) * 32768 / 65536) := by unfold fits at *; omega
  rw [show lerp a b 32768 = (a + (b - a) * 32768 / 65536, 0) by unfold lerp; rw [if_pos hf, if_pos hfh, fitted_in hfz]] at H3
  have K1 : b ≤ a + (b - a) * 32768 / 65536 := by omega
  have K2 : a + (b - a) * 32768 / 65536 < a := by omega
  obtain ⟨z, hz⟩ : ∃ z, a + (b - a) * 32768 / 65536 = z := ⟨_, rfl⟩
  rw [hz] at H3 K1 K2
  clear hz hf hfh hfz ha hb
  go_enter Try.func16, Try.ntmps16
  go_wp2_with fail
  refine (H1.out _).mono ?_
  rintro e w1 ⟨rfl, hbl⟩
  have B1 := Lib.hid (show Below W.heap.size W w1 from hbl)
  clear hbl
  go_wp2_with fail
  refine (H2.out _).mono ?_
  rintro e w2 ⟨rfl, hbl⟩
  have B2 := Lib.hid (show Below W.heap.size W w2 from (B1.out.trans (hbl.mono B1.out.size)))
  clear hbl
  go_wp2_with fail
  refine (H3.out _).mono ?_
  rintro e w3 ⟨rfl, hbl⟩
  have B3 := Lib.hid (show Below W.heap.size W w3 from (B2.out.trans (hbl.mono B2.out.size)))
  clear hbl
  go_wp2_with fail
  refine (awake2_any _).mono ?_
  rintro e w4 ⟨rfl, hbl⟩
  have B4 := Lib.hid (show Below W.heap.size W w4 from (B3.out.trans (hbl.mono B3.out.size)))
  clear hbl
  go_wp2
  go_ret
  exact ⟨rfl, B4.out⟩

set_option maxRecDepth 100000 in
set_option maxHeartbeats 4000000 in
theorem walk_3 (a b : Int) (W : World) (ha : fits a) (hb : fits b) (hf : ¬ fits (b - a)) :
    Calls Try.prog 16 #[.int .i64 a, .int .i64 b] W fun e w' => e = .returned (.bool true) ∧ Below W.heap.size W w' := by
  have H1 := Lib.hid (fun w => lerp_any a b 0 w ha hb (by decide))
  have H2 := Lib.hid (fun w => lerp_any a b 65536 w ha hb (by decide))
  have H3 := Lib.hid (fun w => lerp_any a b 32768 w ha hb (by decide))
  rw [show lerp a b 0 = (0, 8) by unfold lerp; rw [if_neg hf]] at H1
  rw [show lerp a b 65536 = (0, 8) by unfold lerp; rw [if_neg hf]] at H2
  rw [show lerp a b 32768 = (0, 8) by unfold lerp; rw [if_neg hf]] at H3
  clear hf ha hb
  go_enter Try.func16, Try.ntmps16
  go_wp2_with fail
  refine (H1.out _).mono ?_
  rintro e w1 ⟨rfl, hbl⟩
  have B1 := Lib.hid (show Below W.heap.size W w1 from hbl)
  clear hbl
  go_wp2_with fail
  refine (H2.out _).mono ?_
  rintro e w2 ⟨rfl, hbl⟩
  have B2 := Lib.hid (show Below W.heap.size W w2 from (B1.out.trans (hbl.mono B1.out.size)))
  clear hbl
  go_wp2_with fail
  refine (H3.out _).mono ?_
  rintro e w3 ⟨rfl, hbl⟩
  have B3 := Lib.hid (show Below W.heap.size W w3 from (B2.out.trans (hbl.mono B2.out.size)))
  clear hbl
  go_wp2_with fail
  refine (awake2_any _).mono ?_
  rintro e w4 ⟨rfl, hbl⟩
  have B4 := Lib.hid (show Below W.heap.size W w4 from (B3.out.trans (hbl.mono B3.out.size)))
  clear hbl
  go_wp2
  go_ret
  exact ⟨rfl, B4.out⟩

set_option maxRecDepth 100000 in
set_option maxHeartbeats 4000000 in
theorem walk (a b : Int) (W : World) (ha : fits a) (hb : fits b) :
    Calls Try.prog 16 #[.int .i64 a, .int .i64 b] W fun e w' => e = .returned (.bool true) ∧ Below W.heap.size W w' := by
  by_cases hf : fits (b - a)
  · by_cases hle : a ≤ b
    · exact walk_1 a b W ha hb hf hle
    · exact walk_2 a b W ha hb hf hle
  · exact walk_3 a b W ha hb hf

set_option maxRecDepth 100000 in
theorem lifted (os : Os) (started : os.Started) (H : Type) (enc : TypeId × Value → H) :
    ReturnsInHanded {} Try.checked os 16 .any (Rows.fixEndsSpec.pre6 enc Try.prog Try.f16 Rows.fixEndsRow.domain false) (Rows.fixEndsSpec.post enc Try.prog Try.f16 false true false false) := by
  refine returnsInHanded_of_change (C := Try.checked) own started (by kernel_rfl) Try.func16
    (ChangeSpec.witness6 (enc := enc) (C := Try.checked) false ⟨#[], #[.int .i64 0, .int .i64 0], []⟩ 8 (by kernel_rfl) (by kernel_rfl) (by kernel_rfl) (by kernel_rfl)) ?_
  intro W base args ds gs before hval0 hW hcnd _
  have hval : ∀ (j : Nat) t v, Try.f16.params[j]? = some t → args[j]? = some v → Value.okWide Try.prog W .any base t v := hval0
  have hW' := hW
  obtain ⟨p, q, hA0, hV, rfl, hfz, hnd⟩ := hW
  have hA : DataW.TrodAll enc Try.prog W 0 (fun _ => true) true Try.f16.params.toList args.toList ds p := hA0
  rw [Try.params16] at hA hval
  obtain ⟨v0, vs0, d0, ds0, p0, q0, hargs, rfl, rfl, h0, r0⟩ := trodAll_cons hA
  obtain ⟨v1, vs1, d1, ds1, p1, q1, rfl, rfl, rfl, h1, r1⟩ := trodAll_cons r0
  obtain ⟨rfl, rfl, rfl⟩ := trodAll_nil r1
  obtain rfl : args = #[v0, v1] := by cases args; simp_all
  obtain ⟨rfl, rfl⟩ := trodVars_none hV
  obtain ⟨a0, rfl, rfl, rfl, w0⟩ := open_int Try.underlying2 (hval 0 2 v0 rfl rfl) h0
  obtain ⟨a1, rfl, rfl, rfl, w1⟩ := open_int Try.underlying2 (hval 1 2 v1 rfl rfl) h1
  clear hA0 hval0
  simp only [List.append_nil] at hW'
  refine (walk a0 a1  W (fits_of w0) (fits_of w1)).mono fun e W' ⟨he, hb⟩ => ?_
  subst he
  refine ⟨_, rfl, _, _, _, [], [], [], hW', ?_, ?_, ?_, hb.frame _, fun h => by cases h⟩
  · exact trodAll_cons_mk (shut_bool Try.underlying4 _) trodAll_mk0
  · exact (trodAll_cons_mk (shut_int Try.underlying2 w0) (trodAll_cons_mk (shut_int Try.underlying2 w1) trodAll_mk0))
  · rfl

theorem proved : Rows.FixEndsSaid :=
  OpenClaim.holds_of_wide 16 Try.f16 rfl rfl rfl rfl rfl rfl rfl ⟨rfl, rfl, rfl, rfl, rfl⟩ rfl rfl rfl rfl rfl (by kernel_rfl) Try.func16 (by kernel_rfl)
    (of_decide_eq_true (by kernel_rfl)) (by unfold Func.isWrapper; first | (rw [if_pos (by decide +kernel)]; kernel_rfl) | (rw [if_neg (by decide +kernel)]; exact ⟨rfl, rfl⟩))
    (fun os started H enc _ => lifted os started H enc)
#print axioms proved
end Go.Proofs.Ytikhgdbbbingbaa.FixEnds
