/- FixRoots: every root is the greatest number whose square is not above, of whole numbers and of fixed ones. No conditions beyond the row's own. -/
import Derived.Test.YtikhgdbbbingbaaRows
import Derived.Test.YtikhgdbbbingbaaFix
namespace Go.Proofs.Ytikhgdbbbingbaa.FixRoots
open Go Go.RowKit Go.Proofs.Ytikhgdbbbingbaa.Rt Go.ChangeShapes Go.WideShapes Go.ChangeAt
set_option linter.unusedVariables false

set_option maxRecDepth 100000 in
set_option maxHeartbeats 4000000 in
theorem walk_1 (n a : Int) (W : World) (hn : 0 ≤ n ∧ n ≤ 18446744073709551615) (ha : fits a) (h : a < 0) :
    Calls Try.prog 13 #[.int .u64 n, .int .i64 a] W fun e w' => e = .returned (.bool true) ∧ Below W.heap.size W w' := by
  have H1 := Lib.hid (fun w => root_any n w hn.1 hn.2)
  have H2 := Lib.hid (fun w => refRoot_any n w hn.1 hn.2)
  have H3 := Lib.hid (fun w => sqrt_any a w ha)
  rw [show sqrtS a = (0, 1) by unfold sqrtS; rw [if_pos h]] at H3
  have H4 := H3
  obtain ⟨r, hr⟩ : ∃ r, rt n = r := ⟨_, rfl⟩
  rw [hr] at H1 H2
  clear hr
  go_enter Try.func13, Try.ntmps13
  go_wp2_with (first
    | (go_at_call 45; refine (H1.out _).mono ?_; rintro e w' ⟨rfl, rfl⟩)
    | (go_at_call 47; refine (H3.out _).mono ?_; rintro e w' ⟨rfl, rfl⟩)
    | (go_at_call 46; (first | (with_reducible refine (H2.out _).mono ?_) | (with_reducible refine (H4.out _).mono ?_)); rintro e w' ⟨rfl, rfl⟩)
    | (go_at_call 40; refine (awake2_any _).mono ?_; rintro e w' ⟨rfl, hb⟩; have HB := Lib.hid hb; clear hb))
  go_ret
  exact ⟨rfl, HB.out⟩

set_option maxRecDepth 100000 in
set_option maxHeartbeats 4000000 in
theorem walk_2 (n a : Int) (W : World) (hn : 0 ≤ n ∧ n ≤ 18446744073709551615) (ha : fits a) (h : ¬ a < 0) (h2 : 70368744177664 ≤ a) :
    Calls Try.prog 13 #[.int .u64 n, .int .i64 a] W fun e w' => e = .returned (.bool true) ∧ Below W.heap.size W w' := by
  have H1 := Lib.hid (fun w => root_any n w hn.1 hn.2)
  have H2 := Lib.hid (fun w => refRoot_any n w hn.1 hn.2)
  have H3 := Lib.hid (fun w => sqrt_any a w ha)
  rw [show sqrtS a = (0, 8) by unfold sqrtS; rw [if_neg h, if_pos h2]] at H3
  have H4 := H3
  obtain ⟨r, hr⟩ : ∃ r, rt n = r := ⟨_, rfl⟩
  rw [hr] at H1 H2
  clear hr
  go_enter Try.func13, Try.ntmps13
  go_wp2_with (first
    | (go_at_call 45; refine (H1.out _).mono ?_; rintro e w' ⟨rfl, rfl⟩)
    | (go_at_call 47; refine (H3.out _).mono ?_; rintro e w' ⟨rfl, rfl⟩)
    | (go_at_call 46; (first | (with_reducible refine (H2.out _).mono ?_) | (with_reducible refine (H4.out _).mono ?_)); rintro e w' ⟨rfl, rfl⟩)
    | (go_at_call 40; refine (awake2_any _).mono ?_; rintro e w' ⟨rfl, hb⟩; have HB := Lib.hid hb; clear hb))
  go_ret
  exact ⟨rfl, HB.out⟩

set_option maxRecDepth 100000 in
set_option maxHeartbeats 4000000 in
theorem walk_3 (n a : Int) (W : World) (hn : 0 ≤ n ∧ n ≤ 18446744073709551615) (ha : fits a) (h : ¬ a < 0) (h2 : ¬ 70368744177664 ≤ a) :
    Calls Try.prog 13 #[.int .u64 n, .int .i64 a] W fun e w' => e = .returned (.bool true) ∧ Below W.heap.size W w' := by
  have H1 := Lib.hid (fun w => root_any n w hn.1 hn.2)
  have H2 := Lib.hid (fun w => refRoot_any n w hn.1 hn.2)
  have H3 := Lib.hid (fun w => sqrt_any a w ha)
  rw [show sqrtS a = (rt (a * 65536), 0) by unfold sqrtS; rw [if_neg h, if_neg h2]] at H3
  have H4 := Lib.hid (fun w => refRoot_any (a * 65536) w (by omega) (by omega))
  have hs := rt_bound (n := a * 65536) (m := 4294967296) (by omega) (by omega) (by omega)
  obtain ⟨s, hse⟩ : ∃ r, rt (a * 65536) = r := ⟨_, rfl⟩
  rw [hse] at H3 H4 hs
  obtain ⟨hs0, hs1⟩ := hs
  clear hse
  obtain ⟨r, hr⟩ : ∃ r, rt n = r := ⟨_, rfl⟩
  rw [hr] at H1 H2
  clear hr
  go_enter Try.func13, Try.ntmps13
  go_wp2_with (first
    | (go_at_call 45; refine (H1.out _).mono ?_; rintro e w' ⟨rfl, rfl⟩)
    | (go_at_call 47; refine (H3.out _).mono ?_; rintro e w' ⟨rfl, rfl⟩)
    | (go_at_call 46; (first | (with_reducible refine (H2.out _).mono ?_) | (with_reducible refine (H4.out _).mono ?_)); rintro e w' ⟨rfl, rfl⟩)
    | (go_at_call 40; refine (awake2_any _).mono ?_; rintro e w' ⟨rfl, hb⟩; have HB := Lib.hid hb; clear hb))
  go_ret
  exact ⟨rfl, HB.out⟩

set_option maxRecDepth 100000 in
set_option maxHeartbeats 4000000 in
theorem walk (n a : Int) (W : World) (hn : 0 ≤ n ∧ n ≤ 18446744073709551615) (ha : fits a) :
    Calls Try.prog 13 #[.int .u64 n, .int .i64 a] W fun e w' => e = .returned (.bool true) ∧ Below W.heap.size W w' := by
  by_cases h : a < 0
  · exact walk_1 n a W hn ha h
  · by_cases h2 : 70368744177664 ≤ a
    · exact walk_2 n a W hn ha h h2
    · exact walk_3 n a W hn ha h h2

set_option maxRecDepth 100000 in
theorem lifted (os : Os) (started : os.Started) (H : Type) (enc : TypeId × Value → H) :
    ReturnsInHanded {} Try.checked os 13 .any (Rows.fixRootsSpec.pre6 enc Try.prog Try.f13 Rows.fixRootsRow.domain false) (Rows.fixRootsSpec.post enc Try.prog Try.f13 false true false false) := by
  refine returnsInHanded_of_change (C := Try.checked) own started (by kernel_rfl) Try.func13
    (ChangeSpec.witness6 (enc := enc) (C := Try.checked) false ⟨#[], #[.int .u64 0, .int .i64 0], []⟩ 8 (by kernel_rfl) (by kernel_rfl) (by kernel_rfl) (by kernel_rfl)) ?_
  intro W base args ds gs before hval0 hW hcnd _
  have hval : ∀ (j : Nat) t v, Try.f13.params[j]? = some t → args[j]? = some v → Value.okWide Try.prog W .any base t v := hval0
  have hW' := hW
  obtain ⟨p, q, hA0, hV, rfl, hfz, hnd⟩ := hW
  have hA : DataW.TrodAll enc Try.prog W 0 (fun _ => true) true Try.f13.params.toList args.toList ds p := hA0
  rw [Try.params13] at hA hval
  obtain ⟨v0, vs0, d0, ds0, p0, q0, hargs, rfl, rfl, h0, r0⟩ := trodAll_cons hA
  obtain ⟨v1, vs1, d1, ds1, p1, q1, rfl, rfl, rfl, h1, r1⟩ := trodAll_cons r0
  obtain ⟨rfl, rfl, rfl⟩ := trodAll_nil r1
  obtain rfl : args = #[v0, v1] := by cases args; simp_all
  obtain ⟨rfl, rfl⟩ := trodVars_none hV
  obtain ⟨a0, rfl, rfl, rfl, w0⟩ := open_int Try.underlying41 (hval 0 41 v0 rfl rfl) h0
  obtain ⟨a1, rfl, rfl, rfl, w1⟩ := open_int Try.underlying2 (hval 1 2 v1 rfl rfl) h1
  clear hA0 hval0
  simp only [List.append_nil] at hW'
  refine (walk a0 a1  W (ufits_of w0) (fits_of w1)).mono fun e W' ⟨he, hb⟩ => ?_
  subst he
  refine ⟨_, rfl, _, _, _, [], [], [], hW', ?_, ?_, ?_, hb.frame _, fun h => by cases h⟩
  · exact trodAll_cons_mk (shut_bool Try.underlying4 _) trodAll_mk0
  · exact (trodAll_cons_mk (shut_int Try.underlying41 w0) (trodAll_cons_mk (shut_int Try.underlying2 w1) trodAll_mk0))
  · rfl

theorem proved : Rows.FixRootsSaid :=
  OpenClaim.holds_of_wide 13 Try.f13 rfl rfl rfl rfl rfl rfl rfl ⟨rfl, rfl, rfl, rfl, rfl⟩ rfl rfl rfl rfl rfl (by kernel_rfl) Try.func13 (by kernel_rfl)
    (of_decide_eq_true (by kernel_rfl)) (by unfold Func.isWrapper; first | (rw [if_pos (by decide +kernel)]; kernel_rfl) | (rw [if_neg (by decide +kernel)]; exact ⟨rfl, rfl⟩))
    (fun os started H enc _ => lifted os started H enc)
#print axioms proved
end Go.Proofs.Ytikhgdbbbingbaa.FixRoots
