/- FixLengths: every way's length is the root of both squares, no less than either side, and no more than both together. No conditions beyond the row's own. -/
import Derived.Test.YtikhgdbbbingbaaRows
import Derived.Test.YtikhgdbbbingbaaFix
namespace Go.Proofs.Ytikhgdbbbingbaa.FixLengths
open Go Go.RowKit Go.Proofs.Ytikhgdbbbingbaa.Rt Go.ChangeShapes Go.WideShapes Go.ChangeAt
set_option linter.unusedVariables false

theorem len_facts (x y : Int) (h0 : 0 ≤ x) (h1 : 0 ≤ y) : x ≤ rt (x * x + y * y) ∧ y ≤ rt (x * x + y * y) ∧ rt (x * x + y * y) ≤ x + y := by
  have hx := sq_mono (show (0 : Int) ≤ 0 by omega) h0
  have hy := sq_mono (show (0 : Int) ≤ 0 by omega) h1
  obtain ⟨r0, r1, r2⟩ := rt_is (n := x * x + y * y) (by omega)
  have a := lt_of_sq (show 0 ≤ rt (x * x + y * y) + 1 by omega) (show x * x < _ by omega)
  have b := lt_of_sq (show 0 ≤ rt (x * x + y * y) + 1 by omega) (show y * y < _ by omega)
  have c := lt_of_sq (x := rt (x * x + y * y)) (y := x + y + 1) (by omega) (by
    have e : (x + y + 1) * (x + y + 1) = x * x + y * y + 2 * (x * y) + 2 * x + 2 * y + 1 := by
      rw [Int.add_mul, Int.add_mul, Int.mul_add, Int.mul_add, Int.mul_add, Int.mul_add, Int.mul_comm y x]; omega
    have := Int.mul_nonneg h0 h1
    omega)
  omega

set_option maxRecDepth 100000 in
set_option maxHeartbeats 4000000 in
theorem bad_1 (x y : Int) (W : World) (hx : fits x) (hy : fits y) (h1 : x < -1073741824) :
    Calls Try.prog 14 #[.int .i64 x, .int .i64 y] W fun e w' => e = .returned (.bool true) ∧ Below W.heap.size W w' := by
  have H1 := Lib.hid (fun w => length_any x y w)
  rw [show lengthS x y = (0, 8) by unfold lengthS; rw [if_pos (by omega)]] at H1
  have H2 := H1
  obtain ⟨x0, x1⟩ := hx
  obtain ⟨y0, y1⟩ := hy
  go_enter Try.func14, Try.ntmps14
  go_wp2_with (first
    | (go_at_call 48; refine (H1.out _).mono ?_; rintro e w' ⟨rfl, rfl⟩)
    | (go_at_call 46; refine (H2.out _).mono ?_; rintro e w' ⟨rfl, rfl⟩)
    | (go_at_call 40; refine (awake2_any _).mono ?_; rintro e w' ⟨rfl, hb⟩; have HB := Lib.hid hb; clear hb))
  go_ret
  exact ⟨rfl, HB.out⟩

set_option maxRecDepth 100000 in
set_option maxHeartbeats 4000000 in
theorem bad_2 (x y : Int) (W : World) (hx : fits x) (hy : fits y) (h1 : ¬ x < -1073741824) (h2 : 1073741824 < x) :
    Calls Try.prog 14 #[.int .i64 x, .int .i64 y] W fun e w' => e = .returned (.bool true) ∧ Below W.heap.size W w' := by
  have H1 := Lib.hid (fun w => length_any x y w)
  rw [show lengthS x y = (0, 8) by unfold lengthS; rw [if_pos (by omega)]] at H1
  have H2 := H1
  obtain ⟨x0, x1⟩ := hx
  obtain ⟨y0, y1⟩ := hy
  go_enter Try.func14, Try.ntmps14
  go_wp2_with (first
    | (go_at_call 48; refine (H1.out _).mono ?_; rintro e w' ⟨rfl, rfl⟩)
    | (go_at_call 46; refine (H2.out _).mono ?_; rintro e w' ⟨rfl, rfl⟩)
    | (go_at_call 40; refine (awake2_any _).mono ?_; rintro e w' ⟨rfl, hb⟩; have HB := Lib.hid hb; clear hb))
  go_ret
  exact ⟨rfl, HB.out⟩

set_option maxRecDepth 100000 in
set_option maxHeartbeats 4000000 in
theorem bad_3 (x y : Int) (W : World) (hx : fits x) (hy : fits y) (h1 : ¬ x < -1073741824) (h2 : ¬ 1073741824 < x) (h3 : y < -1073741824) :
    Calls Try.prog 14 #[.int .i64 x, .int .i64 y] W fun e w' => e = .returned (.bool true) ∧ Below W.heap.size W w' := by
  have H1 := Lib.hid (fun w => length_any x y w)
  rw [show lengthS x y = (0, 8) by unfold lengthS; rw [if_pos (by omega)]] at H1
  have H2 := H1
  obtain ⟨x0, x1⟩ := hx
  obtain ⟨y0, y1⟩ := hy
  go_enter Try.func14, Try.ntmps14
  go_wp2_with (first
    | (go_at_call 48; refine (H1.out _).mono ?_; rintro e w' ⟨rfl, rfl⟩)
    | (go_at_call 46; refine (H2.out _).mono ?_; rintro e w' ⟨rfl, rfl⟩)
    | (go_at_call 40; refine (awake2_any _).mono ?_; rintro e w' ⟨rfl, hb⟩; have HB := Lib.hid hb; clear hb))
  go_ret
  exact ⟨rfl, HB.out⟩

set_option maxRecDepth 100000 in
set_option maxHeartbeats 4000000 in
theorem bad_4 (x y : Int) (W : World) (hx : fits x) (hy : fits y) (h1 : ¬ x < -1073741824) (h2 : ¬ 1073741824 < x) (h3 : ¬ y < -1073741824) (h4 : 1073741824 < y) :
    Calls Try.prog 14 #[.int .i64 x, .int .i64 y] W fun e w' => e = .returned (.bool true) ∧ Below W.heap.size W w' := by
  have H1 := Lib.hid (fun w => length_any x y w)
  rw [show lengthS x y = (0, 8) by unfold lengthS; rw [if_pos (by omega)]] at H1
  have H2 := H1
  obtain ⟨x0, x1⟩ := hx
  obtain ⟨y0, y1⟩ := hy
  go_enter Try.func14, Try.ntmps14
  go_wp2_with (first
    | (go_at_call 48; refine (H1.out _).mono ?_; rintro e w' ⟨rfl, rfl⟩)
    | (go_at_call 46; refine (H2.out _).mono ?_; rintro e w' ⟨rfl, rfl⟩)
    | (go_at_call 40; refine (awake2_any _).mono ?_; rintro e w' ⟨rfl, hb⟩; have HB := Lib.hid hb; clear hb))
  go_ret
  exact ⟨rfl, HB.out⟩

set_option maxRecDepth 100000 in
set_option maxHeartbeats 4000000 in
theorem good_1 (x y : Int) (W : World) (hx : fits x) (hy : fits y) (h1 : -1073741824 ≤ x) (h2 : x ≤ 1073741824) (h3 : -1073741824 ≤ y) (h4 : y ≤ 1073741824) (s1 : x < 0) (s2 : y < 0) :
    Calls Try.prog 14 #[.int .i64 x, .int .i64 y] W fun e w' => e = .returned (.bool true) ∧ Below W.heap.size W w' := by
  have H1 := Lib.hid (fun w => length_any x y w)
  rw [show lengthS x y = (rt (x * x + y * y), 0) by unfold lengthS; rw [if_neg (by omega)]] at H1
  have eq : x * x + y * y = -x * -x + -y * -y := by first | with_reducible rfl | simp only [Int.neg_mul_neg]
  rw [eq] at H1
  clear eq
  obtain ⟨f1, f2, f3⟩ := len_facts (-x) (-y) (by omega) (by omega)
  obtain ⟨b10, b11⟩ := sq_bound (x := -x) (by omega) (by omega)
  obtain ⟨b20, b21⟩ := sq_bound (x := -y) (by omega) (by omega)
  have H2 := Lib.hid (fun w => refRoot_any (-x * -x + -y * -y) w (by omega) (by omega))
  obtain ⟨r, hr⟩ : ∃ r, rt (-x * -x + -y * -y) = r := ⟨_, rfl⟩
  rw [hr] at H1 H2 f1 f2 f3
  clear hr
  obtain ⟨x0, x1⟩ := hx
  obtain ⟨y0, y1⟩ := hy
  go_enter Try.func14, Try.ntmps14
  go_wp2_with (first
    | (go_at_call 48; refine (H1.out _).mono ?_; rintro e w' ⟨rfl, rfl⟩)
    | (go_at_call 46; refine (H2.out _).mono ?_; rintro e w' ⟨rfl, rfl⟩)
    | (go_at_call 40; refine (awake2_any _).mono ?_; rintro e w' ⟨rfl, hb⟩; have HB := Lib.hid hb; clear hb))
  go_ret
  exact ⟨rfl, HB.out⟩

set_option maxRecDepth 100000 in
set_option maxHeartbeats 4000000 in
theorem good_2 (x y : Int) (W : World) (hx : fits x) (hy : fits y) (h1 : -1073741824 ≤ x) (h2 : x ≤ 1073741824) (h3 : -1073741824 ≤ y) (h4 : y ≤ 1073741824) (s1 : x < 0) (s2 : ¬ y < 0) :
    Calls Try.prog 14 #[.int .i64 x, .int .i64 y] W fun e w' => e = .returned (.bool true) ∧ Below W.heap.size W w' := by
  have H1 := Lib.hid (fun w => length_any x y w)
  rw [show lengthS x y = (rt (x * x + y * y), 0) by unfold lengthS; rw [if_neg (by omega)]] at H1
  have eq : x * x + y * y = -x * -x + y * y := by first | with_reducible rfl | simp only [Int.neg_mul_neg]
  rw [eq] at H1
  clear eq
  obtain ⟨f1, f2, f3⟩ := len_facts (-x) (y) (by omega) (by omega)
  obtain ⟨b10, b11⟩ := sq_bound (x := -x) (by omega) (by omega)
  obtain ⟨b20, b21⟩ := sq_bound (x := y) (by omega) (by omega)
  have H2 := Lib.hid (fun w => refRoot_any (-x * -x + y * y) w (by omega) (by omega))
  obtain ⟨r, hr⟩ : ∃ r, rt (-x * -x + y * y) = r := ⟨_, rfl⟩
  rw [hr] at H1 H2 f1 f2 f3
  clear hr
  obtain ⟨x0, x1⟩ := hx
  obtain ⟨y0, y1⟩ := hy
  go_enter Try.func14, Try.ntmps14
  go_wp2_with (first
    | (go_at_call 48; refine (H1.out _).mono ?_; rintro e w' ⟨rfl, rfl⟩)
    | (go_at_call 46; refine (H2.out _).mono ?_; rintro e w' ⟨rfl, rfl⟩)
    | (go_at_call 40; refine (awake2_any _).mono ?_; rintro e w' ⟨rfl, hb⟩; have HB := Lib.hid hb; clear hb))
  go_ret
  exact ⟨rfl, HB.out⟩

set_option maxRecDepth 100000 in
set_option maxHeartbeats 4000000 in
theorem good_3 (x y : Int) (W : World) (hx : fits x) (hy : fits y) (h1 : -1073741824 ≤ x) (h2 : x ≤ 1073741824) (h3 : -1073741824 ≤ y) (h4 : y ≤ 1073741824) (s1 : ¬ x < 0) (s2 : y < 0) :
    Calls Try.prog 14 #[.int .i64 x, .int .i64 y] W fun e w' => e = .returned (.bool true) ∧ Below W.heap.size W w' := by
  have H1 := Lib.hid (fun w => length_any x y w)
  rw [show lengthS x y = (rt (x * x + y * y), 0) by unfold lengthS; rw [if_neg (by omega)]] at H1
  have eq : x * x + y * y = x * x + -y * -y := by first | with_reducible rfl | simp only [Int.neg_mul_neg]
  rw [eq] at H1
  clear eq
  obtain ⟨f1, f2, f3⟩ := len_facts (x) (-y) (by omega) (by omega)
  obtain ⟨b10, b11⟩ := sq_bound (x := x) (by omega) (by omega)
  obtain ⟨b20, b21⟩ := sq_bound (x := -y) (by omega) (by omega)
  have H2 := Lib.hid (fun w => refRoot_any (x * x + -y * -y) w (by omega) (by omega))
  obtain ⟨r, hr⟩ : ∃ r, rt (x * x + -y * -y) = r := ⟨_, rfl⟩
  rw [hr] at H1 H2 f1 f2 f3
  clear hr
  obtain ⟨x0, x1⟩ := hx
  obtain ⟨y0, y1⟩ := hy
  go_enter Try.func14, Try.ntmps14
  go_wp2_with (first
    | (go_at_call 48; refine (H1.out _).mono ?_; rintro e w' ⟨rfl, rfl⟩)
    | (go_at_call 46; refine (H2.out _).mono ?_; rintro e w' ⟨rfl, rfl⟩)
    | (go_at_call 40; refine (awake2_any _).mono ?_; rintro e w' ⟨rfl, hb⟩; have HB := Lib.hid hb; clear hb))
  go_ret
  exact ⟨rfl, HB.out⟩

set_option maxRecDepth 100000 in
set_option maxHeartbeats 4000000 in
theorem good_4 (x y : Int) (W : World) (hx : fits x) (hy : fits y) (h1 : -1073741824 ≤ x) (h2 : x ≤ 1073741824) (h3 : -1073741824 ≤ y) (h4 : y ≤ 1073741824) (s1 : ¬ x < 0) (s2 : ¬ y < 0) :
    Calls Try.prog 14 #[.int .i64 x, .int .i64 y] W fun e w' => e = .returned (.bool true) ∧ Below W.heap.size W w' := by
  have H1 := Lib.hid (fun w => length_any x y w)
  rw [show lengthS x y = (rt (x * x + y * y), 0) by unfold lengthS; rw [if_neg (by omega)]] at H1
  have eq : x * x + y * y = x * x + y * y := by first | with_reducible rfl | simp only [Int.neg_mul_neg]
  rw [eq] at H1
  clear eq
  obtain ⟨f1, f2, f3⟩ := len_facts (x) (y) (by omega) (by omega)
  obtain ⟨b10, b11⟩ := sq_bound (x := x) (by omega) (by omega)
  obtain ⟨b20, b21⟩ := sq_bound (x := y) (by omega) (by omega)
  have H2 := Lib.hid (fun w => refRoot_any (x * x + y * y) w (by omega) (by omega))
  obtain ⟨r, hr⟩ : ∃ r, rt (x * x + y * y) = r := ⟨_, rfl⟩
  rw [hr] at H1 H2 f1 f2 f3
  clear hr
  obtain ⟨x0, x1⟩ := hx
  obtain ⟨y0, y1⟩ := hy
  go_enter Try.func14, Try.ntmps14
  go_wp2_with (first
    | (go_at_call 48; refine (H1.out _).mono ?_; rintro e w' ⟨rfl, rfl⟩)
    | (go_at_call 46; refine (H2.out _).mono ?_; rintro e w' ⟨rfl, rfl⟩)
    | (go_at_call 40; refine (awake2_any _).mono ?_; rintro e w' ⟨rfl, hb⟩; have HB := Lib.hid hb; clear hb))
  go_ret
  exact ⟨rfl, HB.out⟩

set_option maxRecDepth 100000 in
set_option maxHeartbeats 4000000 in
theorem walk (x y : Int) (W : World) (hx : fits x) (hy : fits y) :
    Calls Try.prog 14 #[.int .i64 x, .int .i64 y] W fun e w' => e = .returned (.bool true) ∧ Below W.heap.size W w' := by
  by_cases h1 : x < -1073741824
  · exact bad_1 x y W hx hy h1
  · by_cases h2 : 1073741824 < x
    · exact bad_2 x y W hx hy h1 h2
    · by_cases h3 : y < -1073741824
      · exact bad_3 x y W hx hy h1 h2 h3
      · by_cases h4 : 1073741824 < y
        · exact bad_4 x y W hx hy h1 h2 h3 h4
        · by_cases s1 : x < 0 <;> by_cases s2 : y < 0
          · exact good_1 x y W hx hy (by omega) (by omega) (by omega) (by omega) s1 s2
          · exact good_2 x y W hx hy (by omega) (by omega) (by omega) (by omega) s1 s2
          · exact good_3 x y W hx hy (by omega) (by omega) (by omega) (by omega) s1 s2
          · exact good_4 x y W hx hy (by omega) (by omega) (by omega) (by omega) s1 s2

set_option maxRecDepth 100000 in
theorem lifted (os : Os) (started : os.Started) (H : Type) (enc : TypeId × Value → H) :
    ReturnsInHanded {} Try.checked os 14 .any (Rows.fixLengthsSpec.pre6 enc Try.prog Try.f14 Rows.fixLengthsRow.domain false) (Rows.fixLengthsSpec.post enc Try.prog Try.f14 false true false false) := by
  refine returnsInHanded_of_change (C := Try.checked) own started (by kernel_rfl) Try.func14
    (ChangeSpec.witness6 (enc := enc) (C := Try.checked) false ⟨#[], #[.int .i64 0, .int .i64 0], []⟩ 8 (by kernel_rfl) (by kernel_rfl) (by kernel_rfl) (by kernel_rfl)) ?_
  intro W base args ds gs before hval0 hW hcnd _
  have hval : ∀ (j : Nat) t v, Try.f14.params[j]? = some t → args[j]? = some v → Value.okWide Try.prog W .any base t v := hval0
  have hW' := hW
  obtain ⟨p, q, hA0, hV, rfl, hfz, hnd⟩ := hW
  have hA : DataW.TrodAll enc Try.prog W 0 (fun _ => true) true Try.f14.params.toList args.toList ds p := hA0
  rw [Try.params14] at hA hval
  obtain ⟨v0, vs0, d0, ds0, p0, q0, hargs, rfl, rfl, h0, r0⟩ := trodAll_cons hA
  obtain ⟨v1, vs1, d1, ds1, p1, q1, rfl, rfl, rfl, h1, r1⟩ := trodAll_cons r0
  obtain ⟨rfl, rfl, rfl⟩ := trodAll_nil r1
  obtain rfl : args = #[v0, v1] := by cases args; simp_all
  obtain ⟨rfl, rfl⟩ := trodVars_none hV
  obtain ⟨a0, rfl, rfl, rfl, w0⟩ := open_int Try.underlying2 (hval 0 2 v0 rfl rfl) h0
  obtain ⟨a1, rfl, rfl, rfl, w1⟩ := open_int Try.underlying2 (hval 1 2 v1 rfl rfl) h1
  clear hA0 hval0
  simp only [List.append_nil] at hW'
  refine (walk a0 a1  W (fits_of w0) (fits_of w1)).mono fun e W' ⟨he, hb⟩ => ?_
  subst he
  refine ⟨_, rfl, _, _, _, [], [], [], hW', ?_, ?_, ?_, hb.frame _, fun h => by cases h⟩
  · exact trodAll_cons_mk (shut_bool Try.underlying4 _) trodAll_mk0
  · exact (trodAll_cons_mk (shut_int Try.underlying2 w0) (trodAll_cons_mk (shut_int Try.underlying2 w1) trodAll_mk0))
  · rfl

theorem proved : Rows.FixLengthsSaid :=
  OpenClaim.holds_of_wide 14 Try.f14 rfl rfl rfl rfl rfl rfl rfl ⟨rfl, rfl, rfl, rfl, rfl⟩ rfl rfl rfl rfl rfl (by kernel_rfl) Try.func14 (by kernel_rfl)
    (of_decide_eq_true (by kernel_rfl)) (by unfold Func.isWrapper; first | (rw [if_pos (by decide +kernel)]; kernel_rfl) | (rw [if_neg (by decide +kernel)]; exact ⟨rfl, rfl⟩))
    (fun os started H enc _ => lifted os started H enc)
#print axioms proved
end Go.Proofs.Ytikhgdbbbingbaa.FixLengths
