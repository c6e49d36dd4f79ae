/- RealOrder: of a greater float the number is no less, and it is nearer to it than a 65536th. No conditions beyond the row's own. -/
import Derived.Test.YtbcddiaplpbhjaaRows
import Derived.Test.YtbcddiaplpbhjaaRealRow
namespace Go.Proofs.Ytbcddiaplpbhjaa.RealOrder
open Go Go.RowKit Go.Proofs.Ytbcddiaplpbhjaa.Rl Go.ChangeShapes Go.WideShapes Go.ChangeAt
set_option linter.unusedVariables false

theorem ofS_cases (n : Nat) (h : n < 2 ^ 64) : (∃ s m e, Ieee.double.read n = .number s m e ∧ m < 2 ^ 53 ∧ -1074 ≤ e ∧ (e = -1074 ∨ 2 ^ 52 ≤ m) ∧ -70368744177664 ≤ fl s m (e + 16) ∧ fl s m (e + 16) < 70368744177664 ∧ ofS n = (fl s m (e + 16), 0)) ∨ ofS n = (0, 8) ∨ ofS n = (0, 14) := by
  rcases read_cases n h with ⟨s, m, e, h, h1, h2, _, h4, _⟩ | ⟨s, h, _⟩ | ⟨s, t, h, _⟩
  · unfold ofS
    rw [h]
    by_cases hr : -70368744177664 ≤ fl s m (e + 16) ∧ fl s m (e + 16) < 70368744177664
    · exact .inl ⟨s, m, e, rfl, h1, h2, h4, hr.1, hr.2, if_pos hr⟩
    · exact .inr (.inl (if_neg hr))
  · exact .inr (.inl (by unfold ofS; rw [h]))
  · exact .inr (.inr (by unfold ofS; rw [h]))

set_option maxRecDepth 100000 in
set_option maxHeartbeats 4000000 in
theorem walk_a8 (a b : Int) (W : World) (ha0 : 0 ≤ a) (ha1 : a ≤ 18446744073709551615) (hb0 : 0 ≤ b) (hb1 : b ≤ 18446744073709551615) (v d : Int) (h1 : ofS a.toNat = (0, 8)) (h2 : ofS b.toNat = (v, d)) (hd : d = 0 ∨ v = 0 ∧ (d = 8 ∨ d = 14)) :
    Calls Try.prog 7 #[.int .u64 a, .int .u64 b] W fun e w' => e = .returned (.bool true) ∧ Below W.heap.size W w' := by
  have H1 := Lib.hid (fun w => of_any a.toNat (by omega) w)
  have H2 := Lib.hid (fun w => of_any b.toNat (by omega) w)
  have hra := run_bits64 a
  have hrb := run_bits64 b
  rw [h1] at H1
  rw [h2] at H2
  clear h1 h2
  rcases hd with rfl | ⟨rfl, rfl | rfl⟩
  all_goals
    go_enter Try.func7, Try.ntmps7
    go_wp2_with fail
    refine (H1.out _).mono ?_
    rintro e w1 ⟨rfl, hbl⟩
    have B1 := Lib.hid (show Below W.heap.size W w1 from hbl)
    clear hbl
    go_wp2_with fail
    refine (H2.out _).mono ?_
    rintro e w2 ⟨rfl, hbl⟩
    have B2 := Lib.hid (show Below W.heap.size W w2 from (B1.out.trans (hbl.mono B1.out.size)))
    clear hbl
    go_wp2_with fail
    refine (awake4_any _).mono ?_
    rintro e w3 ⟨rfl, hbl⟩
    have B3 := Lib.hid (show Below W.heap.size W w3 from (B2.out.trans (hbl.mono B2.out.size)))
    clear hbl
    go_wp2
    go_ret
    exact ⟨rfl, B3.out⟩

set_option maxRecDepth 100000 in
set_option maxHeartbeats 4000000 in
theorem walk_b8 (a b : Int) (W : World) (ha0 : 0 ≤ a) (ha1 : a ≤ 18446744073709551615) (hb0 : 0 ≤ b) (hb1 : b ≤ 18446744073709551615) (v : Int) (h1 : ofS a.toNat = (v, 0)) (h2 : ofS b.toNat = (0, 8)) :
    Calls Try.prog 7 #[.int .u64 a, .int .u64 b] W fun e w' => e = .returned (.bool true) ∧ Below W.heap.size W w' := by
  have H1 := Lib.hid (fun w => of_any a.toNat (by omega) w)
  have H2 := Lib.hid (fun w => of_any b.toNat (by omega) w)
  have hra := run_bits64 a
  have hrb := run_bits64 b
  rw [h1] at H1
  rw [h2] at H2
  clear h1 h2
  go_enter Try.func7, Try.ntmps7
  go_wp2_with fail
  refine (H1.out _).mono ?_
  rintro e w1 ⟨rfl, hbl⟩
  have B1 := Lib.hid (show Below W.heap.size W w1 from hbl)
  clear hbl
  go_wp2_with fail
  refine (H2.out _).mono ?_
  rintro e w2 ⟨rfl, hbl⟩
  have B2 := Lib.hid (show Below W.heap.size W w2 from (B1.out.trans (hbl.mono B1.out.size)))
  clear hbl
  go_wp2_with fail
  refine (awake4_any _).mono ?_
  rintro e w3 ⟨rfl, hbl⟩
  have B3 := Lib.hid (show Below W.heap.size W w3 from (B2.out.trans (hbl.mono B2.out.size)))
  clear hbl
  go_wp2
  go_ret
  exact ⟨rfl, B3.out⟩

set_option maxRecDepth 100000 in
set_option maxHeartbeats 4000000 in
theorem walk_a14 (a b : Int) (W : World) (ha0 : 0 ≤ a) (ha1 : a ≤ 18446744073709551615) (hb0 : 0 ≤ b) (hb1 : b ≤ 18446744073709551615) (v d : Int) (h1 : ofS a.toNat = (0, 14)) (h2 : ofS b.toNat = (v, d)) (hd : d = 0 ∨ v = 0 ∧ (d = 8 ∨ d = 14)) :
    Calls Try.prog 7 #[.int .u64 a, .int .u64 b] W fun e w' => e = .returned (.bool true) ∧ Below W.heap.size W w' := by
  have H1 := Lib.hid (fun w => of_any a.toNat (by omega) w)
  have H2 := Lib.hid (fun w => of_any b.toNat (by omega) w)
  have hra := run_bits64 a
  have hrb := run_bits64 b
  rw [h1] at H1
  rw [h2] at H2
  clear h1 h2
  rcases hd with rfl | ⟨rfl, rfl | rfl⟩
  all_goals
    go_enter Try.func7, Try.ntmps7
    go_wp2_with fail
    refine (H1.out _).mono ?_
    rintro e w1 ⟨rfl, hbl⟩
    have B1 := Lib.hid (show Below W.heap.size W w1 from hbl)
    clear hbl
    go_wp2_with fail
    refine (H2.out _).mono ?_
    rintro e w2 ⟨rfl, hbl⟩
    have B2 := Lib.hid (show Below W.heap.size W w2 from (B1.out.trans (hbl.mono B1.out.size)))
    clear hbl
    go_wp2_with fail
    refine (awake4_any _).mono ?_
    rintro e w3 ⟨rfl, hbl⟩
    have B3 := Lib.hid (show Below W.heap.size W w3 from (B2.out.trans (hbl.mono B2.out.size)))
    clear hbl
    go_wp2
    go_ret
    exact ⟨rfl, B3.out⟩

set_option maxRecDepth 100000 in
set_option maxHeartbeats 4000000 in
theorem walk_b14 (a b : Int) (W : World) (ha0 : 0 ≤ a) (ha1 : a ≤ 18446744073709551615) (hb0 : 0 ≤ b) (hb1 : b ≤ 18446744073709551615) (v : Int) (h1 : ofS a.toNat = (v, 0)) (h2 : ofS b.toNat = (0, 14)) :
    Calls Try.prog 7 #[.int .u64 a, .int .u64 b] W fun e w' => e = .returned (.bool true) ∧ Below W.heap.size W w' := by
  have H1 := Lib.hid (fun w => of_any a.toNat (by omega) w)
  have H2 := Lib.hid (fun w => of_any b.toNat (by omega) w)
  have hra := run_bits64 a
  have hrb := run_bits64 b
  rw [h1] at H1
  rw [h2] at H2
  clear h1 h2
  go_enter Try.func7, Try.ntmps7
  go_wp2_with fail
  refine (H1.out _).mono ?_
  rintro e w1 ⟨rfl, hbl⟩
  have B1 := Lib.hid (show Below W.heap.size W w1 from hbl)
  clear hbl
  go_wp2_with fail
  refine (H2.out _).mono ?_
  rintro e w2 ⟨rfl, hbl⟩
  have B2 := Lib.hid (show Below W.heap.size W w2 from (B1.out.trans (hbl.mono B1.out.size)))
  clear hbl
  go_wp2_with fail
  refine (awake4_any _).mono ?_
  rintro e w3 ⟨rfl, hbl⟩
  have B3 := Lib.hid (show Below W.heap.size W w3 from (B2.out.trans (hbl.mono B2.out.size)))
  clear hbl
  go_wp2
  go_ret
  exact ⟨rfl, B3.out⟩

set_option maxRecDepth 100000 in
set_option maxHeartbeats 4000000 in
theorem walk_goes (a b : Int) (W : World) (ha0 : 0 ≤ a) (ha1 : a ≤ 18446744073709551615) (hb0 : 0 ≤ b) (hb1 : b ≤ 18446744073709551615) (v u : Int) (h1 : ofS a.toNat = (v, 0)) (h2 : ofS b.toNat = (u, 0)) (hv0 : -70368744177664 ≤ v) (hv1 : v < 70368744177664) (l g : Bool) (hl : (FloatKind.f64.format.order a.toNat b.toNat == some .lt || FloatKind.f64.format.order a.toNat b.toNat == some .eq) = l) (hg : (FloatKind.f64.format.order a.toNat b.toNat == some .gt || FloatKind.f64.format.order a.toNat b.toNat == some .eq) = g) (hlv : l = true → v ≤ u) (hgv : g = true → u ≤ v) (h5 : (FloatKind.f64.format.order (toS v) a.toNat == some .lt || FloatKind.f64.format.order (toS v) a.toNat == some .eq) = true) (r : Nat) (h6 : Ieee.double.sub a.toNat (toS v) = some r) (h7 : (FloatKind.f64.format.order r 4539628424389459968 == some .lt) = true) :
    Calls Try.prog 7 #[.int .u64 a, .int .u64 b] W fun e w' => e = .returned (.bool true) ∧ Below W.heap.size W w' := by
  have H1 := Lib.hid (fun w => of_any a.toNat (by omega) w)
  have H2 := Lib.hid (fun w => of_any b.toNat (by omega) w)
  have hra := run_bits64 a
  have hrb := run_bits64 b
  rw [h1] at H1
  rw [h2] at H2
  have H3 := Lib.hid (fun w => to_any v w hv0 hv1)
  have hs : ∀ w, (binOp .sub 27 (.float .f64 a.toNat) (.float .f64 (toS v))).run Try.prog w = .ok (.float .f64 r) w := fun w => run_float_arith w .sub _ .f64 _ _ _ h6
  obtain ⟨x, hx⟩ : ∃ x, toS v = x := ⟨_, rfl⟩
  rw [hx] at H3 hs h5
  clear h1 h2 h6 hx hv0 hv1
  have hcase : (l = false ∨ l = true ∧ ¬ u < v) ∧ (g = false ∨ g = true ∧ ¬ v < u) := by
    refine ⟨?_, ?_⟩
    · cases l
      · exact .inl rfl
      · exact .inr ⟨rfl, by have := hlv rfl; omega⟩
    · cases g
      · exact .inl rfl
      · exact .inr ⟨rfl, by have := hgv rfl; omega⟩
  clear hlv hgv
  obtain ⟨hc1, hc2⟩ := hcase
  rcases hc1 with rfl | ⟨rfl, hc1⟩
  all_goals
    rcases hc2 with rfl | ⟨rfl, hc2⟩
  all_goals
    go_enter Try.func7, Try.ntmps7
    go_wp2_with fail
    refine (H1.out _).mono ?_
    rintro e w1 ⟨rfl, hbl⟩
    have B1 := Lib.hid (show Below W.heap.size W w1 from hbl)
    clear hbl
    go_wp2_with fail
    refine (H2.out _).mono ?_
    rintro e w2 ⟨rfl, hbl⟩
    have B2 := Lib.hid (show Below W.heap.size W w2 from (B1.out.trans (hbl.mono B1.out.size)))
    clear hbl
    go_wp2_with fail
    refine (H3.out _).mono ?_
    rintro e w' ⟨rfl, rfl⟩
    go_wp2_with fail
    refine (awake4_any _).mono ?_
    rintro e w3 ⟨rfl, hbl⟩
    have B3 := Lib.hid (show Below W.heap.size W w3 from (B2.out.trans (hbl.mono B2.out.size)))
    clear hbl
    go_wp2
    go_ret
    exact ⟨rfl, B3.out⟩

set_option maxRecDepth 100000 in
set_option maxHeartbeats 4000000 in
theorem walk (a b : Int) (W : World) (ha0 : 0 ≤ a) (ha1 : a ≤ 18446744073709551615) (hb0 : 0 ≤ b) (hb1 : b ≤ 18446744073709551615) :
    Calls Try.prog 7 #[.int .u64 a, .int .u64 b] W fun e w' => e = .returned (.bool true) ∧ Below W.heap.size W w' := by
  rcases ofS_cases a.toNat (by omega) with ⟨s, m, e, hr, h1, h2, h3, h4, h5, h6⟩ | h1 | h1
  · rcases ofS_cases b.toNat (by omega) with ⟨t, n, j, kr, k1, k2, k3, k4, k5, k6⟩ | k1 | k1
    · obtain ⟨o1, o2⟩ := order_fl hr kr h2 k2
      obtain ⟨q1, r, q2, q3⟩ := near_toS_of hr h1 h2 h3 h4 h5
      exact walk_goes a b W ha0 ha1 hb0 hb1 _ _ h6 k6 h4 h5 _ _ rfl rfl o1 o2 q1 r q2 q3
    · exact walk_b8 a b W ha0 ha1 hb0 hb1 _ h6 k1
    · exact walk_b14 a b W ha0 ha1 hb0 hb1 _ h6 k1
  · rcases ofS_cases b.toNat (by omega) with ⟨t, n, j, kr, k1, k2, k3, k4, k5, k6⟩ | k1 | k1
    · exact walk_a8 a b W ha0 ha1 hb0 hb1 _ _ h1 k6 (.inl rfl)
    · exact walk_a8 a b W ha0 ha1 hb0 hb1 _ _ h1 k1 (.inr ⟨rfl, .inl rfl⟩)
    · exact walk_a8 a b W ha0 ha1 hb0 hb1 _ _ h1 k1 (.inr ⟨rfl, .inr rfl⟩)
  · rcases ofS_cases b.toNat (by omega) with ⟨t, n, j, kr, k1, k2, k3, k4, k5, k6⟩ | k1 | k1
    · exact walk_a14 a b W ha0 ha1 hb0 hb1 _ _ h1 k6 (.inl rfl)
    · exact walk_a14 a b W ha0 ha1 hb0 hb1 _ _ h1 k1 (.inr ⟨rfl, .inl rfl⟩)
    · exact walk_a14 a b W ha0 ha1 hb0 hb1 _ _ h1 k1 (.inr ⟨rfl, .inr rfl⟩)

set_option maxRecDepth 100000 in
theorem lifted (os : Os) (started : os.Started) (H : Type) (enc : TypeId × Value → H) :
    ReturnsInHanded {} Try.checked os 7 .any (Rows.realOrderSpec.pre6 enc Try.prog Try.f7 Rows.realOrderRow.domain false) (Rows.realOrderSpec.post enc Try.prog Try.f7 false true false false) := by
  refine returnsInHanded_of_change (C := Try.checked) own started (by kernel_rfl) Try.func7
    (ChangeSpec.witness6 (enc := enc) (C := Try.checked) false ⟨#[], #[.int .u64 0, .int .u64 0], []⟩ 8 (by kernel_rfl) (by kernel_rfl) (by kernel_rfl) (by kernel_rfl)) ?_
  intro W base args ds gs before hval0 hW hcnd _
  have hval : ∀ (j : Nat) t v, Try.f7.params[j]? = some t → args[j]? = some v → Value.okWide Try.prog W .any base t v := hval0
  have hW' := hW
  obtain ⟨p, q, hA0, hV, rfl, hfz, hnd⟩ := hW
  have hA : DataW.TrodAll enc Try.prog W 0 (fun _ => true) true Try.f7.params.toList args.toList ds p := hA0
  rw [Try.params7] at hA hval
  obtain ⟨v0, vs0, d0, ds0, p0, q0, hargs, rfl, rfl, h0, r0⟩ := trodAll_cons hA
  obtain ⟨v1, vs1, d1, ds1, p1, q1, rfl, rfl, rfl, h1, r1⟩ := trodAll_cons r0
  obtain ⟨rfl, rfl, rfl⟩ := trodAll_nil r1
  obtain rfl : args = #[v0, v1] := by cases args; simp_all
  obtain ⟨rfl, rfl⟩ := trodVars_none hV
  obtain ⟨a0, rfl, rfl, rfl, w0⟩ := open_int Try.underlying22 (hval 0 22 v0 rfl rfl) h0
  obtain ⟨a1, rfl, rfl, rfl, w1⟩ := open_int Try.underlying22 (hval 1 22 v1 rfl rfl) h1
  clear hA0 hval0
  simp only [List.append_nil] at hW'
  refine (walk a0 a1  W (u64_of w0).1 (u64_of w0).2 (u64_of w1).1 (u64_of w1).2).mono fun e W' ⟨he, hb⟩ => ?_
  subst he
  refine ⟨_, rfl, _, _, _, [], [], [], hW', ?_, ?_, ?_, hb.frame _, fun h => by cases h⟩
  · exact trodAll_cons_mk (shut_bool Try.underlying4 _) trodAll_mk0
  · exact (trodAll_cons_mk (shut_int Try.underlying22 w0) (trodAll_cons_mk (shut_int Try.underlying22 w1) trodAll_mk0))
  · rfl

theorem proved : Rows.RealOrderSaid :=
  OpenClaim.holds_of_wide 7 Try.f7 rfl rfl rfl rfl rfl rfl rfl ⟨rfl, rfl, rfl, rfl, rfl⟩ rfl rfl rfl rfl rfl (by kernel_rfl) Try.func7 (by kernel_rfl)
    (of_decide_eq_true (by kernel_rfl)) (by unfold Func.isWrapper; first | (rw [if_pos (by decide +kernel)]; kernel_rfl) | (rw [if_neg (by decide +kernel)]; exact ⟨rfl, rfl⟩))
    (fun os started H enc _ => lifted os started H enc)
#print axioms proved
end Go.Proofs.Ytbcddiaplpbhjaa.RealOrder
