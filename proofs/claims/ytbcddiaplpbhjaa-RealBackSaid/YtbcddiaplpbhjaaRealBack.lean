/- RealBack: every number that may be goes to the float that is just as great, and comes back by both ways. No conditions beyond the row's own. -/
import Derived.Test.YtbcddiaplpbhjaaRows
import Derived.Test.YtbcddiaplpbhjaaRealRow
namespace Go.Proofs.Ytbcddiaplpbhjaa.RealBack
open Go Go.RowKit Go.Proofs.Ytbcddiaplpbhjaa.Rl Go.ChangeShapes Go.WideShapes Go.ChangeAt
set_option linter.unusedVariables false

set_option maxRecDepth 100000 in
set_option maxHeartbeats 4000000 in
theorem walk_over (v : Int) (W : World) (h : v < -70368744177664 ∨ 70368744177664 ≤ v) :
    Calls Try.prog 6 #[.int .i64 v] W fun e w' => e = .returned (.bool true) ∧ Below W.heap.size W w' := by
  have H1 := Lib.hid (fun w => to_over v w h)
  have hz : (FloatKind.f64.format.order 0 0 == some .eq) = true := by decide
  rcases h with h | h
  all_goals
    go_enter Try.func6, Try.ntmps6
    go_wp2_with fail
    refine (H1.out _).mono ?_
    rintro e w' ⟨rfl, rfl⟩
    go_wp2_with fail
    refine (awake4_any _).mono ?_
    rintro e w1 ⟨rfl, hbl⟩
    have B1 := Lib.hid (show Below W.heap.size W w1 from hbl)
    clear hbl
    go_wp2
    go_ret
    exact ⟨rfl, B1.out⟩

set_option maxRecDepth 100000 in
set_option maxHeartbeats 4000000 in
theorem walk_goes (v : Int) (W : World) (h0 : -70368744177664 ≤ v) (h1 : v < 70368744177664) :
    Calls Try.prog 6 #[.int .i64 v] W fun e w' => e = .returned (.bool true) ∧ Below W.heap.size W w' := by
  have H1 := Lib.hid (fun w => to_any v w h0 h1)
  obtain ⟨s, m, e, hr, _, _, _, _, _, _, _⟩ := toS_read v (by omega)
  have hlt : toS v < 2 ^ 64 := Ieee.Format.div_lt Ieee.double (toS_some v (by omega))
  have H2 := Lib.hid (fun w => of_any (toS v) hlt w)
  rw [of_toS v h0 h1] at H2
  have H3 := Lib.hid (fun w => near_any (toS v) hlt w)
  rw [near_toS v h0 h1] at H3
  obtain ⟨x, hx, hxe⟩ := toS_times v (by omega)
  have hm : ∀ w, (binOp .mul 27 (.float .f64 (toS v)) (.float .f64 4679240012837945344)).run Try.prog w = .ok (.float .f64 x) w := fun w => run_float_arith w .mul _ .f64 _ _ _ hx
  have he : (FloatKind.f64.format.order x (floatOfInt .f64 v) == some .eq) = true := by rw [floatOf]; exact hxe
  have hbt := run_float_bits (toS v)
  have hv0 : v = 0 → toS v = 0 := by
    rintro rfl
    unfold toS
    rw [show decide ((0 : Int) < 0) = false from rfl, show (0 : Int).natAbs = 0 from rfl, by_one_zero]; rfl
  obtain ⟨y, hy⟩ : ∃ y, toS v = y := ⟨_, rfl⟩
  rw [hy] at H1 H2 H3 hm hbt hv0
  clear hx hxe hr hlt hy
  by_cases hz : v = 0
  · obtain rfl := hv0 hz
    subst hz
    go_enter Try.func6, Try.ntmps6
    go_wp2_with fail
    refine (H1.out _).mono ?_
    rintro e w' ⟨rfl, rfl⟩
    go_wp2_with fail
    refine (H2.out _).mono ?_
    rintro e w1 ⟨rfl, hbl⟩
    have B1 := Lib.hid (show Below W.heap.size W w1 from hbl)
    clear hbl
    go_wp2_with fail
    refine (H3.out _).mono ?_
    rintro e w2 ⟨rfl, hbl⟩
    have B2 := Lib.hid (show Below W.heap.size W w2 from (B1.out.trans (hbl.mono B1.out.size)))
    clear hbl
    go_wp2_with fail
    refine (awake4_any _).mono ?_
    rintro e w3 ⟨rfl, hbl⟩
    have B3 := Lib.hid (show Below W.heap.size W w3 from (B2.out.trans (hbl.mono B2.out.size)))
    clear hbl
    go_wp2
    go_ret
    exact ⟨rfl, B3.out⟩
  · have hvz : ((v : Int) != 0) = true := by simpa using hz
    clear hv0 hz
    go_enter Try.func6, Try.ntmps6
    go_wp2_with fail
    refine (H1.out _).mono ?_
    rintro e w' ⟨rfl, rfl⟩
    go_wp2_with fail
    refine (H2.out _).mono ?_
    rintro e w1 ⟨rfl, hbl⟩
    have B1 := Lib.hid (show Below W.heap.size W w1 from hbl)
    clear hbl
    go_wp2_with fail
    refine (H3.out _).mono ?_
    rintro e w2 ⟨rfl, hbl⟩
    have B2 := Lib.hid (show Below W.heap.size W w2 from (B1.out.trans (hbl.mono B1.out.size)))
    clear hbl
    go_wp2_with fail
    refine (awake4_any _).mono ?_
    rintro e w3 ⟨rfl, hbl⟩
    have B3 := Lib.hid (show Below W.heap.size W w3 from (B2.out.trans (hbl.mono B2.out.size)))
    clear hbl
    go_wp2
    go_ret
    exact ⟨rfl, B3.out⟩

set_option maxRecDepth 100000 in
set_option maxHeartbeats 4000000 in
theorem walk (v : Int) (W : World)  :
    Calls Try.prog 6 #[.int .i64 v] W fun e w' => e = .returned (.bool true) ∧ Below W.heap.size W w' := by
  by_cases h : v < -70368744177664 ∨ 70368744177664 ≤ v
  · exact walk_over v W h
  · exact walk_goes v W (by omega) (by omega)

set_option maxRecDepth 100000 in
theorem lifted (os : Os) (started : os.Started) (H : Type) (enc : TypeId × Value → H) :
    ReturnsInHanded {} Try.checked os 6 .any (Rows.realBackSpec.pre6 enc Try.prog Try.f6 Rows.realBackRow.domain false) (Rows.realBackSpec.post enc Try.prog Try.f6 false true false false) := by
  refine returnsInHanded_of_change (C := Try.checked) own started (by kernel_rfl) Try.func6
    (ChangeSpec.witness6 (enc := enc) (C := Try.checked) false ⟨#[], #[.int .i64 0], []⟩ 8 (by kernel_rfl) (by kernel_rfl) (by kernel_rfl) (by kernel_rfl)) ?_
  intro W base args ds gs before hval0 hW hcnd _
  have hval : ∀ (j : Nat) t v, Try.f6.params[j]? = some t → args[j]? = some v → Value.okWide Try.prog W .any base t v := hval0
  have hW' := hW
  obtain ⟨p, q, hA0, hV, rfl, hfz, hnd⟩ := hW
  have hA : DataW.TrodAll enc Try.prog W 0 (fun _ => true) true Try.f6.params.toList args.toList ds p := hA0
  rw [Try.params6] at hA hval
  obtain ⟨v0, vs0, d0, ds0, p0, q0, hargs, rfl, rfl, h0, r0⟩ := trodAll_cons hA
  obtain ⟨rfl, rfl, rfl⟩ := trodAll_nil r0
  obtain rfl : args = #[v0] := by cases args; simp_all
  obtain ⟨rfl, rfl⟩ := trodVars_none hV
  obtain ⟨a0, rfl, rfl, rfl, w0⟩ := open_int Try.underlying2 (hval 0 2 v0 rfl rfl) h0
  clear hA0 hval0
  simp only [List.append_nil] at hW'
  refine (walk a0  W ).mono fun e W' ⟨he, hb⟩ => ?_
  subst he
  refine ⟨_, rfl, _, _, _, [], [], [], hW', ?_, ?_, ?_, hb.frame _, fun h => by cases h⟩
  · exact trodAll_cons_mk (shut_bool Try.underlying4 _) trodAll_mk0
  · exact (trodAll_cons_mk (shut_int Try.underlying2 w0) trodAll_mk0)
  · rfl

theorem proved : Rows.RealBackSaid :=
  OpenClaim.holds_of_wide 6 Try.f6 rfl rfl rfl rfl rfl rfl rfl ⟨rfl, rfl, rfl, rfl, rfl⟩ rfl rfl rfl rfl rfl (by kernel_rfl) Try.func6 (by kernel_rfl)
    (of_decide_eq_true (by kernel_rfl)) (by unfold Func.isWrapper; first | (rw [if_pos (by decide +kernel)]; kernel_rfl) | (rw [if_neg (by decide +kernel)]; exact ⟨rfl, rfl⟩))
    (fun os started H enc _ => lifted os started H enc)
#print axioms proved
end Go.Proofs.Ytbcddiaplpbhjaa.RealBack
