/- RealNone: of what is no number, and of what is without end, nothing is made, whatever its sign. No conditions beyond the row's own. -/
import Derived.Test.YtbcddiaplpbhjaaRows
import Derived.Test.YtbcddiaplpbhjaaRealRow
namespace Go.Proofs.Ytbcddiaplpbhjaa.RealNone
open Go Go.RowKit Go.Proofs.Ytbcddiaplpbhjaa.Rl Go.ChangeShapes Go.WideShapes Go.ChangeAt
set_option linter.unusedVariables false

theorem none_read (n : Nat) (h : n < 2 ^ 64) (he : n / 2 ^ 52 % 2048 = 2047) : (n % 2 ^ 52 = 0 → ofS n = (0, 8) ∧ nearS n = (0, 8)) ∧ (n % 2 ^ 52 ≠ 0 → ofS n = (0, 14) ∧ nearS n = (0, 14)) := by
  rcases read_cases n h with ⟨s, m, e, h, _, _, _, _, h5, _⟩ | ⟨s, h, h5, h6⟩ | ⟨s, t, h, h5, h6⟩
  · exact absurd he h5
  · exact ⟨fun _ => ⟨by unfold ofS; rw [h], by unfold nearS; rw [h]⟩, fun q => absurd h6 q⟩
  · exact ⟨fun q => absurd q h6, fun _ => ⟨by unfold ofS; rw [h], by unfold nearS; rw [h]⟩⟩
theorem or_none (b : Int) (h0 : 0 ≤ b) (h1 : b ≤ 18446744073709551615) : ∃ n : Nat, bits .or .u64 b 9218868437227405312 = (n : Int) ∧ n < 2 ^ 64 ∧ n / 2 ^ 52 % 2048 = 2047 := by
  obtain ⟨m, rfl⟩ := Int.eq_ofNat_of_zero_le h0
  refine ⟨m ||| 9218868437227405312, u64_or_nat m 9218868437227405312 (by omega) (by omega), Nat.or_lt_two_pow (by omega) (by omega), ?_⟩
  rw [← Nat.shiftRight_eq_div_pow, Nat.shiftRight_or_distrib, show (2048 : Nat) = 2 ^ 11 from rfl, Nat.or_mod_two_pow, show (9218868437227405312 >>> 52 % 2 ^ 11) = 2 ^ 11 - 1 from rfl]
  apply Nat.eq_of_testBit_eq
  intro i
  rw [Nat.testBit_or]
  by_cases hi : i < 11
  · rw [show (2047 : Nat) = 2 ^ 11 - 1 from rfl, Nat.testBit_two_pow_sub_one, decide_eq_true hi, Bool.or_true]
  · rw [show (2047 : Nat) = 2 ^ 11 - 1 from rfl, Nat.testBit_two_pow_sub_one, decide_eq_false hi, Bool.or_false]
    exact Nat.testBit_lt_two_pow (Nat.lt_of_lt_of_le (Nat.mod_lt _ (by omega)) (Nat.pow_le_pow_right (by omega) (by omega)))

set_option maxRecDepth 100000 in
set_option maxHeartbeats 4000000 in
theorem walk_inf (b : Int) (W : World) (hb0 : 0 ≤ b) (hb1 : b ≤ 18446744073709551615) (n : Nat) (hn : bits .or .u64 b 9218868437227405312 = (n : Int)) (hn2 : n < 2 ^ 64) (he : n / 2 ^ 52 % 2048 = 2047) (hz : n % 2 ^ 52 = 0) :
    Calls Try.prog 5 #[.int .u64 b] W fun e w' => e = .returned (.bool true) ∧ Below W.heap.size W w' := by
  have H1 := Lib.hid (fun w => bits_any (n : Int) (by omega) (by omega) w)
  have H2 := Lib.hid (fun w => near_any n hn2 w)
  have hr := run_bits64 (n : Int)
  have ha := Rr.and_52 (n : Int) (by omega) (by omega)
  have hm : (n : Int) % 4503599627370496 = ((n % 2 ^ 52 : Nat) : Int) := by omega
  rw [hm] at ha
  rw [Int.toNat_natCast] at H1 hr
  obtain ⟨k1, k2⟩ := (none_read n hn2 he).1 hz
  rw [k1] at H1
  rw [k2] at H2
  obtain ⟨m, hme⟩ : ∃ m, n % 2 ^ 52 = m := ⟨_, rfl⟩
  rw [hme] at ha hz
  subst hz
  clear k1 k2 hme hm he hb0 hb1
  go_enter Try.func5, Try.ntmps5
  go_wp2_with fail
  refine (H1.out _).mono ?_
  rintro e w1 ⟨rfl, hbl⟩
  have B1 := Lib.hid (show Below W.heap.size W w1 from hbl)
  clear hbl
  go_wp2_with fail
  refine (H2.out _).mono ?_
  rintro e w2 ⟨rfl, hbl⟩
  have B2 := Lib.hid (show Below W.heap.size W w2 from (B1.out.trans (hbl.mono B1.out.size)))
  clear hbl
  go_wp2_with fail
  refine (awake4_any _).mono ?_
  rintro e w3 ⟨rfl, hbl⟩
  have B3 := Lib.hid (show Below W.heap.size W w3 from (B2.out.trans (hbl.mono B2.out.size)))
  clear hbl
  go_wp2
  go_ret
  exact ⟨rfl, B3.out⟩

set_option maxRecDepth 100000 in
set_option maxHeartbeats 4000000 in
theorem walk_nan (b : Int) (W : World) (hb0 : 0 ≤ b) (hb1 : b ≤ 18446744073709551615) (n : Nat) (hn : bits .or .u64 b 9218868437227405312 = (n : Int)) (hn2 : n < 2 ^ 64) (he : n / 2 ^ 52 % 2048 = 2047) (hz : n % 2 ^ 52 ≠ 0) :
    Calls Try.prog 5 #[.int .u64 b] W fun e w' => e = .returned (.bool true) ∧ Below W.heap.size W w' := by
  have H1 := Lib.hid (fun w => bits_any (n : Int) (by omega) (by omega) w)
  have H2 := Lib.hid (fun w => near_any n hn2 w)
  have hr := run_bits64 (n : Int)
  have ha := Rr.and_52 (n : Int) (by omega) (by omega)
  have hm : (n : Int) % 4503599627370496 = ((n % 2 ^ 52 : Nat) : Int) := by omega
  rw [hm] at ha
  rw [Int.toNat_natCast] at H1 hr
  obtain ⟨k1, k2⟩ := (none_read n hn2 he).2 hz
  rw [k1] at H1
  rw [k2] at H2
  obtain ⟨m, hme⟩ : ∃ m, n % 2 ^ 52 = m := ⟨_, rfl⟩
  rw [hme] at ha hz
  have hmz : ((m : Int) == 0) = false := by simp; omega
  clear k1 k2 hme hm he hb0 hb1
  go_enter Try.func5, Try.ntmps5
  go_wp2_with fail
  refine (H1.out _).mono ?_
  rintro e w1 ⟨rfl, hbl⟩
  have B1 := Lib.hid (show Below W.heap.size W w1 from hbl)
  clear hbl
  go_wp2_with fail
  refine (H2.out _).mono ?_
  rintro e w2 ⟨rfl, hbl⟩
  have B2 := Lib.hid (show Below W.heap.size W w2 from (B1.out.trans (hbl.mono B1.out.size)))
  clear hbl
  go_wp2_with fail
  refine (awake4_any _).mono ?_
  rintro e w3 ⟨rfl, hbl⟩
  have B3 := Lib.hid (show Below W.heap.size W w3 from (B2.out.trans (hbl.mono B2.out.size)))
  clear hbl
  go_wp2
  go_ret
  exact ⟨rfl, B3.out⟩

set_option maxRecDepth 100000 in
set_option maxHeartbeats 4000000 in
theorem walk (b : Int) (W : World) (hb0 : 0 ≤ b) (hb1 : b ≤ 18446744073709551615) :
    Calls Try.prog 5 #[.int .u64 b] W fun e w' => e = .returned (.bool true) ∧ Below W.heap.size W w' := by
  obtain ⟨n, hn, hn2, he⟩ := or_none b hb0 hb1
  by_cases hz : n % 2 ^ 52 = 0
  · exact walk_inf b W hb0 hb1 n hn hn2 he hz
  · exact walk_nan b W hb0 hb1 n hn hn2 he hz

set_option maxRecDepth 100000 in
theorem lifted (os : Os) (started : os.Started) (H : Type) (enc : TypeId × Value → H) :
    ReturnsInHanded {} Try.checked os 5 .any (Rows.realNoneSpec.pre6 enc Try.prog Try.f5 Rows.realNoneRow.domain false) (Rows.realNoneSpec.post enc Try.prog Try.f5 false true false false) := by
  refine returnsInHanded_of_change (C := Try.checked) own started (by kernel_rfl) Try.func5
    (ChangeSpec.witness6 (enc := enc) (C := Try.checked) false ⟨#[], #[.int .u64 0], []⟩ 8 (by kernel_rfl) (by kernel_rfl) (by kernel_rfl) (by kernel_rfl)) ?_
  intro W base args ds gs before hval0 hW hcnd _
  have hval : ∀ (j : Nat) t v, Try.f5.params[j]? = some t → args[j]? = some v → Value.okWide Try.prog W .any base t v := hval0
  have hW' := hW
  obtain ⟨p, q, hA0, hV, rfl, hfz, hnd⟩ := hW
  have hA : DataW.TrodAll enc Try.prog W 0 (fun _ => true) true Try.f5.params.toList args.toList ds p := hA0
  rw [Try.params5] at hA hval
  obtain ⟨v0, vs0, d0, ds0, p0, q0, hargs, rfl, rfl, h0, r0⟩ := trodAll_cons hA
  obtain ⟨rfl, rfl, rfl⟩ := trodAll_nil r0
  obtain rfl : args = #[v0] := by cases args; simp_all
  obtain ⟨rfl, rfl⟩ := trodVars_none hV
  obtain ⟨a0, rfl, rfl, rfl, w0⟩ := open_int Try.underlying22 (hval 0 22 v0 rfl rfl) h0
  clear hA0 hval0
  simp only [List.append_nil] at hW'
  refine (walk a0  W (u64_of w0).1 (u64_of w0).2).mono fun e W' ⟨he, hb⟩ => ?_
  subst he
  refine ⟨_, rfl, _, _, _, [], [], [], hW', ?_, ?_, ?_, hb.frame _, fun h => by cases h⟩
  · exact trodAll_cons_mk (shut_bool Try.underlying4 _) trodAll_mk0
  · exact (trodAll_cons_mk (shut_int Try.underlying22 w0) trodAll_mk0)
  · rfl

theorem proved : Rows.RealNoneSaid :=
  OpenClaim.holds_of_wide 5 Try.f5 rfl rfl rfl rfl rfl rfl rfl ⟨rfl, rfl, rfl, rfl, rfl⟩ rfl rfl rfl rfl rfl (by kernel_rfl) Try.func5 (by kernel_rfl)
    (of_decide_eq_true (by kernel_rfl)) (by unfold Func.isWrapper; first | (rw [if_pos (by decide +kernel)]; kernel_rfl) | (rw [if_neg (by decide +kernel)]; exact ⟨rfl, rfl⟩))
    (fun os started H enc _ => lifted os started H enc)
#print axioms proved
end Go.Proofs.Ytbcddiaplpbhjaa.RealNone
