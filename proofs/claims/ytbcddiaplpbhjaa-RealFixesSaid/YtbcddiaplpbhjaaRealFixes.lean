/- RealFixes: every float, by its value and by its bits, whatever NaN it is, is the document's number, rounded down, or refused with its error. No conditions beyond the row's own. -/
import Derived.Test.YtbcddiaplpbhjaaRows
import Derived.Test.YtbcddiaplpbhjaaRealRow
namespace Go.Proofs.Ytbcddiaplpbhjaa.RealFixes
open Go Go.RowKit Go.Proofs.Ytbcddiaplpbhjaa.Rl Go.ChangeShapes Go.WideShapes Go.ChangeAt
set_option linter.unusedVariables false

set_option maxRecDepth 100000 in
set_option maxHeartbeats 4000000 in
theorem walk (b : Int) (W : World) (hb0 : 0 ≤ b) (hb1 : b ≤ 18446744073709551615) :
    Calls Try.prog 3 #[.int .u64 b] W fun e w' => e = .returned (.bool true) ∧ Below W.heap.size W w' := by
  have H1 := Lib.hid (fun w => bits_any b hb0 hb1 w)
  have H2 := Lib.hid (fun w => of_any b.toNat (by omega) w)
  have H3 := Lib.hid (fun w => refOf_any b hb0 hb1 w)
  have hr := run_bits64 b
  obtain ⟨r, hre⟩ : ∃ r, ofS b.toNat = r := ⟨_, rfl⟩
  rw [hre] at H1 H2 H3
  clear hre
  go_enter Try.func3, Try.ntmps3
  go_wp2_with fail
  refine (H1.out _).mono ?_
  rintro e w1 ⟨rfl, hbl⟩
  have B1 := Lib.hid (show Below W.heap.size W w1 from hbl)
  clear hbl
  go_wp2_with fail
  refine (H2.out _).mono ?_
  rintro e w2 ⟨rfl, hbl⟩
  have B2 := Lib.hid (show Below W.heap.size W w2 from (B1.out.trans (hbl.mono B1.out.size)))
  clear hbl
  go_wp2_with fail
  refine (H3.out _).mono ?_
  rintro e w3 ⟨rfl, hbl⟩
  have B3 := Lib.hid (show Below W.heap.size W w3 from (B2.out.trans (hbl.mono B2.out.size)))
  clear hbl
  go_wp2_with fail
  refine (awake4_any _).mono ?_
  rintro e w4 ⟨rfl, hbl⟩
  have B4 := Lib.hid (show Below W.heap.size W w4 from (B3.out.trans (hbl.mono B3.out.size)))
  clear hbl
  go_wp2
  go_ret
  exact ⟨rfl, B4.out⟩

set_option maxRecDepth 100000 in
theorem lifted (os : Os) (started : os.Started) (H : Type) (enc : TypeId × Value → H) :
    ReturnsInHanded {} Try.checked os 3 .any (Rows.realFixesSpec.pre6 enc Try.prog Try.f3 Rows.realFixesRow.domain false) (Rows.realFixesSpec.post enc Try.prog Try.f3 false true false false) := by
  refine returnsInHanded_of_change (C := Try.checked) own started (by kernel_rfl) Try.func3
    (ChangeSpec.witness6 (enc := enc) (C := Try.checked) false ⟨#[], #[.int .u64 0], []⟩ 8 (by kernel_rfl) (by kernel_rfl) (by kernel_rfl) (by kernel_rfl)) ?_
  intro W base args ds gs before hval0 hW hcnd _
  have hval : ∀ (j : Nat) t v, Try.f3.params[j]? = some t → args[j]? = some v → Value.okWide Try.prog W .any base t v := hval0
  have hW' := hW
  obtain ⟨p, q, hA0, hV, rfl, hfz, hnd⟩ := hW
  have hA : DataW.TrodAll enc Try.prog W 0 (fun _ => true) true Try.f3.params.toList args.toList ds p := hA0
  rw [Try.params3] at hA hval
  obtain ⟨v0, vs0, d0, ds0, p0, q0, hargs, rfl, rfl, h0, r0⟩ := trodAll_cons hA
  obtain ⟨rfl, rfl, rfl⟩ := trodAll_nil r0
  obtain rfl : args = #[v0] := by cases args; simp_all
  obtain ⟨rfl, rfl⟩ := trodVars_none hV
  obtain ⟨a0, rfl, rfl, rfl, w0⟩ := open_int Try.underlying22 (hval 0 22 v0 rfl rfl) h0
  clear hA0 hval0
  simp only [List.append_nil] at hW'
  refine (walk a0  W (u64_of w0).1 (u64_of w0).2).mono fun e W' ⟨he, hb⟩ => ?_
  subst he
  refine ⟨_, rfl, _, _, _, [], [], [], hW', ?_, ?_, ?_, hb.frame _, fun h => by cases h⟩
  · exact trodAll_cons_mk (shut_bool Try.underlying4 _) trodAll_mk0
  · exact (trodAll_cons_mk (shut_int Try.underlying22 w0) trodAll_mk0)
  · rfl

theorem proved : Rows.RealFixesSaid :=
  OpenClaim.holds_of_wide 3 Try.f3 rfl rfl rfl rfl rfl rfl rfl ⟨rfl, rfl, rfl, rfl, rfl⟩ rfl rfl rfl rfl rfl (by kernel_rfl) Try.func3 (by kernel_rfl)
    (of_decide_eq_true (by kernel_rfl)) (by unfold Func.isWrapper; first | (rw [if_pos (by decide +kernel)]; kernel_rfl) | (rw [if_neg (by decide +kernel)]; exact ⟨rfl, rfl⟩))
    (fun os started H enc _ => lifted os started H enc)
#print axioms proved
end Go.Proofs.Ytbcddiaplpbhjaa.RealFixes
