/- NumBack: what is added, and fits, comes off again, and what is multiplied comes apart again. No conditions beyond the row's own. -/
import Derived.Test.YtikhgdbbbingbaaRows
import Derived.Test.YtikhgdbbbingbaaNumRow
namespace Go.Proofs.Ytikhgdbbbingbaa.NumBack
open Go Go.RowKit Go.ChangeShapes Go.WideShapes Go.ChangeAt
set_option linter.unusedVariables false

theorem flr_back (a b : Int) (hb : b ≠ 0) : flr (a * b) b = a := by
  unfold flr
  by_cases h : 0 < b
  · rw [if_pos h]; exact Int.mul_ediv_cancel a hb
  · rw [if_neg h, ← Int.mul_neg]; exact Int.mul_ediv_cancel a (by omega)
theorem fmd_back (a b : Int) (hb : b ≠ 0) : fmd (a * b) b = 0 := by
  unfold fmd
  by_cases h : 0 < b
  · rw [if_pos h]; exact Int.mul_emod_left a b
  · rw [if_neg h, ← Int.mul_neg, Int.mul_emod_left]; rfl

set_option maxHeartbeats 2000000 in
theorem walk (a b : Int) (W : World) (ha : fits a) (hb : fits b) :
    Calls Try.prog 9 #[.int .i64 a, .int .i64 b] W fun e w' => e = .returned (.bool true) ∧ Below W.heap.size W w' := by
  have HA := Lib.hid (fun w => add_any a b w ha hb)
  have HS := Lib.hid (fun w h => sub_any (a + b) b w h hb)
  rw [show a + b - b = a by omega, fitted_in ha] at HS
  have HM := Lib.hid (fun w => mul_any a b w ha hb)
  rw [show mulDiv a b 1 = fitted (a * b) by unfold mulDiv flr; rw [if_neg (by decide), if_pos (by decide), Int.ediv_one]] at HM
  have HD := Lib.hid (fun w h (h0 : b ≠ 0) => by
    have h1 := div_any (a * b) b w h hb
    rw [show mulDiv (a * b) 1 b = (a, 0) by unfold mulDiv; rw [if_neg h0, Int.mul_one, flr_back a b h0, fitted_in ha]] at h1
    exact h1)
  have HR := Lib.hid (fun w h (h0 : b ≠ 0) => by
    have h1 := mod_any (a * b) b w h hb
    rw [show modS (a * b) b = (0, 0) by unfold modS; rw [if_neg h0, fmd_back a b h0]] at h1
    exact h1)
  obtain ⟨s, hs⟩ : ∃ s, a + b = s := ⟨_, rfl⟩
  obtain ⟨p, hp⟩ : ∃ s, a * b = s := ⟨_, rfl⟩
  rw [hs] at HA HS
  rw [hp] at HM HD HR
  clear hs hp ha hb
  by_cases f1 : fits s <;> by_cases f2 : fits p <;> by_cases f3 : b = 0
  all_goals
    first
    | rw [fitted_in f1] at HA
    | rw [fitted_out f1] at HA
    first
    | rw [fitted_in f2] at HM
    | rw [fitted_out f2] at HM
    try have f4 : ((b : Int) != 0) = true := by simpa using f3
    try subst f3
    go_enter Try.func9, Try.ntmps9
    go_wp2_with (first
      | (go_at_call 34; refine (HA.out _).mono ?_; rintro e w' ⟨rfl, rfl⟩)
      | (go_at_call 35; refine (HS.out _ f1).mono ?_; rintro e w' ⟨rfl, rfl⟩)
      | (go_at_call 31; refine (HM.out _).mono ?_; rintro e w1 ⟨rfl, hb⟩; have B1 := Lib.hid hb; clear hb)
      | (go_at_call 23; refine (HD.out _ f2 f3).mono ?_; rintro e w2 ⟨rfl, hb⟩; have B2 := Lib.hid (B1.out.trans (hb.mono B1.out.size)); clear hb)
      | (go_at_call 24; refine (HR.out _ f2 f3).mono ?_; rintro e w' ⟨rfl, rfl⟩)
      | (go_at_call 22; refine (awake1_any _).mono ?_; rintro e w' ⟨rfl, hb⟩; have HB := Lib.hid (show Below W.heap.size W w' from by first | exact B2.out.trans (hb.mono B2.out.size) | exact B1.out.trans (hb.mono B1.out.size)); clear hb))
    go_ret
    exact ⟨rfl, HB.out⟩


set_option maxRecDepth 100000 in
theorem lifted (os : Os) (started : os.Started) (H : Type) (enc : TypeId × Value → H) :
    ReturnsInHanded {} Try.checked os 9 .any (Rows.numBackSpec.pre6 enc Try.prog Try.f9 Rows.numBackRow.domain false) (Rows.numBackSpec.post enc Try.prog Try.f9 false true false false) := by
  refine returnsInHanded_of_change (C := Try.checked) own started (by kernel_rfl) Try.func9
    (ChangeSpec.witness6 (enc := enc) (C := Try.checked) false ⟨#[], #[.int .i64 0, .int .i64 0], []⟩ 8 (by kernel_rfl) (by kernel_rfl) (by kernel_rfl) (by kernel_rfl)) ?_
  intro W base args ds gs before hval0 hW hcnd _
  have hval : ∀ (j : Nat) t v, Try.f9.params[j]? = some t → args[j]? = some v → Value.okWide Try.prog W .any base t v := hval0
  have hW' := hW
  obtain ⟨p, q, hA0, hV, rfl, hfz, hnd⟩ := hW
  have hA : DataW.TrodAll enc Try.prog W 0 (fun _ => true) true Try.f9.params.toList args.toList ds p := hA0
  rw [Try.params9] at hA hval
  obtain ⟨v0, vs0, d0, ds0, p0, q0, hargs, rfl, rfl, h0, r0⟩ := trodAll_cons hA
  obtain ⟨v1, vs1, d1, ds1, p1, q1, rfl, rfl, rfl, h1, r1⟩ := trodAll_cons r0
  obtain ⟨rfl, rfl, rfl⟩ := trodAll_nil r1
  obtain rfl : args = #[v0, v1] := by cases args; simp_all
  obtain ⟨rfl, rfl⟩ := trodVars_none hV
  obtain ⟨a0, rfl, rfl, rfl, w0⟩ := open_int Try.underlying2 (hval 0 2 v0 rfl rfl) h0
  obtain ⟨a1, rfl, rfl, rfl, w1⟩ := open_int Try.underlying2 (hval 1 2 v1 rfl rfl) h1
  clear hA0 hval0
  simp only [List.append_nil] at hW'
  refine (walk a0 a1  W (fits_of w0) (fits_of w1)).mono fun e W' ⟨he, hb⟩ => ?_
  subst he
  refine ⟨_, rfl, _, _, _, [], [], [], hW', ?_, ?_, ?_, hb.frame _, fun h => by cases h⟩
  · exact trodAll_cons_mk (shut_bool Try.underlying4 _) trodAll_mk0
  · exact (trodAll_cons_mk (shut_int Try.underlying2 w0) (trodAll_cons_mk (shut_int Try.underlying2 w1) trodAll_mk0))
  · rfl

theorem proved : Rows.NumBackSaid :=
  OpenClaim.holds_of_wide 9 Try.f9 rfl rfl rfl rfl rfl rfl rfl ⟨rfl, rfl, rfl, rfl, rfl⟩ rfl rfl rfl rfl rfl (by kernel_rfl) Try.func9 (by kernel_rfl)
    (of_decide_eq_true (by kernel_rfl)) (by unfold Func.isWrapper; first | (rw [if_pos (by decide +kernel)]; kernel_rfl) | (rw [if_neg (by decide +kernel)]; exact ⟨rfl, rfl⟩))
    (fun os started H enc _ => lifted os started H enc)
#print axioms proved
end Go.Proofs.Ytikhgdbbbingbaa.NumBack
