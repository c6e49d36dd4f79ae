/- FixMuls: every product is the true one, rounded down, or is refused just if it doesn't fit. No conditions beyond the row's own. -/
import Derived.Test.YtikhgdbbbingbaaRows
import Derived.Test.YtikhgdbbbingbaaFixQuo
namespace Go.Proofs.Ytikhgdbbbingbaa.FixMuls
open Go Go.RowKit Go.Proofs.Ytikhgdbbbingbaa.Rt Go.Proofs.Ytikhgdbbbingbaa.Bg Go.Proofs.Ytikhgdbbbingbaa.Dg Go.ChangeShapes Go.WideShapes Go.ChangeAt
set_option linter.unusedVariables false

set_option maxRecDepth 100000 in
set_option maxHeartbeats 4000000 in
theorem walk (a b : Int) (W : World) (ha : fits a) (hb : fits b) :
    Calls Try.prog 10 #[.int .i64 a, .int .i64 b] W fun e w' => e = .returned (.bool true) ∧ Below W.heap.size W w' := by
  have HM := Lib.hid (fun w => fmul_any a b w ha hb)
  rw [show mulDiv a b 65536 = fitted (flr (a * b) 65536) from rfl] at HM
  have HO := Lib.hid (fun a w1 (ha : I64 a) => of_any a w1 ha.1 ha.2)
  have HP := Lib.hid (fun w => refMul_any a b w ha hb)
  have HC0 := Lib.hid (show I64 65536 from ⟨by omega, by omega⟩)
  have HF := Lib.hid (fun w u v (hu : Is w u (a * b)) (hv : Is w v 65536) => floors_any (a * b) 65536 u v w hu hv (md_mul ha hb) ⟨by omega, by omega⟩ (by omega))
  obtain ⟨p, hp⟩ : ∃ p, a * b = p := ⟨_, rfl⟩
  rw [hp] at HM HP HF
  obtain ⟨r, hr⟩ : ∃ r, fitted (flr p 65536) = r := ⟨_, rfl⟩
  rw [hr] at HM HF
  clear hr hp ha hb
  go_enter Try.func10, Try.ntmps10
  go_wp2_with fail
  refine (HM.out _).mono ?_
  rintro e w1 ⟨rfl, hbl⟩
  have B1 := Lib.hid (show Below W.heap.size W w1 from hbl)
  clear hbl
  go_wp2_with fail
  refine (HP.out _).mono ?_
  rintro e w2 ⟨r2, rfl, hi, hbl⟩
  have B2 := Lib.hid (show Below W.heap.size W w2 from (B1.out.trans (hbl.mono B1.out.size)))
  have R1 := Lib.hid hi
  clear hi hbl
  go_wp2_with fail
  refine (HO.out _ _ HC0.out).mono ?_
  rintro e w3 ⟨r3, rfl, hi, hbl⟩
  have B3 := Lib.hid (show Below W.heap.size W w3 from (B2.out.trans (hbl.mono B2.out.size)))
  have R1 := Lib.hid (R1.out.below hbl)
  have R2 := Lib.hid hi
  clear hi hbl
  go_wp2_with fail
  refine (HF.out _ _ _ R1.out R2.out).mono ?_
  rintro e w4 ⟨rfl, hbl⟩
  have B4 := Lib.hid (show Below W.heap.size W w4 from (B3.out.trans (hbl.mono B3.out.size)))
  have R1 := Lib.hid (R1.out.below hbl)
  have R2 := Lib.hid (R2.out.below hbl)
  clear hbl
  go_wp2_with fail
  refine (awake2_any _).mono ?_
  rintro e w5 ⟨rfl, hbl⟩
  have B5 := Lib.hid (show Below W.heap.size W w5 from (B4.out.trans (hbl.mono B4.out.size)))
  have R1 := Lib.hid (R1.out.below hbl)
  have R2 := Lib.hid (R2.out.below hbl)
  clear hbl
  go_wp2
  go_ret
  exact ⟨rfl, B5.out⟩

set_option maxRecDepth 100000 in
theorem lifted (os : Os) (started : os.Started) (H : Type) (enc : TypeId × Value → H) :
    ReturnsInHanded {} Try.checked os 10 .any (Rows.fixMulsSpec.pre6 enc Try.prog Try.f10 Rows.fixMulsRow.domain false) (Rows.fixMulsSpec.post enc Try.prog Try.f10 false true false false) := by
  refine returnsInHanded_of_change (C := Try.checked) own started (by kernel_rfl) Try.func10
    (ChangeSpec.witness6 (enc := enc) (C := Try.checked) false ⟨#[], #[.int .i64 0, .int .i64 0], []⟩ 8 (by kernel_rfl) (by kernel_rfl) (by kernel_rfl) (by kernel_rfl)) ?_
  intro W base args ds gs before hval0 hW hcnd _
  have hval : ∀ (j : Nat) t v, Try.f10.params[j]? = some t → args[j]? = some v → Value.okWide Try.prog W .any base t v := hval0
  have hW' := hW
  obtain ⟨p, q, hA0, hV, rfl, hfz, hnd⟩ := hW
  have hA : DataW.TrodAll enc Try.prog W 0 (fun _ => true) true Try.f10.params.toList args.toList ds p := hA0
  rw [Try.params10] at hA hval
  obtain ⟨v0, vs0, d0, ds0, p0, q0, hargs, rfl, rfl, h0, r0⟩ := trodAll_cons hA
  obtain ⟨v1, vs1, d1, ds1, p1, q1, rfl, rfl, rfl, h1, r1⟩ := trodAll_cons r0
  obtain ⟨rfl, rfl, rfl⟩ := trodAll_nil r1
  obtain rfl : args = #[v0, v1] := by cases args; simp_all
  obtain ⟨rfl, rfl⟩ := trodVars_none hV
  obtain ⟨a0, rfl, rfl, rfl, w0⟩ := open_int Try.underlying2 (hval 0 2 v0 rfl rfl) h0
  obtain ⟨a1, rfl, rfl, rfl, w1⟩ := open_int Try.underlying2 (hval 1 2 v1 rfl rfl) h1
  clear hA0 hval0
  simp only [List.append_nil] at hW'
  refine (walk a0 a1  W (fits_of w0) (fits_of w1)).mono fun e W' ⟨he, hb⟩ => ?_
  subst he
  refine ⟨_, rfl, _, _, _, [], [], [], hW', ?_, ?_, ?_, hb.frame _, fun h => by cases h⟩
  · exact trodAll_cons_mk (shut_bool Try.underlying4 _) trodAll_mk0
  · exact (trodAll_cons_mk (shut_int Try.underlying2 w0) (trodAll_cons_mk (shut_int Try.underlying2 w1) trodAll_mk0))
  · rfl

theorem proved : Rows.FixMulsSaid :=
  OpenClaim.holds_of_wide 10 Try.f10 rfl rfl rfl rfl rfl rfl rfl ⟨rfl, rfl, rfl, rfl, rfl⟩ rfl rfl rfl rfl rfl (by kernel_rfl) Try.func10 (by kernel_rfl)
    (of_decide_eq_true (by kernel_rfl)) (by unfold Func.isWrapper; first | (rw [if_pos (by decide +kernel)]; kernel_rfl) | (rw [if_neg (by decide +kernel)]; exact ⟨rfl, rfl⟩))
    (fun os started H enc _ => lifted os started H enc)
#print axioms proved
end Go.Proofs.Ytikhgdbbbingbaa.FixMuls
