/- NumScales: every product by a number is the true one rounded down, however great the product is, or is refused just as the document says. No conditions beyond the row's own. -/
import Derived.Test.YtikhgdbbbingbaaRows
import Derived.Test.YtikhgdbbbingbaaNumQuo
namespace Go.Proofs.Ytikhgdbbbingbaa.NumScales
open Go Go.RowKit Go.Proofs.Ytikhgdbbbingbaa.Bg Go.Proofs.Ytikhgdbbbingbaa.Dg Go.ChangeShapes Go.WideShapes Go.ChangeAt
set_option linter.unusedVariables false

set_option maxHeartbeats 2000000 in
theorem walk (a b c : Int) (W : World) (ha : fits a) (hb : fits b) (hc : fits c) :
    Calls Try.prog 5 #[.int .i64 a, .int .i64 b, .int .i64 c] W fun e w' => e = .returned (.bool true) ∧ Below W.heap.size W w' := by
  have HM := Lib.hid (fun w => mulDiv_any a b c w ha hb hc)
  rw [show mulDiv a b c = quoS (a * b) c from rfl] at HM
  have HO := Lib.hid (fun a w1 (ha : I64 a) => of_any a w1 ha.1 ha.2)
  have HMB := Lib.hid (fun w u v (hu : Is w u a) (hv : Is w v b) => mulB_any u v a b w hu hv (sm_i64 ha) (sm_i64 hb) (md_mul ha hb).sm)
  have HQ := Lib.hid (fun w u v (hu : Is w u (a * b)) (hv : Is w v c) => quo_any (a * b) c u v w hu hv (md_mul ha hb) hc)
  have HA0 := Lib.hid (show I64 a from ha)
  have HB0 := Lib.hid (show I64 b from hb)
  have HC0 := Lib.hid (show I64 c from hc)
  obtain ⟨p, hp⟩ : ∃ p, a * b = p := ⟨_, rfl⟩
  rw [hp] at HM HMB HQ
  obtain ⟨r, hr⟩ : ∃ r, quoS p c = r := ⟨_, rfl⟩
  rw [hr] at HM HQ
  clear hr hp ha hb hc
  go_enter Try.func5, Try.ntmps5
  go_wp2_with fail
  refine (HM.out _).mono ?_
  rintro e w1 ⟨rfl, hbl⟩
  have B1 := Lib.hid (show Below W.heap.size W w1 from hbl)
  clear hbl
  go_wp2_with fail
  refine (HO.out _ _ HA0.out).mono ?_
  rintro e w2 ⟨r2, rfl, hi, hbl⟩
  have B2 := Lib.hid (show Below W.heap.size W w2 from (B1.out.trans (hbl.mono B1.out.size)))
  have R1 := Lib.hid hi
  clear hi hbl
  go_wp2_with fail
  refine (HO.out _ _ HB0.out).mono ?_
  rintro e w3 ⟨r3, rfl, hi, hbl⟩
  have B3 := Lib.hid (show Below W.heap.size W w3 from (B2.out.trans (hbl.mono B2.out.size)))
  have R1 := Lib.hid (R1.out.below hbl)
  have R2 := Lib.hid hi
  clear hi hbl
  go_wp2_with fail
  refine (HMB.out _ _ _ R1.out R2.out).mono ?_
  rintro e w4 ⟨r4, rfl, hi, hbl⟩
  have B4 := Lib.hid (show Below W.heap.size W w4 from (B3.out.trans (hbl.mono B3.out.size)))
  have R1 := Lib.hid (R1.out.below hbl)
  have R2 := Lib.hid (R2.out.below hbl)
  have R3 := Lib.hid hi
  clear hi hbl
  go_wp2_with fail
  refine (HO.out _ _ HC0.out).mono ?_
  rintro e w5 ⟨r5, rfl, hi, hbl⟩
  have B5 := Lib.hid (show Below W.heap.size W w5 from (B4.out.trans (hbl.mono B4.out.size)))
  have R1 := Lib.hid (R1.out.below hbl)
  have R2 := Lib.hid (R2.out.below hbl)
  have R3 := Lib.hid (R3.out.below hbl)
  have R4 := Lib.hid hi
  clear hi hbl
  go_wp2_with fail
  refine (HQ.out _ _ _ R3.out R4.out).mono ?_
  rintro e w6 ⟨rfl, hbl⟩
  have B6 := Lib.hid (show Below W.heap.size W w6 from (B5.out.trans (hbl.mono B5.out.size)))
  have R1 := Lib.hid (R1.out.below hbl)
  have R2 := Lib.hid (R2.out.below hbl)
  have R3 := Lib.hid (R3.out.below hbl)
  have R4 := Lib.hid (R4.out.below hbl)
  clear hbl
  go_wp2_with fail
  refine (awake1_any _).mono ?_
  rintro e w7 ⟨rfl, hbl⟩
  have B7 := Lib.hid (show Below W.heap.size W w7 from (B6.out.trans (hbl.mono B6.out.size)))
  have R1 := Lib.hid (R1.out.below hbl)
  have R2 := Lib.hid (R2.out.below hbl)
  have R3 := Lib.hid (R3.out.below hbl)
  have R4 := Lib.hid (R4.out.below hbl)
  clear hbl
  go_wp2
  go_ret
  exact ⟨rfl, B7.out⟩

set_option maxRecDepth 100000 in
theorem lifted (os : Os) (started : os.Started) (H : Type) (enc : TypeId × Value → H) :
    ReturnsInHanded {} Try.checked os 5 .any (Rows.numScalesSpec.pre6 enc Try.prog Try.f5 Rows.numScalesRow.domain false) (Rows.numScalesSpec.post enc Try.prog Try.f5 false true false false) := by
  refine returnsInHanded_of_change (C := Try.checked) own started (by kernel_rfl) Try.func5
    (ChangeSpec.witness6 (enc := enc) (C := Try.checked) false ⟨#[], #[.int .i64 0, .int .i64 0, .int .i64 0], []⟩ 8 (by kernel_rfl) (by kernel_rfl) (by kernel_rfl) (by kernel_rfl)) ?_
  intro W base args ds gs before hval0 hW hcnd _
  have hval : ∀ (j : Nat) t v, Try.f5.params[j]? = some t → args[j]? = some v → Value.okWide Try.prog W .any base t v := hval0
  have hW' := hW
  obtain ⟨p, q, hA0, hV, rfl, hfz, hnd⟩ := hW
  have hA : DataW.TrodAll enc Try.prog W 0 (fun _ => true) true Try.f5.params.toList args.toList ds p := hA0
  rw [Try.params5] at hA hval
  obtain ⟨v0, vs0, d0, ds0, p0, q0, hargs, rfl, rfl, h0, r0⟩ := trodAll_cons hA
  obtain ⟨v1, vs1, d1, ds1, p1, q1, rfl, rfl, rfl, h1, r1⟩ := trodAll_cons r0
  obtain ⟨v2, vs2, d2, ds2, p2, q2, rfl, rfl, rfl, h2, r2⟩ := trodAll_cons r1
  obtain ⟨rfl, rfl, rfl⟩ := trodAll_nil r2
  obtain rfl : args = #[v0, v1, v2] := by cases args; simp_all
  obtain ⟨rfl, rfl⟩ := trodVars_none hV
  obtain ⟨a0, rfl, rfl, rfl, w0⟩ := open_int Try.underlying2 (hval 0 2 v0 rfl rfl) h0
  obtain ⟨a1, rfl, rfl, rfl, w1⟩ := open_int Try.underlying2 (hval 1 2 v1 rfl rfl) h1
  obtain ⟨a2, rfl, rfl, rfl, w2⟩ := open_int Try.underlying2 (hval 2 2 v2 rfl rfl) h2
  clear hA0 hval0
  simp only [List.append_nil] at hW'
  refine (walk a0 a1 a2  W (fits_of w0) (fits_of w1) (fits_of w2)).mono fun e W' ⟨he, hb⟩ => ?_
  subst he
  refine ⟨_, rfl, _, _, _, [], [], [], hW', ?_, ?_, ?_, hb.frame _, fun h => by cases h⟩
  · exact trodAll_cons_mk (shut_bool Try.underlying4 _) trodAll_mk0
  · exact (trodAll_cons_mk (shut_int Try.underlying2 w0) (trodAll_cons_mk (shut_int Try.underlying2 w1) (trodAll_cons_mk (shut_int Try.underlying2 w2) trodAll_mk0)))
  · rfl

theorem proved : Rows.NumScalesSaid :=
  OpenClaim.holds_of_wide 5 Try.f5 rfl rfl rfl rfl rfl rfl rfl ⟨rfl, rfl, rfl, rfl, rfl⟩ rfl rfl rfl rfl rfl (by kernel_rfl) Try.func5 (by kernel_rfl)
    (of_decide_eq_true (by kernel_rfl)) (by unfold Func.isWrapper; first | (rw [if_pos (by decide +kernel)]; kernel_rfl) | (rw [if_neg (by decide +kernel)]; exact ⟨rfl, rfl⟩))
    (fun os started H enc _ => lifted os started H enc)
#print axioms proved
end Go.Proofs.Ytikhgdbbbingbaa.NumScales
