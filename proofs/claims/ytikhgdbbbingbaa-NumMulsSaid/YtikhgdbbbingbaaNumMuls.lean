/- NumMuls: every two numbers' product is that of numbers without end, or is refused just if it doesn't fit. No conditions beyond the row's own. -/
import Derived.Test.YtikhgdbbbingbaaRows
import Derived.Test.YtikhgdbbbingbaaNumQuo
namespace Go.Proofs.Ytikhgdbbbingbaa.NumMuls
open Go Go.RowKit Go.Proofs.Ytikhgdbbbingbaa.Bg Go.Proofs.Ytikhgdbbbingbaa.Dg Go.ChangeShapes Go.WideShapes Go.ChangeAt
set_option linter.unusedVariables false

set_option maxHeartbeats 2000000 in
theorem walk (a b : Int) (W : World) (ha : fits a) (hb : fits b) :
    Calls Try.prog 6 #[.int .i64 a, .int .i64 b] W fun e w' => e = .returned (.bool true) ∧ Below W.heap.size W w' := by
  have HM := Lib.hid (fun w => mul_any a b w ha hb)
  rw [show mulDiv a b 1 = fitted (a * b) by unfold mulDiv flr; rw [if_neg (by decide), if_pos (by decide), Int.ediv_one]] at HM
  have HO := Lib.hid (fun a w1 (ha : I64 a) => of_any a w1 ha.1 ha.2)
  have HMB := Lib.hid (fun w u v (hu : Is w u a) (hv : Is w v b) => mulB_any u v a b w hu hv (sm_i64 ha) (sm_i64 hb) (md_mul ha hb).sm)
  have HI1 := Lib.hid (fun w v (h : Is w v (a * b)) => is_any (a * b) v w h (md_mul ha hb).sm)
  have HA0 := Lib.hid (show I64 a from ha)
  have HB0 := Lib.hid (show I64 b from hb)
  obtain ⟨p, hp⟩ : ∃ p, a * b = p := ⟨_, rfl⟩
  rw [hp] at HM HMB HI1
  obtain ⟨r, hr⟩ : ∃ r, fitted p = r := ⟨_, rfl⟩
  rw [hr] at HM HI1
  clear hr hp ha hb
  go_enter Try.func6, Try.ntmps6
  go_wp2_with fail
  refine (HM.out _).mono ?_
  rintro e w1 ⟨rfl, hbl⟩
  have B1 := Lib.hid (show Below W.heap.size W w1 from hbl)
  clear hbl
  go_wp2_with fail
  refine (HO.out _ _ HA0.out).mono ?_
  rintro e w2 ⟨r2, rfl, hi, hbl⟩
  have B2 := Lib.hid (show Below W.heap.size W w2 from (B1.out.trans (hbl.mono B1.out.size)))
  have R1 := Lib.hid hi
  clear hi hbl
  go_wp2_with fail
  refine (HO.out _ _ HB0.out).mono ?_
  rintro e w3 ⟨r3, rfl, hi, hbl⟩
  have B3 := Lib.hid (show Below W.heap.size W w3 from (B2.out.trans (hbl.mono B2.out.size)))
  have R1 := Lib.hid (R1.out.below hbl)
  have R2 := Lib.hid hi
  clear hi hbl
  go_wp2_with fail
  refine (HMB.out _ _ _ R1.out R2.out).mono ?_
  rintro e w4 ⟨r4, rfl, hi, hbl⟩
  have B4 := Lib.hid (show Below W.heap.size W w4 from (B3.out.trans (hbl.mono B3.out.size)))
  have R1 := Lib.hid (R1.out.below hbl)
  have R2 := Lib.hid (R2.out.below hbl)
  have R3 := Lib.hid hi
  clear hi hbl
  go_wp2_with fail
  refine (HI1.out _ _ R3.out).mono ?_
  rintro e w5 ⟨rfl, hbl⟩
  have B5 := Lib.hid (show Below W.heap.size W w5 from (B4.out.trans (hbl.mono B4.out.size)))
  have R1 := Lib.hid (R1.out.below hbl)
  have R2 := Lib.hid (R2.out.below hbl)
  have R3 := Lib.hid (R3.out.below hbl)
  clear hbl
  go_wp2_with fail
  refine (awake1_any _).mono ?_
  rintro e w6 ⟨rfl, hbl⟩
  have B6 := Lib.hid (show Below W.heap.size W w6 from (B5.out.trans (hbl.mono B5.out.size)))
  have R1 := Lib.hid (R1.out.below hbl)
  have R2 := Lib.hid (R2.out.below hbl)
  have R3 := Lib.hid (R3.out.below hbl)
  clear hbl
  go_wp2
  go_ret
  exact ⟨rfl, B6.out⟩

set_option maxRecDepth 100000 in
theorem lifted (os : Os) (started : os.Started) (H : Type) (enc : TypeId × Value → H) :
    ReturnsInHanded {} Try.checked os 6 .any (Rows.numMulsSpec.pre6 enc Try.prog Try.f6 Rows.numMulsRow.domain false) (Rows.numMulsSpec.post enc Try.prog Try.f6 false true false false) := by
  refine returnsInHanded_of_change (C := Try.checked) own started (by kernel_rfl) Try.func6
    (ChangeSpec.witness6 (enc := enc) (C := Try.checked) false ⟨#[], #[.int .i64 0, .int .i64 0], []⟩ 8 (by kernel_rfl) (by kernel_rfl) (by kernel_rfl) (by kernel_rfl)) ?_
  intro W base args ds gs before hval0 hW hcnd _
  have hval : ∀ (j : Nat) t v, Try.f6.params[j]? = some t → args[j]? = some v → Value.okWide Try.prog W .any base t v := hval0
  have hW' := hW
  obtain ⟨p, q, hA0, hV, rfl, hfz, hnd⟩ := hW
  have hA : DataW.TrodAll enc Try.prog W 0 (fun _ => true) true Try.f6.params.toList args.toList ds p := hA0
  rw [Try.params6] at hA hval
  obtain ⟨v0, vs0, d0, ds0, p0, q0, hargs, rfl, rfl, h0, r0⟩ := trodAll_cons hA
  obtain ⟨v1, vs1, d1, ds1, p1, q1, rfl, rfl, rfl, h1, r1⟩ := trodAll_cons r0
  obtain ⟨rfl, rfl, rfl⟩ := trodAll_nil r1
  obtain rfl : args = #[v0, v1] := by cases args; simp_all
  obtain ⟨rfl, rfl⟩ := trodVars_none hV
  obtain ⟨a0, rfl, rfl, rfl, w0⟩ := open_int Try.underlying2 (hval 0 2 v0 rfl rfl) h0
  obtain ⟨a1, rfl, rfl, rfl, w1⟩ := open_int Try.underlying2 (hval 1 2 v1 rfl rfl) h1
  clear hA0 hval0
  simp only [List.append_nil] at hW'
  refine (walk a0 a1  W (fits_of w0) (fits_of w1)).mono fun e W' ⟨he, hb⟩ => ?_
  subst he
  refine ⟨_, rfl, _, _, _, [], [], [], hW', ?_, ?_, ?_, hb.frame _, fun h => by cases h⟩
  · exact trodAll_cons_mk (shut_bool Try.underlying4 _) trodAll_mk0
  · exact (trodAll_cons_mk (shut_int Try.underlying2 w0) (trodAll_cons_mk (shut_int Try.underlying2 w1) trodAll_mk0))
  · rfl

theorem proved : Rows.NumMulsSaid :=
  OpenClaim.holds_of_wide 6 Try.f6 rfl rfl rfl rfl rfl rfl rfl ⟨rfl, rfl, rfl, rfl, rfl⟩ rfl rfl rfl rfl rfl (by kernel_rfl) Try.func6 (by kernel_rfl)
    (of_decide_eq_true (by kernel_rfl)) (by unfold Func.isWrapper; first | (rw [if_pos (by decide +kernel)]; kernel_rfl) | (rw [if_neg (by decide +kernel)]; exact ⟨rfl, rfl⟩))
    (fun os started H enc _ => lifted os started H enc)
#print axioms proved
end Go.Proofs.Ytikhgdbbbingbaa.NumMuls
