/- FixParts: every number is its whole part's wholes and the rest, which is from nothing on and below one. No conditions beyond the row's own. -/
import Derived.Test.YtikhgdbbbingbaaRows
import Derived.Test.YtikhgdbbbingbaaFixQuo
namespace Go.Proofs.Ytikhgdbbbingbaa.FixParts
open Go Go.RowKit Go.Proofs.Ytikhgdbbbingbaa.Rt Go.Proofs.Ytikhgdbbbingbaa.Bg Go.Proofs.Ytikhgdbbbingbaa.Dg Go.ChangeShapes Go.WideShapes Go.ChangeAt
set_option linter.unusedVariables false

set_option maxRecDepth 100000 in
set_option maxHeartbeats 4000000 in
theorem walk (a : Int) (W : World) (ha : fits a) :
    Calls Try.prog 12 #[.int .i64 a] W fun e w' => e = .returned (.bool true) ∧ Below W.heap.size W w' := by
  have HW := Lib.hid (fun w => whole_any a w ha)
  have HQ := Lib.hid (fun w => part_any a w ha)
  have HO := Lib.hid (fun a w1 (ha : I64 a) => of_any a w1 ha.1 ha.2)
  have hw0 : fits (a / 65536) := by unfold fits at *; omega
  have hq0 : fits (a % 65536) := by unfold fits at *; omega
  have HW0 := Lib.hid (show I64 (a / 65536) from hw0)
  have HQ0 := Lib.hid (show I64 (a % 65536) from hq0)
  have HC0 := Lib.hid (show I64 65536 from ⟨by omega, by omega⟩)
  have HMB := Lib.hid (fun w u v (hu : Is w u (a / 65536)) (hv : Is w v 65536) => mulB_any u v (a / 65536) 65536 w hu hv (sm_i64 hw0) (by unfold Sm; omega) (by unfold fits at ha; unfold Sm; omega))
  have HAD := Lib.hid (fun w u v (hu : Is w u (a / 65536 * 65536)) (hv : Is w v (a % 65536)) => addB_any u v (a / 65536 * 65536) (a % 65536) w hu hv (by unfold fits at ha; unfold Sm; omega) (by unfold fits at ha; unfold Sm; omega))
  rw [show a / 65536 * 65536 + a % 65536 = a by omega] at HAD
  have HIS := Lib.hid (fun w v (hv : Is w v a) => isB_any v a a w hv (sm_i64 ha) ha)
  rw [cmp_self, show decide ((0 : Int) = 0) = true from rfl] at HIS
  have p0 : 0 ≤ a % 65536 := by omega
  have p1 : a % 65536 < 65536 := by omega
  obtain ⟨x, hx⟩ : ∃ x, a / 65536 = x := ⟨_, rfl⟩
  obtain ⟨y, hy⟩ : ∃ x, a % 65536 = x := ⟨_, rfl⟩
  rw [hx] at HW HW0 HMB HAD
  rw [hy] at HQ HQ0 HAD p0 p1
  obtain ⟨z, hz⟩ : ∃ z, x * 65536 = z := ⟨_, rfl⟩
  rw [hz] at HMB HAD
  clear hx hy hz hw0 hq0 ha
  go_enter Try.func12, Try.ntmps12
  go_wp2_with fail
  refine (HW.out _).mono ?_
  rintro e w' ⟨rfl, rfl⟩
  go_wp2_with fail
  refine (HQ.out _).mono ?_
  rintro e w' ⟨rfl, rfl⟩
  go_wp2_with fail
  refine (HO.out _ _ HW0.out).mono ?_
  rintro e w1 ⟨r1, rfl, hi, hbl⟩
  have B1 := Lib.hid (show Below W.heap.size W w1 from hbl)
  have R1 := Lib.hid hi
  clear hi hbl
  go_wp2_with fail
  refine (HO.out _ _ HC0.out).mono ?_
  rintro e w2 ⟨r2, rfl, hi, hbl⟩
  have B2 := Lib.hid (show Below W.heap.size W w2 from (B1.out.trans (hbl.mono B1.out.size)))
  have R1 := Lib.hid (R1.out.below hbl)
  have R2 := Lib.hid hi
  clear hi hbl
  go_wp2_with fail
  refine (HMB.out _ _ _ R1.out R2.out).mono ?_
  rintro e w3 ⟨r3, rfl, hi, hbl⟩
  have B3 := Lib.hid (show Below W.heap.size W w3 from (B2.out.trans (hbl.mono B2.out.size)))
  have R1 := Lib.hid (R1.out.below hbl)
  have R2 := Lib.hid (R2.out.below hbl)
  have R3 := Lib.hid hi
  clear hi hbl
  go_wp2_with fail
  refine (HO.out _ _ HQ0.out).mono ?_
  rintro e w4 ⟨r4, rfl, hi, hbl⟩
  have B4 := Lib.hid (show Below W.heap.size W w4 from (B3.out.trans (hbl.mono B3.out.size)))
  have R3 := Lib.hid (R3.out.below hbl)
  have R4 := Lib.hid hi
  clear hi hbl
  go_wp2_with fail
  refine (HAD.out _ _ _ R3.out R4.out).mono ?_
  rintro e w5 ⟨r5, rfl, hi, hbl⟩
  have B5 := Lib.hid (show Below W.heap.size W w5 from (B4.out.trans (hbl.mono B4.out.size)))
  have R3 := Lib.hid (R3.out.below hbl)
  have R4 := Lib.hid (R4.out.below hbl)
  have R5 := Lib.hid hi
  clear hi hbl
  obtain ⟨sa, scp, rfl, -⟩ := R5.out.form
  obtain ⟨bd, hbd⟩ : ∃ b, decide (a < 0) = b := ⟨_, rfl⟩
  obtain ⟨ld, hld⟩ : ∃ b, (canon a.natAbs).length = b := ⟨_, rfl⟩
  rw [hbd, hld] at R5 ⊢
  clear hbd hld
  go_upto_region 3 with fail
  have BX := Lib.hid (box_new w5 bd (.slice sa ld scp))
  have BW := Lib.hid (B5.out.alloc B5.out.size (.cells #[.bool bd, .slice sa ld scp] 29))
  obtain ⟨V, hV⟩ : ∃ V, w5.alloc (.cells #[.bool bd, .slice sa ld scp] 29) = V := ⟨_, rfl⟩
  have R5v := Lib.hid (R5.out.below (show Below w5.heap.size w5 V by rw [← hV]; exact (Below.refl _ _).alloc (Nat.le_refl _) _))
  rw [hV] at BX BW ⊢
  clear hV
  obtain ⟨p, hp⟩ : ∃ p, w5.heap.size = p := ⟨_, rfl⟩
  rw [hp] at BX ⊢
  clear hp
  obtain ⟨x0, x1⟩ := BX.out
  go_wp2_with fail
  refine (HIS.out _ _ R5v.out).mono ?_
  rintro e w6 ⟨rfl, hbl⟩
  have B6 := Lib.hid (show Below W.heap.size W w6 from (BW.out.trans (hbl.mono BW.out.size)))
  clear hbl
  go_wp2_with fail
  refine (awake2_any _).mono ?_
  rintro e w7 ⟨rfl, hbl⟩
  have B7 := Lib.hid (show Below W.heap.size W w7 from (B6.out.trans (hbl.mono B6.out.size)))
  clear hbl
  go_wp2
  go_ret
  exact ⟨rfl, B7.out⟩

set_option maxRecDepth 100000 in
theorem lifted (os : Os) (started : os.Started) (H : Type) (enc : TypeId × Value → H) :
    ReturnsInHanded {} Try.checked os 12 .any (Rows.fixPartsSpec.pre6 enc Try.prog Try.f12 Rows.fixPartsRow.domain false) (Rows.fixPartsSpec.post enc Try.prog Try.f12 false true false false) := by
  refine returnsInHanded_of_change (C := Try.checked) own started (by kernel_rfl) Try.func12
    (ChangeSpec.witness6 (enc := enc) (C := Try.checked) false ⟨#[], #[.int .i64 0], []⟩ 8 (by kernel_rfl) (by kernel_rfl) (by kernel_rfl) (by kernel_rfl)) ?_
  intro W base args ds gs before hval0 hW hcnd _
  have hval : ∀ (j : Nat) t v, Try.f12.params[j]? = some t → args[j]? = some v → Value.okWide Try.prog W .any base t v := hval0
  have hW' := hW
  obtain ⟨p, q, hA0, hV, rfl, hfz, hnd⟩ := hW
  have hA : DataW.TrodAll enc Try.prog W 0 (fun _ => true) true Try.f12.params.toList args.toList ds p := hA0
  rw [Try.params12] at hA hval
  obtain ⟨v0, vs0, d0, ds0, p0, q0, hargs, rfl, rfl, h0, r0⟩ := trodAll_cons hA
  obtain ⟨rfl, rfl, rfl⟩ := trodAll_nil r0
  obtain rfl : args = #[v0] := by cases args; simp_all
  obtain ⟨rfl, rfl⟩ := trodVars_none hV
  obtain ⟨a0, rfl, rfl, rfl, w0⟩ := open_int Try.underlying2 (hval 0 2 v0 rfl rfl) h0
  clear hA0 hval0
  simp only [List.append_nil] at hW'
  refine (walk a0  W (fits_of w0)).mono fun e W' ⟨he, hb⟩ => ?_
  subst he
  refine ⟨_, rfl, _, _, _, [], [], [], hW', ?_, ?_, ?_, hb.frame _, fun h => by cases h⟩
  · exact trodAll_cons_mk (shut_bool Try.underlying4 _) trodAll_mk0
  · exact (trodAll_cons_mk (shut_int Try.underlying2 w0) trodAll_mk0)
  · rfl

theorem proved : Rows.FixPartsSaid :=
  OpenClaim.holds_of_wide 12 Try.f12 rfl rfl rfl rfl rfl rfl rfl ⟨rfl, rfl, rfl, rfl, rfl⟩ rfl rfl rfl rfl rfl (by kernel_rfl) Try.func12 (by kernel_rfl)
    (of_decide_eq_true (by kernel_rfl)) (by unfold Func.isWrapper; first | (rw [if_pos (by decide +kernel)]; kernel_rfl) | (rw [if_neg (by decide +kernel)]; exact ⟨rfl, rfl⟩))
    (fun os started H enc _ => lifted os started H enc)
#print axioms proved
end Go.Proofs.Ytikhgdbbbingbaa.FixParts
