/- TrigVecs: every way of a length, in a direction, is the document's, rounded down once, or it is refused. No conditions beyond the row's own: the listed tables read as the program's text lays them. -/
import Derived.Test.YtikhgdbbbingbaaDoorTrigLaid
import Derived.Test.YtikhgdbbbingbaaDoorBigI
import Derived.Test.YtikhgdbbbingbaaDoorFix
import Derived.Test.YtikhgdbbbingbaaDoorCards
import Derived.Test.YtikhgdbbbingbaaDoorTie
import Derived.SevenTiedAt
namespace Go.Proofs.YtikhgdbbbingbaaDoor.TrigVecs
open Go Go.RowKit Go.ChangeShapes Go.WideShapes Go.ChangeAt Go.Proofs.YtikhgdbbbingbaaDoor.Tg Go.Proofs.YtikhgdbbbingbaaDoor.Bg Go.Proofs.YtikhgdbbbingbaaDoor.Dg
set_option linter.unusedVariables false
set_option linter.unusedSimpArgs false


/-- the way along an angle: each part rounded down -/
def vecS (a n : Int) : Int × Int × Int := if farB n = true then (0, 0, 8) else (n * Tr.cosA a / 65536, n * Tr.sinA a / 65536, 0)
theorem mul_in {a b : Int} {A B : Nat} (ha : -(A : Int) ≤ a ∧ a ≤ A) (hb : -(B : Int) ≤ b ∧ b ≤ B) : -((A * B : Nat) : Int) ≤ a * b ∧ a * b ≤ (A * B : Nat) := by
  have h : (a * b).natAbs ≤ A * B := by rw [Int.natAbs_mul]; exact Nat.mul_le_mul (by omega) (by omega)
  omega
theorem mulDiv_one (n c : Int) (hn : -1073741824 ≤ n ∧ n ≤ 1073741824) (hc : -65536 ≤ c ∧ c ≤ 65536) : mulDiv n c 65536 = (n * c / 65536, 0) := by
  have hm := mul_in (a := n) (b := c) (A := 1073741824) (B := 65536) (by omega) (by omega)
  unfold mulDiv
  rw [if_neg (by decide)]
  unfold flr
  rw [if_pos (by decide)]
  exact fitted_in (by unfold fits; omega)
theorem floor_one (n c : Int) (hn : -1073741824 ≤ n ∧ n ≤ 1073741824) (hc : -65536 ≤ c ∧ c ≤ 65536) : floorS (n * c) = (n * c / 65536, true) := by
  have hm := mul_in (a := n) (b := c) (A := 1073741824) (B := 65536) (by omega) (by omega)
  unfold floorS
  rw [if_pos (by unfold I64; omega)]

set_option maxHeartbeats 1000000 in
theorem vec_any (a n : Int) (w : World) (ht : Tab w) : Calls Tryd.prog 22 #[.int .i64 a, .int .i64 n] w fun e w' => e = .returned (.tuple #[.int .i64 (vecS a n).1, .int .i64 (vecS a n).2.1, .int .i64 (vecS a n).2.2]) ∧ Below w.heap.size w w' := by
  unfold vecS
  have HF := Lib.hid (far_any n)
  by_cases h1 : farB n = true
  · rw [if_pos h1]
    go_enter Tryd.func22, Tryd.ntmps22
    go_wp2_with (first | (go_at_call 27; refine (HF.out _).mono ?_; rintro e w' ⟨rfl, rfl⟩))
    go_ret3
    exact ⟨rfl, Below.refl _ _⟩
  · rw [if_neg h1]
    have h1' : farB n = false := by simpa using h1
    have hn := farB_false h1'
    have hcb := Tr.cosA_bound a
    have hsb := Tr.sinA_bound a
    have HC := Lib.hid (fun w ht => cos_any a w ht)
    have HS := Lib.hid (fun w ht => sin_any a w ht)
    have HM := Lib.hid (fun w (c : Int) (hc : -65536 ≤ c ∧ c ≤ 65536) => fmul_any n c w (by unfold fits; omega) (by unfold fits; omega))
    have hq := mulDiv_one n _ hn hcb
    have hq' := mulDiv_one n _ hn hsb
    have HT := Lib.hid ht
    obtain ⟨c, hc⟩ : ∃ c, Tr.cosA a = c := ⟨_, rfl⟩
    obtain ⟨s, hs⟩ : ∃ c, Tr.sinA a = c := ⟨_, rfl⟩
    rw [hc] at HC hcb hq ⊢
    rw [hs] at HS hsb hq' ⊢
    have HMC := Lib.hid (fun w => HM.out w c hcb)
    have HMS := Lib.hid (fun w => HM.out w s hsb)
    rw [hq] at HMC
    rw [hq'] at HMS
    obtain ⟨x, hx⟩ : ∃ x, n * c / 65536 = x := ⟨_, rfl⟩
    obtain ⟨y, hy⟩ : ∃ x, n * s / 65536 = x := ⟨_, rfl⟩
    rw [hx] at HMC ⊢
    rw [hy] at HMS ⊢
    clear hq hq' hx hy hc hs HM hcb hsb hn ht h1
    go_enter Tryd.func22, Tryd.ntmps22
    go_wp2_with (first
      | (go_at_call 27; refine (HF.out _).mono ?_; rintro e w' ⟨rfl, rfl⟩)
      | (go_at_call 14; refine (HC.out _ HT.out).mono ?_; rintro e w' ⟨rfl, rfl⟩))
    refine (HMC.out _).mono ?_
    rintro e w1 ⟨rfl, hb⟩
    have HT1 := Lib.hid (HT.out.below hb)
    have B1 := Lib.hid hb
    clear hb
    go_wp2_with (first
      | (go_at_call 12; refine (HS.out _ HT1.out).mono ?_; rintro e w' ⟨rfl, rfl⟩))
    refine (HMS.out _).mono ?_
    rintro e w2 ⟨rfl, hb⟩
    have B2 := Lib.hid (B1.out.trans (hb.mono B1.out.size))
    clear hb
    go_wp2
    go_ret3
    exact ⟨rfl, B2.out⟩

set_option maxHeartbeats 4000000 in
set_option maxRecDepth 100000 in
theorem walk (a n : Int) (wa : (Lit.int .i64 a).wf = true) (wn : (Lit.int .i64 n).wf = true) (W : World) (hT : Tab W ∧ TabR W) :
    Calls Tryd.prog 9 #[.int .i64 a, .int .i64 n] W fun e w' => e = .returned (.bool true) ∧ Below W.heap.size W w' := by
  have HV := Lib.hid (fun w ht => vec_any a n w ht)
  have HF := Lib.hid (lfar_any n)
  have HA := Lib.hid (fun w ht => awake_any w ht)
  have HT := Lib.hid hT
  unfold vecS at HV
  by_cases h1 : farB n = true
  · rw [if_pos h1] at HV
    clear hT
    go_enter Tryd.func9, Tryd.ntmps9
    go_wp2_with fail
    refine (HV.out _ HT.out.1).mono ?_
    rintro e w1 ⟨rfl, hb⟩
    have B1 := Lib.hid hb
    have HT1 := Lib.hid (HT.out.1.below hb)
    clear hb
    go_wp2_with (first
      | (go_at_call 18; refine (HF.out _).mono ?_; rintro e w' ⟨rfl, rfl⟩))
    refine (HA.out _ HT1.out).mono ?_
    rintro e w2 ⟨rfl, hb⟩
    have B2 := Lib.hid (B1.out.trans (hb.mono B1.out.size))
    clear hb
    go_wp2
    go_ret
    exact ⟨rfl, B2.out⟩
  · rw [if_neg h1] at HV
    have h1' : farB n = false := by simpa using h1
    have hn := farB_false h1'
    have hcb := Tr.cosA_bound a
    have hsb := Tr.sinA_bound a
    have HN := Lib.hid (show I64 n by unfold I64; omega)
    have HC := Lib.hid (fun w ht => rcos_any a w ht)
    have HS := Lib.hid (fun w ht => rsin_any a w ht)
    have fc := floor_one n _ hn hcb
    have fs := floor_one n _ hn hsb
    have HO := Lib.hid (fun a w1 (ha : I64 a) => of_any a w1 ha.1 ha.2)
    obtain ⟨c, hc⟩ : ∃ c, Tr.cosA a = c := ⟨_, rfl⟩
    obtain ⟨s, hs⟩ : ∃ c, Tr.sinA a = c := ⟨_, rfl⟩
    rw [hc] at HC hcb fc HV
    rw [hs] at HS hsb fs HV
    have HIC := Lib.hid (show I64 c by unfold I64; omega)
    have HIS := Lib.hid (show I64 s by unfold I64; omega)
    have HMC := Lib.hid (fun w u v (hu : Is w u n) (hv : Is w v c) => mulB_any u v n c w hu hv (sm_i64 HN.out) (sm_i64 HIC.out) (md_mul HN.out HIC.out).sm)
    have HMS := Lib.hid (fun w u v (hu : Is w u n) (hv : Is w v s) => mulB_any u v n s w hu hv (sm_i64 HN.out) (sm_i64 HIS.out) (md_mul HN.out HIS.out).sm)
    have HFC := Lib.hid (fun w u (hu : Is w u (n * c)) => floor2_any u (n * c) w hu (md_mul HN.out HIC.out).sm)
    have HFS := Lib.hid (fun w u (hu : Is w u (n * s)) => floor2_any u (n * s) w hu (md_mul HN.out HIS.out).sm)
    unfold FloorPost at HFC HFS
    rw [fc] at HFC
    rw [fs] at HFS
    obtain ⟨x, hx⟩ : ∃ x, n * c / 65536 = x := ⟨_, rfl⟩
    obtain ⟨y, hy⟩ : ∃ x, n * s / 65536 = x := ⟨_, rfl⟩
    obtain ⟨z, hz⟩ : ∃ x, n * c = x := ⟨_, rfl⟩
    obtain ⟨z', hz'⟩ : ∃ x, n * s = x := ⟨_, rfl⟩
    rw [hx] at HFC HV
    rw [hy] at HFS HV
    rw [hz] at HMC HFC
    rw [hz'] at HMS HFS
    clear fc fs hx hy hz hz' hc hs hcb hsb hn h1 hT
    go_enter Tryd.func9, Tryd.ntmps9
    go_wp2_with fail
    refine (HV.out _ HT.out.1).mono ?_
    rintro e w1 ⟨rfl, hb⟩
    have B1 := Lib.hid hb
    clear hb
    go_wp2_with (first
      | (go_at_call 18; refine (HF.out _).mono ?_; rintro e w' ⟨rfl, rfl⟩))
    go_wp2_with fail
    refine (HO.out _ _ HN.out).mono ?_
    rintro e w2 ⟨r2, rfl, hi, hb⟩
    have R2 := Lib.hid hi
    have B2 := Lib.hid (show Below W.heap.size W w2 from (B1.out.trans (hb.mono B1.out.size)))
    clear hi hb
    go_wp2_with fail
    refine (HC.out _ (HT.out.2.below B2.out)).mono ?_
    rintro e w3 ⟨rfl, kk, rfl⟩
    have hb := Go.Proofs.YtikhgdbbbingbaaDoor.Tg.below_drewN w2.heap.size w2 kk
    have B3 := Lib.hid (show Below W.heap.size W (w2.drewN kk) from (B2.out.trans (hb.mono B2.out.size)))
    replace R2 := Lib.hid (R2.out.below hb)
    clear hb
    generalize w2.drewN kk = w3 at *
    go_wp2_with fail
    refine (HO.out _ _ HIC.out).mono ?_
    rintro e w4 ⟨r4, rfl, hi, hb⟩
    have R4 := Lib.hid hi
    have B4 := Lib.hid (show Below W.heap.size W w4 from (B3.out.trans (hb.mono B3.out.size)))
    replace R2 := Lib.hid (R2.out.below hb)
    clear hi hb
    go_wp2_with fail
    refine (HMC.out _ _ _ R2.out R4.out).mono ?_
    rintro e w5 ⟨r5, rfl, hi, hb⟩
    have R5 := Lib.hid hi
    have B5 := Lib.hid (show Below W.heap.size W w5 from (B4.out.trans (hb.mono B4.out.size)))
    replace R2 := Lib.hid (R2.out.below hb)
    replace R4 := Lib.hid (R4.out.below hb)
    clear hi hb
    go_wp2_with fail
    refine (HFC.out _ _ R5.out).mono ?_
    rintro e w6 ⟨rfl, hb⟩
    have B6 := Lib.hid (show Below W.heap.size W w6 from (B5.out.trans (hb.mono B5.out.size)))
    replace R5 := Lib.hid (R5.out.below hb)
    clear hb
    go_wp2_with fail
    refine (HO.out _ _ HN.out).mono ?_
    rintro e w7 ⟨r7, rfl, hi, hb⟩
    have R7 := Lib.hid hi
    have B7 := Lib.hid (show Below W.heap.size W w7 from (B6.out.trans (hb.mono B6.out.size)))
    clear hi hb
    go_wp2_with fail
    refine (HS.out _ (HT.out.2.below B7.out)).mono ?_
    rintro e w8 ⟨rfl, kk, rfl⟩
    have hb := Go.Proofs.YtikhgdbbbingbaaDoor.Tg.below_drewN w7.heap.size w7 kk
    have B8 := Lib.hid (show Below W.heap.size W (w7.drewN kk) from (B7.out.trans (hb.mono B7.out.size)))
    replace R7 := Lib.hid (R7.out.below hb)
    clear hb
    generalize w7.drewN kk = w8 at *
    go_wp2_with fail
    refine (HO.out _ _ HIS.out).mono ?_
    rintro e w9 ⟨r9, rfl, hi, hb⟩
    have R9 := Lib.hid hi
    have B9 := Lib.hid (show Below W.heap.size W w9 from (B8.out.trans (hb.mono B8.out.size)))
    replace R7 := Lib.hid (R7.out.below hb)
    clear hi hb
    go_wp2_with fail
    refine (HMS.out _ _ _ R7.out R9.out).mono ?_
    rintro e w10 ⟨r10, rfl, hi, hb⟩
    have R10 := Lib.hid hi
    have B10 := Lib.hid (show Below W.heap.size W w10 from (B9.out.trans (hb.mono B9.out.size)))
    replace R7 := Lib.hid (R7.out.below hb)
    replace R9 := Lib.hid (R9.out.below hb)
    clear hi hb
    go_wp2_with fail
    refine (HFS.out _ _ R10.out).mono ?_
    rintro e w11 ⟨rfl, hb⟩
    have B11 := Lib.hid (show Below W.heap.size W w11 from (B10.out.trans (hb.mono B10.out.size)))
    replace R10 := Lib.hid (R10.out.below hb)
    clear hb
    go_wp2_with fail
    refine (HA.out _ (HT.out.1.below B11.out)).mono ?_
    rintro e w12 ⟨rfl, hb⟩
    have B12 := Lib.hid (show Below W.heap.size W w12 from (B11.out.trans (hb.mono B11.out.size)))
    clear hb
    go_wp2
    go_ret
    exact ⟨rfl, B12.out⟩

theorem door_met (os : Os) (args : Array Value) : laidMetH Tryd.prog laidQS ((World.doorLaid Tryd.prog 400 os).forCall (fun _ _ => 0) ⟨#[], args, []⟩).memory :=
  laidMetH_of_parts3 (fuel := 8) (laidMet_of_run' 8 (by kernel_rfl) (by kernel_rfl)) (by kernel_rfl) (by kernel_rfl)

set_option maxRecDepth 100000 in
theorem lifted (os : Os) (started : os.Started) (H : Type) (enc : TypeId × Value → H) :
    ReturnsInHanded {} Tryd.checked os 9 .any (fun w args => (Rows.trigVecsSpec.pre enc Tryd.prog Tryd.f9 [] false w args ∧ laidMetH Tryd.prog laidQS w) ∧ sizedMet enc Tryd.prog Tryd.f9 (OpenSpec.ofChange Rows.trigVecsSpec) false w args) (Rows.trigVecsSpec.post enc Tryd.prog Tryd.f9 false true false false) := by
  refine returnsInHanded_of_change_and (C := Tryd.checked) (X := fun w _ => laidMetH Tryd.prog laidQS w) (fun _ _ _ hh h => h.of_heap hh) own started (by kernel_rfl) Tryd.func9
    (ChangeSpec.witness_shaped (enc := enc) (C := Tryd.checked) (os := os) (X := fun w _ => laidMetH Tryd.prog laidQS w) false (World.doorLaid Tryd.prog 400 os) #[.int .i64 0, .int .i64 0] 8 rfl (World.shaped_of_RefB (by kernel_rfl) (by kernel_rfl)) (by kernel_rfl) (by kernel_rfl) (by kernel_rfl) (door_met os _)) ?_
  intro W base args ds gs before hval0 hW _ _ hL _
  have hval : ∀ (j : Nat) t v, Tryd.f9.params[j]? = some t → args[j]? = some v → Value.okWide Tryd.prog W .any base t v := hval0
  have hW' := hW
  obtain ⟨p, q, hA0, hV, rfl, hfz, hnd⟩ := hW
  have hA : DataW.TrodAll enc Tryd.prog W 0 (fun _ => true) true Tryd.f9.params.toList args.toList ds p := hA0
  rw [Tryd.params9] at hA hval
  obtain ⟨v0, vs0, d0, ds0, p0, q0, hargs, rfl, rfl, h0, r0⟩ := trodAll_cons hA
  obtain ⟨v1, vs1, d1, ds1, p1, q1, rfl, rfl, rfl, h1, r1⟩ := trodAll_cons r0
  obtain ⟨rfl, rfl, rfl⟩ := trodAll_nil r1
  obtain rfl : args = #[v0, v1] := by cases args; simp_all
  obtain ⟨rfl, rfl⟩ := trodVars_none hV
  obtain ⟨a0, rfl, rfl, rfl, w0⟩ := open_int Tryd.underlying2 (hval 0 2 v0 rfl rfl) h0
  obtain ⟨a1, rfl, rfl, rfl, w1⟩ := open_int Tryd.underlying2 (hval 1 2 v1 rfl rfl) h1
  clear hA0 hval0
  simp only [List.append_nil] at hW'
  refine (walk a0 a1 w0 w1 W (tabs_of_laid hL)).mono fun e W' ⟨he, hb⟩ => ?_
  subst he
  refine ⟨_, rfl, _, _, _, [], [], [], hW', ?_, ?_, ?_, hb.frame _, fun h => by cases h⟩
  · exact trodAll_cons_mk (shut_bool Tryd.underlying4 _) trodAll_mk0
  · exact (trodAll_cons_mk (shut_int Tryd.underlying2 w0) (trodAll_cons_mk (shut_int Tryd.underlying2 w1) trodAll_mk0))
  · rfl

theorem proved : Rows.TrigVecsSaid :=
  OpenClaim.holds_of_wide 9 Tryd.f9 rfl rfl rfl rfl rfl rfl rfl ⟨rfl, rfl, rfl, rfl, rfl⟩ rfl rfl rfl rfl rfl (by kernel_rfl) Tryd.func9 (by kernel_rfl)
    (of_decide_eq_true (by kernel_rfl)) (by unfold Func.isWrapper; first | (rw [if_pos (by decide +kernel)]; kernel_rfl) | (rw [if_neg (by decide +kernel)]; exact ⟨rfl, rfl⟩))
    (fun os started H enc _ => lifted os started H enc)

theorem card_proved : Rows.TrigVecsCardSaid :=
  Claim7.holds_tied_plain_at .later [] [.data, .data] true (true, _) false
    proved (fun _ h => by cases h) (by kernel_rfl) (fun _ h => by cases h) trigVecs_row_tie rfl ⟨rfl, rfl⟩ (by kernel_rfl) rfl
    (fun f fn hf hfn => by
      obtain rfl : f = 9 := Option.some.inj ((show Tryd.prog.funcNamed "bivouac/bivouaclaw03.TrigVecs" = some 9 by kernel_rfl).symm.trans hf) |>.symm
      obtain rfl : fn = Tryd.f9 := (Option.some.inj (Tryd.func9.symm.trans hfn)).symm
      exact ⟨by kernel_rfl, fun j t ht => by
        rw [Tryd.params9] at ht
        have hm : t ∈ [2, 2] := by simpa using Array.mem_of_getElem? ht
        have hall : ([2, 2].all fun u => !Tryd.prog.wantsStandIn u) = true := by kernel_rfl
        exact (show Tryd.prog.wantsStandIn t = false by simpa using List.all_eq_true.1 hall t hm)⟩)
    (by kernel_rfl)
#print axioms card_proved
end Go.Proofs.YtikhgdbbbingbaaDoor.TrigVecs
