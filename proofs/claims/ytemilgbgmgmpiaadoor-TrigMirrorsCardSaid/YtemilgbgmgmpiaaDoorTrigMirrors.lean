/- TrigMirrors: a half turn turns the signs, a quarter leads from sine to cosine, and none is above one. No conditions beyond the row's own: the listed tables read as the program's text lays them. -/
import Derived.Test.YtemilgbgmgmpiaaDoorTrigLaid
import Derived.Test.YtemilgbgmgmpiaaDoorTrigClose
import Derived.Test.YtemilgbgmgmpiaaDoorCards
import Derived.Test.YtemilgbgmgmpiaaDoorTie
import Derived.SevenTiedAt
namespace Go.Proofs.YtemilgbgmgmpiaaDoor.TrigMirrors
open Go Go.RowKit Go.ChangeShapes Go.WideShapes Go.ChangeAt
set_option linter.unusedVariables false

set_option maxHeartbeats 1000000 in
theorem walk (a : Int) (W : World) (ht : Tab W) :
    Calls Tryd.prog 4 #[.int .i64 a] W fun e w' => e = .returned (.bool true) ∧ Below W.heap.size W w' := by
  have HT := Lib.hid ht
  have HN := Lib.hid (norm_any a W)
  have hr := Tr.nrm_range a
  have H0 := Lib.hid (sin_any a W ht)
  have H1 := Lib.hid (cos_any a W ht)
  have H2 := Lib.hid (sin_any (Tr.nrm a + 32768) W ht)
  have H3 := Lib.hid (cos_any (Tr.nrm a + 32768) W ht)
  have H4 := Lib.hid (sin_any (Tr.nrm a + 16384) W ht)
  have H5 := Lib.hid (cos_any (Tr.nrm a + 16384) W ht)
  have H6 := Lib.hid (sin_any (32768 - Tr.nrm a) W ht)
  rw [Tr.mirror_1] at H2
  rw [Tr.mirror_2] at H3
  rw [Tr.mirror_3] at H4
  rw [Tr.mirror_4] at H5
  rw [Tr.mirror_5] at H6
  have hs := Tr.sinA_bound a
  have hc := Tr.cosA_bound a
  obtain ⟨s, hs'⟩ : ∃ s, Tr.sinA a = s := ⟨_, rfl⟩
  obtain ⟨c, hc'⟩ : ∃ s, Tr.cosA a = s := ⟨_, rfl⟩
  obtain ⟨n, hn'⟩ : ∃ s, Tr.nrm a = s := ⟨_, rfl⟩
  rw [hs'] at hs H0 H2 H5 H6
  rw [hc'] at hc H1 H3 H4
  rw [hn'] at hr HN H2 H3 H4 H5 H6
  clear hs' hc' hn' ht
  go_enter Tryd.func4, Tryd.ntmps4
  go_wp2_with (first
    | (go_at_call 10; refine HN.out.mono ?_; rintro e w' ⟨rfl, rfl⟩)
    | (go_at_call 12; (first | (with_reducible refine H0.out.mono ?_) | (with_reducible refine H2.out.mono ?_) | (with_reducible refine H4.out.mono ?_) | (with_reducible refine H6.out.mono ?_)); rintro e w' ⟨rfl, rfl⟩)
    | (go_at_call 14; (first | (with_reducible refine H1.out.mono ?_) | (with_reducible refine H3.out.mono ?_) | (with_reducible refine H5.out.mono ?_)); rintro e w' ⟨rfl, rfl⟩)
    | (go_at_call 16; refine (awake_any _ HT.out).mono ?_; rintro e w' ⟨rfl, hb⟩; have HB := Lib.hid hb; clear hb))
  go_ret
  exact ⟨rfl, HB.out⟩

theorem door_met (os : Os) (args : Array Value) : laidMetH Tryd.prog laidS ((World.doorLaid Tryd.prog 400 os).forCall (fun _ _ => 0) ⟨#[], args, []⟩).memory :=
  laidMetH_of_parts3 (fuel := 8) (laidMet_of_run' 8 (by kernel_rfl) (by kernel_rfl)) (by kernel_rfl) (by kernel_rfl)

set_option maxRecDepth 100000 in
theorem lifted (os : Os) (started : os.Started) (H : Type) (enc : TypeId × Value → H) :
    ReturnsInHanded {} Tryd.checked os 4 .any (fun w args => (Rows.trigMirrorsSpec.pre enc Tryd.prog Tryd.f4 [] false w args ∧ laidMetH Tryd.prog laidS w) ∧ sizedMet enc Tryd.prog Tryd.f4 (OpenSpec.ofChange Rows.trigMirrorsSpec) false w args) (Rows.trigMirrorsSpec.post enc Tryd.prog Tryd.f4 false true false false) := by
  refine returnsInHanded_of_change_and (C := Tryd.checked) (X := fun w _ => laidMetH Tryd.prog laidS w) (fun _ _ _ hh h => h.of_heap hh) own started (by kernel_rfl) Tryd.func4
    (ChangeSpec.witness_shaped (enc := enc) (C := Tryd.checked) (os := os) (X := fun w _ => laidMetH Tryd.prog laidS w) false (World.doorLaid Tryd.prog 400 os) #[.int .i64 0] 8 rfl (World.shaped_of_RefB (by kernel_rfl) (by kernel_rfl)) (by kernel_rfl) (by kernel_rfl) (by kernel_rfl) (door_met os _)) ?_
  intro W base args ds gs before hval0 hW _ _ hL _
  have hval : ∀ (j : Nat) t v, Tryd.f4.params[j]? = some t → args[j]? = some v → Value.okWide Tryd.prog W .any base t v := hval0
  have hW' := hW
  obtain ⟨p, q, hA0, hV, rfl, hfz, hnd⟩ := hW
  have hA : DataW.TrodAll enc Tryd.prog W 0 (fun _ => true) true Tryd.f4.params.toList args.toList ds p := hA0
  rw [Tryd.params4] at hA hval
  obtain ⟨v0, vs0, d0, ds0, p0, q0, hargs, rfl, rfl, h0, r0⟩ := trodAll_cons hA
  obtain ⟨rfl, rfl, rfl⟩ := trodAll_nil r0
  obtain rfl : args = #[v0] := by cases args; simp_all
  obtain ⟨rfl, rfl⟩ := trodVars_none hV
  obtain ⟨a0, rfl, rfl, rfl, w0⟩ := open_int Tryd.underlying2 (hval 0 2 v0 rfl rfl) h0
  clear hA0 hval0
  simp only [List.append_nil] at hW'
  refine (walk a0  W (tab_of_laid hL)).mono fun e W' ⟨he, hb⟩ => ?_
  subst he
  refine ⟨_, rfl, _, _, _, [], [], [], hW', ?_, ?_, ?_, hb.frame _, fun h => by cases h⟩
  · exact trodAll_cons_mk (shut_bool Tryd.underlying4 _) trodAll_mk0
  · exact (trodAll_cons_mk (shut_int Tryd.underlying2 w0) trodAll_mk0)
  · rfl

theorem proved : Rows.TrigMirrorsSaid :=
  OpenClaim.holds_of_wide 4 Tryd.f4 rfl rfl rfl rfl rfl rfl rfl ⟨rfl, rfl, rfl, rfl, rfl⟩ rfl rfl rfl rfl rfl (by kernel_rfl) Tryd.func4 (by kernel_rfl)
    (of_decide_eq_true (by kernel_rfl)) (by unfold Func.isWrapper; first | (rw [if_pos (by decide +kernel)]; kernel_rfl) | (rw [if_neg (by decide +kernel)]; exact ⟨rfl, rfl⟩))
    (fun os started H enc _ => lifted os started H enc)

theorem card_proved : Rows.TrigMirrorsCardSaid :=
  Claim7.holds_tied_plain_at .later [] [.data] true (true, _) false
    proved (fun _ h => by cases h) (by kernel_rfl) (fun _ h => by cases h) trigMirrors_row_tie rfl ⟨rfl, rfl⟩ (by kernel_rfl) rfl
    (fun f fn hf hfn => by
      obtain rfl : f = 4 := Option.some.inj ((show Tryd.prog.funcNamed "bivouac/bivouaclaw03.TrigMirrors" = some 4 by kernel_rfl).symm.trans hf) |>.symm
      obtain rfl : fn = Tryd.f4 := (Option.some.inj (Tryd.func4.symm.trans hfn)).symm
      exact ⟨by kernel_rfl, fun j t ht => by
        rw [Tryd.params4] at ht
        have hm : t ∈ [2] := by simpa using Array.mem_of_getElem? ht
        have hall : ([2].all fun u => !Tryd.prog.wantsStandIn u) = true := by kernel_rfl
        exact (show Tryd.prog.wantsStandIn t = false by simpa using List.all_eq_true.1 hall t hm)⟩)
    (by kernel_rfl)
#print axioms card_proved
end Go.Proofs.YtemilgbgmgmpiaaDoor.TrigMirrors
