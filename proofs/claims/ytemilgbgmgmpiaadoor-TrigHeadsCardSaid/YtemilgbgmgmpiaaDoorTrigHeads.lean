/- TrigHeads: every way's heading is the first wind along which it goes farthest, of all winds. No conditions beyond the row's own: the listed tables read as the program's text lays them. -/
import Derived.Test.YtemilgbgmgmpiaaDoorTrigLaid
import Derived.Test.YtemilgbgmgmpiaaDoorTrigClose
import Derived.Test.YtemilgbgmgmpiaaDoorCards
import Derived.Test.YtemilgbgmgmpiaaDoorTie
import Derived.SevenTiedAt
namespace Go.Proofs.YtemilgbgmgmpiaaDoor.TrigHeads
open Go Go.RowKit Go.ChangeShapes Go.WideShapes Go.ChangeAt
set_option linter.unusedVariables false

theorem walk_far (x y : Int) (W : World) (ht : Tab W) (hr : TabR W) (h : farB x = true ∨ farB y = true) :
    Calls Tryd.prog 6 #[.int .i64 x, .int .i64 y] W fun e w' => e = .returned (.bool true) ∧ Below W.heap.size W w' := by
  have HH := Lib.hid (heading_far x y W h)
  have HX := Lib.hid (fun w => lfar_any x w)
  have HY := Lib.hid (fun w => lfar_any y w)
  have HT := Lib.hid ht
  by_cases h1 : farB x = true
  · clear h ht hr
    go_enter Tryd.func6, Tryd.ntmps6
    go_wp2_with (first
      | (go_at_call 17; refine HH.out.mono ?_; rintro e w' ⟨rfl, hb0⟩; have HB0 := Lib.hid hb0; clear hb0)
      | (go_at_call 18; (first | (with_reducible refine (HX.out _).mono ?_) | (with_reducible refine (HY.out _).mono ?_)); rintro e w' ⟨rfl, rfl⟩)
      | (go_at_call 16; refine (awake_any _ (HT.out.below HB0.out)).mono ?_; rintro e w' ⟨rfl, hb⟩; have HB := Lib.hid hb; clear hb))
    go_ret
    exact ⟨rfl, HB0.out.trans (HB.out.mono HB0.out.size)⟩
  · have h1' : farB x = false := by simpa using h1
    have h2 : farB y = true := h.resolve_left h1
    clear h h1 ht hr
    go_enter Tryd.func6, Tryd.ntmps6
    go_wp2_with (first
      | (go_at_call 17; refine HH.out.mono ?_; rintro e w' ⟨rfl, hb0⟩; have HB0 := Lib.hid hb0; clear hb0)
      | (go_at_call 18; (first | (with_reducible refine (HX.out _).mono ?_) | (with_reducible refine (HY.out _).mono ?_)); rintro e w' ⟨rfl, rfl⟩)
      | (go_at_call 16; refine (awake_any _ (HT.out.below HB0.out)).mono ?_; rintro e w' ⟨rfl, hb⟩; have HB := Lib.hid hb; clear hb))
    go_ret
    exact ⟨rfl, HB0.out.trans (HB.out.mono HB0.out.size)⟩

theorem walk_near (x y : Int) (W : World) (ht : Tab W) (hr : TabR W) (h1 : farB x = false) (h2 : farB y = false) :
    Calls Tryd.prog 6 #[.int .i64 x, .int .i64 y] W fun e w' => e = .returned (.bool true) ∧ Below W.heap.size W w' := by
  have HH := Lib.hid (heading_any x y W ht h1 h2)
  rw [Tr.head_eq x y (farB_false h1) (farB_false h2)] at HH
  have HX := Lib.hid (fun w => lfar_any x w)
  have HY := Lib.hid (fun w => lfar_any y w)
  have HT := Lib.hid ht
  have HR := Lib.hid (fun w (hb : Below W.heap.size W w) => rheading_any x y w (hr.below hb) (farB_false h1) (farB_false h2))
  clear ht hr
  go_enter Tryd.func6, Tryd.ntmps6
  go_wp2_with (first
    | (go_at_call 17; refine HH.out.mono ?_; rintro e w' ⟨rfl, hb0⟩; have HB0 := Lib.hid hb0; clear hb0)
    | (go_at_call 19; refine (HR.out _ HB0.out).mono ?_; rintro e w' ⟨rfl, n, rfl⟩)
    | (go_at_call 18; (first | (with_reducible refine (HX.out _).mono ?_) | (with_reducible refine (HY.out _).mono ?_)); rintro e w' ⟨rfl, rfl⟩)
    | (go_at_call 16; refine (awake_any _ ((HT.out.below HB0.out).drewN _)).mono ?_; rintro e w' ⟨rfl, hb⟩; have HB := Lib.hid hb; clear hb))
  go_ret
  exact ⟨rfl, HB0.out.trans ((below_drewN _ _ _).trans (HB.out.mono HB0.out.size))⟩

theorem walk (x y : Int) (W : World) (ht : Tab W) (hr : TabR W) :
    Calls Tryd.prog 6 #[.int .i64 x, .int .i64 y] W fun e w' => e = .returned (.bool true) ∧ Below W.heap.size W w' := by
  by_cases h1 : farB x = true
  · exact walk_far x y W ht hr (Or.inl h1)
  · by_cases h2 : farB y = true
    · exact walk_far x y W ht hr (Or.inr h2)
    · exact walk_near x y W ht hr (by simpa using h1) (by simpa using h2)

theorem door_met (os : Os) (args : Array Value) : laidMetH Tryd.prog laidQS ((World.doorLaid Tryd.prog 400 os).forCall (fun _ _ => 0) ⟨#[], args, []⟩).memory :=
  laidMetH_of_parts3 (fuel := 8) (laidMet_of_run' 8 (by kernel_rfl) (by kernel_rfl)) (by kernel_rfl) (by kernel_rfl)

set_option maxRecDepth 100000 in
theorem lifted (os : Os) (started : os.Started) (H : Type) (enc : TypeId × Value → H) :
    ReturnsInHanded {} Tryd.checked os 6 .any (fun w args => (Rows.trigHeadsSpec.pre enc Tryd.prog Tryd.f6 [] false w args ∧ laidMetH Tryd.prog laidQS w) ∧ sizedMet enc Tryd.prog Tryd.f6 (OpenSpec.ofChange Rows.trigHeadsSpec) false w args) (Rows.trigHeadsSpec.post enc Tryd.prog Tryd.f6 false true false false) := by
  refine returnsInHanded_of_change_and (C := Tryd.checked) (X := fun w _ => laidMetH Tryd.prog laidQS w) (fun _ _ _ hh h => h.of_heap hh) own started (by kernel_rfl) Tryd.func6
    (ChangeSpec.witness_shaped (enc := enc) (C := Tryd.checked) (os := os) (X := fun w _ => laidMetH Tryd.prog laidQS w) false (World.doorLaid Tryd.prog 400 os) #[.int .i64 0, .int .i64 0] 8 rfl (World.shaped_of_RefB (by kernel_rfl) (by kernel_rfl)) (by kernel_rfl) (by kernel_rfl) (by kernel_rfl) (door_met os _)) ?_
  intro W base args ds gs before hval0 hW _ _ hL _
  have hval : ∀ (j : Nat) t v, Tryd.f6.params[j]? = some t → args[j]? = some v → Value.okWide Tryd.prog W .any base t v := hval0
  have hW' := hW
  obtain ⟨p, q, hA0, hV, rfl, hfz, hnd⟩ := hW
  have hA : DataW.TrodAll enc Tryd.prog W 0 (fun _ => true) true Tryd.f6.params.toList args.toList ds p := hA0
  rw [Tryd.params6] at hA hval
  obtain ⟨v0, vs0, d0, ds0, p0, q0, hargs, rfl, rfl, h0, r0⟩ := trodAll_cons hA
  obtain ⟨v1, vs1, d1, ds1, p1, q1, rfl, rfl, rfl, h1, r1⟩ := trodAll_cons r0
  obtain ⟨rfl, rfl, rfl⟩ := trodAll_nil r1
  obtain rfl : args = #[v0, v1] := by cases args; simp_all
  obtain ⟨rfl, rfl⟩ := trodVars_none hV
  obtain ⟨a0, rfl, rfl, rfl, w0⟩ := open_int Tryd.underlying2 (hval 0 2 v0 rfl rfl) h0
  obtain ⟨a1, rfl, rfl, rfl, w1⟩ := open_int Tryd.underlying2 (hval 1 2 v1 rfl rfl) h1
  clear hA0 hval0
  simp only [List.append_nil] at hW'
  refine (walk a0 a1  W (tabs_of_laid hL).1 (tabs_of_laid hL).2).mono fun e W' ⟨he, hb⟩ => ?_
  subst he
  refine ⟨_, rfl, _, _, _, [], [], [], hW', ?_, ?_, ?_, hb.frame _, fun h => by cases h⟩
  · exact trodAll_cons_mk (shut_bool Tryd.underlying4 _) trodAll_mk0
  · exact (trodAll_cons_mk (shut_int Tryd.underlying2 w0) (trodAll_cons_mk (shut_int Tryd.underlying2 w1) trodAll_mk0))
  · rfl

theorem proved : Rows.TrigHeadsSaid :=
  OpenClaim.holds_of_wide 6 Tryd.f6 rfl rfl rfl rfl rfl rfl rfl ⟨rfl, rfl, rfl, rfl, rfl⟩ rfl rfl rfl rfl rfl (by kernel_rfl) Tryd.func6 (by kernel_rfl)
    (of_decide_eq_true (by kernel_rfl)) (by unfold Func.isWrapper; first | (rw [if_pos (by decide +kernel)]; kernel_rfl) | (rw [if_neg (by decide +kernel)]; exact ⟨rfl, rfl⟩))
    (fun os started H enc _ => lifted os started H enc)

theorem card_proved : Rows.TrigHeadsCardSaid :=
  Claim7.holds_tied_plain_at .later [] [.data, .data] true (true, _) false
    proved (fun _ h => by cases h) (by kernel_rfl) (fun _ h => by cases h) trigHeads_row_tie rfl ⟨rfl, rfl⟩ (by kernel_rfl) rfl
    (fun f fn hf hfn => by
      obtain rfl : f = 6 := Option.some.inj ((show Tryd.prog.funcNamed "bivouac/bivouaclaw03.TrigHeads" = some 6 by kernel_rfl).symm.trans hf) |>.symm
      obtain rfl : fn = Tryd.f6 := (Option.some.inj (Tryd.func6.symm.trans hfn)).symm
      exact ⟨by kernel_rfl, fun j t ht => by
        rw [Tryd.params6] at ht
        have hm : t ∈ [2, 2] := by simpa using Array.mem_of_getElem? ht
        have hall : ([2, 2].all fun u => !Tryd.prog.wantsStandIn u) = true := by kernel_rfl
        exact (show Tryd.prog.wantsStandIn t = false by simpa using List.all_eq_true.1 hall t hm)⟩)
    (by kernel_rfl)
#print axioms card_proved
end Go.Proofs.YtemilgbgmgmpiaaDoor.TrigHeads
