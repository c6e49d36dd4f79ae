/- TrigRises: in the first quarter a greater angle has no lesser sine, and no greater cosine. No conditions beyond the row's own: the listed tables read as the program's text lays them. -/
import Derived.Test.YtemilgbgmgmpiaaDoorTrigLaid
import Derived.Test.YtemilgbgmgmpiaaDoorTrigClose
import Derived.Test.YtemilgbgmgmpiaaDoorCards
import Derived.Test.YtemilgbgmgmpiaaDoorTie
import Derived.SevenTiedAt
namespace Go.Proofs.YtemilgbgmgmpiaaDoor.TrigRises
open Go Go.RowKit Go.ChangeShapes Go.WideShapes Go.ChangeAt
set_option linter.unusedVariables false

theorem sorted (a b : Int) : ∃ x y, 0 ≤ x ∧ x ≤ y ∧ y ≤ 16384 ∧ ((Tr.nrm a % 16385 = x ∧ Tr.nrm b % 16385 = y) ∨ (Tr.nrm a % 16385 = y ∧ Tr.nrm b % 16385 = x ∧ x < y)) := by
  by_cases h : Tr.nrm a % 16385 ≤ Tr.nrm b % 16385
  · exact ⟨_, _, by omega, h, by omega, Or.inl ⟨rfl, rfl⟩⟩
  · exact ⟨_, _, by omega, by omega, by omega, Or.inr ⟨rfl, rfl, by omega⟩⟩

set_option maxHeartbeats 1000000 in
theorem walk (a b : Int) (W : World) (ht : Tab W) :
    Calls Tryd.prog 5 #[.int .i64 a, .int .i64 b] W fun e w' => e = .returned (.bool true) ∧ Below W.heap.size W w' := by
  have HT := Lib.hid ht
  have HN1 := Lib.hid (norm_any a W)
  have HN2 := Lib.hid (norm_any b W)
  have hr1 := Tr.nrm_range a
  have hr2 := Tr.nrm_range b
  obtain ⟨x, y, h0, hxy, h1, hor⟩ := sorted a b
  have hrise := Tr.rise x y h0 hxy h1
  have H1 := Lib.hid (sin_any x W ht)
  have H2 := Lib.hid (sin_any y W ht)
  have H3 := Lib.hid (cos_any x W ht)
  have H4 := Lib.hid (cos_any y W ht)
  obtain ⟨n, hn⟩ : ∃ s, Tr.nrm a = s := ⟨_, rfl⟩
  obtain ⟨m, hm⟩ : ∃ s, Tr.nrm b = s := ⟨_, rfl⟩
  rw [hn] at HN1 hor hr1
  rw [hm] at HN2 hor hr2
  obtain ⟨sx, e1⟩ : ∃ s, Tr.sinA x = s := ⟨_, rfl⟩
  obtain ⟨sy, e2⟩ : ∃ s, Tr.sinA y = s := ⟨_, rfl⟩
  obtain ⟨cx, e3⟩ : ∃ s, Tr.cosA x = s := ⟨_, rfl⟩
  obtain ⟨cy, e4⟩ : ∃ s, Tr.cosA y = s := ⟨_, rfl⟩
  rw [e1, e2, e3, e4] at hrise
  rw [e1] at H1
  rw [e2] at H2
  rw [e3] at H3
  rw [e4] at H4
  obtain ⟨r1, r2, r3⟩ := hrise
  have HT2 := Lib.hid ht
  clear e1 e2 e3 e4 hn hm ht
  rcases hor with ⟨g1, g2⟩ | ⟨g1, g2, g3⟩
  all_goals
    go_enter Tryd.func5, Tryd.ntmps5
    go_wp2_with (first
      | (go_at_call 10; (first | (with_reducible refine HN1.out.mono ?_) | (with_reducible refine HN2.out.mono ?_)); rintro e w' ⟨rfl, rfl⟩)
      | (go_at_call 12; (first | (with_reducible refine H1.out.mono ?_) | (with_reducible refine H2.out.mono ?_)); rintro e w' ⟨rfl, rfl⟩)
      | (go_at_call 14; (first | (with_reducible refine H3.out.mono ?_) | (with_reducible refine H4.out.mono ?_)); rintro e w' ⟨rfl, rfl⟩)
      | (go_at_call 16; refine (awake_any _ HT.out).mono ?_; rintro e w' ⟨rfl, hb⟩; have HB := Lib.hid hb; clear hb))
    go_ret
    exact ⟨rfl, HB.out⟩

theorem door_met (os : Os) (args : Array Value) : laidMetH Tryd.prog laidS ((World.doorLaid Tryd.prog 400 os).forCall (fun _ _ => 0) ⟨#[], args, []⟩).memory :=
  laidMetH_of_parts3 (fuel := 8) (laidMet_of_run' 8 (by kernel_rfl) (by kernel_rfl)) (by kernel_rfl) (by kernel_rfl)

set_option maxRecDepth 100000 in
theorem lifted (os : Os) (started : os.Started) (H : Type) (enc : TypeId × Value → H) :
    ReturnsInHanded {} Tryd.checked os 5 .any (fun w args => (Rows.trigRisesSpec.pre enc Tryd.prog Tryd.f5 [] false w args ∧ laidMetH Tryd.prog laidS w) ∧ sizedMet enc Tryd.prog Tryd.f5 (OpenSpec.ofChange Rows.trigRisesSpec) false w args) (Rows.trigRisesSpec.post enc Tryd.prog Tryd.f5 false true false false) := by
  refine returnsInHanded_of_change_and (C := Tryd.checked) (X := fun w _ => laidMetH Tryd.prog laidS w) (fun _ _ _ hh h => h.of_heap hh) own started (by kernel_rfl) Tryd.func5
    (ChangeSpec.witness_shaped (enc := enc) (C := Tryd.checked) (os := os) (X := fun w _ => laidMetH Tryd.prog laidS w) false (World.doorLaid Tryd.prog 400 os) #[.int .i64 0, .int .i64 0] 8 rfl (World.shaped_of_RefB (by kernel_rfl) (by kernel_rfl)) (by kernel_rfl) (by kernel_rfl) (by kernel_rfl) (door_met os _)) ?_
  intro W base args ds gs before hval0 hW _ _ hL _
  have hval : ∀ (j : Nat) t v, Tryd.f5.params[j]? = some t → args[j]? = some v → Value.okWide Tryd.prog W .any base t v := hval0
  have hW' := hW
  obtain ⟨p, q, hA0, hV, rfl, hfz, hnd⟩ := hW
  have hA : DataW.TrodAll enc Tryd.prog W 0 (fun _ => true) true Tryd.f5.params.toList args.toList ds p := hA0
  rw [Tryd.params5] at hA hval
  obtain ⟨v0, vs0, d0, ds0, p0, q0, hargs, rfl, rfl, h0, r0⟩ := trodAll_cons hA
  obtain ⟨v1, vs1, d1, ds1, p1, q1, rfl, rfl, rfl, h1, r1⟩ := trodAll_cons r0
  obtain ⟨rfl, rfl, rfl⟩ := trodAll_nil r1
  obtain rfl : args = #[v0, v1] := by cases args; simp_all
  obtain ⟨rfl, rfl⟩ := trodVars_none hV
  obtain ⟨a0, rfl, rfl, rfl, w0⟩ := open_int Tryd.underlying2 (hval 0 2 v0 rfl rfl) h0
  obtain ⟨a1, rfl, rfl, rfl, w1⟩ := open_int Tryd.underlying2 (hval 1 2 v1 rfl rfl) h1
  clear hA0 hval0
  simp only [List.append_nil] at hW'
  refine (walk a0 a1  W (tab_of_laid hL)).mono fun e W' ⟨he, hb⟩ => ?_
  subst he
  refine ⟨_, rfl, _, _, _, [], [], [], hW', ?_, ?_, ?_, hb.frame _, fun h => by cases h⟩
  · exact trodAll_cons_mk (shut_bool Tryd.underlying4 _) trodAll_mk0
  · exact (trodAll_cons_mk (shut_int Tryd.underlying2 w0) (trodAll_cons_mk (shut_int Tryd.underlying2 w1) trodAll_mk0))
  · rfl

theorem proved : Rows.TrigRisesSaid :=
  OpenClaim.holds_of_wide 5 Tryd.f5 rfl rfl rfl rfl rfl rfl rfl ⟨rfl, rfl, rfl, rfl, rfl⟩ rfl rfl rfl rfl rfl (by kernel_rfl) Tryd.func5 (by kernel_rfl)
    (of_decide_eq_true (by kernel_rfl)) (by unfold Func.isWrapper; first | (rw [if_pos (by decide +kernel)]; kernel_rfl) | (rw [if_neg (by decide +kernel)]; exact ⟨rfl, rfl⟩))
    (fun os started H enc _ => lifted os started H enc)

theorem card_proved : Rows.TrigRisesCardSaid :=
  Claim7.holds_tied_plain_at .later [] [.data] true (true, _) false
    proved (fun _ h => by cases h) (by kernel_rfl) (fun _ h => by cases h) trigRises_row_tie rfl ⟨rfl, rfl⟩ (by kernel_rfl) rfl
    (fun f fn hf hfn => by
      obtain rfl : f = 5 := Option.some.inj ((show Tryd.prog.funcNamed "bivouac/bivouaclaw03.TrigRises" = some 5 by kernel_rfl).symm.trans hf) |>.symm
      obtain rfl : fn = Tryd.f5 := (Option.some.inj (Tryd.func5.symm.trans hfn)).symm
      exact ⟨by kernel_rfl, fun j t ht => by
        rw [Tryd.params5] at ht
        have hm : t ∈ [2, 2] := by simpa using Array.mem_of_getElem? ht
        have hall : ([2, 2].all fun u => !Tryd.prog.wantsStandIn u) = true := by kernel_rfl
        exact (show Tryd.prog.wantsStandIn t = false by simpa using List.all_eq_true.1 hall t hm)⟩)
    (by kernel_rfl)
#print axioms card_proved
end Go.Proofs.YtemilgbgmgmpiaaDoor.TrigRises
