/- DriveGoes: so many steps of every mover come to the document's place, and count. No conditions beyond the row's own: the listed tables read as the program's text lays them. -/
import Derived.Test.YtbcddiaplpbhjaaDoorDriveGoesP
import Derived.Test.YtbcddiaplpbhjaaDoorCards
import Derived.Test.YtbcddiaplpbhjaaDoorTie
import Derived.SevenTiedAt
namespace Go.Proofs.YtbcddiaplpbhjaaDoor.DriveGoes
open Go Go.RowKit Go.ChangeShapes Go.WideShapes Go.ChangeAt Go.Proofs.YtbcddiaplpbhjaaDoor.Tg Go.Proofs.YtbcddiaplpbhjaaDoor.MDr Go.Proofs.YtbcddiaplpbhjaaDoor.Dr
set_option linter.unusedVariables false
set_option linter.unusedSimpArgs false


theorem goes_j (px py pa sp tn W_ H_ x y n : Int) (hn : n ≤ 120) : bivouaclaw14_DriveGoes.j0 200 px py pa sp tn W_ H_ x y n = some true := by
  rw [bivouaclaw14_DriveGoes.j0]
  by_cases hM : May px py pa sp tn W_ H_ x y
  · obtain ⟨m, hm⟩ : ∃ m : Nat, (if 0 < n then n else 0) = m := ⟨(if 0 < n then n else 0).toNat, by split <;> omega⟩
    have hm' : m ≤ 120 := by split at hm <;> omega
    have e : 199 = (196 - m) + m + 3 := by omega
    have h1 := steps_f hM n m hm (by omega) (196 - m)
    have h2 := rsteps_f hM n m hm (by omega) (196 - m)
    rw [← e] at h1 h2
    rw [h1, Option.bind_some, rmay_f, Option.bind_some, if_pos (decide_eq_true hM), h2, Option.bind_some, awake_k 187]
    generalize goS sp tn W_ H_ x y m px py pa = s
    simp
  · rw [steps_not (k := 198) hM, Option.bind_some, rmay_f, Option.bind_some, if_neg (by simpa using hM), awake_k 187]
    rfl
theorem pure (px py pa sp tn W_ H_ x y n : Int) (hpx : (Lit.int .i64 px).wf = true) (hpy : (Lit.int .i64 py).wf = true) (hpa : (Lit.int .i64 pa).wf = true) (hsp : (Lit.int .i64 sp).wf = true) (htn : (Lit.int .i64 tn).wf = true) (hW_ : (Lit.int .i64 W_).wf = true) (hH_ : (Lit.int .i64 H_).wf = true) (hx : (Lit.int .i64 x).wf = true) (hy : (Lit.int .i64 y).wf = true) (hn : (Lit.int .i64 n).wf = true) : ∃ k, bivouaclaw14_DriveGoes.f k px py pa sp tn W_ H_ x y n = some true := by
  refine ⟨200, ?_⟩
  unfold bivouaclaw14_DriveGoes.f
  split
  · exact goes_j _ _ _ _ _ _ _ _ _ _ (by decide)
  · exact goes_j _ _ _ _ _ _ _ _ _ _ (by omega)

theorem walk (px py pa sp tn W_ H_ x y n : Int) (hpx : (Lit.int .i64 px).wf = true) (hpy : (Lit.int .i64 py).wf = true) (hpa : (Lit.int .i64 pa).wf = true) (hsp : (Lit.int .i64 sp).wf = true) (htn : (Lit.int .i64 tn).wf = true) (hW_ : (Lit.int .i64 W_).wf = true) (hH_ : (Lit.int .i64 H_).wf = true) (hx : (Lit.int .i64 x).wf = true) (hy : (Lit.int .i64 y).wf = true) (hn : (Lit.int .i64 n).wf = true) (W : World) (ht : Tabs W) :
    Calls Tryd.prog 5 #[.agg #[.int .i64 px, .int .i64 py, .int .i64 pa, .int .i64 sp, .int .i64 tn, .int .i64 W_, .int .i64 H_, .int .i64 x, .int .i64 y, .int .i64 n]] W fun e w' => e = .returned (.bool true) ∧ Below W.heap.size W w' := by
  obtain ⟨k, h⟩ := pure px py pa sp tn W_ H_ x y n hpx hpy hpa hsp htn hW_ hH_ hx hy hn
  exact bivouaclaw14_DriveGoes.calls k px py pa sp tn W_ H_ x y n true W ht h

theorem door_met (os : Os) (args : Array Value) : laidMetH Tryd.prog laidQS ((World.doorLaid Tryd.prog 400 os).forCall (fun _ _ => 0) ⟨#[], args, []⟩).memory :=
  laidMetH_of_parts3 (fuel := 8) (laidMet_of_run' 8 (by kernel_rfl) (by kernel_rfl)) (by kernel_rfl) (by kernel_rfl)

theorem cells0 {cs : Array Value} (h : flatOk [some .i64, some .i64, some .i64, some .i64, some .i64, some .i64, some .i64, some .i64, some .i64, some .i64] cs.toList) : ∃ (z0 : Int) (z1 : Int) (z2 : Int) (z3 : Int) (z4 : Int) (z5 : Int) (z6 : Int) (z7 : Int) (z8 : Int) (z9 : Int), cs = #[.int .i64 z0, .int .i64 z1, .int .i64 z2, .int .i64 z3, .int .i64 z4, .int .i64 z5, .int .i64 z6, .int .i64 z7, .int .i64 z8, .int .i64 z9] ∧ (Lit.int .i64 z0).wf = true ∧ (Lit.int .i64 z1).wf = true ∧ (Lit.int .i64 z2).wf = true ∧ (Lit.int .i64 z3).wf = true ∧ (Lit.int .i64 z4).wf = true ∧ (Lit.int .i64 z5).wf = true ∧ (Lit.int .i64 z6).wf = true ∧ (Lit.int .i64 z7).wf = true ∧ (Lit.int .i64 z8).wf = true ∧ (Lit.int .i64 z9).wf = true := by
  obtain ⟨l⟩ := cs
  replace h : flatOk [some .i64, some .i64, some .i64, some .i64, some .i64, some .i64, some .i64, some .i64, some .i64, some .i64] l := h
  rcases l with _ | ⟨v0, l⟩
  · exact h.elim
  obtain ⟨⟨z0, rfl, w0⟩, h⟩ := h
  rcases l with _ | ⟨v1, l⟩
  · exact h.elim
  obtain ⟨⟨z1, rfl, w1⟩, h⟩ := h
  rcases l with _ | ⟨v2, l⟩
  · exact h.elim
  obtain ⟨⟨z2, rfl, w2⟩, h⟩ := h
  rcases l with _ | ⟨v3, l⟩
  · exact h.elim
  obtain ⟨⟨z3, rfl, w3⟩, h⟩ := h
  rcases l with _ | ⟨v4, l⟩
  · exact h.elim
  obtain ⟨⟨z4, rfl, w4⟩, h⟩ := h
  rcases l with _ | ⟨v5, l⟩
  · exact h.elim
  obtain ⟨⟨z5, rfl, w5⟩, h⟩ := h
  rcases l with _ | ⟨v6, l⟩
  · exact h.elim
  obtain ⟨⟨z6, rfl, w6⟩, h⟩ := h
  rcases l with _ | ⟨v7, l⟩
  · exact h.elim
  obtain ⟨⟨z7, rfl, w7⟩, h⟩ := h
  rcases l with _ | ⟨v8, l⟩
  · exact h.elim
  obtain ⟨⟨z8, rfl, w8⟩, h⟩ := h
  rcases l with _ | ⟨v9, l⟩
  · exact h.elim
  obtain ⟨⟨z9, rfl, w9⟩, h⟩ := h
  rcases l with _ | ⟨v, l⟩
  · exact ⟨z0, z1, z2, z3, z4, z5, z6, z7, z8, z9, rfl, w0, w1, w2, w3, w4, w5, w6, w7, w8, w9⟩
  · exact h.elim

set_option maxRecDepth 100000 in
theorem lifted (os : Os) (started : os.Started) (H : Type) (enc : TypeId × Value → H) :
    ReturnsInHanded {} Tryd.checked os 5 .any (fun w args => (Rows.driveGoesSpec.pre enc Tryd.prog Tryd.f5 [] false w args ∧ laidMetH Tryd.prog laidQS w) ∧ sizedMet enc Tryd.prog Tryd.f5 (OpenSpec.ofChange Rows.driveGoesSpec) false w args) (Rows.driveGoesSpec.post enc Tryd.prog Tryd.f5 false true false false) := by
  refine returnsInHanded_of_change_and (C := Tryd.checked) (X := fun w _ => laidMetH Tryd.prog laidQS w) (fun _ _ _ hh h => h.of_heap hh) own started (by kernel_rfl) Tryd.func5
    (ChangeSpec.witness_shaped (enc := enc) (C := Tryd.checked) (os := os) (X := fun w _ => laidMetH Tryd.prog laidQS w) false (World.doorLaid Tryd.prog 400 os) #[.agg #[.int .i64 0, .int .i64 0, .int .i64 0, .int .i64 0, .int .i64 0, .int .i64 0, .int .i64 0, .int .i64 0, .int .i64 0, .int .i64 0]] 8 rfl (World.shaped_of_RefB (by kernel_rfl) (by kernel_rfl)) (by kernel_rfl) (by kernel_rfl) (by kernel_rfl) (door_met os _)) ?_
  intro W base args ds gs before hval0 hW _ _ hL _
  have hval : ∀ (j : Nat) t v, Tryd.f5.params[j]? = some t → args[j]? = some v → Value.okWide Tryd.prog W .any base t v := hval0
  have hW' := hW
  obtain ⟨p, q, hA0, hV, rfl, hfz, hnd⟩ := hW
  have hA : DataW.TrodAll enc Tryd.prog W 0 (fun _ => true) true Tryd.f5.params.toList args.toList ds p := hA0
  rw [Tryd.params5] at hA hval
  obtain ⟨v0, vs0, d0, ds0, p0, q0, hargs, rfl, rfl, h0, r0⟩ := trodAll_cons hA
  obtain ⟨rfl, rfl, rfl⟩ := trodAll_nil r0
  obtain rfl : args = #[v0] := by cases args; simp_all
  obtain ⟨rfl, rfl⟩ := trodVars_none hV
  obtain ⟨cs0, rfl, hf0, rfl, tr0⟩ := open_flat (n := 6) (by kernel_rfl) Tryd.underlying30 (hval 0 30 v0 rfl rfl) h0
  obtain ⟨a0_0, a0_1, a0_2, a0_3, a0_4, a0_5, a0_6, a0_7, a0_8, a0_9, rfl, w0_0, w0_1, w0_2, w0_3, w0_4, w0_5, w0_6, w0_7, w0_8, w0_9⟩ := cells0 hf0
  clear hA0 hval0
  simp only [List.append_nil] at hW'
  refine (walk a0_0 a0_1 a0_2 a0_3 a0_4 a0_5 a0_6 a0_7 a0_8 a0_9 w0_0 w0_1 w0_2 w0_3 w0_4 w0_5 w0_6 w0_7 w0_8 w0_9 W (tabs_of_laid hL)).mono fun e W' ⟨he, hb⟩ => ?_
  subst he
  refine ⟨_, rfl, _, _, _, [], [], [], hW', ?_, ?_, ?_, hb.frame _, fun h => by cases h⟩
  · exact trodAll_cons_mk (shut_bool Tryd.underlying4 _) trodAll_mk0
  · exact (trodAll_cons_mk (tr0 _ _ _ _) trodAll_mk0)
  · rfl

theorem proved : Rows.DriveGoesSaid :=
  OpenClaim.holds_of_wide 5 Tryd.f5 rfl rfl rfl rfl rfl rfl rfl ⟨rfl, rfl, rfl, rfl, rfl⟩ rfl rfl rfl rfl rfl (by kernel_rfl) Tryd.func5 (by kernel_rfl)
    (of_decide_eq_true (by kernel_rfl)) (by unfold Func.isWrapper; first | (rw [if_pos (by decide +kernel)]; kernel_rfl) | (rw [if_neg (by decide +kernel)]; exact ⟨rfl, rfl⟩))
    (fun os started H enc _ => lifted os started H enc)

theorem card_proved : Rows.DriveGoesCardSaid :=
  Claim7.holds_tied_plain_at .later [] [.data, .data] true (true, _) false
    proved (fun _ h => by cases h) (by kernel_rfl) (fun _ h => by cases h) driveGoes_row_tie rfl ⟨rfl, rfl⟩ (by kernel_rfl) rfl
    (fun f fn hf hfn => by
      obtain rfl : f = 5 := Option.some.inj ((show Tryd.prog.funcNamed "bivouac/bivouaclaw14.DriveGoes" = some 5 by kernel_rfl).symm.trans hf) |>.symm
      obtain rfl : fn = Tryd.f5 := (Option.some.inj (Tryd.func5.symm.trans hfn)).symm
      exact ⟨by kernel_rfl, fun j t ht => by
        rw [Tryd.params5] at ht
        have hm : t ∈ [30] := by simpa using Array.mem_of_getElem? ht
        have hall : ([30].all fun u => !Tryd.prog.wantsStandIn u) = true := by kernel_rfl
        exact (show Tryd.prog.wantsStandIn t = false by simpa using List.all_eq_true.1 hall t hm)⟩)
    (by kernel_rfl)
#print axioms card_proved
end Go.Proofs.YtbcddiaplpbhjaaDoor.DriveGoes
