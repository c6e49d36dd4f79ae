/- AimShots: every elevation's shot is the document's, each number rounded down, or it is refused. No conditions beyond the row's own: the listed tables read as the program's text lays them. -/
import Derived.Test.YtbcddiaplpbhjaaDoorAimShotsP
import Derived.Test.YtbcddiaplpbhjaaDoorCards
import Derived.Test.YtbcddiaplpbhjaaDoorTie
import Derived.SevenTiedAt
import Derived.SizedLaws
namespace Go.Proofs.YtbcddiaplpbhjaaDoor.AimShots
open Go Go.RowKit Go.ChangeShapes Go.WideShapes Go.ChangeAt Go.Proofs.YtbcddiaplpbhjaaDoor.MAi Go.Proofs.YtbcddiaplpbhjaaDoor.Ap Go.Proofs.YtbcddiaplpbhjaaDoorW.PrintMore Go.Proofs.YtbcddiaplpbhjaaDoorW.PrintWords
set_option linter.unusedVariables false
set_option linter.unusedSimpArgs false

section
theorem shots_pure {l : List Int} (W H Wa X Y Z a b c x y sp k r : Int) (hl : Bytes l) : bivouaclaw17_AimShots.f 1030 W H Wa l X Y Z a b c x y sp k r = some true := by
  unfold bivouaclaw17_AimShots.f
  by_cases h : May X Y x y sp k
  · rw [show 1030 = 1024 + 6 from rfl, shot_f h, Option.bind_some, rmay_f, Option.bind_some, if_pos (decide_eq_true h), rshot_f h, Option.bind_some, show 1024 + 6 = 0 + 1030 from rfl, awake_k]
    simp
  · rw [show 1030 = 1024 + 6 from rfl, shot_not h, Option.bind_some, rmay_f, Option.bind_some, if_neg (by simpa using h), show 1024 + 6 = 0 + 1030 from rfl, awake_k]
    rfl
end
open Go.Proofs.YtbcddiaplpbhjaaDoor.Tg

theorem wf_byte {z : Int} (h : (Lit.int .u8 z).wf = true) : 0 ≤ z ∧ z ≤ 255 := by
  have h' : IntKind.u8.min ≤ z ∧ z ≤ IntKind.u8.max := by simpa [Lit.wf] using h
  exact ⟨h'.1, h'.2⟩
theorem walk (a0 a1 a2 : Int) (A : Option Addr) (c : Nat) (l : List Int) (a4 a5 a6 a7 a8 a9 a10 a11 a12 a13 a14 : Int) (w0 : (Lit.int .i64 a0).wf = true) (w1 : (Lit.int .i64 a1).wf = true) (w2 : (Lit.int .i64 a2).wf = true) {W0 : World} (hr : Kd.C (Kd.int .u8) W0 A l.length l) (hc : l.length ≤ c) (hw : ∀ z ∈ l, (Lit.int .u8 z).wf = true) (w4 : (Lit.int .i64 a4).wf = true) (w5 : (Lit.int .i64 a5).wf = true) (w6 : (Lit.int .i64 a6).wf = true) (w7 : (Lit.int .i64 a7).wf = true) (w8 : (Lit.int .i64 a8).wf = true) (w9 : (Lit.int .i64 a9).wf = true) (w10 : (Lit.int .i64 a10).wf = true) (w11 : (Lit.int .i64 a11).wf = true) (w12 : (Lit.int .i64 a12).wf = true) (w13 : (Lit.int .i64 a13).wf = true) (w14 : (Lit.int .i64 a14).wf = true) (W : World) (e0 : W0 = W) (ht : Tabs W) :
    Calls Tryd.prog 8 #[.agg #[.int .i64 a0, .int .i64 a1, .int .i64 a2, .slice A l.length c, .int .i64 a4, .int .i64 a5, .int .i64 a6, .int .i64 a7, .int .i64 a8, .int .i64 a9, .int .i64 a10, .int .i64 a11, .int .i64 a12, .int .i64 a13, .int .i64 a14]] W fun e w' => e = .returned (.bool true) ∧ Below W.heap.size W w' := by
  subst e0
  exact bivouaclaw17_AimShots.calls 1030 a0 a1 a2 A c l a4 a5 a6 a7 a8 a9 a10 a11 a12 a13 a14 _ hr hc ht (shots_pure a0 a1 a2 a4 a5 a6 a7 a8 a9 a10 a11 a12 a13 a14 (fun z hz => wf_byte (hw z hz)))

theorem door_met (os : Os) (args : Array Value) : laidMetH Tryd.prog laidQS ((World.doorLaid Tryd.prog 400 os).forCall (fun _ _ => 0) ⟨#[], args, []⟩).memory :=
  laidMetH_of_parts3 (fuel := 8) (laidMet_of_run' 8 (by kernel_rfl) (by kernel_rfl)) (by kernel_rfl) (by kernel_rfl)
theorem laidOut : laidOutB Tryd.prog = true := by kernel_rfl
theorem cells0 {H : Type} {enc : TypeId × Value → H} {w : World} {base : Nat} {spare : Nat → Bool} {held : Bool} {cs : Array Value} (h : gflatOk enc Tryd.prog w base spare held [.int .i64, .int .i64, .int .i64, .other 43, .int .i64, .int .i64, .int .i64, .int .i64, .int .i64, .int .i64, .int .i64, .int .i64, .int .i64, .int .i64, .int .i64] cs.toList) : ∃ (z0 : Int) (z1 : Int) (z2 : Int) (z3 : Value) (z4 : Int) (z5 : Int) (z6 : Int) (z7 : Int) (z8 : Int) (z9 : Int) (z10 : Int) (z11 : Int) (z12 : Int) (z13 : Int) (z14 : Int), cs = #[.int .i64 z0, .int .i64 z1, .int .i64 z2, z3, .int .i64 z4, .int .i64 z5, .int .i64 z6, .int .i64 z7, .int .i64 z8, .int .i64 z9, .int .i64 z10, .int .i64 z11, .int .i64 z12, .int .i64 z13, .int .i64 z14] ∧ (Lit.int .i64 z0).wf = true ∧ (Lit.int .i64 z1).wf = true ∧ (Lit.int .i64 z2).wf = true ∧ (∃ m x, DataW.trod enc Tryd.prog w base spare held m 43 [z3] = some x) ∧ (Lit.int .i64 z4).wf = true ∧ (Lit.int .i64 z5).wf = true ∧ (Lit.int .i64 z6).wf = true ∧ (Lit.int .i64 z7).wf = true ∧ (Lit.int .i64 z8).wf = true ∧ (Lit.int .i64 z9).wf = true ∧ (Lit.int .i64 z10).wf = true ∧ (Lit.int .i64 z11).wf = true ∧ (Lit.int .i64 z12).wf = true ∧ (Lit.int .i64 z13).wf = true ∧ (Lit.int .i64 z14).wf = true := by
  obtain ⟨l⟩ := cs
  replace h : gflatOk enc Tryd.prog w base spare held [.int .i64, .int .i64, .int .i64, .other 43, .int .i64, .int .i64, .int .i64, .int .i64, .int .i64, .int .i64, .int .i64, .int .i64, .int .i64, .int .i64, .int .i64] l := h
  rcases l with _ | ⟨z0, l⟩
  · exact h.elim
  obtain ⟨⟨z0, rfl, w0⟩, h⟩ := h
  rcases l with _ | ⟨z1, l⟩
  · exact h.elim
  obtain ⟨⟨z1, rfl, w1⟩, h⟩ := h
  rcases l with _ | ⟨z2, l⟩
  · exact h.elim
  obtain ⟨⟨z2, rfl, w2⟩, h⟩ := h
  rcases l with _ | ⟨z3, l⟩
  · exact h.elim
  obtain ⟨w3, h⟩ := h
  rcases l with _ | ⟨z4, l⟩
  · exact h.elim
  obtain ⟨⟨z4, rfl, w4⟩, h⟩ := h
  rcases l with _ | ⟨z5, l⟩
  · exact h.elim
  obtain ⟨⟨z5, rfl, w5⟩, h⟩ := h
  rcases l with _ | ⟨z6, l⟩
  · exact h.elim
  obtain ⟨⟨z6, rfl, w6⟩, h⟩ := h
  rcases l with _ | ⟨z7, l⟩
  · exact h.elim
  obtain ⟨⟨z7, rfl, w7⟩, h⟩ := h
  rcases l with _ | ⟨z8, l⟩
  · exact h.elim
  obtain ⟨⟨z8, rfl, w8⟩, h⟩ := h
  rcases l with _ | ⟨z9, l⟩
  · exact h.elim
  obtain ⟨⟨z9, rfl, w9⟩, h⟩ := h
  rcases l with _ | ⟨z10, l⟩
  · exact h.elim
  obtain ⟨⟨z10, rfl, w10⟩, h⟩ := h
  rcases l with _ | ⟨z11, l⟩
  · exact h.elim
  obtain ⟨⟨z11, rfl, w11⟩, h⟩ := h
  rcases l with _ | ⟨z12, l⟩
  · exact h.elim
  obtain ⟨⟨z12, rfl, w12⟩, h⟩ := h
  rcases l with _ | ⟨z13, l⟩
  · exact h.elim
  obtain ⟨⟨z13, rfl, w13⟩, h⟩ := h
  rcases l with _ | ⟨z14, l⟩
  · exact h.elim
  obtain ⟨⟨z14, rfl, w14⟩, h⟩ := h
  rcases l with _ | ⟨v, l⟩
  · exact ⟨z0, z1, z2, z3, z4, z5, z6, z7, z8, z9, z10, z11, z12, z13, z14, rfl, w0, w1, w2, w3, w4, w5, w6, w7, w8, w9, w10, w11, w12, w13, w14⟩
  · exact h.elim

set_option maxRecDepth 100000 in
theorem lifted (os : Os) (started : os.Started) (H : Type) (enc : TypeId × Value → H) :
    ReturnsInHanded {} Tryd.checked os 8 .any (fun w args => (Rows.aimShotsSpec.pre enc Tryd.prog Tryd.f8 [] false w args ∧ laidMetH Tryd.prog laidQS w) ∧ sizedMet enc Tryd.prog Tryd.f8 (OpenSpec.ofChange Rows.aimShotsSpec) false w args) (Rows.aimShotsSpec.post enc Tryd.prog Tryd.f8 false true false false) := by
  refine returnsInHanded_of_change_and (C := Tryd.checked) (X := fun w _ => laidMetH Tryd.prog laidQS w) (fun _ _ _ hh h => h.of_heap hh) own started (by kernel_rfl) Tryd.func8
    (ChangeSpec.witness_shaped (enc := enc) (C := Tryd.checked) (os := os) (X := fun w _ => laidMetH Tryd.prog laidQS w) false (World.doorLaid Tryd.prog 400 os) #[.agg #[.int .i64 0, .int .i64 0, .int .i64 0, .slice none 0 0, .int .i64 0, .int .i64 0, .int .i64 0, .int .i64 0, .int .i64 0, .int .i64 0, .int .i64 0, .int .i64 0, .int .i64 0, .int .i64 0, .int .i64 0]] 8 rfl (World.shaped_of_RefB (by kernel_rfl) (by kernel_rfl)) (by kernel_rfl) (by kernel_rfl) (by kernel_rfl) (door_met os _)) ?_
  intro W base args ds gs before hval0 hW _ _ hL hsz0
  have hval : ∀ (j : Nat) t v, Tryd.f8.params[j]? = some t → args[j]? = some v → Value.okWide Tryd.prog W .any base t v := hval0
  have hW' := hW
  obtain ⟨p, q, hA0, hV, rfl, hfz, hnd⟩ := hW
  have hA : DataW.TrodAll enc Tryd.prog W 0 (fun _ => true) true Tryd.f8.params.toList args.toList ds p := hA0
  rw [Tryd.params8] at hA hval
  obtain ⟨v0, vs0, d0, ds0, p0, q0, hargs, rfl, rfl, h0, r0⟩ := trodAll_cons hA
  obtain ⟨rfl, rfl, rfl⟩ := trodAll_nil r0
  obtain rfl : args = #[v0] := by cases args; simp_all
  obtain ⟨rfl, rfl⟩ := trodVars_none hV
  have k0 := h0
  have lt0 : ∀ x ∈ p0, x.block < W.heap.size := by obtain ⟨m, hm⟩ := k0; exact DataW.trod_lt m _ _ _ hm
  obtain ⟨cs0, rfl, hf0⟩ := gopen_flat (n := 6) (by kernel_rfl) Tryd.underlying49 (hval 0 49 v0 rfl rfl) h0
  obtain ⟨a0_0, a0_1, a0_2, a0_3, a0_4, a0_5, a0_6, a0_7, a0_8, a0_9, a0_10, a0_11, a0_12, a0_13, a0_14, rfl, w0_0, w0_1, w0_2, w0_3, w0_4, w0_5, w0_6, w0_7, w0_8, w0_9, w0_10, w0_11, w0_12, w0_13, w0_14⟩ := cells0 hf0
  obtain ⟨m0_3, x0_3, hm0_3⟩ := w0_3
  obtain ⟨A0_3, c0_3, l0_3, rfl, hc0_3, hr0_3, hw0_3⟩ := gslice_ints Tryd.underlying43 Tryd.underlying5 (by kernel_rfl) hm0_3
  clear hA0 hval0
  refine (walk a0_0 a0_1 a0_2 A0_3 c0_3 l0_3 a0_4 a0_5 a0_6 a0_7 a0_8 a0_9 a0_10 a0_11 a0_12 a0_13 a0_14 w0_0 w0_1 w0_2 hr0_3 hc0_3 hw0_3 w0_4 w0_5 w0_6 w0_7 w0_8 w0_9 w0_10 w0_11 w0_12 w0_13 w0_14 W rfl (tabs_of_laid hL)).mono fun e W' ⟨he, hb⟩ => ?_
  subst he
  exact ⟨_, rfl, _, _, _, [], _, [], hW', trodAll_cons_mk (shut_bool Tryd.underlying4 _) trodAll_mk0, (trodAll_cons_mk (Below.trod laidOut (by kernel_rfl) (of_decide_eq_true (by kernel_rfl)) k0 hb lt0) trodAll_mk0), rfl, hb.frame _, fun h => by cases h⟩

theorem proved : Rows.AimShotsSaid :=
  OpenClaim.holds_of_wide 8 Tryd.f8 rfl rfl rfl rfl rfl rfl rfl ⟨rfl, rfl, rfl, rfl, rfl⟩ rfl rfl rfl rfl rfl (by kernel_rfl) Tryd.func8 (by kernel_rfl)
    (of_decide_eq_true (by kernel_rfl)) (by unfold Func.isWrapper; first | (rw [if_pos (by decide +kernel)]; kernel_rfl) | (rw [if_neg (by decide +kernel)]; exact ⟨rfl, rfl⟩))
    (fun os started H enc _ => lifted os started H enc)

theorem card_proved : Rows.AimShotsCardSaid :=
  Claim7.holds_tied_plain_at .later [] [.data, .data] true (true, _) false
    proved (fun _ h => by cases h) (by kernel_rfl) (fun _ h => by cases h) aimShots_row_tie rfl ⟨rfl, rfl⟩ (by kernel_rfl) rfl
    (fun f fn hf hfn => by
      obtain rfl : f = 8 := Option.some.inj ((show Tryd.prog.funcNamed "bivouac/bivouaclaw17.AimShots" = some 8 by kernel_rfl).symm.trans hf) |>.symm
      obtain rfl : fn = Tryd.f8 := (Option.some.inj (Tryd.func8.symm.trans hfn)).symm
      exact ⟨by kernel_rfl, fun j t ht => by
        rw [Tryd.params8] at ht
        have hm : t ∈ [49] := by simpa using Array.mem_of_getElem? ht
        have hall : ([49].all fun u => !Tryd.prog.wantsStandIn u) = true := by kernel_rfl
        exact (show Tryd.prog.wantsStandIn t = false by simpa using List.all_eq_true.1 hall t hm)⟩)
    (by kernel_rfl)
#print axioms card_proved
end Go.Proofs.YtbcddiaplpbhjaaDoor.AimShots
