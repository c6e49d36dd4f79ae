/- What the claim's proof leans on: texts of this claim, laid together. -/
import Derived.Test.YtbcddiaplpbhjaaDoorY6
import Derived.Test.YtbcddiaplpbhjaaDoorCards
import Derived.Test.YtbcddiaplpbhjaaDoorTie
import Derived.SevenTiedAt
namespace Go.Proofs.YtbcddiaplpbhjaaDoor.DriveStays
open Go Go.RowKit Go.ChangeShapes Go.WideShapes Go.ChangeAt Go.Proofs.YtbcddiaplpbhjaaDoor.Tg Go.Proofs.YtbcddiaplpbhjaaDoor.MDr Go.Proofs.YtbcddiaplpbhjaaDoor.Dr
set_option linter.unusedVariables false
set_option linter.unusedSimpArgs false
section
variable {px py pa sp tn W H x y : Int}
theorem stepS_there (a b c : Int) (h : (stepS a b c sp tn W H x y).2.2.2 = true) : (stepS a b c sp tn W H x y).1 = x ∧ (stepS a b c sp tn W H x y).2.1 = y := by
  unfold stepS at *
  split at h
  · rename_i q; rw [if_pos q]; exact q
  · rename_i q
    rw [if_neg q]
    split at h
    · cases h
    · rename_i q2
      rw [if_neg q2]
      split at h
      · rename_i q3; rw [if_pos q3]; exact ⟨rfl, rfl⟩
      · cases h
theorem stepS_stay (c : Int) : stepS x y c sp tn W H x y = (x, y, c, true) := by
  unfold stepS; rw [if_pos ⟨rfl, rfl⟩]
theorem rt_near (d e s : Int) (hs : 0 ≤ s) (h : Rt.rt (d * d + e * e) ≤ s) : -s ≤ d ∧ d ≤ s := by
  have hd := sq_nonneg' d
  have he := sq_nonneg' e
  obtain ⟨r0, _, r2⟩ := Rt.rt_is (n := d * d + e * e) (by omega)
  have h1 := Rt.sq_mono (x := Rt.rt (d * d + e * e) + 1) (y := s + 1) (by omega) (by omega)
  constructor
  · rcases Int.lt_or_le d (-s) with hl | hl
    · have h2 := Rt.sq_mono (x := s + 1) (y := -d) (by omega) (by omega)
      rw [Int.neg_mul_neg] at h2
      omega
    · exact hl
  · rcases Int.lt_or_le s d with hl | hl
    · have h2 := Rt.sq_mono (x := s + 1) (y := d) (by omega) (by omega)
      omega
    · exact hl
theorem clamp_near (v s n p : Int) (hs : 0 ≤ s) (h0 : -s ≤ v) (h1 : v ≤ s) (p0 : 0 ≤ p) (p1 : p < n * 65536) : -s ≤ clampS (p + v) n - p ∧ clampS (p + v) n - p ≤ s := by
  unfold clampS
  repeat' split
  all_goals omega
theorem vel_near (sp c : Int) (h0 : 0 ≤ sp) (hc : -65536 ≤ c ∧ c ≤ 65536) : -sp ≤ sp * c / 65536 ∧ sp * c / 65536 ≤ sp := by
  have h1 : sp * (-65536) ≤ sp * c := Int.mul_le_mul_of_nonneg_left hc.1 h0
  have h2 : sp * c ≤ sp * 65536 := Int.mul_le_mul_of_nonneg_left hc.2 h0
  omega
theorem turn_near (a w t : Int) (ha0 : 0 ≤ a) (ha1 : a < 65536) (ht0 : 0 ≤ t) (ht1 : t ≤ 32768) : offD (Tr.toward a w t) a ≤ t := by
  unfold Tr.toward
  have hd := Tr.dist_range (Tr.nrm a) (Tr.nrm w)
  obtain ⟨k, hk, k0, k1⟩ : ∃ k, Tr.lesser (Tr.dist (Tr.nrm a) (Tr.nrm w)) (Tr.most0 t) = k ∧ 0 ≤ k ∧ k ≤ t := ⟨_, rfl, by unfold Tr.lesser Tr.most0; split <;> split <;> omega, by unfold Tr.lesser Tr.most0; split <;> split <;> omega⟩
  rw [hk]
  unfold Tr.part offD Tr.nrm
  split <;> split <;> omega
theorem stepS_near (h : May px py pa sp tn W H x y) : -sp ≤ (stepS px py pa sp tn W H x y).1 - px ∧ (stepS px py pa sp tn W H x y).1 - px ≤ sp ∧ -sp ≤ (stepS px py pa sp tn W H x y).2.1 - py ∧ (stepS px py pa sp tn W H x y).2.1 - py ≤ sp ∧
    offD (stepS px py pa sp tn W H x y).2.2.1 pa ≤ tn := by
  obtain ⟨hE, h1, h2, h3, h4⟩ := h
  unfold Eng at hE
  unfold On at h1 h2
  have ht := turn_near pa (256 * Tr.headR (x - px) (y - py)) tn h3 h4 (by omega) (by omega)
  unfold stepS
  split
  · refine ⟨by simp; omega, by simp; omega, by simp; omega, by simp; omega, ?_⟩
    show offD pa pa ≤ tn
    unfold offD Tr.nrm; split <;> omega
  · split
    · exact ⟨by simp; omega, by simp; omega, by simp; omega, by simp; omega, ht⟩
    · split
      · rename_i hr
        have q1 := rt_near (x - px) (y - py) sp (by omega) hr
        have q2 := rt_near (y - py) (x - px) sp (by omega) (by rw [Int.add_comm]; exact hr)
        exact ⟨q1.1, q1.2, q2.1, q2.2, ht⟩
      · have c := vel_near sp _ (by omega) (Tr.cosA_bound (turnS px py pa tn x y))
        have s := vel_near sp _ (by omega) (Tr.sinA_bound (turnS px py pa tn x y))
        have c' := clamp_near _ sp W px (by omega) c.1 c.2 (by omega) (by omega)
        have s' := clamp_near _ sp H py (by omega) s.1 s.2 (by omega) (by omega)
        exact ⟨c'.1, c'.2, s'.1, s'.2, ht⟩
end
theorem stays_end (k : Nat) (i g0 g1 g2 g3 g4 g5 g6 g7 g8 g9 a b c : Int) : DSt.j1 (k + 13) i false g0 g1 g2 g3 g4 g5 g6 g7 g8 g9 a b c = some true := by
  rw [DSt.j1, if_neg (by decide), awake_k k]; rfl
theorem stays_l (g0 g1 g2 sp tn W H x y n : Int) : ∀ (d : Nat) (i px py pa : Int) (k : Nat), 0 ≤ i → i + d = 60 → May px py pa sp tn W H x y →
    DSt.l0 (k + 4 * d + 40) i g0 g1 g2 sp tn W H x y n px py pa = some true
  | 0, i, px, py, pa, k, h0, hi, hM => by
    rw [show k + 4 * 0 + 40 = (k + 26 + 13) + 1 by omega, DSt.l0]
    split
    · rw [decide_eq_false (by omega)]; exact stays_end _ _ _ _ _ _ _ _ _ _ _ _ _ _ _
    · exact stays_end _ _ _ _ _ _ _ _ _ _ _ _ _ _ _
  | d + 1, i, px, py, pa, k, h0, hi, hM => by
    rw [show k + 4 * (d + 1) + 40 = (k + 4 * d + 43) + 1 by omega, DSt.l0]
    by_cases hn : i < n
    · rw [if_pos hn, decide_eq_true (show i < 60 by omega), DSt.j1, if_pos rfl, show k + 4 * d + 42 = (k + 4 * d + 40) + 2 by omega, step_f hM, Option.bind_some, if_pos rfl]
      have hM' := stepS_may hM
      have hnr := stepS_near hM
      have hth := stepS_there (sp := sp) (tn := tn) (W := W) (H := H) (x := x) (y := y) px py pa
      obtain ⟨hE, h1, h2, h3, h4⟩ := hM
      obtain ⟨_, h1', _, h3', h4'⟩ := hM'
      have hMay := stepS_may ⟨hE, h1, h2, h3, h4⟩
      have hst : (stepS px py pa sp tn W H x y).2.2.2 = true → stepS (stepS px py pa sp tn W H x y).1 (stepS px py pa sp tn W H x y).2.1 (stepS px py pa sp tn W H x y).2.2.1 sp tn W H x y = ((stepS px py pa sp tn W H x y).1, (stepS px py pa sp tn W H x y).2.1, (stepS px py pa sp tn W H x y).2.2.1, true) := by
        intro h; rw [(hth h).1, (hth h).2]; exact stepS_stay _
      have hgo := stays_l g0 g1 g2 sp tn W H x y n d (i + 1) _ _ _ k (by omega) (by omega) hMay
      obtain ⟨s, hs⟩ : ∃ s, stepS px py pa sp tn W H x y = s := ⟨_, rfl⟩
      rw [hs] at h1' h3' h4' hnr hth hst hgo hMay ⊢
      unfold Eng at hE
      unfold On at h1 h1' h2
      have hj : DSt.j2 (k + 4 * d + 40 + 2) i s.2.2.2 (wrap64 (s.1 - px)) (wrap64 (s.2.1 - py)) false g0 g1 g2 sp tn W H x y n px py pa s.1 s.2.1 s.2.2.1 = some true := by
        rw [DSt.j2, if_neg (by decide), w_in (x := s.1 - px) (by omega) (by omega), w_in (x := s.2.1 - py) (by omega) (by omega), w_in (x := sp + 1) (by omega) (by omega), w_in (x := -sp) (by omega) (by omega), w_in (x := -sp - 1) (by omega) (by omega),
          if_neg (by omega), if_neg (by omega), if_neg (by omega), if_neg (by omega), off_f, Option.bind_some, decide_eq_false (show ¬ offD s.2.2.1 pa > tn by omega), DSt.j3, if_neg (by decide)]
        by_cases ht : s.2.2.2 = true
        · rw [if_pos ht, show k + 4 * d + 40 = (k + 4 * d + 38) + 2 by omega, step_f hMay, Option.bind_some, hst ht, show k + 4 * d + 38 + 2 = (k + 4 * d + 28) + 12 by omega, awake_k]
          simp
        · rw [if_neg ht, w_in (x := i + 1) (by omega) (by omega)]; exact hgo
      have hw : wrap64 (W * 65536) = W * 65536 := w_in (by omega) (by omega)
      have hh : wrap64 (H * 65536) = H * 65536 := w_in (by omega) (by omega)
      show (if s.2.2.2 = true then _ else _) = _
      simp only [hw, hh]
      by_cases ht : s.2.2.2 = true
      · rw [if_pos ht, if_pos (hth ht).1, if_pos (hth ht).2, if_neg (by omega), if_neg (by omega), if_neg (by omega), if_neg (by omega), if_neg (by omega), decide_eq_false (show ¬ s.2.2.1 > 65535 by omega)]
        exact hj
      · rw [if_neg ht, if_neg (by omega), if_neg (by omega), if_neg (by omega), if_neg (by omega), if_neg (by omega), decide_eq_false (show ¬ s.2.2.1 > 65535 by omega)]
        exact hj
    · rw [if_neg hn]; exact stays_end _ _ _ _ _ _ _ _ _ _ _ _ _ _ _
theorem pure (px py pa sp tn W_ H_ x y n : Int) (hpx : (Lit.int .i64 px).wf = true) (hpy : (Lit.int .i64 py).wf = true) (hpa : (Lit.int .i64 pa).wf = true) (hsp : (Lit.int .i64 sp).wf = true) (htn : (Lit.int .i64 tn).wf = true) (hW_ : (Lit.int .i64 W_).wf = true) (hH_ : (Lit.int .i64 H_).wf = true) (hx : (Lit.int .i64 x).wf = true) (hy : (Lit.int .i64 y).wf = true) (hn : (Lit.int .i64 n).wf = true) : ∃ k, DSt.f k px py pa sp tn W_ H_ x y n = some true := by
  refine ⟨300, ?_⟩
  unfold DSt.f
  by_cases hM : May px py pa sp tn W_ H_ x y
  · exact stays_l px py pa sp tn W_ H_ x y n 60 0 px py pa 20 (by decide) (by decide) hM
  · rw [DSt.l0]
    split
    · rw [decide_eq_true (by decide), DSt.j1, if_pos rfl, step_not (k := 297) hM, Option.bind_some, if_neg (by decide), if_pos rfl, if_neg (by decide), awake_k 286]
      rfl
    · exact stays_end 286 _ _ _ _ _ _ _ _ _ _ _ _ _ _
theorem walk (px py pa sp tn W_ H_ x y n : Int) (hpx : (Lit.int .i64 px).wf = true) (hpy : (Lit.int .i64 py).wf = true) (hpa : (Lit.int .i64 pa).wf = true) (hsp : (Lit.int .i64 sp).wf = true) (htn : (Lit.int .i64 tn).wf = true) (hW_ : (Lit.int .i64 W_).wf = true) (hH_ : (Lit.int .i64 H_).wf = true) (hx : (Lit.int .i64 x).wf = true) (hy : (Lit.int .i64 y).wf = true) (hn : (Lit.int .i64 n).wf = true) (W : World) (ht : Tg.Tab W) :
    Calls Tryd.prog 6 #[.agg #[.int .i64 px, .int .i64 py, .int .i64 pa, .int .i64 sp, .int .i64 tn, .int .i64 W_, .int .i64 H_, .int .i64 x, .int .i64 y, .int .i64 n]] W fun e w' => e = .returned (.bool true) ∧ Below W.heap.size W w' := by
  obtain ⟨k, h⟩ := pure px py pa sp tn W_ H_ x y n hpx hpy hpa hsp htn hW_ hH_ hx hy hn
  exact DSt.calls k px py pa sp tn W_ H_ x y n true W ht h
theorem door_met (os : Os) (args : Array Value) : laidMetH Tryd.prog laidS ((World.doorLaid Tryd.prog 400 os).forCall (fun _ _ => 0) ⟨#[], args, []⟩).memory :=
  laidMetH_of_parts3 (fuel := 8) (laidMet_of_run' 8 (by kernel_rfl) (by kernel_rfl)) (by kernel_rfl) (by kernel_rfl)
theorem cells0 {cs : Array Value} (h : flatOk [some .i64, some .i64, some .i64, some .i64, some .i64, some .i64, some .i64, some .i64, some .i64, some .i64] cs.toList) : ∃ (z0 : Int) (z1 : Int) (z2 : Int) (z3 : Int) (z4 : Int) (z5 : Int) (z6 : Int) (z7 : Int) (z8 : Int) (z9 : Int), cs = #[.int .i64 z0, .int .i64 z1, .int .i64 z2, .int .i64 z3, .int .i64 z4, .int .i64 z5, .int .i64 z6, .int .i64 z7, .int .i64 z8, .int .i64 z9] ∧ (Lit.int .i64 z0).wf = true ∧ (Lit.int .i64 z1).wf = true ∧ (Lit.int .i64 z2).wf = true ∧ (Lit.int .i64 z3).wf = true ∧ (Lit.int .i64 z4).wf = true ∧ (Lit.int .i64 z5).wf = true ∧ (Lit.int .i64 z6).wf = true ∧ (Lit.int .i64 z7).wf = true ∧ (Lit.int .i64 z8).wf = true ∧ (Lit.int .i64 z9).wf = true := by
  obtain ⟨l⟩ := cs
  replace h : flatOk [some .i64, some .i64, some .i64, some .i64, some .i64, some .i64, some .i64, some .i64, some .i64, some .i64] l := h
  rcases l with _ | ⟨v0, l⟩
  · exact h.elim
  obtain ⟨⟨z0, rfl, w0⟩, h⟩ := h
  rcases l with _ | ⟨v1, l⟩
  · exact h.elim
  obtain ⟨⟨z1, rfl, w1⟩, h⟩ := h
  rcases l with _ | ⟨v2, l⟩
  · exact h.elim
  obtain ⟨⟨z2, rfl, w2⟩, h⟩ := h
  rcases l with _ | ⟨v3, l⟩
  · exact h.elim
  obtain ⟨⟨z3, rfl, w3⟩, h⟩ := h
  rcases l with _ | ⟨v4, l⟩
  · exact h.elim
  obtain ⟨⟨z4, rfl, w4⟩, h⟩ := h
  rcases l with _ | ⟨v5, l⟩
  · exact h.elim
  obtain ⟨⟨z5, rfl, w5⟩, h⟩ := h
  rcases l with _ | ⟨v6, l⟩
  · exact h.elim
  obtain ⟨⟨z6, rfl, w6⟩, h⟩ := h
  rcases l with _ | ⟨v7, l⟩
  · exact h.elim
  obtain ⟨⟨z7, rfl, w7⟩, h⟩ := h
  rcases l with _ | ⟨v8, l⟩
  · exact h.elim
  obtain ⟨⟨z8, rfl, w8⟩, h⟩ := h
  rcases l with _ | ⟨v9, l⟩
  · exact h.elim
  obtain ⟨⟨z9, rfl, w9⟩, h⟩ := h
  rcases l with _ | ⟨v, l⟩
  · exact ⟨z0, z1, z2, z3, z4, z5, z6, z7, z8, z9, rfl, w0, w1, w2, w3, w4, w5, w6, w7, w8, w9⟩
  · exact h.elim
set_option maxRecDepth 100000 in
theorem lifted (os : Os) (started : os.Started) (H : Type) (enc : TypeId × Value → H) :
    ReturnsInHanded {} Tryd.checked os 6 .any (fun w args => (Rows.driveStaysSpec.pre enc Tryd.prog Tryd.f6 [] false w args ∧ laidMetH Tryd.prog laidS w) ∧ sizedMet enc Tryd.prog Tryd.f6 (OpenSpec.ofChange Rows.driveStaysSpec) false w args) (Rows.driveStaysSpec.post enc Tryd.prog Tryd.f6 false true false false) := by
  refine returnsInHanded_of_change_and (C := Tryd.checked) (X := fun w _ => laidMetH Tryd.prog laidS w) (fun _ _ _ hh h => h.of_heap hh) own started (by kernel_rfl) Tryd.func6
    (ChangeSpec.witness_shaped (enc := enc) (C := Tryd.checked) (os := os) (X := fun w _ => laidMetH Tryd.prog laidS w) false (World.doorLaid Tryd.prog 400 os) #[.agg #[.int .i64 0, .int .i64 0, .int .i64 0, .int .i64 0, .int .i64 0, .int .i64 0, .int .i64 0, .int .i64 0, .int .i64 0, .int .i64 0]] 8 rfl (World.shaped_of_RefB (by kernel_rfl) (by kernel_rfl)) (by kernel_rfl) (by kernel_rfl) (by kernel_rfl) (door_met os _)) ?_
  intro W base args ds gs before hval0 hW _ _ hL _
  have hval : ∀ (j : Nat) t v, Tryd.f6.params[j]? = some t → args[j]? = some v → Value.okWide Tryd.prog W .any base t v := hval0
  have hW' := hW
  obtain ⟨p, q, hA0, hV, rfl, hfz, hnd⟩ := hW
  have hA : DataW.TrodAll enc Tryd.prog W 0 (fun _ => true) true Tryd.f6.params.toList args.toList ds p := hA0
  rw [Tryd.params6] at hA hval
  obtain ⟨v0, vs0, d0, ds0, p0, q0, hargs, rfl, rfl, h0, r0⟩ := trodAll_cons hA
  obtain ⟨rfl, rfl, rfl⟩ := trodAll_nil r0
  obtain rfl : args = #[v0] := by cases args; simp_all
  obtain ⟨rfl, rfl⟩ := trodVars_none hV
  obtain ⟨cs0, rfl, hf0, rfl, tr0⟩ := open_flat (n := 6) (by kernel_rfl) Tryd.underlying30 (hval 0 30 v0 rfl rfl) h0
  obtain ⟨a0_0, a0_1, a0_2, a0_3, a0_4, a0_5, a0_6, a0_7, a0_8, a0_9, rfl, w0_0, w0_1, w0_2, w0_3, w0_4, w0_5, w0_6, w0_7, w0_8, w0_9⟩ := cells0 hf0
  clear hA0 hval0
  simp only [List.append_nil] at hW'
  refine (walk a0_0 a0_1 a0_2 a0_3 a0_4 a0_5 a0_6 a0_7 a0_8 a0_9 w0_0 w0_1 w0_2 w0_3 w0_4 w0_5 w0_6 w0_7 w0_8 w0_9 W (tab_of_laid hL)).mono fun e W' ⟨he, hb⟩ => ?_
  subst he
  refine ⟨_, rfl, _, _, _, [], [], [], hW', ?_, ?_, ?_, hb.frame _, fun h => by cases h⟩
  · exact trodAll_cons_mk (shut_bool Tryd.underlying4 _) trodAll_mk0
  · exact (trodAll_cons_mk (tr0 _ _ _ _) trodAll_mk0)
  · rfl
theorem proved : Rows.DriveStaysSaid :=
  OpenClaim.holds_of_wide 6 Tryd.f6 rfl rfl rfl rfl rfl rfl rfl ⟨rfl, rfl, rfl, rfl, rfl⟩ rfl rfl rfl rfl rfl (by kernel_rfl) Tryd.func6 (by kernel_rfl)
    (of_decide_eq_true (by kernel_rfl)) (by unfold Func.isWrapper; first | (rw [if_pos (by decide +kernel)]; kernel_rfl) | (rw [if_neg (by decide +kernel)]; exact ⟨rfl, rfl⟩))
    (fun os started H enc _ => lifted os started H enc)
theorem card_proved : Rows.DriveStaysCardSaid :=
  Claim7.holds_tied_plain_at .later [] [.data] true (true, _) false
    proved (fun _ h => by cases h) (by kernel_rfl) (fun _ h => by cases h) driveStays_row_tie rfl ⟨rfl, rfl⟩ (by kernel_rfl) rfl
    (fun f fn hf hfn => by
      obtain rfl : f = 6 := Option.some.inj ((show Tryd.prog.funcNamed "bivouac/bivouaclaw14.DriveStays" = some 6 by kernel_rfl).symm.trans hf) |>.symm
      obtain rfl : fn = Tryd.f6 := (Option.some.inj (Tryd.func6.symm.trans hfn)).symm
      exact ⟨by kernel_rfl, fun j t ht => by
        rw [Tryd.params6] at ht
        have hm : t ∈ [30] := by simpa using Array.mem_of_getElem? ht
        have hall : ([30].all fun u => !Tryd.prog.wantsStandIn u) = true := by kernel_rfl
        exact (show Tryd.prog.wantsStandIn t = false by simpa using List.all_eq_true.1 hall t hm)⟩)
    (by kernel_rfl)
#print axioms card_proved
end Go.Proofs.YtbcddiaplpbhjaaDoor.DriveStays
