/- DriveParts: so many steps, and more, are all of them, without the document's answer. No conditions beyond the row's own: the listed tables read as the program's text lays them. -/
import Derived.Test.YtbcddiaplpbhjaaDoorDrivePartsP
import Derived.Test.YtbcddiaplpbhjaaDoorCards
import Derived.Test.YtbcddiaplpbhjaaDoorTie
import Derived.SevenTiedAt
namespace Go.Proofs.YtbcddiaplpbhjaaDoor.DriveParts
open Go Go.RowKit Go.ChangeShapes Go.WideShapes Go.ChangeAt Go.Proofs.YtbcddiaplpbhjaaDoor.Tg Go.Proofs.YtbcddiaplpbhjaaDoor.MDr Go.Proofs.YtbcddiaplpbhjaaDoor.Dr
set_option linter.unusedVariables false
set_option linter.unusedSimpArgs false


section
variable {sp tn W H x y : Int}
theorem stepS_there (a b c : Int) (h : (stepS a b c sp tn W H x y).2.2.2 = true) : (stepS a b c sp tn W H x y).1 = x ∧ (stepS a b c sp tn W H x y).2.1 = y := by
  unfold stepS at *
  split at h
  · rename_i q; rw [if_pos q]; exact q
  · rename_i q
    rw [if_neg q]
    split at h
    · cases h
    · rename_i q2
      rw [if_neg q2]
      split at h
      · rename_i q3; rw [if_pos q3]; exact ⟨rfl, rfl⟩
      · cases h
theorem goS_hit (n : Nat) (a b c : Int) (h : (stepS a b c sp tn W H x y).2.2.2 = true) : goS sp tn W H x y (n + 1) a b c = ((stepS a b c sp tn W H x y).1, (stepS a b c sp tn W H x y).2.1, (stepS a b c sp tn W H x y).2.2.1, 1, true) := by
  rw [goS, if_pos h]
theorem goS_go (n : Nat) (a b c : Int) (h : ¬ (stepS a b c sp tn W H x y).2.2.2 = true) {r : Int × Int × Int × Int × Bool} (hr : goS sp tn W H x y n (stepS a b c sp tn W H x y).1 (stepS a b c sp tn W H x y).2.1 (stepS a b c sp tn W H x y).2.2.1 = r) :
    goS sp tn W H x y (n + 1) a b c = (r.1, r.2.1, r.2.2.1, r.2.2.2.1 + 1, r.2.2.2.2) := by
  rw [goS, if_neg h, hr]
theorem stepS_stay (c : Int) : stepS x y c sp tn W H x y = (x, y, c, true) := by
  unfold stepS; rw [if_pos ⟨rfl, rfl⟩]
theorem go_add (m : Nat) : ∀ (n : Nat) (a b c : Int), goS sp tn W H x y (n + m) a b c =
    if (goS sp tn W H x y n a b c).2.2.2.2 = true then goS sp tn W H x y n a b c else
    ((goS sp tn W H x y m (goS sp tn W H x y n a b c).1 (goS sp tn W H x y n a b c).2.1 (goS sp tn W H x y n a b c).2.2.1).1,
      (goS sp tn W H x y m (goS sp tn W H x y n a b c).1 (goS sp tn W H x y n a b c).2.1 (goS sp tn W H x y n a b c).2.2.1).2.1,
      (goS sp tn W H x y m (goS sp tn W H x y n a b c).1 (goS sp tn W H x y n a b c).2.1 (goS sp tn W H x y n a b c).2.2.1).2.2.1,
      (goS sp tn W H x y n a b c).2.2.2.1 + (goS sp tn W H x y m (goS sp tn W H x y n a b c).1 (goS sp tn W H x y n a b c).2.1 (goS sp tn W H x y n a b c).2.2.1).2.2.2.1,
      (goS sp tn W H x y m (goS sp tn W H x y n a b c).1 (goS sp tn W H x y n a b c).2.1 (goS sp tn W H x y n a b c).2.2.1).2.2.2.2)
  | 0, a, b, c => by
    rw [Nat.zero_add]
    conv => rhs; simp only [goS]
    simp
  | n + 1, a, b, c => by
    rw [show n + 1 + m = (n + m) + 1 by omega]
    have ih := go_add m n (stepS a b c sp tn W H x y).1 (stepS a b c sp tn W H x y).2.1 (stepS a b c sp tn W H x y).2.2.1
    by_cases ht : (stepS a b c sp tn W H x y).2.2.2 = true
    · rw [goS_hit _ _ _ _ ht, goS_hit _ _ _ _ ht, if_pos rfl]
    · rw [goS_go _ _ _ _ ht ih, goS_go _ _ _ _ ht rfl]
      generalize goS sp tn W H x y n (stepS a b c sp tn W H x y).1 (stepS a b c sp tn W H x y).2.1 (stepS a b c sp tn W H x y).2.2.1 = r
      by_cases hr : r.2.2.2.2 = true
      · simp only [hr, if_true]
      · simp only [if_neg hr]
        refine Prod.ext rfl (Prod.ext rfl (Prod.ext rfl (Prod.ext ?_ rfl)))
        simp only []
        omega
/-- hit or not, how many -/
theorem go_facts : ∀ (n : Nat) (a b c : Int), 0 ≤ (goS sp tn W H x y n a b c).2.2.2.1 ∧ (goS sp tn W H x y n a b c).2.2.2.1 ≤ n ∧
    ((goS sp tn W H x y n a b c).2.2.2.2 = true → 0 < (goS sp tn W H x y n a b c).2.2.2.1 ∧ (goS sp tn W H x y n a b c).1 = x ∧ (goS sp tn W H x y n a b c).2.1 = y) ∧
    ((goS sp tn W H x y n a b c).2.2.2.2 = false → (goS sp tn W H x y n a b c).2.2.2.1 = n)
  | 0, a, b, c => by simp [goS]
  | n + 1, a, b, c => by
    by_cases ht : (stepS a b c sp tn W H x y).2.2.2 = true
    · rw [goS_hit _ _ _ _ ht]
      have := stepS_there a b c ht
      simp only []
      refine ⟨by omega, by omega, fun _ => ⟨by omega, this⟩, fun h => by cases h⟩
    · obtain ⟨f1, f2, f3, f4⟩ := go_facts n (stepS a b c sp tn W H x y).1 (stepS a b c sp tn W H x y).2.1 (stepS a b c sp tn W H x y).2.2.1
      rw [goS_go _ _ _ _ ht rfl]
      simp only []
      exact ⟨by omega, by omega, fun h => ⟨by omega, (f3 h).2⟩, fun h => by have := f4 h; omega⟩
theorem go_at : ∀ (n : Nat) (c : Int), goS sp tn W H x y (n + 1) x y c = (x, y, c, 1, true) := by
  intro n c
  rw [goS_hit _ _ _ _ (by rw [stepS_stay]), stepS_stay]
theorem go_may : ∀ (n : Nat) (a b c : Int), May a b c sp tn W H x y → May (goS sp tn W H x y n a b c).1 (goS sp tn W H x y n a b c).2.1 (goS sp tn W H x y n a b c).2.2.1 sp tn W H x y
  | 0, a, b, c, h => h
  | n + 1, a, b, c, h => by
    by_cases ht : (stepS a b c sp tn W H x y).2.2.2 = true
    · rw [goS_hit _ _ _ _ ht]; exact stepS_may h
    · rw [goS_go _ _ _ _ ht rfl]; exact go_may n _ _ _ (stepS_may h)
end

theorem u8_of {a : Int} (w : (Lit.int .u8 a).wf = true) : 0 ≤ a ∧ a ≤ 255 := by
  simp [Lit.wf, IntKind.min, IntKind.max, IntKind.bits, IntKind.signed] at w; exact w

theorem parts_j (px py pa sp tn W_ H_ x y nn n m : Int) (h0 : 0 ≤ n) (h1 : n ≤ 100) (m0 : 0 ≤ m) (m1 : m ≤ 255) : bivouaclaw14_DriveParts.j1 500 m n px py pa sp tn W_ H_ x y nn = some true := by
  obtain ⟨n, rfl⟩ := Int.eq_ofNat_of_zero_le h0
  obtain ⟨m, rfl⟩ := Int.eq_ofNat_of_zero_le m0
  rw [bivouaclaw14_DriveParts.j1, w_in (x := (m : Int)) (by omega) (by omega), w_in (x := (n : Int) + m) (by omega) (by omega)]
  by_cases hM : May px py pa sp tn W_ H_ x y
  · have e1 : 499 = (496 - n) + n + 3 := by omega
    have e2 : 499 = (496 - (n + m)) + (n + m) + 3 := by omega
    have q1 := steps_f hM n n (by split <;> omega) (by omega) (496 - n)
    have q2 := steps_f hM (n + m) (n + m) (by split <;> omega) (by omega) (496 - (n + m))
    rw [← e1] at q1
    rw [← e2] at q2
    rw [q1, Option.bind_some, q2, Option.bind_some, if_pos rfl]
    have ha := go_add (sp := sp) (tn := tn) (W := W_) (H := H_) (x := x) (y := y) m n px py pa
    obtain ⟨f1, f2, f3, f4⟩ := go_facts (sp := sp) (tn := tn) (W := W_) (H := H_) (x := x) (y := y) n px py pa
    have hMa := go_may (sp := sp) (tn := tn) (W := W_) (H := H_) (x := x) (y := y) n px py pa hM
    obtain ⟨r, hr⟩ : ∃ r, goS sp tn W_ H_ x y n px py pa = r := ⟨_, rfl⟩
    rw [hr] at ha f1 f2 f3 f4 hMa ⊢
    obtain ⟨b, hb⟩ : ∃ b, goS sp tn W_ H_ x y (n + m) px py pa = b := ⟨_, rfl⟩
    rw [hb] at ha ⊢
    have elze : r.2.2.2.2 = false → bivouaclaw14_DriveParts.j2 499 (m : Int) r.2.2.2.1 b.2.2.2.1 0 false px py pa sp tn W_ H_ x y nn r.1 r.2.1 r.2.2.1 b.1 b.2.1 b.2.2.1 = some true := by
      intro hf
      have e3 : 498 = (495 - m) + m + 3 := by omega
      have q3 := steps_f hMa m m (by split <;> omega) (by omega) (495 - m)
      rw [← e3] at q3
      obtain ⟨f5, f6, _, _⟩ := go_facts (sp := sp) (tn := tn) (W := W_) (H := H_) (x := x) (y := y) m r.1 r.2.1 r.2.2.1
      rw [bivouaclaw14_DriveParts.j2, if_neg (by decide), w_in (x := (m : Int)) (by omega) (by omega), q3, Option.bind_some, awake_k 486]
      rw [if_neg (by rw [hf]; decide)] at ha
      generalize goS sp tn W_ H_ x y m r.1 r.2.1 r.2.2.1 = c at *
      subst ha
      simp
      rw [w_in (by omega) (by omega)]
    by_cases hp : r.1 = x ∧ r.2.1 = y ∧ 0 < r.2.2.2.1
    · rw [if_pos hp.1, if_pos hp.2.1, decide_eq_true hp.2.2, bivouaclaw14_DriveParts.j2, if_pos rfl, awake_k 486, w_in (x := r.2.2.2.1 + 1) (by omega) (by omega)]
      have hb4 : b.1 = r.1 ∧ b.2.1 = r.2.1 ∧ b.2.2.1 = r.2.2.1 ∧ b.2.2.2.1 ≤ r.2.2.2.1 + 1 := by
        by_cases hh : r.2.2.2.2 = true
        · rw [if_pos hh] at ha; subst ha; omega
        · rw [if_neg hh, hp.1, hp.2.1] at ha
          cases m with
          | zero => simp only [goS] at ha; subst ha; simp; omega
          | succ m => rw [go_at] at ha; subst ha; simp; omega
      rw [if_pos rfl, if_pos hb4.1, if_pos hb4.2.1, if_pos hb4.2.2.1, if_pos hb4.2.2.2]
      rfl
    · by_cases hz : r.2.2.2.2 = true
      · exfalso; have := f3 hz; omega
      · have hz' : r.2.2.2.2 = false := by simpa using hz
        by_cases hx : r.1 = x
        · rw [if_pos hx]
          by_cases hy : r.2.1 = y
          · rw [if_pos hy, decide_eq_false (show ¬ r.2.2.2.1 > 0 by omega), elze hz']
          · rw [if_neg hy, elze hz']
        · rw [if_neg hx, elze hz']
  · rw [steps_not (k := 498) hM, Option.bind_some, steps_not (k := 498) hM, Option.bind_some, if_neg (by decide), awake_k 487]
    rfl
theorem pure (px py pa sp tn W_ H_ x y n m : Int) (hpx : (Lit.int .i64 px).wf = true) (hpy : (Lit.int .i64 py).wf = true) (hpa : (Lit.int .i64 pa).wf = true) (hsp : (Lit.int .i64 sp).wf = true) (htn : (Lit.int .i64 tn).wf = true) (hW_ : (Lit.int .i64 W_).wf = true) (hH_ : (Lit.int .i64 H_).wf = true) (hx : (Lit.int .i64 x).wf = true) (hy : (Lit.int .i64 y).wf = true) (hn : (Lit.int .i64 n).wf = true) (hm : (Lit.int .u8 m).wf = true) : ∃ k, bivouaclaw14_DriveParts.f k px py pa sp tn W_ H_ x y n m = some true := by
  have hm0 := u8_of hm
  refine ⟨501, ?_⟩
  unfold bivouaclaw14_DriveParts.f
  by_cases h : n < 0
  · rw [if_pos h, bivouaclaw14_DriveParts.j0, if_pos rfl]
    exact parts_j _ _ _ _ _ _ _ _ _ _ _ _ (by decide) (by decide) hm0.1 hm0.2
  · rw [if_neg h, bivouaclaw14_DriveParts.j0]
    by_cases h' : n > 100
    · rw [decide_eq_true h', if_pos rfl]
      exact parts_j _ _ _ _ _ _ _ _ _ _ _ _ (by decide) (by decide) hm0.1 hm0.2
    · rw [decide_eq_false h', if_neg (by decide)]
      exact parts_j _ _ _ _ _ _ _ _ _ _ _ _ (by omega) (by omega) hm0.1 hm0.2

theorem walk (px py pa sp tn W_ H_ x y n m : Int) (hpx : (Lit.int .i64 px).wf = true) (hpy : (Lit.int .i64 py).wf = true) (hpa : (Lit.int .i64 pa).wf = true) (hsp : (Lit.int .i64 sp).wf = true) (htn : (Lit.int .i64 tn).wf = true) (hW_ : (Lit.int .i64 W_).wf = true) (hH_ : (Lit.int .i64 H_).wf = true) (hx : (Lit.int .i64 x).wf = true) (hy : (Lit.int .i64 y).wf = true) (hn : (Lit.int .i64 n).wf = true) (hm : (Lit.int .u8 m).wf = true) (W : World) (ht : Tg.Tab W) :
    Calls Tryd.prog 7 #[.agg #[.int .i64 px, .int .i64 py, .int .i64 pa, .int .i64 sp, .int .i64 tn, .int .i64 W_, .int .i64 H_, .int .i64 x, .int .i64 y, .int .i64 n], .int .u8 m] W fun e w' => e = .returned (.bool true) ∧ Below W.heap.size W w' := by
  obtain ⟨k, h⟩ := pure px py pa sp tn W_ H_ x y n m hpx hpy hpa hsp htn hW_ hH_ hx hy hn hm
  exact bivouaclaw14_DriveParts.calls k px py pa sp tn W_ H_ x y n m true W ht h

theorem door_met (os : Os) (args : Array Value) : laidMetH Tryd.prog laidS ((World.doorLaid Tryd.prog 400 os).forCall (fun _ _ => 0) ⟨#[], args, []⟩).memory :=
  laidMetH_of_parts3 (fuel := 8) (laidMet_of_run' 8 (by kernel_rfl) (by kernel_rfl)) (by kernel_rfl) (by kernel_rfl)

theorem cells0 {cs : Array Value} (h : flatOk [some .i64, some .i64, some .i64, some .i64, some .i64, some .i64, some .i64, some .i64, some .i64, some .i64] cs.toList) : ∃ (z0 : Int) (z1 : Int) (z2 : Int) (z3 : Int) (z4 : Int) (z5 : Int) (z6 : Int) (z7 : Int) (z8 : Int) (z9 : Int), cs = #[.int .i64 z0, .int .i64 z1, .int .i64 z2, .int .i64 z3, .int .i64 z4, .int .i64 z5, .int .i64 z6, .int .i64 z7, .int .i64 z8, .int .i64 z9] ∧ (Lit.int .i64 z0).wf = true ∧ (Lit.int .i64 z1).wf = true ∧ (Lit.int .i64 z2).wf = true ∧ (Lit.int .i64 z3).wf = true ∧ (Lit.int .i64 z4).wf = true ∧ (Lit.int .i64 z5).wf = true ∧ (Lit.int .i64 z6).wf = true ∧ (Lit.int .i64 z7).wf = true ∧ (Lit.int .i64 z8).wf = true ∧ (Lit.int .i64 z9).wf = true := by
  obtain ⟨l⟩ := cs
  replace h : flatOk [some .i64, some .i64, some .i64, some .i64, some .i64, some .i64, some .i64, some .i64, some .i64, some .i64] l := h
  rcases l with _ | ⟨v0, l⟩
  · exact h.elim
  obtain ⟨⟨z0, rfl, w0⟩, h⟩ := h
  rcases l with _ | ⟨v1, l⟩
  · exact h.elim
  obtain ⟨⟨z1, rfl, w1⟩, h⟩ := h
  rcases l with _ | ⟨v2, l⟩
  · exact h.elim
  obtain ⟨⟨z2, rfl, w2⟩, h⟩ := h
  rcases l with _ | ⟨v3, l⟩
  · exact h.elim
  obtain ⟨⟨z3, rfl, w3⟩, h⟩ := h
  rcases l with _ | ⟨v4, l⟩
  · exact h.elim
  obtain ⟨⟨z4, rfl, w4⟩, h⟩ := h
  rcases l with _ | ⟨v5, l⟩
  · exact h.elim
  obtain ⟨⟨z5, rfl, w5⟩, h⟩ := h
  rcases l with _ | ⟨v6, l⟩
  · exact h.elim
  obtain ⟨⟨z6, rfl, w6⟩, h⟩ := h
  rcases l with _ | ⟨v7, l⟩
  · exact h.elim
  obtain ⟨⟨z7, rfl, w7⟩, h⟩ := h
  rcases l with _ | ⟨v8, l⟩
  · exact h.elim
  obtain ⟨⟨z8, rfl, w8⟩, h⟩ := h
  rcases l with _ | ⟨v9, l⟩
  · exact h.elim
  obtain ⟨⟨z9, rfl, w9⟩, h⟩ := h
  rcases l with _ | ⟨v, l⟩
  · exact ⟨z0, z1, z2, z3, z4, z5, z6, z7, z8, z9, rfl, w0, w1, w2, w3, w4, w5, w6, w7, w8, w9⟩
  · exact h.elim

set_option maxRecDepth 100000 in
theorem lifted (os : Os) (started : os.Started) (H : Type) (enc : TypeId × Value → H) :
    ReturnsInHanded {} Tryd.checked os 7 .any (fun w args => (Rows.drivePartsSpec.pre enc Tryd.prog Tryd.f7 [] false w args ∧ laidMetH Tryd.prog laidS w) ∧ sizedMet enc Tryd.prog Tryd.f7 (OpenSpec.ofChange Rows.drivePartsSpec) false w args) (Rows.drivePartsSpec.post enc Tryd.prog Tryd.f7 false true false false) := by
  refine returnsInHanded_of_change_and (C := Tryd.checked) (X := fun w _ => laidMetH Tryd.prog laidS w) (fun _ _ _ hh h => h.of_heap hh) own started (by kernel_rfl) Tryd.func7
    (ChangeSpec.witness_shaped (enc := enc) (C := Tryd.checked) (os := os) (X := fun w _ => laidMetH Tryd.prog laidS w) false (World.doorLaid Tryd.prog 400 os) #[.agg #[.int .i64 0, .int .i64 0, .int .i64 0, .int .i64 0, .int .i64 0, .int .i64 0, .int .i64 0, .int .i64 0, .int .i64 0, .int .i64 0], .int .u8 0] 8 rfl (World.shaped_of_RefB (by kernel_rfl) (by kernel_rfl)) (by kernel_rfl) (by kernel_rfl) (by kernel_rfl) (door_met os _)) ?_
  intro W base args ds gs before hval0 hW _ _ hL _
  have hval : ∀ (j : Nat) t v, Tryd.f7.params[j]? = some t → args[j]? = some v → Value.okWide Tryd.prog W .any base t v := hval0
  have hW' := hW
  obtain ⟨p, q, hA0, hV, rfl, hfz, hnd⟩ := hW
  have hA : DataW.TrodAll enc Tryd.prog W 0 (fun _ => true) true Tryd.f7.params.toList args.toList ds p := hA0
  rw [Tryd.params7] at hA hval
  obtain ⟨v0, vs0, d0, ds0, p0, q0, hargs, rfl, rfl, h0, r0⟩ := trodAll_cons hA
  obtain ⟨v1, vs1, d1, ds1, p1, q1, rfl, rfl, rfl, h1, r1⟩ := trodAll_cons r0
  obtain ⟨rfl, rfl, rfl⟩ := trodAll_nil r1
  obtain rfl : args = #[v0, v1] := by cases args; simp_all
  obtain ⟨rfl, rfl⟩ := trodVars_none hV
  obtain ⟨cs0, rfl, hf0, rfl, tr0⟩ := open_flat (n := 6) (by kernel_rfl) Tryd.underlying30 (hval 0 30 v0 rfl rfl) h0
  obtain ⟨a0_0, a0_1, a0_2, a0_3, a0_4, a0_5, a0_6, a0_7, a0_8, a0_9, rfl, w0_0, w0_1, w0_2, w0_3, w0_4, w0_5, w0_6, w0_7, w0_8, w0_9⟩ := cells0 hf0
  obtain ⟨a1, rfl, rfl, rfl, w1⟩ := open_int Tryd.underlying5 (hval 1 5 v1 rfl rfl) h1
  clear hA0 hval0
  simp only [List.append_nil] at hW'
  refine (walk a0_0 a0_1 a0_2 a0_3 a0_4 a0_5 a0_6 a0_7 a0_8 a0_9 a1 w0_0 w0_1 w0_2 w0_3 w0_4 w0_5 w0_6 w0_7 w0_8 w0_9 w1 W (tab_of_laid hL)).mono fun e W' ⟨he, hb⟩ => ?_
  subst he
  refine ⟨_, rfl, _, _, _, [], [], [], hW', ?_, ?_, ?_, hb.frame _, fun h => by cases h⟩
  · exact trodAll_cons_mk (shut_bool Tryd.underlying4 _) trodAll_mk0
  · exact (trodAll_cons_mk (tr0 _ _ _ _) (trodAll_cons_mk (shut_int Tryd.underlying5 w1) trodAll_mk0))
  · rfl

theorem proved : Rows.DrivePartsSaid :=
  OpenClaim.holds_of_wide 7 Tryd.f7 rfl rfl rfl rfl rfl rfl rfl ⟨rfl, rfl, rfl, rfl, rfl⟩ rfl rfl rfl rfl rfl (by kernel_rfl) Tryd.func7 (by kernel_rfl)
    (of_decide_eq_true (by kernel_rfl)) (by unfold Func.isWrapper; first | (rw [if_pos (by decide +kernel)]; kernel_rfl) | (rw [if_neg (by decide +kernel)]; exact ⟨rfl, rfl⟩))
    (fun os started H enc _ => lifted os started H enc)

theorem card_proved : Rows.DrivePartsCardSaid :=
  Claim7.holds_tied_plain_at .later [] [.data] true (true, _) false
    proved (fun _ h => by cases h) (by kernel_rfl) (fun _ h => by cases h) driveParts_row_tie rfl ⟨rfl, rfl⟩ (by kernel_rfl) rfl
    (fun f fn hf hfn => by
      obtain rfl : f = 7 := Option.some.inj ((show Tryd.prog.funcNamed "bivouac/bivouaclaw14.DriveParts" = some 7 by kernel_rfl).symm.trans hf) |>.symm
      obtain rfl : fn = Tryd.f7 := (Option.some.inj (Tryd.func7.symm.trans hfn)).symm
      exact ⟨by kernel_rfl, fun j t ht => by
        rw [Tryd.params7] at ht
        have hm : t ∈ [30, 5] := by simpa using Array.mem_of_getElem? ht
        have hall : ([30, 5].all fun u => !Tryd.prog.wantsStandIn u) = true := by kernel_rfl
        exact (show Tryd.prog.wantsStandIn t = false by simpa using List.all_eq_true.1 hall t hm)⟩)
    (by kernel_rfl)
#print axioms card_proved
end Go.Proofs.YtbcddiaplpbhjaaDoor.DriveParts
