/- PurseScales: every scale, and every part of a want, is the document's, or it is refused. No conditions beyond the row's own. -/
import Derived.Test.YtikhgdbbbingbaaPurseScalesP
import Derived.Test.YtikhgdbbbingbaaRows
import Derived.SevenTiedAt
import Derived.SizedLaws
namespace Go.Proofs.Ytikhgdbbbingbaa.PurseScales
open Go Go.RowKit Go.ChangeShapes Go.WideShapes Go.ChangeAt Go.Proofs.YtikhgdbbbingbaaW.PrintMore Go.Proofs.YtikhgdbbbingbaaW.PrintWords
set_option linter.unusedVariables false
set_option linter.unusedSimpArgs false

section
open Go.Proofs.Ytikhgdbbbingbaa.MPu
theorem Scales_true (h w a b s : Int) : ∃ k, bivouaclaw19_PurseScales.f k h w a b s = some true := by
  refine ⟨8, ?_⟩
  have h4 : ∀ (e p q : Int) (x : Bool), (x = decide (¬ (WishP a b ∧ 0 ≤ s ∧ s ≤ 65536))) → (¬ (WishP a b ∧ 0 ≤ s ∧ s ≤ 65536) → p = 0 ∧ q = 0 ∧ e = 1) → (WishP a b ∧ 0 ≤ s ∧ s ≤ 65536 → p = a * s / 65536 ∧ q = b * s / 65536 ∧ e = 0) →
      bivouaclaw19_PurseScales.j4 5 s e x a b p q = some true := by
    intro e p q x hx h0 h1
    by_cases g : WishP a b ∧ 0 ≤ s ∧ s ≤ 65536
    · obtain ⟨rfl, rfl, rfl⟩ := h1 g
      rw [hx, decide_eq_false (by simpa using g), bivouaclaw19_PurseScales.j4, if_neg (by decide), rpart_f g.1 g.2.1 g.2.2, Option.bind_some, if_pos (by simp)]; simp [awake_n]
    · obtain ⟨rfl, rfl, rfl⟩ := h0 g
      rw [hx, decide_eq_true g, bivouaclaw19_PurseScales.j4, if_pos rfl]; simp [awake_n]
  have h3 : bivouaclaw19_PurseScales.j3 6 s a b = some true := by
    rw [bivouaclaw19_PurseScales.j3]
    obtain ⟨p, q, e, hp, c0, c1⟩ : ∃ p q e : Int, purse_Part.f 5 a b s = some (p, q, e) ∧ (¬ (WishP a b ∧ 0 ≤ s ∧ s ≤ 65536) → p = 0 ∧ q = 0 ∧ e = 1) ∧ (WishP a b ∧ 0 ≤ s ∧ s ≤ 65536 → p = a * s / 65536 ∧ q = b * s / 65536 ∧ e = 0) := by
      by_cases g : WishP a b ∧ 0 ≤ s ∧ s ≤ 65536
      · exact ⟨_, _, _, part_f g.1 g.2.1 g.2.2 4, fun x => absurd g x, fun _ => ⟨rfl, rfl, rfl⟩⟩
      · exact ⟨_, _, _, part_not g 4, fun _ => ⟨rfl, rfl, rfl⟩, fun x => absurd x g⟩
    rw [hp, Option.bind_some, rwish_f, Option.bind_some]
    by_cases g1 : WishP a b
    · rw [if_pos (decide_eq_true g1)]
      by_cases g2 : s < 0
      · rw [if_pos g2]; exact h4 _ _ _ _ (decide_eq_true (show ¬ (WishP a b ∧ 0 ≤ s ∧ s ≤ 65536) from fun q => by have := q.2; omega)).symm c0 c1
      · rw [if_neg g2]; exact h4 _ _ _ _ (by simp only [g1, true_and]; exact decide_eq_decide.2 (by omega)) c0 c1
    · rw [if_neg (by simpa using g1)]; exact h4 _ _ _ _ (decide_eq_true (show ¬ (WishP a b ∧ 0 ≤ s ∧ s ≤ 65536) from fun x => g1 x.1)).symm c0 c1
  unfold bivouaclaw19_PurseScales.f
  by_cases g : ScaleP h w
  · rw [scale_f g, Option.bind_some]
    have g' := g
    unfold ScaleP at g
    rw [if_neg (by omega), if_neg (by omega), if_neg (by omega), decide_eq_false (by omega), bivouaclaw19_PurseScales.j0, if_neg (by decide), rscale_f g', Option.bind_some, if_pos rfl, bivouaclaw19_PurseScales.j2, if_neg (by simp)]
    exact h3
  · have hj : bivouaclaw19_PurseScales.j0 8 h w s 0 1 true a b = some true := by
      rw [bivouaclaw19_PurseScales.j0, if_pos rfl, if_pos rfl, bivouaclaw19_PurseScales.j1, if_neg (by simp)]
      exact h3
    rw [scale_not g, Option.bind_some]
    unfold ScaleP at g
    by_cases q1 : h < 0
    · rw [if_pos q1]; exact hj
    rw [if_neg q1]
    by_cases q2 : h > 1099511627776
    · rw [if_pos q2]; exact hj
    rw [if_neg q2]
    by_cases q3 : w < 0
    · rw [if_pos q3]; exact hj
    rw [if_neg q3, decide_eq_true (by omega)]
    exact hj

end
theorem own : ownKnob Try.prog.godebug = none := by kernel_rfl
theorem walk (a0_0 a0_1 a0_2 a0_3 a0_4 : Int) (w0_0 : (Lit.int .i64 a0_0).wf = true) (w0_1 : (Lit.int .i64 a0_1).wf = true) (w0_2 : (Lit.int .i64 a0_2).wf = true) (w0_3 : (Lit.int .i64 a0_3).wf = true) (w0_4 : (Lit.int .i64 a0_4).wf = true) (W : World) :
    Calls Try.prog 17 #[.agg #[.int .i64 a0_0, .int .i64 a0_1, .int .i64 a0_2, .int .i64 a0_3, .int .i64 a0_4]] W fun e W' => e = .returned (.bool true) ∧ Below W.heap.size W W' := by
  skip
  obtain ⟨k, hk⟩ := Scales_true a0_0 a0_1 a0_2 a0_3 a0_4
  exact MPu.bivouaclaw19_PurseScales.calls k a0_0 a0_1 a0_2 a0_3 a0_4 _  hk
theorem laidOut : laidOutB Try.prog = true := by kernel_rfl
theorem cells0 {H : Type} {enc : TypeId × Value → H} {w : World} {base : Nat} {spare : Nat → Bool} {held : Bool} {cs : Array Value} (h : gflatOk enc Try.prog w base spare held [.int .i64, .int .i64, .int .i64, .int .i64, .int .i64] cs.toList) : ∃ (z0 : Int) (z1 : Int) (z2 : Int) (z3 : Int) (z4 : Int), cs = #[.int .i64 z0, .int .i64 z1, .int .i64 z2, .int .i64 z3, .int .i64 z4] ∧ (Lit.int .i64 z0).wf = true ∧ (Lit.int .i64 z1).wf = true ∧ (Lit.int .i64 z2).wf = true ∧ (Lit.int .i64 z3).wf = true ∧ (Lit.int .i64 z4).wf = true := by
  obtain ⟨l⟩ := cs
  replace h : gflatOk enc Try.prog w base spare held [.int .i64, .int .i64, .int .i64, .int .i64, .int .i64] l := h
  rcases l with _ | ⟨z0, l⟩
  · exact h.elim
  obtain ⟨⟨z0, rfl, w0⟩, h⟩ := h
  rcases l with _ | ⟨z1, l⟩
  · exact h.elim
  obtain ⟨⟨z1, rfl, w1⟩, h⟩ := h
  rcases l with _ | ⟨z2, l⟩
  · exact h.elim
  obtain ⟨⟨z2, rfl, w2⟩, h⟩ := h
  rcases l with _ | ⟨z3, l⟩
  · exact h.elim
  obtain ⟨⟨z3, rfl, w3⟩, h⟩ := h
  rcases l with _ | ⟨z4, l⟩
  · exact h.elim
  obtain ⟨⟨z4, rfl, w4⟩, h⟩ := h
  rcases l with _ | ⟨v, l⟩
  · exact ⟨z0, z1, z2, z3, z4, rfl, w0, w1, w2, w3, w4⟩
  · exact h.elim

set_option maxRecDepth 100000 in
theorem lifted (os : Os) (started : os.Started) (H : Type) (enc : TypeId × Value → H) :
    ReturnsInHanded {} Try.checked os 17 .any (Rows.purseScalesSpec.pre6 enc Try.prog Try.f17 Rows.purseScalesRow.domain false) (Rows.purseScalesSpec.post enc Try.prog Try.f17 false true false false) := by
  refine returnsInHanded_of_change_sized (C := Try.checked) own started (by kernel_rfl) Try.func17
    (ChangeSpec.witness6 (enc := enc) (C := Try.checked) false ⟨#[], #[.agg #[.int .i64 0, .int .i64 0, .int .i64 0, .int .i64 0, .int .i64 0]], []⟩ 8 (by kernel_rfl) (by kernel_rfl) (by kernel_rfl) (by kernel_rfl)) ?_
  intro W base args ds gs before hval0 hW hcnd hsz0 _
  have hval : ∀ (j : Nat) t v, Try.f17.params[j]? = some t → args[j]? = some v → Value.okWide Try.prog W .any base t v := hval0
  have hW' := hW
  obtain ⟨p, q, hA0, hV, rfl, hfz, hnd⟩ := hW
  have hA : DataW.TrodAll enc Try.prog W 0 (fun _ => true) true Try.f17.params.toList args.toList ds p := hA0
  rw [Try.params17] at hA hval
  obtain ⟨v0, vs0, d0, ds0, p0, q0, hargs, rfl, rfl, h0, r0⟩ := trodAll_cons hA
  obtain ⟨rfl, rfl, rfl⟩ := trodAll_nil r0
  obtain rfl : args = #[v0] := by cases args; simp_all
  obtain ⟨rfl, rfl⟩ := trodVars_none hV
  have k0 := h0
  have lt0 : ∀ x ∈ p0, x.block < W.heap.size := by obtain ⟨m, hm⟩ := k0; exact DataW.trod_lt m _ _ _ hm
  obtain ⟨cs0, rfl, hf0⟩ := gopen_flat (n := 6) (by kernel_rfl) Try.underlying50 (hval 0 50 v0 rfl rfl) h0
  obtain ⟨a0_0, a0_1, a0_2, a0_3, a0_4, rfl, w0_0, w0_1, w0_2, w0_3, w0_4⟩ := cells0 hf0
  clear hA0 hval0
  refine (walk a0_0 a0_1 a0_2 a0_3 a0_4 w0_0 w0_1 w0_2 w0_3 w0_4 W ).mono fun e W' ⟨he, hb⟩ => ?_
  subst he
  exact ⟨_, rfl, _, _, _, [], _, [], hW', trodAll_cons_mk (shut_bool Try.underlying4 _) trodAll_mk0, (trodAll_cons_mk (Below.trod laidOut (by kernel_rfl) (of_decide_eq_true (by kernel_rfl)) k0 hb lt0) trodAll_mk0), rfl, hb.frame _, fun h => by cases h⟩

theorem proved : Rows.PurseScalesSaid :=
  OpenClaim.holds_of_wide 17 Try.f17 rfl rfl rfl rfl rfl rfl rfl ⟨rfl, rfl, rfl, rfl, rfl⟩ rfl rfl rfl rfl rfl (by kernel_rfl) Try.func17 (by kernel_rfl)
    (of_decide_eq_true (by kernel_rfl)) (by unfold Func.isWrapper; first | (rw [if_pos (by decide +kernel)]; kernel_rfl) | (rw [if_neg (by decide +kernel)]; exact ⟨rfl, rfl⟩))
    (fun os started H enc _ => lifted os started H enc)
end Go.Proofs.Ytikhgdbbbingbaa.PurseScales
