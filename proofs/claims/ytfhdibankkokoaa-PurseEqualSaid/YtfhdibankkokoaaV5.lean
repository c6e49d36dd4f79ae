/- What the claim's proof leans on: texts of this claim, laid together. -/
import Derived.Test.YtfhdibankkokoaaV4
import Derived.Test.YtfhdibankkokoaaRows
import Derived.SevenTiedAt
import Derived.SizedLaws
namespace Go.Proofs.Ytfhdibankkokoaa.PurseEqual
open Go Go.RowKit Go.ChangeShapes Go.WideShapes Go.ChangeAt Go.Proofs.YtfhdibankkokoaaW.PrintMore Go.Proofs.YtfhdibankkokoaaW.PrintWords
set_option linter.unusedVariables false
set_option linter.unusedSimpArgs false
section
open Go.Proofs.Ytfhdibankkokoaa.MPu
theorem part_mono {x y s : Int} (h : x ≤ y) (s0 : 0 ≤ s) : x * s / 65536 ≤ y * s / 65536 :=
  Int.ediv_le_ediv (by omega) (Int.mul_le_mul_of_nonneg_right h s0)
theorem equal_l (s : Int) (s0 : 0 ≤ s) (l : List S23) (hl : l.length ≤ 66) : ∀ (n j k : Nat), l.length - j ≤ n → n + n + 2 < k → 1 ≤ j → DSt.l0 k l (l.map (partS s)) j = some true
  | n, j, k + 1, hn, hk, h1 => by
    obtain ⟨k, rfl⟩ : ∃ m, k = m + 1 := ⟨k - 1, by omega⟩
    rw [DSt.l0]
    by_cases c : j < l.length
    · have e : wrap64 ((j : Int) - 1) = ((j - 1 : Nat) : Int) := by unfold wrap64; omega
      have hj2 : DSt.j2 (k + 1) l (l.map (partS s)) j false = some true := by
        rw [DSt.j2, if_neg (by decide), up1 j (by omega)]
        exact equal_l s s0 l hl (n - 1) (j + 1) k (by omega) (by omega) (by omega)
      rw [e, rd_parts c, rd_parts (show j - 1 < l.length by omega), if_pos (by omega), if_pos (by omega), if_pos (by omega), if_pos (by omega)]
      have eL : ((l.map (partS s)).length : Int) = l.length := by rw [List.length_map]
      rw [eL]
      generalize rd_T23 l ((j - 1 : Nat) : Int) = a
      generalize rd_T23 l (j : Int) = b
      have m1 : a.f0 ≤ b.f0 → (partS s a).f0 ≤ (partS s b).f0 := fun h => part_mono h s0
      have m2 : b.f0 ≤ a.f0 → (partS s b).f0 ≤ (partS s a).f0 := fun h => part_mono h s0
      have m3 : a.f1 ≤ b.f1 → (partS s a).f1 ≤ (partS s b).f1 := fun h => part_mono h s0
      generalize partS s a = p at m1 m2 m3 ⊢
      generalize partS s b = q at m1 m2 m3 ⊢
      have l1 : ((j - 1 : Nat) : Int) < (l.length : Int) := by omega
      have l2 : (j : Int) < (l.length : Int) := by omega
      simp only [if_pos l1, if_pos l2]
      by_cases d1 : a.f0 ≤ b.f0
      · have k1 := m1 d1
        rw [if_pos d1, if_neg (by omega)]
        by_cases d2 : b.f0 ≤ a.f0
        · have k2 := m2 d2
          rw [if_pos d2, if_neg (by omega)]
          by_cases d3 : a.f1 ≤ b.f1
          · have k3 := m3 d3
            rw [if_pos d3, decide_eq_false (by omega)]; exact hj2
          · rw [if_neg d3]; exact hj2
        · rw [if_neg d2]
          by_cases d3 : a.f1 ≤ b.f1
          · have k3 := m3 d3
            rw [if_pos d3, decide_eq_false (by omega)]; exact hj2
          · rw [if_neg d3]; exact hj2
      · rw [if_neg d1]
        by_cases d2 : b.f0 ≤ a.f0
        · have k2 := m2 d2
          rw [if_pos d2, if_neg (by omega)]
          by_cases d3 : a.f1 ≤ b.f1
          · have k3 := m3 d3
            rw [if_pos d3, decide_eq_false (by omega)]; exact hj2
          · rw [if_neg d3]; exact hj2
        · rw [if_neg d2]
          by_cases d3 : a.f1 ≤ b.f1
          · have k3 := m3 d3
            rw [if_pos d3, decide_eq_false (by omega)]; exact hj2
          · rw [if_neg d3]; exact hj2
    · rw [if_neg (by omega), awake_n (by omega)]; rfl
theorem Equal_true (M E CM CE a b : Int) (l0 : List S23) : ∃ k, DSt.f k M E CM CE a b l0 = some true := by
  refine ⟨300, ?_⟩
  obtain ⟨l, hl, hn⟩ := few_f l0
  unfold DSt.f
  rw [hl, Option.bind_some]
  by_cases h : ServeP M E CM CE a b l
  · rw [serve_yes h, Option.bind_some, if_pos rfl]
    obtain ⟨h1, h2, h3, h4⟩ := h
    have m := h1
    have w := h2
    unfold MayP at m
    unfold WishP at w
    have r := scl_range (M := M) (E := E) (a := a) (b := b) (l := l) (by omega) (by omega) h4
    rw [DSt.j0, if_neg (by simp)]
    exact equal_l _ r.1 l (by omega) 66 1 299 (by omega) (by omega) (by omega)
  · rw [serve_no h, Option.bind_some, if_neg (by simp), DSt.j0, if_pos rfl]
    simp [awake_n]
end
theorem own : ownKnob Try.prog.godebug = none := by kernel_rfl
theorem walk (a0_0 a0_1 a0_2 a0_3 : Int) (a1_0 a1_1 : Int) (A2 : Option Addr) (c2 : Nat) (l2 : List MPu.S23) (w0_0 : (Lit.int .i64 a0_0).wf = true) (w0_1 : (Lit.int .i64 a0_1).wf = true) (w0_2 : (Lit.int .i64 a0_2).wf = true) (w0_3 : (Lit.int .i64 a0_3).wf = true) (w1_0 : (Lit.int .i64 a1_0).wf = true) (w1_1 : (Lit.int .i64 a1_1).wf = true) {W0 : World} (hr : Kd.C MPu.k23 W0 A2 l2.length l2) (hc : l2.length ≤ c2) (W : World) (e0 : W0 = W) :
    Calls Try.prog 6 #[.agg #[.int .i64 a0_0, .int .i64 a0_1, .int .i64 a0_2, .int .i64 a0_3], .agg #[.int .i64 a1_0, .int .i64 a1_1], .slice A2 l2.length c2] W fun e W' => e = .returned (.bool true) ∧ Below W.heap.size W W' := by
  subst e0
  obtain ⟨k, hk⟩ := Equal_true a0_0 a0_1 a0_2 a0_3 a1_0 a1_1 l2
  exact MPu.DSt.calls k a0_0 a0_1 a0_2 a0_3 a1_0 a1_1 A2 c2 l2 _ hr hc hk
theorem laidOut : laidOutB Try.prog = true := by kernel_rfl
theorem cells0 {H : Type} {enc : TypeId × Value → H} {w : World} {base : Nat} {spare : Nat → Bool} {held : Bool} {cs : Array Value} (h : gflatOk enc Try.prog w base spare held [.int .i64, .int .i64, .int .i64, .int .i64] cs.toList) : ∃ (z0 : Int) (z1 : Int) (z2 : Int) (z3 : Int), cs = #[.int .i64 z0, .int .i64 z1, .int .i64 z2, .int .i64 z3] ∧ (Lit.int .i64 z0).wf = true ∧ (Lit.int .i64 z1).wf = true ∧ (Lit.int .i64 z2).wf = true ∧ (Lit.int .i64 z3).wf = true := by
  obtain ⟨l⟩ := cs
  replace h : gflatOk enc Try.prog w base spare held [.int .i64, .int .i64, .int .i64, .int .i64] l := h
  rcases l with _ | ⟨z0, l⟩
  · exact h.elim
  obtain ⟨⟨z0, rfl, w0⟩, h⟩ := h
  rcases l with _ | ⟨z1, l⟩
  · exact h.elim
  obtain ⟨⟨z1, rfl, w1⟩, h⟩ := h
  rcases l with _ | ⟨z2, l⟩
  · exact h.elim
  obtain ⟨⟨z2, rfl, w2⟩, h⟩ := h
  rcases l with _ | ⟨z3, l⟩
  · exact h.elim
  obtain ⟨⟨z3, rfl, w3⟩, h⟩ := h
  rcases l with _ | ⟨v, l⟩
  · exact ⟨z0, z1, z2, z3, rfl, w0, w1, w2, w3⟩
  · exact h.elim
theorem cells1 {H : Type} {enc : TypeId × Value → H} {w : World} {base : Nat} {spare : Nat → Bool} {held : Bool} {cs : Array Value} (h : gflatOk enc Try.prog w base spare held [.int .i64, .int .i64] cs.toList) : ∃ (z0 : Int) (z1 : Int), cs = #[.int .i64 z0, .int .i64 z1] ∧ (Lit.int .i64 z0).wf = true ∧ (Lit.int .i64 z1).wf = true := by
  obtain ⟨l⟩ := cs
  replace h : gflatOk enc Try.prog w base spare held [.int .i64, .int .i64] l := h
  rcases l with _ | ⟨z0, l⟩
  · exact h.elim
  obtain ⟨⟨z0, rfl, w0⟩, h⟩ := h
  rcases l with _ | ⟨z1, l⟩
  · exact h.elim
  obtain ⟨⟨z1, rfl, w1⟩, h⟩ := h
  rcases l with _ | ⟨v, l⟩
  · exact ⟨z0, z1, rfl, w0, w1⟩
  · exact h.elim
set_option maxRecDepth 100000 in
theorem lifted (os : Os) (started : os.Started) (H : Type) (enc : TypeId × Value → H) :
    ReturnsInHanded {} Try.checked os 6 .any (Rows.purseEqualSpec.pre6 enc Try.prog Try.f6 Rows.purseEqualRow.domain false) (Rows.purseEqualSpec.post enc Try.prog Try.f6 false true false false) := by
  refine returnsInHanded_of_change_sized (C := Try.checked) own started (by kernel_rfl) Try.func6
    (ChangeSpec.witness6 (enc := enc) (C := Try.checked) false ⟨#[], #[.agg #[.int .i64 0, .int .i64 0, .int .i64 0, .int .i64 0], .agg #[.int .i64 0, .int .i64 0], .slice none 0 0], []⟩ 8 (by kernel_rfl) (by kernel_rfl) (by kernel_rfl) (by kernel_rfl)) ?_
  intro W base args ds gs before hval0 hW hcnd hsz0 _
  have hval : ∀ (j : Nat) t v, Try.f6.params[j]? = some t → args[j]? = some v → Value.okWide Try.prog W .any base t v := hval0
  have hW' := hW
  obtain ⟨p, q, hA0, hV, rfl, hfz, hnd⟩ := hW
  have hA : DataW.TrodAll enc Try.prog W 0 (fun _ => true) true Try.f6.params.toList args.toList ds p := hA0
  rw [Try.params6] at hA hval
  obtain ⟨v0, vs0, d0, ds0, p0, q0, hargs, rfl, rfl, h0, r0⟩ := trodAll_cons hA
  obtain ⟨v1, vs1, d1, ds1, p1, q1, rfl, rfl, rfl, h1, r1⟩ := trodAll_cons r0
  obtain ⟨v2, vs2, d2, ds2, p2, q2, rfl, rfl, rfl, h2, r2⟩ := trodAll_cons r1
  obtain ⟨rfl, rfl, rfl⟩ := trodAll_nil r2
  obtain rfl : args = #[v0, v1, v2] := by cases args; simp_all
  obtain ⟨rfl, rfl⟩ := trodVars_none hV
  have k0 := h0
  have lt0 : ∀ x ∈ p0, x.block < W.heap.size := by obtain ⟨m, hm⟩ := k0; exact DataW.trod_lt m _ _ _ hm
  obtain ⟨cs0, rfl, hf0⟩ := gopen_flat (n := 6) (by kernel_rfl) Try.underlying37 (hval 0 37 v0 rfl rfl) h0
  obtain ⟨a0_0, a0_1, a0_2, a0_3, rfl, w0_0, w0_1, w0_2, w0_3⟩ := cells0 hf0
  have k1 := h1
  have lt1 : ∀ x ∈ p1, x.block < W.heap.size := by obtain ⟨m, hm⟩ := k1; exact DataW.trod_lt m _ _ _ hm
  obtain ⟨cs1, rfl, hf1⟩ := gopen_flat (n := 6) (by kernel_rfl) Try.underlying23 (hval 1 23 v1 rfl rfl) h1
  obtain ⟨a1_0, a1_1, rfl, w1_0, w1_1⟩ := cells1 hf1
  have k2 := h2
  have lt2 : ∀ x ∈ p2, x.block < W.heap.size := by obtain ⟨m, hm⟩ := k2; exact DataW.trod_lt m _ _ _ hm
  obtain ⟨x2, len2, cap2, rfl⟩ := okWide_slice Try.underlying38 (hval 2 38 v2 rfl rfl)
  obtain ⟨m2, hm2⟩ := h2
  obtain ⟨A2, c2, l2, ev2, hc2, hr2⟩ := MPu.gslice23 (show DataW.trod enc Try.prog W 0 (fun _ => true) true m2 38 [.slice x2 len2 cap2] = some _ from by simpa [Value.cells] using hm2)
  obtain ⟨rfl, rfl, rfl⟩ := Value.slice.inj ev2.symm
  clear hA0 hval0
  refine (walk a0_0 a0_1 a0_2 a0_3 a1_0 a1_1 A2 c2 l2 w0_0 w0_1 w0_2 w0_3 w1_0 w1_1 hr2 hc2 W rfl).mono fun e W' ⟨he, hb⟩ => ?_
  subst he
  exact ⟨_, rfl, _, _, _, [], _, [], hW', trodAll_cons_mk (shut_bool Try.underlying4 _) trodAll_mk0, (trodAll_cons_mk (Below.trod laidOut (by kernel_rfl) (of_decide_eq_true (by kernel_rfl)) k0 hb lt0) (trodAll_cons_mk (Below.trod laidOut (by kernel_rfl) (of_decide_eq_true (by kernel_rfl)) k1 hb lt1) (trodAll_cons_mk (Below.trod laidOut (by kernel_rfl) (of_decide_eq_true (by kernel_rfl)) k2 hb lt2) trodAll_mk0))), rfl, hb.frame _, fun h => by cases h⟩
theorem proved : Rows.PurseEqualSaid :=
  OpenClaim.holds_of_wide 6 Try.f6 rfl rfl rfl rfl rfl rfl rfl ⟨rfl, rfl, rfl, rfl, rfl⟩ rfl rfl rfl rfl rfl (by kernel_rfl) Try.func6 (by kernel_rfl)
    (of_decide_eq_true (by kernel_rfl)) (by unfold Func.isWrapper; first | (rw [if_pos (by decide +kernel)]; kernel_rfl) | (rw [if_neg (by decide +kernel)]; exact ⟨rfl, rfl⟩))
    (fun os started H enc _ => lifted os started H enc)
end Go.Proofs.Ytfhdibankkokoaa.PurseEqual
