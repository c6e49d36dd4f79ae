/- PurseFair: nobody is given more than it wants, all together not more than there is. No conditions beyond the row's own. -/
import Derived.Test.YtikhgdbbbingbaaPurseFairP
import Derived.Test.YtikhgdbbbingbaaRows
import Derived.SevenTiedAt
import Derived.SizedLaws
namespace Go.Proofs.Ytikhgdbbbingbaa.PurseFair
open Go Go.RowKit Go.ChangeShapes Go.WideShapes Go.ChangeAt Go.Proofs.YtikhgdbbbingbaaW.PrintMore Go.Proofs.YtikhgdbbbingbaaW.PrintWords
set_option linter.unusedVariables false
set_option linter.unusedSimpArgs false

section
open Go.Proofs.Ytikhgdbbbingbaa.MPu
theorem fair_l (H G q0 q1 q2 q3 t0 t1 s : Int) (en : Bool) (l : List S48) (hl : l.length ≤ 66) (ha : l.all wishB = true) (s0 : 0 ≤ s) (s1 : s ≤ 65536) (hen : en = true → s = 65536)
    (g1 : 0 ≤ t0 ∧ t0 ≤ H ∧ H ≤ 4294967296) (g2 : 0 ≤ t1 ∧ t1 ≤ G ∧ G ≤ 4294967296) (c1 : 0 ≤ q2) (c2 : 0 ≤ q3) (e1 : q0 = mn (H - t0) q2) (e2 : q1 = mn (G - t1) q3) :
    ∀ (n j k : Nat), l.length - j ≤ n → n + n + 2 < k → j ≤ l.length → bivouaclaw19_PurseFair.l0 k l (l.map (partS s)) H G en j q0 q1 q2 q3 t0 t1 = some true
  | n, j, k + 1, hn, hk, hj => by
    rw [bivouaclaw19_PurseFair.l0]
    by_cases c : j < l.length
    · have hw' : WishP _ _ := of_decide_eq_true (all_rd ha c)
      unfold WishP at hw'
      have pa := part_range (a := (rd_T48 l j).f0) (by omega) (by omega) s0 s1
      have pb := part_range (a := (rd_T48 l j).f1) (by omega) (by omega) s0 s1
      obtain ⟨k, rfl⟩ : ∃ m, k = m + 1 := ⟨k - 1, by omega⟩
      have hj3 : bivouaclaw19_PurseFair.j3 (k + 1) l (l.map (partS s)) H G en j false q0 q1 q2 q3 t0 t1 = some true := by
        rw [bivouaclaw19_PurseFair.j3, if_neg (by decide), up1 j (by omega)]
        exact fair_l H G q0 q1 q2 q3 t0 t1 s en l hl ha s0 s1 hen g1 g2 c1 c2 e1 e2 (n - 1) (j + 1) k (by omega) (by omega) (by omega)
      rw [if_pos (by omega), if_pos (by omega), if_pos (by rw [List.length_map]; omega), rd_parts c]
      rw [if_neg (show ¬ (partS s (rd_T48 l j)).f0 < 0 by unfold partS; simp only; omega), if_neg (show ¬ (partS s (rd_T48 l j)).f0 > _ by unfold partS; simp only; omega),
        if_neg (show ¬ (partS s (rd_T48 l j)).f1 < 0 by unfold partS; simp only; omega), if_neg (show ¬ (partS s (rd_T48 l j)).f1 > _ by unfold partS; simp only; omega)]
      by_cases d : en = true
      · rw [if_pos d]
        have e := hen d
        subst e
        rw [full_part]
        simpa using hj3
      · rw [if_neg d]; exact hj3
    · obtain ⟨k, rfl⟩ : ∃ m, k = m + 1 := ⟨k - 1, by omega⟩
      have k1 : q0 ≤ H - t0 ∧ (q0 = H - t0 ∨ q0 = q2) ∧ 0 ≤ q0 := by subst e1; unfold mn; split <;> omega
      have k2 : q1 ≤ G - t1 ∧ (q1 = G - t1 ∨ q1 = q3) ∧ 0 ≤ q1 := by subst e2; unfold mn; split <;> omega
      rw [if_neg (by omega), if_pos (by omega), if_pos (by omega), w_in (x := H - t0) (by omega) (by omega), w_in (x := G - t1) (by omega) (by omega), w_in (x := H - t0 - q0) (by omega) (by omega), w_in (x := G - t1 - q1) (by omega) (by omega), if_pos (by omega), if_pos (by omega), awake_f]
      repeat' split
      all_goals first | rfl | omega
theorem Fair_true (M E CM CE a b : Int) (l0 : List S48) : ∃ k, bivouaclaw19_PurseFair.f k M E CM CE a b l0 = some true := by
  refine ⟨300, ?_⟩
  obtain ⟨l, hl, hn⟩ := few_f l0
  unfold bivouaclaw19_PurseFair.f
  rw [hl, Option.bind_some]
  by_cases h : ServeP M E CM CE a b l
  · rw [serve_yes h, Option.bind_some, if_pos rfl, if_pos (by rw [List.length_map])]
    have f := fair_p h
    obtain ⟨h1, h2, h3, h4⟩ := h
    have m := h1
    have w := h2
    unfold MayP at m
    unfold WishP at w
    have hs := sum_range l h4
    have r := scl_range (M := M) (E := E) (a := a) (b := b) (l := l) (by omega) (by omega) h4
    obtain ⟨f1, f2, f3⟩ := f
    generalize scl M E a b l = s at f1 f2 f3 r ⊢
    have hq : MayP (mn (M + a - sumM (l.map (partS s))) CM) (mn (E + b - sumE (l.map (partS s))) CE) CM CE := by unfold MayP mn; split <;> split <;> omega
    have hp := parts_all r.1 r.2 l h4
    rw [rmay_f, Option.bind_some, if_pos (decide_eq_true hq), if_neg (show ¬ s < 0 by omega), decide_eq_false (show ¬ s > 65536 by omega), bivouaclaw19_PurseFair.j0, if_neg (by decide), sum_f l (by omega) h4 299 (by omega), Option.bind_some,
      sum_f _ (by rw [List.length_map]; omega) hp 299 (by omega), Option.bind_some, w_in (x := M + a) (by omega) (by omega), w_in (x := E + b) (by omega) (by omega)]
    have hj : ∀ en : Bool, (en = true → s = 65536) → bivouaclaw19_PurseFair.j1 299 l (l.map (partS s)) (M + a) (E + b) en (mn (M + a - sumM (l.map (partS s))) CM) (mn (E + b - sumE (l.map (partS s))) CE) CM CE (sumM (l.map (partS s))) (sumE (l.map (partS s))) = some true := by
      intro en he
      rw [bivouaclaw19_PurseFair.j1]
      exact fair_l (M + a) (E + b) _ _ CM CE _ _ s en l (by omega) h4 r.1 r.2 he (by omega) (by omega) (by omega) (by omega) rfl rfl 66 0 298 (by omega) (by omega) (by omega)
    by_cases c : M + a ≥ sumM l
    · rw [if_pos c]; exact hj _ (fun q => f3 c (of_decide_eq_true q))
    · rw [if_neg c]; exact hj _ (fun q => by cases q)
  · rw [serve_no h, Option.bind_some, if_neg (by simp)]; simp [awake_n]
end
theorem own : ownKnob Try.prog.godebug = none := by kernel_rfl
theorem walk (a0_0 a0_1 a0_2 a0_3 : Int) (a1_0 a1_1 : Int) (A2 : Option Addr) (c2 : Nat) (l2 : List MPu.S48) (w0_0 : (Lit.int .i64 a0_0).wf = true) (w0_1 : (Lit.int .i64 a0_1).wf = true) (w0_2 : (Lit.int .i64 a0_2).wf = true) (w0_3 : (Lit.int .i64 a0_3).wf = true) (w1_0 : (Lit.int .i64 a1_0).wf = true) (w1_1 : (Lit.int .i64 a1_1).wf = true) {W0 : World} (hr : Kd.C MPu.k48 W0 A2 l2.length l2) (hc : l2.length ≤ c2) (W : World) (e0 : W0 = W) :
    Calls Try.prog 19 #[.agg #[.int .i64 a0_0, .int .i64 a0_1, .int .i64 a0_2, .int .i64 a0_3], .agg #[.int .i64 a1_0, .int .i64 a1_1], .slice A2 l2.length c2] W fun e W' => e = .returned (.bool true) ∧ Below W.heap.size W W' := by
  subst e0
  obtain ⟨k, hk⟩ := Fair_true a0_0 a0_1 a0_2 a0_3 a1_0 a1_1 l2
  exact MPu.bivouaclaw19_PurseFair.calls k a0_0 a0_1 a0_2 a0_3 a1_0 a1_1 A2 c2 l2 _ hr hc hk
theorem laidOut : laidOutB Try.prog = true := by kernel_rfl
theorem cells0 {H : Type} {enc : TypeId × Value → H} {w : World} {base : Nat} {spare : Nat → Bool} {held : Bool} {cs : Array Value} (h : gflatOk enc Try.prog w base spare held [.int .i64, .int .i64, .int .i64, .int .i64] cs.toList) : ∃ (z0 : Int) (z1 : Int) (z2 : Int) (z3 : Int), cs = #[.int .i64 z0, .int .i64 z1, .int .i64 z2, .int .i64 z3] ∧ (Lit.int .i64 z0).wf = true ∧ (Lit.int .i64 z1).wf = true ∧ (Lit.int .i64 z2).wf = true ∧ (Lit.int .i64 z3).wf = true := by
  obtain ⟨l⟩ := cs
  replace h : gflatOk enc Try.prog w base spare held [.int .i64, .int .i64, .int .i64, .int .i64] l := h
  rcases l with _ | ⟨z0, l⟩
  · exact h.elim
  obtain ⟨⟨z0, rfl, w0⟩, h⟩ := h
  rcases l with _ | ⟨z1, l⟩
  · exact h.elim
  obtain ⟨⟨z1, rfl, w1⟩, h⟩ := h
  rcases l with _ | ⟨z2, l⟩
  · exact h.elim
  obtain ⟨⟨z2, rfl, w2⟩, h⟩ := h
  rcases l with _ | ⟨z3, l⟩
  · exact h.elim
  obtain ⟨⟨z3, rfl, w3⟩, h⟩ := h
  rcases l with _ | ⟨v, l⟩
  · exact ⟨z0, z1, z2, z3, rfl, w0, w1, w2, w3⟩
  · exact h.elim
theorem cells1 {H : Type} {enc : TypeId × Value → H} {w : World} {base : Nat} {spare : Nat → Bool} {held : Bool} {cs : Array Value} (h : gflatOk enc Try.prog w base spare held [.int .i64, .int .i64] cs.toList) : ∃ (z0 : Int) (z1 : Int), cs = #[.int .i64 z0, .int .i64 z1] ∧ (Lit.int .i64 z0).wf = true ∧ (Lit.int .i64 z1).wf = true := by
  obtain ⟨l⟩ := cs
  replace h : gflatOk enc Try.prog w base spare held [.int .i64, .int .i64] l := h
  rcases l with _ | ⟨z0, l⟩
  · exact h.elim
  obtain ⟨⟨z0, rfl, w0⟩, h⟩ := h
  rcases l with _ | ⟨z1, l⟩
  · exact h.elim
  obtain ⟨⟨z1, rfl, w1⟩, h⟩ := h
  rcases l with _ | ⟨v, l⟩
  · exact ⟨z0, z1, rfl, w0, w1⟩
  · exact h.elim

set_option maxRecDepth 100000 in
theorem lifted (os : Os) (started : os.Started) (H : Type) (enc : TypeId × Value → H) :
    ReturnsInHanded {} Try.checked os 19 .any (Rows.purseFairSpec.pre6 enc Try.prog Try.f19 Rows.purseFairRow.domain false) (Rows.purseFairSpec.post enc Try.prog Try.f19 false true false false) := by
  refine returnsInHanded_of_change_sized (C := Try.checked) own started (by kernel_rfl) Try.func19
    (ChangeSpec.witness6 (enc := enc) (C := Try.checked) false ⟨#[], #[.agg #[.int .i64 0, .int .i64 0, .int .i64 0, .int .i64 0], .agg #[.int .i64 0, .int .i64 0], .slice none 0 0], []⟩ 8 (by kernel_rfl) (by kernel_rfl) (by kernel_rfl) (by kernel_rfl)) ?_
  intro W base args ds gs before hval0 hW hcnd hsz0 _
  have hval : ∀ (j : Nat) t v, Try.f19.params[j]? = some t → args[j]? = some v → Value.okWide Try.prog W .any base t v := hval0
  have hW' := hW
  obtain ⟨p, q, hA0, hV, rfl, hfz, hnd⟩ := hW
  have hA : DataW.TrodAll enc Try.prog W 0 (fun _ => true) true Try.f19.params.toList args.toList ds p := hA0
  rw [Try.params19] at hA hval
  obtain ⟨v0, vs0, d0, ds0, p0, q0, hargs, rfl, rfl, h0, r0⟩ := trodAll_cons hA
  obtain ⟨v1, vs1, d1, ds1, p1, q1, rfl, rfl, rfl, h1, r1⟩ := trodAll_cons r0
  obtain ⟨v2, vs2, d2, ds2, p2, q2, rfl, rfl, rfl, h2, r2⟩ := trodAll_cons r1
  obtain ⟨rfl, rfl, rfl⟩ := trodAll_nil r2
  obtain rfl : args = #[v0, v1, v2] := by cases args; simp_all
  obtain ⟨rfl, rfl⟩ := trodVars_none hV
  have k0 := h0
  have lt0 : ∀ x ∈ p0, x.block < W.heap.size := by obtain ⟨m, hm⟩ := k0; exact DataW.trod_lt m _ _ _ hm
  obtain ⟨cs0, rfl, hf0⟩ := gopen_flat (n := 6) (by kernel_rfl) Try.underlying59 (hval 0 59 v0 rfl rfl) h0
  obtain ⟨a0_0, a0_1, a0_2, a0_3, rfl, w0_0, w0_1, w0_2, w0_3⟩ := cells0 hf0
  have k1 := h1
  have lt1 : ∀ x ∈ p1, x.block < W.heap.size := by obtain ⟨m, hm⟩ := k1; exact DataW.trod_lt m _ _ _ hm
  obtain ⟨cs1, rfl, hf1⟩ := gopen_flat (n := 6) (by kernel_rfl) Try.underlying48 (hval 1 48 v1 rfl rfl) h1
  obtain ⟨a1_0, a1_1, rfl, w1_0, w1_1⟩ := cells1 hf1
  have k2 := h2
  have lt2 : ∀ x ∈ p2, x.block < W.heap.size := by obtain ⟨m, hm⟩ := k2; exact DataW.trod_lt m _ _ _ hm
  obtain ⟨x2, len2, cap2, rfl⟩ := okWide_slice Try.underlying60 (hval 2 60 v2 rfl rfl)
  obtain ⟨m2, hm2⟩ := h2
  obtain ⟨A2, c2, l2, ev2, hc2, hr2⟩ := MPu.gslice48 (show DataW.trod enc Try.prog W 0 (fun _ => true) true m2 60 [.slice x2 len2 cap2] = some _ from by simpa [Value.cells] using hm2)
  obtain ⟨rfl, rfl, rfl⟩ := Value.slice.inj ev2.symm
  clear hA0 hval0
  refine (walk a0_0 a0_1 a0_2 a0_3 a1_0 a1_1 A2 c2 l2 w0_0 w0_1 w0_2 w0_3 w1_0 w1_1 hr2 hc2 W rfl).mono fun e W' ⟨he, hb⟩ => ?_
  subst he
  exact ⟨_, rfl, _, _, _, [], _, [], hW', trodAll_cons_mk (shut_bool Try.underlying4 _) trodAll_mk0, (trodAll_cons_mk (Below.trod laidOut (by kernel_rfl) (of_decide_eq_true (by kernel_rfl)) k0 hb lt0) (trodAll_cons_mk (Below.trod laidOut (by kernel_rfl) (of_decide_eq_true (by kernel_rfl)) k1 hb lt1) (trodAll_cons_mk (Below.trod laidOut (by kernel_rfl) (of_decide_eq_true (by kernel_rfl)) k2 hb lt2) trodAll_mk0))), rfl, hb.frame _, fun h => by cases h⟩

theorem proved : Rows.PurseFairSaid :=
  OpenClaim.holds_of_wide 19 Try.f19 rfl rfl rfl rfl rfl rfl rfl ⟨rfl, rfl, rfl, rfl, rfl⟩ rfl rfl rfl rfl rfl (by kernel_rfl) Try.func19 (by kernel_rfl)
    (of_decide_eq_true (by kernel_rfl)) (by unfold Func.isWrapper; first | (rw [if_pos (by decide +kernel)]; kernel_rfl) | (rw [if_neg (by decide +kernel)]; exact ⟨rfl, rfl⟩))
    (fun os started H enc _ => lifted os started H enc)
end Go.Proofs.Ytikhgdbbbingbaa.PurseFair
