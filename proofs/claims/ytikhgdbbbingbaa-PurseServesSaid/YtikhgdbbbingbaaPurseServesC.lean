/- PurseServes: of every purse, whatever comes in and whoever wants, the scale, what each is given, and what is left are the document's, or it is refused. No conditions beyond the row's own. -/
import Derived.Test.YtikhgdbbbingbaaPurseServesP
import Derived.Test.YtikhgdbbbingbaaRows
import Derived.SevenTiedAt
import Derived.SizedLaws
namespace Go.Proofs.Ytikhgdbbbingbaa.PurseServes
open Go Go.RowKit Go.ChangeShapes Go.WideShapes Go.ChangeAt Go.Proofs.YtikhgdbbbingbaaW.PrintMore Go.Proofs.YtikhgdbbbingbaaW.PrintWords
set_option linter.unusedVariables false
set_option linter.unusedSimpArgs false

section
open Go.Proofs.Ytikhgdbbbingbaa.MPu
theorem serves_l (l : List S48) (hl : l.length ≤ 66) : ∀ (n j k : Nat), l.length - j ≤ n → n + 1 < k → j ≤ l.length → bivouaclaw19_PurseServes.l0 k l l j = some true
  | n, j, k + 1, hn, hk, hj => by
    rw [bivouaclaw19_PurseServes.l0]
    by_cases c : j < l.length
    · rw [if_pos (by omega), if_pos (by omega), if_pos (by omega), if_neg (by simp), up1 j (by omega)]
      exact serves_l l hl (n - 1) (j + 1) k (by omega) (by omega) (by omega)
    · rw [if_neg (by omega)]
      obtain ⟨k, rfl⟩ : ∃ n, k = n + 1 := ⟨k - 1, by omega⟩
      rw [awake_f]; rfl
theorem Serves_true (M E CM CE a b : Int) (l0 : List S48) : ∃ k, bivouaclaw19_PurseServes.f k M E CM CE a b l0 = some true := by
  refine ⟨300, ?_⟩
  obtain ⟨l, hl, hn⟩ := few_f l0
  unfold bivouaclaw19_PurseServes.f
  rw [hl, Option.bind_some]
  have hno : ¬ ServeP M E CM CE a b l → bivouaclaw19_PurseServes.j0 300 l 0 [] 1 true M E CM CE a b 0 0 0 0 = some true := by
    intro _
    rw [bivouaclaw19_PurseServes.j0, if_pos rfl]; simp [awake_n]
  by_cases h : ServeP M E CM CE a b l
  · rw [serve_yes h, Option.bind_some, may_f, Option.bind_some, rmay_f, Option.bind_some, if_neg (by simp), Option.bind_some, if_pos (decide_eq_true h.1), rwish_f, Option.bind_some, if_pos (decide_eq_true h.2.1)]
    have hm := may_l l hn 66 0 300 (by omega) (by omega) (by simp) (by omega)
    unfold bivouaclaw19_may.f
    rw [show ((0 : Nat) : Int) = 0 from rfl] at hm
    rw [hm, Option.bind_some, decide_eq_true h.2.2, bivouaclaw19_PurseServes.j0, if_neg (by decide), rserve_f h 299 (by omega), Option.bind_some, if_neg (by simp), if_pos rfl, if_pos rfl, bivouaclaw19_PurseServes.j1, if_neg (by simp)]
    exact serves_l _ (by rw [List.length_map]; exact hn) 66 0 298 (by rw [List.length_map]; omega) (by omega) (by omega)
  · rw [serve_no h, Option.bind_some, may_f, Option.bind_some, rmay_f, Option.bind_some, if_neg (by simp), Option.bind_some]
    by_cases h1 : MayP M E CM CE
    · rw [if_pos (decide_eq_true h1), rwish_f, Option.bind_some]
      by_cases h2 : WishP a b
      · have hm := may_l l hn 66 0 300 (by omega) (by omega) (by simp) (by omega)
        unfold bivouaclaw19_may.f
        rw [show ((0 : Nat) : Int) = 0 from rfl] at hm
        rw [if_pos (decide_eq_true h2), hm, Option.bind_some, decide_eq_false (fun q => h ⟨h1, h2, q⟩)]
        exact hno h
      · rw [if_neg (by simpa using h2)]; exact hno h
    · rw [if_neg (by simpa using h1)]; exact hno h

end
theorem own : ownKnob Try.prog.godebug = none := by kernel_rfl
theorem walk (a0_0 a0_1 a0_2 a0_3 : Int) (a1_0 a1_1 : Int) (A2 : Option Addr) (c2 : Nat) (l2 : List MPu.S48) (w0_0 : (Lit.int .i64 a0_0).wf = true) (w0_1 : (Lit.int .i64 a0_1).wf = true) (w0_2 : (Lit.int .i64 a0_2).wf = true) (w0_3 : (Lit.int .i64 a0_3).wf = true) (w1_0 : (Lit.int .i64 a1_0).wf = true) (w1_1 : (Lit.int .i64 a1_1).wf = true) {W0 : World} (hr : Kd.C MPu.k48 W0 A2 l2.length l2) (hc : l2.length ≤ c2) (W : World) (e0 : W0 = W) :
    Calls Try.prog 18 #[.agg #[.int .i64 a0_0, .int .i64 a0_1, .int .i64 a0_2, .int .i64 a0_3], .agg #[.int .i64 a1_0, .int .i64 a1_1], .slice A2 l2.length c2] W fun e W' => e = .returned (.bool true) ∧ Below W.heap.size W W' := by
  subst e0
  obtain ⟨k, hk⟩ := Serves_true a0_0 a0_1 a0_2 a0_3 a1_0 a1_1 l2
  exact MPu.bivouaclaw19_PurseServes.calls k a0_0 a0_1 a0_2 a0_3 a1_0 a1_1 A2 c2 l2 _ hr hc hk
theorem laidOut : laidOutB Try.prog = true := by kernel_rfl
theorem cells0 {H : Type} {enc : TypeId × Value → H} {w : World} {base : Nat} {spare : Nat → Bool} {held : Bool} {cs : Array Value} (h : gflatOk enc Try.prog w base spare held [.int .i64, .int .i64, .int .i64, .int .i64] cs.toList) : ∃ (z0 : Int) (z1 : Int) (z2 : Int) (z3 : Int), cs = #[.int .i64 z0, .int .i64 z1, .int .i64 z2, .int .i64 z3] ∧ (Lit.int .i64 z0).wf = true ∧ (Lit.int .i64 z1).wf = true ∧ (Lit.int .i64 z2).wf = true ∧ (Lit.int .i64 z3).wf = true := by
  obtain ⟨l⟩ := cs
  replace h : gflatOk enc Try.prog w base spare held [.int .i64, .int .i64, .int .i64, .int .i64] l := h
  rcases l with _ | ⟨z0, l⟩
  · exact h.elim
  obtain ⟨⟨z0, rfl, w0⟩, h⟩ := h
  rcases l with _ | ⟨z1, l⟩
  · exact h.elim
  obtain ⟨⟨z1, rfl, w1⟩, h⟩ := h
  rcases l with _ | ⟨z2, l⟩
  · exact h.elim
  obtain ⟨⟨z2, rfl, w2⟩, h⟩ := h
  rcases l with _ | ⟨z3, l⟩
  · exact h.elim
  obtain ⟨⟨z3, rfl, w3⟩, h⟩ := h
  rcases l with _ | ⟨v, l⟩
  · exact ⟨z0, z1, z2, z3, rfl, w0, w1, w2, w3⟩
  · exact h.elim
theorem cells1 {H : Type} {enc : TypeId × Value → H} {w : World} {base : Nat} {spare : Nat → Bool} {held : Bool} {cs : Array Value} (h : gflatOk enc Try.prog w base spare held [.int .i64, .int .i64] cs.toList) : ∃ (z0 : Int) (z1 : Int), cs = #[.int .i64 z0, .int .i64 z1] ∧ (Lit.int .i64 z0).wf = true ∧ (Lit.int .i64 z1).wf = true := by
  obtain ⟨l⟩ := cs
  replace h : gflatOk enc Try.prog w base spare held [.int .i64, .int .i64] l := h
  rcases l with _ | ⟨z0, l⟩
  · exact h.elim
  obtain ⟨⟨z0, rfl, w0⟩, h⟩ := h
  rcases l with _ | ⟨z1, l⟩
  · exact h.elim
  obtain ⟨⟨z1, rfl, w1⟩, h⟩ := h
  rcases l with _ | ⟨v, l⟩
  · exact ⟨z0, z1, rfl, w0, w1⟩
  · exact h.elim

set_option maxRecDepth 100000 in
theorem lifted (os : Os) (started : os.Started) (H : Type) (enc : TypeId × Value → H) :
    ReturnsInHanded {} Try.checked os 18 .any (Rows.purseServesSpec.pre6 enc Try.prog Try.f18 Rows.purseServesRow.domain false) (Rows.purseServesSpec.post enc Try.prog Try.f18 false true false false) := by
  refine returnsInHanded_of_change_sized (C := Try.checked) own started (by kernel_rfl) Try.func18
    (ChangeSpec.witness6 (enc := enc) (C := Try.checked) false ⟨#[], #[.agg #[.int .i64 0, .int .i64 0, .int .i64 0, .int .i64 0], .agg #[.int .i64 0, .int .i64 0], .slice none 0 0], []⟩ 8 (by kernel_rfl) (by kernel_rfl) (by kernel_rfl) (by kernel_rfl)) ?_
  intro W base args ds gs before hval0 hW hcnd hsz0 _
  have hval : ∀ (j : Nat) t v, Try.f18.params[j]? = some t → args[j]? = some v → Value.okWide Try.prog W .any base t v := hval0
  have hW' := hW
  obtain ⟨p, q, hA0, hV, rfl, hfz, hnd⟩ := hW
  have hA : DataW.TrodAll enc Try.prog W 0 (fun _ => true) true Try.f18.params.toList args.toList ds p := hA0
  rw [Try.params18] at hA hval
  obtain ⟨v0, vs0, d0, ds0, p0, q0, hargs, rfl, rfl, h0, r0⟩ := trodAll_cons hA
  obtain ⟨v1, vs1, d1, ds1, p1, q1, rfl, rfl, rfl, h1, r1⟩ := trodAll_cons r0
  obtain ⟨v2, vs2, d2, ds2, p2, q2, rfl, rfl, rfl, h2, r2⟩ := trodAll_cons r1
  obtain ⟨rfl, rfl, rfl⟩ := trodAll_nil r2
  obtain rfl : args = #[v0, v1, v2] := by cases args; simp_all
  obtain ⟨rfl, rfl⟩ := trodVars_none hV
  have k0 := h0
  have lt0 : ∀ x ∈ p0, x.block < W.heap.size := by obtain ⟨m, hm⟩ := k0; exact DataW.trod_lt m _ _ _ hm
  obtain ⟨cs0, rfl, hf0⟩ := gopen_flat (n := 6) (by kernel_rfl) Try.underlying59 (hval 0 59 v0 rfl rfl) h0
  obtain ⟨a0_0, a0_1, a0_2, a0_3, rfl, w0_0, w0_1, w0_2, w0_3⟩ := cells0 hf0
  have k1 := h1
  have lt1 : ∀ x ∈ p1, x.block < W.heap.size := by obtain ⟨m, hm⟩ := k1; exact DataW.trod_lt m _ _ _ hm
  obtain ⟨cs1, rfl, hf1⟩ := gopen_flat (n := 6) (by kernel_rfl) Try.underlying48 (hval 1 48 v1 rfl rfl) h1
  obtain ⟨a1_0, a1_1, rfl, w1_0, w1_1⟩ := cells1 hf1
  have k2 := h2
  have lt2 : ∀ x ∈ p2, x.block < W.heap.size := by obtain ⟨m, hm⟩ := k2; exact DataW.trod_lt m _ _ _ hm
  obtain ⟨x2, len2, cap2, rfl⟩ := okWide_slice Try.underlying60 (hval 2 60 v2 rfl rfl)
  obtain ⟨m2, hm2⟩ := h2
  obtain ⟨A2, c2, l2, ev2, hc2, hr2⟩ := MPu.gslice48 (show DataW.trod enc Try.prog W 0 (fun _ => true) true m2 60 [.slice x2 len2 cap2] = some _ from by simpa [Value.cells] using hm2)
  obtain ⟨rfl, rfl, rfl⟩ := Value.slice.inj ev2.symm
  clear hA0 hval0
  refine (walk a0_0 a0_1 a0_2 a0_3 a1_0 a1_1 A2 c2 l2 w0_0 w0_1 w0_2 w0_3 w1_0 w1_1 hr2 hc2 W rfl).mono fun e W' ⟨he, hb⟩ => ?_
  subst he
  exact ⟨_, rfl, _, _, _, [], _, [], hW', trodAll_cons_mk (shut_bool Try.underlying4 _) trodAll_mk0, (trodAll_cons_mk (Below.trod laidOut (by kernel_rfl) (of_decide_eq_true (by kernel_rfl)) k0 hb lt0) (trodAll_cons_mk (Below.trod laidOut (by kernel_rfl) (of_decide_eq_true (by kernel_rfl)) k1 hb lt1) (trodAll_cons_mk (Below.trod laidOut (by kernel_rfl) (of_decide_eq_true (by kernel_rfl)) k2 hb lt2) trodAll_mk0))), rfl, hb.frame _, fun h => by cases h⟩

theorem proved : Rows.PurseServesSaid :=
  OpenClaim.holds_of_wide 18 Try.f18 rfl rfl rfl rfl rfl rfl rfl ⟨rfl, rfl, rfl, rfl, rfl⟩ rfl rfl rfl rfl rfl (by kernel_rfl) Try.func18 (by kernel_rfl)
    (of_decide_eq_true (by kernel_rfl)) (by unfold Func.isWrapper; first | (rw [if_pos (by decide +kernel)]; kernel_rfl) | (rw [if_neg (by decide +kernel)]; exact ⟨rfl, rfl⟩))
    (fun os started H enc _ => lifted os started H enc)
end Go.Proofs.Ytikhgdbbbingbaa.PurseServes
