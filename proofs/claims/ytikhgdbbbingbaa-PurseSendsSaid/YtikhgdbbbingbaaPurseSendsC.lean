/- PurseSends: what is sent is taken off, and comes to the other one as far as it may keep it, or it is refused. No conditions beyond the row's own. -/
import Derived.Test.YtikhgdbbbingbaaPurseSendsP
import Derived.Test.YtikhgdbbbingbaaRows
import Derived.SevenTiedAt
import Derived.SizedLaws
namespace Go.Proofs.Ytikhgdbbbingbaa.PurseSends
open Go Go.RowKit Go.ChangeShapes Go.WideShapes Go.ChangeAt Go.Proofs.YtikhgdbbbingbaaW.PrintMore Go.Proofs.YtikhgdbbbingbaaW.PrintWords
set_option linter.unusedVariables false
set_option linter.unusedSimpArgs false

section
open Go.Proofs.Ytikhgdbbbingbaa.MPu
theorem Sends_true (M E CM CE N F CN CF a b : Int) : ∃ k, bivouaclaw19_PurseSends.f k M E CM CE N F CN CF a b = some true := by
  refine ⟨6, ?_⟩
  by_cases h : MayP M E CM CE ∧ MayP N F CN CF ∧ WishP a b
  · have h1 := h.1
    have h2 := h.2.1
    have h3 := h.2.2
    unfold MayP at h1 h2
    unfold WishP at h3
    unfold bivouaclaw19_PurseSends.f
    by_cases q : M < a ∨ E < b
    · rw [send_none h q, Option.bind_some, rmay_f, Option.bind_some, if_pos (decide_eq_true h.1), rmay_f, Option.bind_some, if_pos (decide_eq_true h.2.1), rwish_f, Option.bind_some, decide_eq_true h.2.2, bivouaclaw19_PurseSends.j0, if_neg (by decide)]
      have hj : bivouaclaw19_PurseSends.j1 5 6 true M E CM CE N F CN CF a b 0 0 0 0 0 0 0 0 = some true := by
        rw [bivouaclaw19_PurseSends.j1, if_pos rfl]; simp [awake_n]
      by_cases c : M < a
      · rw [if_pos c, hj]
      · rw [if_neg c, decide_eq_true (by omega), hj]
    · rw [send_yes h q, Option.bind_some, rmay_f, Option.bind_some, if_pos (decide_eq_true h.1), rmay_f, Option.bind_some, if_pos (decide_eq_true h.2.1), rwish_f, Option.bind_some, decide_eq_true h.2.2, bivouaclaw19_PurseSends.j0, if_neg (by decide), if_neg (by omega), decide_eq_false (by omega), bivouaclaw19_PurseSends.j1, if_neg (by decide),
        w_in (x := N + a) (by omega) (by omega), w_in (x := F + b) (by omega) (by omega), w_in (x := M - a) (by omega) (by omega), w_in (x := E - b) (by omega) (by omega)]
      have g1 : MayP (M - a) (E - b) CM CE := by unfold MayP; omega
      have g2 : MayP (mn (N + a) CN) (mn (F + b) CF) CN CF := by unfold MayP mn; split <;> split <;> omega
      have hj : ∀ x y, x = mn (N + a) CN → y = mn (F + b) CF → bivouaclaw19_PurseSends.j3 3 0 (M - a) (E - b) CM CE x y CN CF (M - a) (E - b) CM CE (mn (N + a) CN) (mn (F + b) CF) CN CF = some true := by
        rintro x y rfl rfl
        rw [bivouaclaw19_PurseSends.j3, if_pos (by simp), if_pos (by simp), if_pos rfl, rmay_f, Option.bind_some, if_pos (decide_eq_true g1), rmay_f, Option.bind_some, if_pos (decide_eq_true g2), awake_f]; rfl
      by_cases c : N + a > CN
      · rw [if_pos c, bivouaclaw19_PurseSends.j2]
        by_cases d : F + b > CF
        · rw [if_pos d]; exact hj _ _ (by unfold mn; rw [if_pos (by omega)]) (by unfold mn; rw [if_pos (by omega)])
        · rw [if_neg d]; exact hj _ _ (by unfold mn; rw [if_pos (by omega)]) (by unfold mn; split <;> omega)
      · rw [if_neg c, bivouaclaw19_PurseSends.j2]
        by_cases d : F + b > CF
        · rw [if_pos d]; exact hj _ _ (by unfold mn; split <;> omega) (by unfold mn; rw [if_pos (by omega)])
        · rw [if_neg d]; exact hj _ _ (by unfold mn; split <;> omega) (by unfold mn; split <;> omega)
  · have hj : bivouaclaw19_PurseSends.j0 6 1 true M E CM CE N F CN CF a b 0 0 0 0 0 0 0 0 = some true := by
      rw [bivouaclaw19_PurseSends.j0, if_pos rfl]; simp [awake_n]
    unfold bivouaclaw19_PurseSends.f
    rw [send_no h, Option.bind_some, rmay_f, Option.bind_some]
    by_cases h1 : MayP M E CM CE
    · rw [if_pos (decide_eq_true h1), rmay_f, Option.bind_some]
      by_cases h2 : MayP N F CN CF
      · rw [if_pos (decide_eq_true h2), rwish_f, Option.bind_some, decide_eq_false (by simp only [h1, h2, true_and] at h; exact h)]
        exact hj
      · rw [if_neg (by simpa using h2)]; exact hj
    · rw [if_neg (by simpa using h1)]; exact hj

end
theorem own : ownKnob Try.prog.godebug = none := by kernel_rfl
theorem walk (a0_0 a0_1 a0_2 a0_3 : Int) (a1_0 a1_1 a1_2 a1_3 : Int) (a2_0 a2_1 : Int) (w0_0 : (Lit.int .i64 a0_0).wf = true) (w0_1 : (Lit.int .i64 a0_1).wf = true) (w0_2 : (Lit.int .i64 a0_2).wf = true) (w0_3 : (Lit.int .i64 a0_3).wf = true) (w1_0 : (Lit.int .i64 a1_0).wf = true) (w1_1 : (Lit.int .i64 a1_1).wf = true) (w1_2 : (Lit.int .i64 a1_2).wf = true) (w1_3 : (Lit.int .i64 a1_3).wf = true) (w2_0 : (Lit.int .i64 a2_0).wf = true) (w2_1 : (Lit.int .i64 a2_1).wf = true) (W : World) :
    Calls Try.prog 21 #[.agg #[.int .i64 a0_0, .int .i64 a0_1, .int .i64 a0_2, .int .i64 a0_3], .agg #[.int .i64 a1_0, .int .i64 a1_1, .int .i64 a1_2, .int .i64 a1_3], .agg #[.int .i64 a2_0, .int .i64 a2_1]] W fun e W' => e = .returned (.bool true) ∧ Below W.heap.size W W' := by
  skip
  obtain ⟨k, hk⟩ := Sends_true a0_0 a0_1 a0_2 a0_3 a1_0 a1_1 a1_2 a1_3 a2_0 a2_1
  exact MPu.bivouaclaw19_PurseSends.calls k a0_0 a0_1 a0_2 a0_3 a1_0 a1_1 a1_2 a1_3 a2_0 a2_1 _  hk
theorem laidOut : laidOutB Try.prog = true := by kernel_rfl
theorem cells0 {H : Type} {enc : TypeId × Value → H} {w : World} {base : Nat} {spare : Nat → Bool} {held : Bool} {cs : Array Value} (h : gflatOk enc Try.prog w base spare held [.int .i64, .int .i64, .int .i64, .int .i64] cs.toList) : ∃ (z0 : Int) (z1 : Int) (z2 : Int) (z3 : Int), cs = #[.int .i64 z0, .int .i64 z1, .int .i64 z2, .int .i64 z3] ∧ (Lit.int .i64 z0).wf = true ∧ (Lit.int .i64 z1).wf = true ∧ (Lit.int .i64 z2).wf = true ∧ (Lit.int .i64 z3).wf = true := by
  obtain ⟨l⟩ := cs
  replace h : gflatOk enc Try.prog w base spare held [.int .i64, .int .i64, .int .i64, .int .i64] l := h
  rcases l with _ | ⟨z0, l⟩
  · exact h.elim
  obtain ⟨⟨z0, rfl, w0⟩, h⟩ := h
  rcases l with _ | ⟨z1, l⟩
  · exact h.elim
  obtain ⟨⟨z1, rfl, w1⟩, h⟩ := h
  rcases l with _ | ⟨z2, l⟩
  · exact h.elim
  obtain ⟨⟨z2, rfl, w2⟩, h⟩ := h
  rcases l with _ | ⟨z3, l⟩
  · exact h.elim
  obtain ⟨⟨z3, rfl, w3⟩, h⟩ := h
  rcases l with _ | ⟨v, l⟩
  · exact ⟨z0, z1, z2, z3, rfl, w0, w1, w2, w3⟩
  · exact h.elim
theorem cells1 {H : Type} {enc : TypeId × Value → H} {w : World} {base : Nat} {spare : Nat → Bool} {held : Bool} {cs : Array Value} (h : gflatOk enc Try.prog w base spare held [.int .i64, .int .i64, .int .i64, .int .i64] cs.toList) : ∃ (z0 : Int) (z1 : Int) (z2 : Int) (z3 : Int), cs = #[.int .i64 z0, .int .i64 z1, .int .i64 z2, .int .i64 z3] ∧ (Lit.int .i64 z0).wf = true ∧ (Lit.int .i64 z1).wf = true ∧ (Lit.int .i64 z2).wf = true ∧ (Lit.int .i64 z3).wf = true := by
  obtain ⟨l⟩ := cs
  replace h : gflatOk enc Try.prog w base spare held [.int .i64, .int .i64, .int .i64, .int .i64] l := h
  rcases l with _ | ⟨z0, l⟩
  · exact h.elim
  obtain ⟨⟨z0, rfl, w0⟩, h⟩ := h
  rcases l with _ | ⟨z1, l⟩
  · exact h.elim
  obtain ⟨⟨z1, rfl, w1⟩, h⟩ := h
  rcases l with _ | ⟨z2, l⟩
  · exact h.elim
  obtain ⟨⟨z2, rfl, w2⟩, h⟩ := h
  rcases l with _ | ⟨z3, l⟩
  · exact h.elim
  obtain ⟨⟨z3, rfl, w3⟩, h⟩ := h
  rcases l with _ | ⟨v, l⟩
  · exact ⟨z0, z1, z2, z3, rfl, w0, w1, w2, w3⟩
  · exact h.elim
theorem cells2 {H : Type} {enc : TypeId × Value → H} {w : World} {base : Nat} {spare : Nat → Bool} {held : Bool} {cs : Array Value} (h : gflatOk enc Try.prog w base spare held [.int .i64, .int .i64] cs.toList) : ∃ (z0 : Int) (z1 : Int), cs = #[.int .i64 z0, .int .i64 z1] ∧ (Lit.int .i64 z0).wf = true ∧ (Lit.int .i64 z1).wf = true := by
  obtain ⟨l⟩ := cs
  replace h : gflatOk enc Try.prog w base spare held [.int .i64, .int .i64] l := h
  rcases l with _ | ⟨z0, l⟩
  · exact h.elim
  obtain ⟨⟨z0, rfl, w0⟩, h⟩ := h
  rcases l with _ | ⟨z1, l⟩
  · exact h.elim
  obtain ⟨⟨z1, rfl, w1⟩, h⟩ := h
  rcases l with _ | ⟨v, l⟩
  · exact ⟨z0, z1, rfl, w0, w1⟩
  · exact h.elim

set_option maxRecDepth 100000 in
theorem lifted (os : Os) (started : os.Started) (H : Type) (enc : TypeId × Value → H) :
    ReturnsInHanded {} Try.checked os 21 .any (Rows.purseSendsSpec.pre6 enc Try.prog Try.f21 Rows.purseSendsRow.domain false) (Rows.purseSendsSpec.post enc Try.prog Try.f21 false true false false) := by
  refine returnsInHanded_of_change_sized (C := Try.checked) own started (by kernel_rfl) Try.func21
    (ChangeSpec.witness6 (enc := enc) (C := Try.checked) false ⟨#[], #[.agg #[.int .i64 0, .int .i64 0, .int .i64 0, .int .i64 0], .agg #[.int .i64 0, .int .i64 0, .int .i64 0, .int .i64 0], .agg #[.int .i64 0, .int .i64 0]], []⟩ 8 (by kernel_rfl) (by kernel_rfl) (by kernel_rfl) (by kernel_rfl)) ?_
  intro W base args ds gs before hval0 hW hcnd hsz0 _
  have hval : ∀ (j : Nat) t v, Try.f21.params[j]? = some t → args[j]? = some v → Value.okWide Try.prog W .any base t v := hval0
  have hW' := hW
  obtain ⟨p, q, hA0, hV, rfl, hfz, hnd⟩ := hW
  have hA : DataW.TrodAll enc Try.prog W 0 (fun _ => true) true Try.f21.params.toList args.toList ds p := hA0
  rw [Try.params21] at hA hval
  obtain ⟨v0, vs0, d0, ds0, p0, q0, hargs, rfl, rfl, h0, r0⟩ := trodAll_cons hA
  obtain ⟨v1, vs1, d1, ds1, p1, q1, rfl, rfl, rfl, h1, r1⟩ := trodAll_cons r0
  obtain ⟨v2, vs2, d2, ds2, p2, q2, rfl, rfl, rfl, h2, r2⟩ := trodAll_cons r1
  obtain ⟨rfl, rfl, rfl⟩ := trodAll_nil r2
  obtain rfl : args = #[v0, v1, v2] := by cases args; simp_all
  obtain ⟨rfl, rfl⟩ := trodVars_none hV
  have k0 := h0
  have lt0 : ∀ x ∈ p0, x.block < W.heap.size := by obtain ⟨m, hm⟩ := k0; exact DataW.trod_lt m _ _ _ hm
  obtain ⟨cs0, rfl, hf0⟩ := gopen_flat (n := 6) (by kernel_rfl) Try.underlying59 (hval 0 59 v0 rfl rfl) h0
  obtain ⟨a0_0, a0_1, a0_2, a0_3, rfl, w0_0, w0_1, w0_2, w0_3⟩ := cells0 hf0
  have k1 := h1
  have lt1 : ∀ x ∈ p1, x.block < W.heap.size := by obtain ⟨m, hm⟩ := k1; exact DataW.trod_lt m _ _ _ hm
  obtain ⟨cs1, rfl, hf1⟩ := gopen_flat (n := 6) (by kernel_rfl) Try.underlying59 (hval 1 59 v1 rfl rfl) h1
  obtain ⟨a1_0, a1_1, a1_2, a1_3, rfl, w1_0, w1_1, w1_2, w1_3⟩ := cells1 hf1
  have k2 := h2
  have lt2 : ∀ x ∈ p2, x.block < W.heap.size := by obtain ⟨m, hm⟩ := k2; exact DataW.trod_lt m _ _ _ hm
  obtain ⟨cs2, rfl, hf2⟩ := gopen_flat (n := 6) (by kernel_rfl) Try.underlying48 (hval 2 48 v2 rfl rfl) h2
  obtain ⟨a2_0, a2_1, rfl, w2_0, w2_1⟩ := cells2 hf2
  clear hA0 hval0
  refine (walk a0_0 a0_1 a0_2 a0_3 a1_0 a1_1 a1_2 a1_3 a2_0 a2_1 w0_0 w0_1 w0_2 w0_3 w1_0 w1_1 w1_2 w1_3 w2_0 w2_1 W ).mono fun e W' ⟨he, hb⟩ => ?_
  subst he
  exact ⟨_, rfl, _, _, _, [], _, [], hW', trodAll_cons_mk (shut_bool Try.underlying4 _) trodAll_mk0, (trodAll_cons_mk (Below.trod laidOut (by kernel_rfl) (of_decide_eq_true (by kernel_rfl)) k0 hb lt0) (trodAll_cons_mk (Below.trod laidOut (by kernel_rfl) (of_decide_eq_true (by kernel_rfl)) k1 hb lt1) (trodAll_cons_mk (Below.trod laidOut (by kernel_rfl) (of_decide_eq_true (by kernel_rfl)) k2 hb lt2) trodAll_mk0))), rfl, hb.frame _, fun h => by cases h⟩

theorem proved : Rows.PurseSendsSaid :=
  OpenClaim.holds_of_wide 21 Try.f21 rfl rfl rfl rfl rfl rfl rfl ⟨rfl, rfl, rfl, rfl, rfl⟩ rfl rfl rfl rfl rfl (by kernel_rfl) Try.func21 (by kernel_rfl)
    (of_decide_eq_true (by kernel_rfl)) (by unfold Func.isWrapper; first | (rw [if_pos (by decide +kernel)]; kernel_rfl) | (rw [if_neg (by decide +kernel)]; exact ⟨rfl, rfl⟩))
    (fun os started H enc _ => lifted os started H enc)
end Go.Proofs.Ytikhgdbbbingbaa.PurseSends
