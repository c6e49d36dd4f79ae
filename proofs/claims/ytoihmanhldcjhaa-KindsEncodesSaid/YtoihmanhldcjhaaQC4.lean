/- What the claim's proof leans on: texts of this claim, laid together. -/
import Derived.Test.YtoihmanhldcjhaaQC3
import Derived.Deep.Slices
import Derived.Test.YtoihmanhldcjhaaRows
import Derived.SevenTiedAt
import Derived.SizedLaws
import Derived.OpenShut
namespace Go.Proofs.Ytoihmanhldcjhaa.Id
open Go Go.Proofs.Ytoihmanhldcjhaa.Rl
set_option linter.unusedSimpArgs false
set_option linter.unusedVariables false
structure Bk.G0 (B : Bk) (nx : Nat) : Prop where
  hk : B.ok = none → B.ks = []
  hw : B.ow = none → B.ws = []
  hkn : ∀ b, B.ok = some b → b < nx
  hwn : ∀ b, B.ow = some b → b < nx
  hkw : ∀ b c, B.ok = some b → B.ow = some c → ¬ c = b
  hkc : B.ks.length ≤ B.kc
  hwc : B.ws.length ≤ B.wc
def fewB (B : Bk) : Bk := { B with ks := B.ks.take 18, kx := B.ks.drop 18 ++ B.kx, ws := B.ws.take 18, wx := B.ws.drop 18 ++ B.wx }
theorem fewB_H (B : Bk) : (fewB B).H = B.H := by
  unfold Bk.H fewB
  dsimp only
  rw [← List.append_assoc, List.take_append_drop, ← List.append_assoc, List.take_append_drop]
theorem fewB_good {B : Bk} {nx : Nat} (g : B.G0 nx) : (fewB B).Good nx :=
  ⟨fun h => by show B.ks.take 18 = []; rw [g.hk h]; rfl, fun h => by show B.ws.take 18 = []; rw [g.hw h]; rfl, by show (B.ks.take 18).length ≤ 1000; rw [List.length_take]; omega, by show (B.ws.take 18).length ≤ 1000; rw [List.length_take]; omega, g.hkn, g.hwn, g.hkw⟩
set_option maxRecDepth 100000 in
theorem few_c (B : Bk) (nx : Nat) (g : B.G0 nx) : CallW Try.prog 10 [B.val] B.H nx fun o F' n => (o = .ret (fewB B).val ∧ nx ≤ n) ∧ F' = B.H := by
  have l1 : ilen (tbOf Try.prog) 23 (slv B.ok B.ks.length B.kc) = some (.int .i64 B.ks.length) := ilen_slv (tbOf Try.prog) 23 46 (by rw [und_eq, Try.underlying23]) _ _ _ (fun h => by rw [g.hk h]; rfl)
  have l2 : ilen (tbOf Try.prog) 24 (slv B.ow B.ws.length B.wc) = some (.int .i64 B.ws.length) := ilen_slv (tbOf Try.prog) 24 51 (by rw [und_eq, Try.underlying24]) _ _ _ (fun h => by rw [g.hw h]; rfl)
  have t2 : ∀ b, B.ok = some b → look b B.H = some ⟨kcells (B.ks ++ B.kx), 46, 20, B.ro, B.loose⟩ := by
    rcases B with ⟨ks, kx, ws, wx, ok, kc, ow, wc, ro, loose⟩
    intro b h; dsimp only at h; subst h; simp [Bk.H, kblk, look_cons]
  have t3 : ∀ c, B.ow = some c → look c B.H = some ⟨wcells (B.ws ++ B.wx), 51, 6, B.ro, B.loose⟩ := by
    rcases B with ⟨ks, kx, ws, wx, ok, kc, ow, wc, ro, loose⟩
    intro c h; dsimp only at h; subst h
    cases ok with
    | none => simp [Bk.H, kblk, wpblk, look_cons]
    | some b => have := g.hkw b c rfl rfl; simp [Bk.H, kblk, wpblk, look_cons, this]
  unfold Bk.val fewB
  dsimp only
  rw [List.length_take, List.length_take]
  obtain ⟨T0, hT0⟩ : ∃ T0, B.H = T0 := ⟨_, rfl⟩
  rw [hT0] at t2 t3 ⊢
  rcases B with ⟨ks, kx, ws, wx, ok, kc, ow, wc, ro, loose⟩
  obtain ⟨hk, hw, hkn, hwn, hkw, hkc, hwc⟩ := g
  dsimp only at l1 l2 t2 t3 hk hw hkn hwn hkw hkc hwc ⊢
  refine CallW_go (tbOk _) 20 [.cell 2 26] Try.func10 rfl (by decide) rfl rfl (by simp) fun hlt => ?_
  simp only [params, Nat.zero_add, Nat.reduceAdd]
  refine JS_go (tbOk _) 99 fun x hx => ?_
  simp only [RN, ↓reduceIte, ↓get8, reduceCtorEq, Nat.reduceLT, Nat.reduceEqDiff, Nat.reduceAdd, Nat.reduceMul, Nat.reduceLeDiff, Nat.reduceSub, Int.reduceToNat, Int.reduceNeg, Nat.reduceBEq, TY, ↓l1, Nat.add_assoc, Nat.left_eq_add, Nat.add_eq_left, Nat.add_left_cancel_iff] at hx
  subst hx
  refine ⟨_, _, rfl, by first | trivial | omega | (simp only [and_true, true_and]; omega), ?_⟩
  refine at_condM ({ n := 20, fr := [(2, .pointer (some ⟨nx + 1, 0, none⟩)), (1, .pointer (some ⟨nx, 0, none⟩))], F := [(nx, ⟨[slv ok (min 18 ks.length) kc, slv ow ws.length wc], 26, 2, false, false⟩), (nx + 1, ⟨[.slice none 0 0, .slice none 0 0], 26, 2, false, false⟩)] ++ T0, nx := nx + 2, ds := [] }) (fun h => ?_) (fun h => ?_) ?_
  · have hl : 18 < ks.length := by have := of_decide_eq_true h; omega
    obtain ⟨b, hb⟩ : ∃ b, ok = some b := by
      cases ok with
      | none => rw [hk rfl] at hl; exact absurd hl (by simp)
      | some b => exact ⟨b, rfl⟩
    have hm : min 18 ks.length = 18 := by omega
    have lb := t2 b hb
    have hbn := hkn b hb
    have q0 : ¬ b = nx := by omega
    have q1 : ∀ i, ¬ b = nx + i := by intro i; omega
    have hs : slv ok ks.length kc = .slice (some ⟨b, 0, none⟩) ks.length kc := by rw [hb]; rfl
    have hs2 : slv ok (min 18 ks.length) kc = .slice (some ⟨b, 0, none⟩) 18 kc := by rw [hb, hm]; rfl
    rw [hs2]
    refine JS_go (tbOk _) 99 fun x hx => ?_
    simp only [RN, ↓reduceIte, ↓get8, reduceCtorEq, Nat.reduceLT, Nat.reduceEqDiff, Nat.reduceAdd, Nat.reduceMul, Nat.reduceLeDiff, Nat.reduceSub, Int.reduceToNat, Int.reduceNeg, Nat.reduceBEq, TY, hs, lb, q0, q1, Nat.sub_zero, Nat.add_assoc, Nat.left_eq_add, Nat.add_eq_left, Nat.add_left_cancel_iff] at hx
    subst hx
    refine ⟨_, _, rfl, ?_, ?_⟩
    · simp; omega
    refine at_done (in_cut ⟨rfl, leL_look (by simp only [RN, ↓reduceIte, ↓get8, reduceCtorEq, Nat.reduceLT, Nat.reduceEqDiff, Nat.reduceAdd, Nat.reduceMul, Nat.reduceLeDiff, Nat.reduceSub, Int.reduceToNat, Int.reduceNeg, Nat.reduceBEq]; first | done | trivial), ?_, Nat.le_refl _, rfl⟩)
    refine leT (X := [_, _]) (by simp only [RN, ↓reduceIte, ↓get8, reduceCtorEq, Nat.reduceLT, Nat.reduceEqDiff, Nat.reduceAdd, Nat.reduceMul, Nat.reduceLeDiff, Nat.reduceSub, Int.reduceToNat, Int.reduceNeg, Nat.reduceBEq, hs, Nat.add_assoc, Nat.left_eq_add, Nat.add_eq_left, Nat.add_left_cancel_iff]; first | done | trivial) ?_
    intro id c h
    have u0 := hlt id c h
    have u1 : ¬ id = nx := by omega
    have u2 : ∀ i, ¬ id = nx + i := by intro i; omega
    simp only [RN, ↓reduceIte, ↓get8, reduceCtorEq, Nat.reduceLT, Nat.reduceEqDiff, Nat.reduceAdd, Nat.reduceMul, Nat.reduceLeDiff, Nat.reduceSub, Int.reduceToNat, Int.reduceNeg, Nat.reduceBEq, u1, u2, h]
  · have hl : ¬ 18 < ks.length := by have := of_decide_eq_false h; omega
    have hm : min 18 ks.length = ks.length := by omega
    rw [hm]
    refine JS_go (tbOk _) 99 fun x hx => ?_
    simp only [RN, ↓reduceIte, ↓get8, reduceCtorEq, Nat.reduceLT, Nat.reduceEqDiff, Nat.reduceAdd, Nat.reduceMul, Nat.reduceLeDiff, Nat.reduceSub, Int.reduceToNat, Int.reduceNeg, Nat.reduceBEq, TY] at hx
    subst hx
    refine ⟨_, _, rfl, by first | trivial | omega | (simp only [and_true, true_and]; omega), ?_⟩
    refine at_done (in_cut ⟨rfl, leL_look (by simp only [RN, ↓reduceIte, ↓get8, reduceCtorEq, Nat.reduceLT, Nat.reduceEqDiff, Nat.reduceAdd, Nat.reduceMul, Nat.reduceLeDiff, Nat.reduceSub, Int.reduceToNat, Int.reduceNeg, Nat.reduceBEq]; first | done | trivial), ?_, Nat.le_refl _, rfl⟩)
    refine leT (X := [_, _]) (by simp only [RN, ↓reduceIte, ↓get8, reduceCtorEq, Nat.reduceLT, Nat.reduceEqDiff, Nat.reduceAdd, Nat.reduceMul, Nat.reduceLeDiff, Nat.reduceSub, Int.reduceToNat, Int.reduceNeg, Nat.reduceBEq, Nat.add_assoc, Nat.left_eq_add, Nat.add_eq_left, Nat.add_left_cancel_iff]; first | done | trivial) ?_
    intro id c h
    have u0 := hlt id c h
    have u1 : ¬ id = nx := by omega
    have u2 : ∀ i, ¬ id = nx + i := by intro i; omega
    simp only [RN, ↓reduceIte, ↓get8, reduceCtorEq, Nat.reduceLT, Nat.reduceEqDiff, Nat.reduceAdd, Nat.reduceMul, Nat.reduceLeDiff, Nat.reduceSub, Int.reduceToNat, Int.reduceNeg, Nat.reduceBEq, u1, u2, h]
  refine JS_go (tbOk _) 99 fun x hx => ?_
  simp only [RN, ↓reduceIte, ↓get8, reduceCtorEq, Nat.reduceLT, Nat.reduceEqDiff, Nat.reduceAdd, Nat.reduceMul, Nat.reduceLeDiff, Nat.reduceSub, Int.reduceToNat, Int.reduceNeg, Nat.reduceBEq, TY, ↓l2, Nat.add_assoc, Nat.left_eq_add, Nat.add_eq_left, Nat.add_left_cancel_iff] at hx
  subst hx
  refine ⟨_, _, rfl, by first | trivial | omega | (simp only [and_true, true_and]; omega), ?_⟩
  refine at_condM ({ n := 20, fr := [(2, .pointer (some ⟨nx + 1, 0, none⟩)), (1, .pointer (some ⟨nx, 0, none⟩))], F := [(nx, ⟨[slv ok (min 18 ks.length) kc, slv ow (min 18 ws.length) wc], 26, 2, false, false⟩), (nx + 1, ⟨[.slice none 0 0, .slice none 0 0], 26, 2, false, false⟩)] ++ T0, nx := nx + 2, ds := [] }) (fun h => ?_) (fun h => ?_) ?_
  · have hl : 18 < ws.length := by have := of_decide_eq_true h; omega
    obtain ⟨b, hb⟩ : ∃ b, ow = some b := by
      cases ow with
      | none => rw [hw rfl] at hl; exact absurd hl (by simp)
      | some b => exact ⟨b, rfl⟩
    have hm : min 18 ws.length = 18 := by omega
    have lb := t3 b hb
    have hbn := hwn b hb
    have q0 : ¬ b = nx := by omega
    have q1 : ∀ i, ¬ b = nx + i := by intro i; omega
    have hs : slv ow ws.length wc = .slice (some ⟨b, 0, none⟩) ws.length wc := by rw [hb]; rfl
    have hs2 : slv ow (min 18 ws.length) wc = .slice (some ⟨b, 0, none⟩) 18 wc := by rw [hb, hm]; rfl
    rw [hs2]
    refine JS_go (tbOk _) 99 fun x hx => ?_
    simp only [RN, ↓reduceIte, ↓get8, reduceCtorEq, Nat.reduceLT, Nat.reduceEqDiff, Nat.reduceAdd, Nat.reduceMul, Nat.reduceLeDiff, Nat.reduceSub, Int.reduceToNat, Int.reduceNeg, Nat.reduceBEq, TY, hs, lb, q0, q1, Nat.sub_zero, Nat.add_assoc, Nat.left_eq_add, Nat.add_eq_left, Nat.add_left_cancel_iff] at hx
    subst hx
    refine ⟨_, _, rfl, ?_, ?_⟩
    · simp; omega
    refine at_done (in_cut ⟨rfl, leL_look (by simp only [RN, ↓reduceIte, ↓get8, reduceCtorEq, Nat.reduceLT, Nat.reduceEqDiff, Nat.reduceAdd, Nat.reduceMul, Nat.reduceLeDiff, Nat.reduceSub, Int.reduceToNat, Int.reduceNeg, Nat.reduceBEq]; first | done | trivial), ?_, Nat.le_refl _, rfl⟩)
    refine leT (X := [_, _]) (by simp only [RN, ↓reduceIte, ↓get8, reduceCtorEq, Nat.reduceLT, Nat.reduceEqDiff, Nat.reduceAdd, Nat.reduceMul, Nat.reduceLeDiff, Nat.reduceSub, Int.reduceToNat, Int.reduceNeg, Nat.reduceBEq, hs, Nat.add_assoc, Nat.left_eq_add, Nat.add_eq_left, Nat.add_left_cancel_iff]; first | done | trivial) ?_
    intro id c h
    have u0 := hlt id c h
    have u1 : ¬ id = nx := by omega
    have u2 : ∀ i, ¬ id = nx + i := by intro i; omega
    simp only [RN, ↓reduceIte, ↓get8, reduceCtorEq, Nat.reduceLT, Nat.reduceEqDiff, Nat.reduceAdd, Nat.reduceMul, Nat.reduceLeDiff, Nat.reduceSub, Int.reduceToNat, Int.reduceNeg, Nat.reduceBEq, u1, u2, h]
  · have hl : ¬ 18 < ws.length := by have := of_decide_eq_false h; omega
    have hm : min 18 ws.length = ws.length := by omega
    rw [hm]
    refine JS_go (tbOk _) 99 fun x hx => ?_
    simp only [RN, ↓reduceIte, ↓get8, reduceCtorEq, Nat.reduceLT, Nat.reduceEqDiff, Nat.reduceAdd, Nat.reduceMul, Nat.reduceLeDiff, Nat.reduceSub, Int.reduceToNat, Int.reduceNeg, Nat.reduceBEq, TY] at hx
    subst hx
    refine ⟨_, _, rfl, by first | trivial | omega | (simp only [and_true, true_and]; omega), ?_⟩
    refine at_done (in_cut ⟨rfl, leL_look (by simp only [RN, ↓reduceIte, ↓get8, reduceCtorEq, Nat.reduceLT, Nat.reduceEqDiff, Nat.reduceAdd, Nat.reduceMul, Nat.reduceLeDiff, Nat.reduceSub, Int.reduceToNat, Int.reduceNeg, Nat.reduceBEq]; first | done | trivial), ?_, Nat.le_refl _, rfl⟩)
    refine leT (X := [_, _]) (by simp only [RN, ↓reduceIte, ↓get8, reduceCtorEq, Nat.reduceLT, Nat.reduceEqDiff, Nat.reduceAdd, Nat.reduceMul, Nat.reduceLeDiff, Nat.reduceSub, Int.reduceToNat, Int.reduceNeg, Nat.reduceBEq, Nat.add_assoc, Nat.left_eq_add, Nat.add_eq_left, Nat.add_left_cancel_iff]; first | done | trivial) ?_
    intro id c h
    have u0 := hlt id c h
    have u1 : ¬ id = nx := by omega
    have u2 : ∀ i, ¬ id = nx + i := by intro i; omega
    simp only [RN, ↓reduceIte, ↓get8, reduceCtorEq, Nat.reduceLT, Nat.reduceEqDiff, Nat.reduceAdd, Nat.reduceMul, Nat.reduceLeDiff, Nat.reduceSub, Int.reduceToNat, Int.reduceNeg, Nat.reduceBEq, u1, u2, h]
  refine JS_go (tbOk _) 99 fun x hx => ?_
  simp only [RN, ↓reduceIte, ↓get8, reduceCtorEq, Nat.reduceLT, Nat.reduceEqDiff, Nat.reduceAdd, Nat.reduceMul, Nat.reduceLeDiff, Nat.reduceSub, Int.reduceToNat, Int.reduceNeg, Nat.reduceBEq, TY, Nat.add_assoc, Nat.left_eq_add, Nat.add_eq_left, Nat.add_left_cancel_iff] at hx
  subst hx
  refine ⟨_, _, rfl, by first | trivial | omega | (simp only [and_true, true_and]; omega), ?_⟩
  refine at_ret ?_
  refine ret_endK (by simp only [RN, ↓reduceIte, ↓get8, reduceCtorEq, Nat.reduceLT, Nat.reduceEqDiff, Nat.reduceAdd, Nat.reduceMul, Nat.reduceLeDiff, Nat.reduceSub, Int.reduceToNat, Int.reduceNeg, Nat.reduceBEq, TY, Nat.add_assoc, Nat.left_eq_add, Nat.add_eq_left, Nat.add_left_cancel_iff]; rfl) rfl (by first | trivial | omega) ⟨T0, ?_, ⟨rfl, by show nx ≤ nx + 2; omega⟩, rfl⟩
  intro id c h
  have u0 := hlt id c h
  have u1 : ¬ id = nx := by omega
  have u2 : ∀ i, ¬ id = nx + i := by intro i; omega
  simp only [RN, ↓reduceIte, ↓get8, reduceCtorEq, Nat.reduceLT, Nat.reduceEqDiff, Nat.reduceAdd, Nat.reduceMul, Nat.reduceLeDiff, Nat.reduceSub, Int.reduceToNat, Int.reduceNeg, Nat.reduceBEq, u1, u2, h]
theorem Bk.G0.mono {B : Bk} {nx nx' : Nat} (g : B.G0 nx) (h : nx ≤ nx') : B.G0 nx' :=
  ⟨g.hk, g.hw, fun b e => Nat.lt_of_lt_of_le (g.hkn b e) h, fun b e => Nat.lt_of_lt_of_le (g.hwn b e) h, g.hkw, g.hkc, g.hwc⟩
theorem refcheck_q (B : Bk) (nx : Nat) (g : B.Good nx) : CallW Try.prog 12 [B.val] B.H nx fun o F' n => (o = .ret (.tuple #[.int .i64 (checkB B.ks B.ws).1, .int .i64 (checkB B.ks B.ws).2]) ∧ nx ≤ n) ∧ F' = B.H :=
  (refcheck_c B nx g).mono fun o F' n h => ⟨⟨h.1, h.2.2⟩, h.2.1⟩
end Go.Proofs.Ytoihmanhldcjhaa.Id
namespace Go.Proofs.Ytoihmanhldcjhaa.Id
open Go Go.RowKit Go.ChangeShapes Go.WideShapes
set_option linter.unusedSimpArgs false
set_option linter.unusedVariables false
section
variable {H : Type} {enc : TypeId × Value → H} {W : World}
theorem slice_open {t e : TypeId} {α : Type} (f : α → List Value) (m : Nat) (hm : 0 < m) (hf : ∀ x, (f x).length = m) (hfl : ∀ x, (f x).all flat1 = true) (hf1 : ∀ x, (f x).all (·.oneCell') = true) (leaves : List Leaf) (hg : gleaves Try.prog 6 e = some leaves) (hC : Try.prog.cellsOf e = m)
    (ht : Try.prog.underlying t = some (.slice e)) (hrow : ∀ cs : List Value, gflatOk enc Try.prog W 0 (fun _ => true) true leaves cs → ∃ x, f x = cs) {z : Value} {fuel : Nat} {x : DataW H × List MemPlace}
    {b0 : Nat} (hok : Cell.okWide Try.prog W .any b0 t z) (h : DataW.trod enc Try.prog W 0 (fun _ => true) true fuel t [z] = some x) :
    z = .slice none 0 0 ∨ ∃ (p : Place) (len cap : Nat) (l : List α), len ≤ cap ∧ l.length = cap ∧ (∀ (mm : Mp) id, mm id = some p → VR mm (.slice (some ⟨id, 0, none⟩) len cap) z) ∧ ∀ (mm : Mp) el, BR mm ⟨l.flatMap f, el, m, true, false⟩ p W := by
  rcases Go.Deep.open_slice ht h with ⟨h1, _⟩ | ⟨a, len, cap, m1, n, D, Pl, h1, hb, hl, hmx, hmm, hx, hi⟩
  · simp only [List.cons.injEq, and_true] at h1
    exact .inl h1
  · simp only [List.cons.injEq, and_true] at h1
    subst h1
    right
    rw [if_pos rfl] at hmm
    subst hmm
    have hk : len ≤ m1 ∧ (m1 : Int) ≤ IntKind.i64.max ∧ W.has Try.prog .any b0 a e m1 := by
      unfold Cell.okWide at hok
      rw [ht] at hok
      dsimp only at hok
      unfold Cell.ok at hok
      rw [ht] at hok
      exact hok
    obtain ⟨_, hsp, row, cells, hsh, _⟩ := hk.2.2
    obtain ⟨b, off, spot⟩ := a
    dsimp only at hsp hsh
    subst hsp
    obtain ⟨rc, el, fz, hW⟩ : ∃ rc el fz, W.heap[b]? = some (.cells rc el fz) := by
      unfold World.shape? at hsh
      split at hsh
      · rename_i c el fz hc; exact ⟨c, el, fz, hc⟩
      · cases hsh
    have hrows : ∀ i, i < m1 → ∃ x : α, ∀ j v, (f x)[j]? = some v → rc[off + (i * m + j)]? = some v := by
      intro i him
      obtain ⟨cs, hcs, htr⟩ := hi i him
      rw [hC] at hcs
      obtain ⟨_, hcl, hat⟩ := World.cells?_some hcs
      obtain ⟨x, hx⟩ := hrow cs (gflat_open 6 _ _ hg _ _ _ (by rw [hC]; exact hcl) htr)
      refine ⟨x, fun j v hv => ?_⟩
      rw [hx] at hv
      have hj : j < m := by
        have := (List.getElem?_eq_some_iff.1 hv).1
        omega
      have h2 := hat j hj
      rw [hv, Go.Deep.add_add] at h2
      unfold World.cell? at h2
      have hb2 : ((⟨b, off, none⟩ : Addr).add (i * m + j)).block = b := by unfold Addr.add; split <;> rfl
      have ho2 : ((⟨b, off, none⟩ : Addr).add (i * m + j)).off = off + (i * m + j) := by
        unfold Addr.add; split
        · rename_i h0; rw [h0]; rfl
        · rfl
      have hs2 : ((⟨b, off, none⟩ : Addr).add (i * m + j)).spot = none := by unfold Addr.add; split <;> rfl
      rw [hb2, hW] at h2
      dsimp only at h2
      rw [hs2, ho2] at h2
      simpa using h2
    obtain ⟨l, hll, hlp⟩ := choose_list m1 hrows
    have hcell : ∀ (n : Nat) (v : Value), (l.flatMap f)[n]? = some v → rc[off + n]? = some v := by
      intro n v hv
      obtain ⟨g1, g2⟩ := flat_idx f m hm hf l n v hv
      have := hlp (n / m) g1 (n % m) v g2
      rwa [Nat.mul_comm, Nat.div_add_mod] at this
    have hlen : (l.flatMap f).length = m1 * m := by rw [flat_len f m hf, hll]
    have hall : (l.flatMap f).all (·.oneCell') = true := by
      rw [List.all_eq_true]
      intro v hv
      obtain ⟨x, _, hx⟩ := List.mem_flatMap.1 hv
      exact (List.all_eq_true.1 (hf1 x)) v hx
    have hvr : ∀ (mm : Mp) (n : Nat) (v : Value), (l.flatMap f)[n]? = some v → VR mm v v := by
      intro mm n v hv
      obtain ⟨x, _, hx⟩ := List.mem_flatMap.1 (List.mem_of_getElem? hv)
      exact VR.of_flat1 ((List.all_eq_true.1 (hfl x)) v hx)
    by_cases hc0 : m1 = 0
    · subst hc0
      have hl0 : len = 0 := by omega
      subst hl0
      have hnil : l = [] := List.eq_nil_of_length_eq_zero hll
      subst hnil
      refine ⟨⟨b, 0, rc.size, 0, m, false⟩, 0, 0, [], Nat.le_refl _, rfl, fun mm id hmi => .se 0 off hmi, fun mm el2 => ⟨rfl, rfl, rfl, Nat.zero_le _, rfl, rc, el, fz, hW, (Nat.zero_add _).symm, nofun, fun i v hv => by simp at hv⟩⟩
    · have hsize : off + m1 * m ≤ rc.size := by
        have hlast : m1 * m - 1 < (l.flatMap f).length := by rw [hlen]; have := Nat.mul_pos (Nat.pos_of_ne_zero hc0) hm; omega
        have := hcell _ _ (List.getElem?_eq_getElem hlast)
        have := (Array.getElem?_eq_some_iff.1 this).1
        omega
      refine ⟨⟨b, off, rc.size - off, m1 * m, m, false⟩, len, m1, l, hk.1, hll, fun mm id hmi => ?_, fun mm el2 => ⟨hlen.symm, rfl, rfl, by show m1 * m ≤ rc.size - off; omega, hall, rc, el, fz, hW, by show rc.size = off + (rc.size - off); omega, nofun, fun i v hv => ⟨v, hcell i v hv, hvr mm i v hv⟩⟩⟩
      exact VR.sl (p := ⟨b, off, rc.size - off, m1 * m, m, false⟩) 0 len m1 m1 hmi (.inl rfl) (by show 0 + m1 * m ≤ rc.size - off; omega) hk.1
theorem kind_row (cs : List Value) (h : gflatOk enc Try.prog W 0 (fun _ => true) true [.int .i64, .int .i64, .int .i64, .int .i64, .int .i64, .int .i64, .int .i64, .int .i64, .int .i64, .int .i64, .int .i64, .int .i64, .int .i64, .int .i64, .int .i64, .int .i64, .int .i64, .int .i64, .int .i64, .int .i64] cs) : ∃ k, Kd.cells k = cs := by
  rcases cs with _ | ⟨u0, cs⟩
  · exact h.elim
  obtain ⟨⟨z0, rfl, _⟩, h⟩ := h
  rcases cs with _ | ⟨u1, cs⟩
  · exact h.elim
  obtain ⟨⟨z1, rfl, _⟩, h⟩ := h
  rcases cs with _ | ⟨u2, cs⟩
  · exact h.elim
  obtain ⟨⟨z2, rfl, _⟩, h⟩ := h
  rcases cs with _ | ⟨u3, cs⟩
  · exact h.elim
  obtain ⟨⟨z3, rfl, _⟩, h⟩ := h
  rcases cs with _ | ⟨u4, cs⟩
  · exact h.elim
  obtain ⟨⟨z4, rfl, _⟩, h⟩ := h
  rcases cs with _ | ⟨u5, cs⟩
  · exact h.elim
  obtain ⟨⟨z5, rfl, _⟩, h⟩ := h
  rcases cs with _ | ⟨u6, cs⟩
  · exact h.elim
  obtain ⟨⟨z6, rfl, _⟩, h⟩ := h
  rcases cs with _ | ⟨u7, cs⟩
  · exact h.elim
  obtain ⟨⟨z7, rfl, _⟩, h⟩ := h
  rcases cs with _ | ⟨u8, cs⟩
  · exact h.elim
  obtain ⟨⟨z8, rfl, _⟩, h⟩ := h
  rcases cs with _ | ⟨u9, cs⟩
  · exact h.elim
  obtain ⟨⟨z9, rfl, _⟩, h⟩ := h
  rcases cs with _ | ⟨u10, cs⟩
  · exact h.elim
  obtain ⟨⟨z10, rfl, _⟩, h⟩ := h
  rcases cs with _ | ⟨u11, cs⟩
  · exact h.elim
  obtain ⟨⟨z11, rfl, _⟩, h⟩ := h
  rcases cs with _ | ⟨u12, cs⟩
  · exact h.elim
  obtain ⟨⟨z12, rfl, _⟩, h⟩ := h
  rcases cs with _ | ⟨u13, cs⟩
  · exact h.elim
  obtain ⟨⟨z13, rfl, _⟩, h⟩ := h
  rcases cs with _ | ⟨u14, cs⟩
  · exact h.elim
  obtain ⟨⟨z14, rfl, _⟩, h⟩ := h
  rcases cs with _ | ⟨u15, cs⟩
  · exact h.elim
  obtain ⟨⟨z15, rfl, _⟩, h⟩ := h
  rcases cs with _ | ⟨u16, cs⟩
  · exact h.elim
  obtain ⟨⟨z16, rfl, _⟩, h⟩ := h
  rcases cs with _ | ⟨u17, cs⟩
  · exact h.elim
  obtain ⟨⟨z17, rfl, _⟩, h⟩ := h
  rcases cs with _ | ⟨u18, cs⟩
  · exact h.elim
  obtain ⟨⟨z18, rfl, _⟩, h⟩ := h
  rcases cs with _ | ⟨u19, cs⟩
  · exact h.elim
  obtain ⟨⟨z19, rfl, _⟩, h⟩ := h
  rcases cs with _ | ⟨v, cs⟩
  · exact ⟨⟨z0, z1, z2, z3, z4, z5, z6, z7, z8, z9, z10, z11, z12, z13, z14, z15, z16, z17, z18, z19⟩, rfl⟩
  · exact h.elim
theorem weapon_row (cs : List Value) (h : gflatOk enc Try.prog W 0 (fun _ => true) true [.int .i64, .int .i64, .int .i64, .int .i64, .int .i64, .bool] cs) : ∃ k, Wp.cells k = cs := by
  rcases cs with _ | ⟨u0, cs⟩
  · exact h.elim
  obtain ⟨⟨z0, rfl, _⟩, h⟩ := h
  rcases cs with _ | ⟨u1, cs⟩
  · exact h.elim
  obtain ⟨⟨z1, rfl, _⟩, h⟩ := h
  rcases cs with _ | ⟨u2, cs⟩
  · exact h.elim
  obtain ⟨⟨z2, rfl, _⟩, h⟩ := h
  rcases cs with _ | ⟨u3, cs⟩
  · exact h.elim
  obtain ⟨⟨z3, rfl, _⟩, h⟩ := h
  rcases cs with _ | ⟨u4, cs⟩
  · exact h.elim
  obtain ⟨⟨z4, rfl, _⟩, h⟩ := h
  rcases cs with _ | ⟨u5, cs⟩
  · exact h.elim
  obtain ⟨⟨z5, rfl⟩, h⟩ := h
  rcases cs with _ | ⟨v, cs⟩
  · exact ⟨⟨z0, z1, z2, z3, z4, z5⟩, rfl⟩
  · exact h.elim
end
end Go.Proofs.Ytoihmanhldcjhaa.Id
namespace Go.Proofs.Ytoihmanhldcjhaa.Id
open Go Go.RowKit Go.ChangeShapes Go.WideShapes
set_option linter.unusedSimpArgs false
set_option linter.unusedVariables false
structure Opened {α : Type} (f : α → List Value) (m : Nat) (W : World) (z : Value) (op : Option Place) (len cap : Nat) (l : List α) : Prop where
  hl : len ≤ cap
  no : op = none → len = 0 ∧ z = .slice none 0 0
  rows : ∀ p, op = some p → l.length = cap
  vr : ∀ p, op = some p → ∀ (mm : Mp) id, mm id = some p → VR mm (.slice (some ⟨id, 0, none⟩) len cap) z
  br : ∀ p, op = some p → ∀ (mm : Mp) el, BR mm ⟨l.flatMap f, el, m, true, false⟩ p W
section
variable {H : Type} {enc : TypeId × Value → H} {W : World}
theorem opened_of {α : Type} {f : α → List Value} {m : Nat} {z : Value} (h : z = .slice none 0 0 ∨ ∃ (p : Place) (len cap : Nat) (l : List α), len ≤ cap ∧ l.length = cap ∧ (∀ (mm : Mp) id, mm id = some p → VR mm (.slice (some ⟨id, 0, none⟩) len cap) z) ∧ ∀ (mm : Mp) el, BR mm ⟨l.flatMap f, el, m, true, false⟩ p W) :
    ∃ op len cap l, Opened f m W z op len cap l := by
  rcases h with h | ⟨p, len, cap, l, h1, h2, h3, h4⟩
  · exact ⟨none, 0, 0, [], Nat.le_refl _, fun _ => ⟨rfl, h⟩, nofun, nofun, nofun⟩
  · exact ⟨some p, len, cap, l, h1, nofun, fun q hq => h2, fun q hq => by cases hq; exact h3, fun q hq => by cases hq; exact h4⟩
theorem open_kinds {z : Value} {b0 fuel : Nat} {x : DataW H × List MemPlace} (hok : Cell.okWide Try.prog W .any b0 23 z) (h : DataW.trod enc Try.prog W 0 (fun _ => true) true fuel 23 [z] = some x) : ∃ op len cap l, Opened Kd.cells 20 W z op len cap l :=
  opened_of (slice_open Kd.cells 20 (by omega) (fun _ => rfl) (fun _ => rfl) (fun _ => rfl) _ (by kernel_rfl) (by kernel_rfl) Try.underlying23 kind_row hok h)
theorem open_weapons {z : Value} {b0 fuel : Nat} {x : DataW H × List MemPlace} (hok : Cell.okWide Try.prog W .any b0 24 z) (h : DataW.trod enc Try.prog W 0 (fun _ => true) true fuel 24 [z] = some x) : ∃ op len cap l, Opened Wp.cells 6 W z op len cap l :=
  opened_of (slice_open Wp.cells 6 (by omega) (fun _ => rfl) (fun _ => rfl) (fun _ => rfl) _ (by kernel_rfl) (by kernel_rfl) Try.underlying24 weapon_row hok h)
end
theorem book_cells {W : World} {b0 : Nat} {z0 z1 : Value} (h : Value.okWide Try.prog W .any b0 26 (.agg #[z0, z1])) : Cell.okWide Try.prog W .any b0 23 z0 ∧ Cell.okWide Try.prog W .any b0 24 z1 := by
  unfold Value.okWide at h
  rw [Try.underlying26] at h
  obtain ⟨cs, e, _, ts, hts, _, hall⟩ := h
  cases e
  have e2 : Try.prog.cellTypes Try.prog.depth 26 = some [23, 24] := by kernel_rfl
  rw [e2] at hts
  cases hts
  obtain ⟨u0, g0, k0⟩ := hall 0 z0 rfl
  obtain ⟨u1, g1, k1⟩ := hall 1 z1 rfl
  cases g0; cases g1
  exact ⟨k0, k1⟩
def argBk (ok : Option Place) (lenk capk : Nat) (lk : List Kd) (ow : Option Place) (lenw capw : Nat) (lw : List Wp) : Bk := ⟨lk.take lenk, lk.drop lenk, lw.take lenw, lw.drop lenw, ok.map fun _ => 0, capk, ow.map fun _ => 1, capw, true, false⟩
section
variable {W : World} {z0 z1 : Value} {ok ow : Option Place} {lenk capk lenw capw : Nat} {lk : List Kd} {lw : List Wp} (hk : Opened Kd.cells 20 W z0 ok lenk capk lk) (hw : Opened Wp.cells 6 W z1 ow lenw capw lw)
include hk hw
theorem argBk_good {nx : Nat} (h2 : 2 ≤ nx) : (argBk ok lenk capk lk ow lenw capw lw).G0 nx := by
  refine ⟨fun h => ?_, fun h => ?_, fun b h => ?_, fun b h => ?_, fun b c h1 h2 => ?_, ?_, ?_⟩
  · cases ok with
    | none => show lk.take lenk = []; rw [(hk.no rfl).1]; rfl
    | some p => cases h
  · cases ow with
    | none => show lw.take lenw = []; rw [(hw.no rfl).1]; rfl
    | some p => cases h
  · cases ok with
    | none => cases h
    | some p => cases h; show 0 < nx; omega
  · cases ow with
    | none => cases h
    | some p => cases h; show 1 < nx; omega
  · cases ok with
    | none => cases h1
    | some p => cases ow with
      | none => cases h2
      | some q => cases h1; cases h2; show ¬ (1 : Nat) = 0; decide
  · show (lk.take lenk).length ≤ capk; rw [List.length_take]; have := hk.hl; omega
  · show (lw.take lenw).length ≤ capw; rw [List.length_take]; have := hw.hl; omega
theorem argBk_has {mm : Mp} (m0 : mm 0 = ok) (m1 : mm 1 = ow) : ∀ id blk, look id (argBk ok lenk capk lk ow lenw capw lw).H = some blk → blk.ro = true ∧ id < 2 ∧ ∃ p, mm id = some p ∧ BR mm blk p W := by
  intro id blk h
  unfold Bk.H argBk at h
  dsimp only at h
  rw [List.take_append_drop, List.take_append_drop, look_append] at h
  cases ok with
  | none =>
    cases ow with
    | none => cases h
    | some q =>
      simp only [Option.map, kblk, wpblk] at h
      rw [show look id ([] : Hp) = none from rfl] at h
      dsimp only at h
      rw [look_cons] at h
      split at h
      · rename_i e; subst e; cases h; exact ⟨rfl, by omega, q, m1, hw.br q rfl mm 51⟩
      · cases h
  | some p =>
    simp only [Option.map, kblk] at h
    rw [look_cons] at h
    by_cases h0 : id = 0
    · subst h0
      rw [if_pos rfl] at h
      cases h
      exact ⟨rfl, by omega, p, m0, hk.br p rfl mm 46⟩
    · rw [if_neg h0, show look id ([] : Hp) = none from rfl] at h
      dsimp only at h
      cases ow with
      | none => cases h
      | some q =>
        simp only [wpblk] at h
        rw [look_cons] at h
        split at h
        · rename_i e; subst e; cases h; exact ⟨rfl, by omega, q, m1, hw.br q rfl mm 51⟩
        · cases h
theorem argBk_vr {mm : Mp} (m0 : mm 0 = ok) (m1 : mm 1 = ow) : VR mm (argBk ok lenk capk lk ow lenw capw lw).val (.agg #[z0, z1]) := by
  unfold Bk.val argBk
  dsimp only
  have ek : ∀ p, ok = some p → (lk.take lenk).length = lenk := fun p h => by rw [List.length_take, hk.rows p h]; have := hk.hl; omega
  have ew : ∀ p, ow = some p → (lw.take lenw).length = lenw := fun p h => by rw [List.length_take, hw.rows p h]; have := hw.hl; omega
  refine .agg (.cons ?_ (.cons ?_ .nil)) (by cases ok <;> cases ow <;> rfl)
  · cases ok with
    | none => rw [(hk.no rfl).2]; exact .snil
    | some p => simp only [Option.map, slv]; rw [ek p rfl]; exact hk.vr p rfl mm 0 m0
  · cases ow with
    | none => rw [(hw.no rfl).2]; exact .snil
    | some p => simp only [Option.map, slv]; rw [ew p rfl]; exact hw.vr p rfl mm 1 m1
end
theorem book_open {H : Type} {enc : TypeId × Value → H} {W : World} {b0 : Nat} {z0 z1 : Value} (h : Value.okWide Try.prog W .any b0 26 (.agg #[z0, z1])) (h0 : ∃ m x, DataW.trod enc Try.prog W 0 (fun _ => true) true m 23 [z0] = some x) (h1 : ∃ m x, DataW.trod enc Try.prog W 0 (fun _ => true) true m 24 [z1] = some x) :
    ∃ (B : Bk) (mm : Mp), B.G0 2 ∧ HR mm B.H 2 W ∧ VRs mm [B.val] (#[Value.agg #[z0, z1]] : Array Value).toList ∧ ∀ id blk, look id B.H = some blk → blk.ro = true := by
  obtain ⟨k0, k1⟩ := book_cells h
  obtain ⟨f0, x0, t0⟩ := h0
  obtain ⟨f1, x1, t1⟩ := h1
  obtain ⟨ok, lenk, capk, lk, hk⟩ := open_kinds k0 t0
  obtain ⟨ow, lenw, capw, lw, hw⟩ := open_weapons k1 t1
  refine ⟨argBk ok lenk capk lk ow lenw capw lw, fun id => if id = 0 then ok else if id = 1 then ow else none, argBk_good hk hw (Nat.le_refl _), ⟨?_, ?_, ?_⟩, ?_, ?_⟩
  · exact fun id blk e => (argBk_has hk hw (mm := fun id => if id = 0 then ok else if id = 1 then ow else none) rfl rfl id blk e).2.2
  · intro id h
    show (if id = 0 then ok else if id = 1 then ow else none) = none
    rw [if_neg (by omega), if_neg (by omega)]
  · intro i j bi bj pi pj _ e1 _ _ _ hro
    rw [(argBk_has hk hw (mm := fun id => if id = 0 then ok else if id = 1 then ow else none) rfl rfl i bi e1).1] at hro
    cases hro
  · exact .cons (argBk_vr hk hw rfl rfl) .nil
  · exact fun id blk e => (argBk_has hk hw (mm := fun id => if id = 0 then ok else if id = 1 then ow else none) rfl rfl id blk e).1
end Go.Proofs.Ytoihmanhldcjhaa.Id
namespace Go.Proofs.Ytoihmanhldcjhaa.Id
open Go Go.Proofs.Ytoihmanhldcjhaa.Rl
set_option linter.unusedSimpArgs false
set_option linter.unusedVariables false
theorem u64w (n : Nat) (h : n < 18446744073709551616) : IntKind.u64.wrap (n : Int) = n := by simp [IntKind.wrap, IntKind.bits, IntKind.signed]; omega
set_option maxRecDepth 100000 in
theorem put_c (v k : Nat) (nx : Nat) (hv : v < 18446744073709551616) (hk : 1 ≤ k ∧ k ≤ 8) :
    CallW Try.prog 27 [.int .u64 (v : Int), .int .i64 (k : Int)] [] nx fun o F' nx' => ∃ b, o = .ret (.slice (some ⟨b, 0, none⟩) k k) ∧ F' = [(b, ⟨bys (outB v k), 5, 1, false, true⟩)] ∧ nx ≤ b ∧ b < nx' := by
  refine CallW_go (tbOk _) 21 [.tmp 4] Try.func27 rfl (by decide) rfl rfl (by simp) fun hlt => ?_
  simp only [params, Nat.zero_add, Nat.reduceAdd]
  refine JS_go (tbOk _) 99 fun x hx => ?_
  simp only [RN, ↓reduceIte, ↓get8, reduceCtorEq, Nat.reduceLT, Nat.reduceEqDiff, Nat.reduceAdd, Nat.reduceMul, Nat.reduceLeDiff, Nat.reduceSub, Int.reduceToNat, Int.reduceNeg, Nat.reduceBEq, TY] at hx
  subst hx
  refine ⟨_, _, rfl, by first | trivial | omega | (simp only [and_true, true_and]; omega), ?_⟩
  refine at_loop ?_
  refine JS_loopI (S := fun x : Nat × Option Nat × Nat => { n := 21, fr := [(6, .int .i64 x.1), (5, wsl x.2.1 x.1), (0, .int .u64 ((v / 256 ^ x.1 : Nat) : Int)), (1, .int .i64 k)], F := wblk x.2.1 (outB v x.1), nx := x.2.2, ds := [] })
    (fun p => p.1 ≤ k ∧ nx ≤ p.2.2 ∧ (p.2.1 = none → p.1 = 0) ∧ ∀ b, p.2.1 = some b → nx ≤ b ∧ b < p.2.2) (fun x => k - x.1) (0, none, nx) ⟨Nat.zero_le _, Nat.le_refl _, fun _ => rfl, nofun⟩ ?_ ?_
  · refine le_of rfl ?_ (by simp only [RN, ↓reduceIte, ↓get8, reduceCtorEq, Nat.reduceLT, Nat.reduceEqDiff, Nat.reduceAdd, Nat.reduceMul, Nat.reduceLeDiff, Nat.reduceSub, Int.reduceToNat, Int.reduceNeg, Nat.reduceBEq, wblk]; first | done | trivial) (Nat.le_refl _) rfl
    simp only [RN, ↓reduceIte, ↓get8, reduceCtorEq, Nat.reduceLT, Nat.reduceEqDiff, Nat.reduceAdd, Nat.reduceMul, Nat.reduceLeDiff, Nat.reduceSub, Int.reduceToNat, Int.reduceNeg, Nat.reduceBEq, wsl, Nat.pow_zero, Nat.div_one]; first | done | trivial
  rintro ⟨j, o, n⟩ ⟨hj, hn, hno, hso⟩
  dsimp only at hj hn hno hso ⊢
  obtain ⟨x, hx⟩ : ∃ x, v / 256 ^ j = x := ⟨_, rfl⟩
  have hxv : x ≤ v := by rw [← hx]; exact Nat.div_le_self _ _
  rw [hx]
  refine JS_go (tbOk _) 99 fun x hx => ?_
  simp only [RN, ↓reduceIte, ↓get8, reduceCtorEq, Nat.reduceLT, Nat.reduceEqDiff, Nat.reduceAdd, Nat.reduceMul, Nat.reduceLeDiff, Nat.reduceSub, Int.reduceToNat, Int.reduceNeg, Nat.reduceBEq, TY] at hx
  subst hx
  refine ⟨_, _, rfl, by first | trivial | omega | (simp only [and_true, true_and]; omega), ?_⟩
  refine at_cond (fun hlt2 => ?_) (fun hge => ?_)
  · have hlt3 : j < k := by simpa using hlt2
    have hw3 : IntKind.i64.wrap ((j : Int) + 1) = ((j + 1 : Nat) : Int) := wrap_i64 (j + 1) (by omega)
    have hfx : (v : Int).fdiv (2 ^ (8 * j)) = (x : Int) := by
      rw [Int.fdiv_eq_ediv_of_nonneg _ (Int.pow_nonneg (by omega)), ← hx]
      have : (256 : Nat) ^ j = 2 ^ (8 * j) := by rw [Nat.pow_mul]
      rw [this]
      simp
    have hby : IntKind.u8.wrap ((x : Int).tmod 256) = ((toB ((v : Int).fdiv (2 ^ (8 * j)))).toNat : Int) := by
      rw [← toB_wrap, hfx, Int.tmod_eq_emod_of_nonneg (by omega)]
      simp [IntKind.wrap, IntKind.bits, IntKind.signed]
    have hqu : IntKind.u64.wrap ((x : Int).tdiv 256) = ((v / 256 ^ (j + 1) : Nat) : Int) := by
      rw [Int.tdiv_eq_ediv_of_nonneg (by omega), Nat.pow_succ, ← Nat.div_div_eq_div_mul, hx]
      exact u64w (x / 256) (by omega)
    have hE := outB_succ v j
    have hEl := outB_len v j
    obtain ⟨y, hy⟩ : ∃ y, toB ((v : Int).fdiv (2 ^ (8 * j))) = y := ⟨_, rfl⟩
    rw [hy] at hby hE
    have hb1 : bys (outB v j) ++ [Value.int .u8 y.toNat] = bys (outB v (j + 1)) := by rw [hE, bys_snoc]
    have hb2 : (bys (outB v j)).length = j := by rw [bys_len, hEl]
    have hj1 : ¬ j + 1 ≤ j := by omega
    cases o with
    | none =>
      have hj0 := hno rfl
      subst hj0
      have hb3 : [Value.int .u8 y.toNat] = bys (outB v 1) := by rw [← hb1]; rfl
      refine JS_go (tbOk _) 99 fun x hx => ?_
      simp only [RN, ↓reduceIte, ↓get8, reduceCtorEq, Nat.reduceLT, Nat.reduceEqDiff, Nat.reduceAdd, Nat.reduceMul, Nat.reduceLeDiff, Nat.reduceSub, Int.reduceToNat, Int.reduceNeg, Nat.reduceBEq, TY, hw3, hby, hqu, hj1, wsl, wblk, Nat.add_assoc, Nat.left_eq_add, Nat.add_eq_left, Nat.add_left_cancel_iff] at hx
      subst hx
      refine ⟨_, _, rfl, by first | trivial | omega | (simp only [and_true, true_and]; omega), ?_⟩
      refine at_done (in_nextI (0 + 1, some (n + 1), n + 2) ⟨by omega, by show nx ≤ n + 2; omega, nofun, fun b hb => ?_⟩ (by show k - (0 + 1) < k - 0; omega) ?_)
      · cases hb; exact ⟨by omega, by show n + 1 < n + 2; omega⟩
      · dsimp only
        refine le_of rfl (by simp only [RN, ↓reduceIte, ↓get8, reduceCtorEq, Nat.reduceLT, Nat.reduceEqDiff, Nat.reduceAdd, Nat.reduceMul, Nat.reduceLeDiff, Nat.reduceSub, Int.reduceToNat, Int.reduceNeg, Nat.reduceBEq, wsl]; first | done | trivial) (by simp only [RN, ↓reduceIte, ↓get8, reduceCtorEq, Nat.reduceLT, Nat.reduceEqDiff, Nat.reduceAdd, Nat.reduceMul, Nat.reduceLeDiff, Nat.reduceSub, Int.reduceToNat, Int.reduceNeg, Nat.reduceBEq, wblk, ← hb3]; first | done | trivial) (Nat.le_refl _) rfl
    | some b =>
      obtain ⟨hb4, hb5⟩ := hso b rfl
      have q1 : ¬ b = n := by omega
      have q2 : ∀ i, ¬ b = n + i := by intro i; omega
      have q3 : ¬ n = b := by omega
      have q4 : ∀ i, ¬ n + i = b := by intro i; omega
      refine JS_go (tbOk _) 99 fun x hx => ?_
      simp only [RN, ↓reduceIte, ↓get8, reduceCtorEq, Nat.reduceLT, Nat.reduceEqDiff, Nat.reduceAdd, Nat.reduceMul, Nat.reduceLeDiff, Nat.reduceSub, Int.reduceToNat, Int.reduceNeg, Nat.reduceBEq, TY, hw3, hby, hqu, hb1, hb2, hj1, wsl, wblk, q1, q2, q3, q4, Nat.add_assoc, Nat.left_eq_add, Nat.add_eq_left, Nat.add_left_cancel_iff] at hx
      subst hx
      refine ⟨_, _, rfl, by first | trivial | omega | (simp only [and_true, true_and]; omega), ?_⟩
      refine at_done (in_nextI (j + 1, some (n + 1), n + 2) ⟨by omega, by show nx ≤ n + 2; omega, nofun, fun b hb => ?_⟩ (by show k - (j + 1) < k - j; omega) ?_)
      · cases hb; exact ⟨by omega, by show n + 1 < n + 2; omega⟩
      · dsimp only
        refine le_of rfl (by simp only [RN, ↓reduceIte, ↓get8, reduceCtorEq, Nat.reduceLT, Nat.reduceEqDiff, Nat.reduceAdd, Nat.reduceMul, Nat.reduceLeDiff, Nat.reduceSub, Int.reduceToNat, Int.reduceNeg, Nat.reduceBEq, wsl]; first | done | trivial) (by simp only [RN, ↓reduceIte, ↓get8, reduceCtorEq, Nat.reduceLT, Nat.reduceEqDiff, Nat.reduceAdd, Nat.reduceMul, Nat.reduceLeDiff, Nat.reduceSub, Int.reduceToNat, Int.reduceNeg, Nat.reduceBEq, wblk, q1, q2, q3, q4, Nat.add_assoc, Nat.left_eq_add, Nat.add_eq_left, Nat.add_left_cancel_iff]; first | done | trivial) (Nat.le_refl _) rfl
  · have hj2 : j = k := by simp at hge; omega
    subst hj2
    obtain ⟨b, rfl⟩ : ∃ b, o = some b := by
      cases o with
      | none => have := hno rfl; omega
      | some b => exact ⟨b, rfl⟩
    obtain ⟨hb4, hb5⟩ := hso b rfl
    refine JS_go (tbOk _) 99 fun x hx => ?_
    simp only [RN, ↓reduceIte, ↓get8, reduceCtorEq, Nat.reduceLT, Nat.reduceEqDiff, Nat.reduceAdd, Nat.reduceMul, Nat.reduceLeDiff, Nat.reduceSub, Int.reduceToNat, Int.reduceNeg, Nat.reduceBEq, TY] at hx
    subst hx
    refine ⟨_, _, rfl, by first | trivial | omega | (simp only [and_true, true_and]; omega), ?_⟩
    refine at_exit (in_exitI (by simp only [RN, ↓reduceIte, ↓get8, reduceCtorEq, Nat.reduceLT, Nat.reduceEqDiff, Nat.reduceAdd, Nat.reduceMul, Nat.reduceLeDiff, Nat.reduceSub, Int.reduceToNat, Int.reduceNeg, Nat.reduceBEq]; rfl) ?_)
    refine JS_go (tbOk _) 99 fun x hx => ?_
    simp only [RN, ↓reduceIte, ↓get8, reduceCtorEq, Nat.reduceLT, Nat.reduceEqDiff, Nat.reduceAdd, Nat.reduceMul, Nat.reduceLeDiff, Nat.reduceSub, Int.reduceToNat, Int.reduceNeg, Nat.reduceBEq, TY, wsl, wblk] at hx
    subst hx
    refine ⟨_, _, rfl, by first | trivial | omega | (simp only [and_true, true_and]; omega), ?_⟩
    refine at_ret ?_
    refine ret_endK (by simp only [RN, ↓reduceIte, ↓get8, reduceCtorEq, Nat.reduceLT, Nat.reduceEqDiff, Nat.reduceAdd, Nat.reduceMul, Nat.reduceLeDiff, Nat.reduceSub, Int.reduceToNat, Int.reduceNeg, Nat.reduceBEq]; first | done | rfl) rfl trivial ⟨_, fun _ _ h => h, b, rfl, rfl, hb4, hb5⟩
set_option maxRecDepth 100000 in
theorem float_c (v : Nat) (nx : Nat) (hv : v ≤ 262144) : CallW Try.prog 28 [.int .i64 (v : Int)] [] nx (Ret (.int .u64 ((toS v : Nat) : Int)) [] nx) := by
  refine CallW_go (tbOk _) 20 [.tmp 2] Try.func28 rfl (by decide) rfl rfl (by simp) fun hlt => ?_
  simp only [params, Nat.zero_add, Nat.reduceAdd]
  cases h0 : ((v : Int) == 0)
  case true =>
    skip
    have hv0 : v = 0 := by simp at h0; omega
    subst hv0
    refine JS_go (tbOk _) 99 fun x hx => ?_
    simp only [RN, ↓reduceIte, ↓get8, reduceCtorEq, Nat.reduceLT, Nat.reduceEqDiff, Nat.reduceAdd, Nat.reduceMul, Nat.reduceLeDiff, Nat.reduceSub, Int.reduceToNat, Int.reduceNeg, Nat.reduceBEq, TY, h0] at hx
    subst hx
    refine ⟨_, _, rfl, by first | trivial | omega | (simp only [and_true, true_and]; omega), ?_⟩
    refine at_cond (fun _ => ?_) (fun h => nomatch h)
    refine JS_go (tbOk _) 99 fun x hx => ?_
    simp only [RN, ↓reduceIte, ↓get8, reduceCtorEq, Nat.reduceLT, Nat.reduceEqDiff, Nat.reduceAdd, Nat.reduceMul, Nat.reduceLeDiff, Nat.reduceSub, Int.reduceToNat, Int.reduceNeg, Nat.reduceBEq, TY] at hx
    subst hx
    refine ⟨_, _, rfl, by first | trivial | omega | (simp only [and_true, true_and]; omega), ?_⟩
    first | refine at_ret ?_ | refine at_done ?_
    repeat (first | refine in_ret ?_ | refine in_retI ?_)
    first | refine ret_endK (by simp only [RN, ↓reduceIte, ↓get8, reduceCtorEq, Nat.reduceLT, Nat.reduceEqDiff, Nat.reduceAdd, Nat.reduceMul, Nat.reduceLeDiff, Nat.reduceSub, Int.reduceToNat, Int.reduceNeg, Nat.reduceBEq]; rfl) rfl trivial ?_ | refine nrm_endK (by simp only [RN, ↓reduceIte, ↓get8, reduceCtorEq, Nat.reduceLT, Nat.reduceEqDiff, Nat.reduceAdd, Nat.reduceMul, Nat.reduceLeDiff, Nat.reduceSub, Int.reduceToNat, Int.reduceNeg, Nat.reduceBEq]; rfl) rfl trivial ?_ | refine ret_endK (by simp only [RN, ↓reduceIte, ↓get8, reduceCtorEq, Nat.reduceLT, Nat.reduceEqDiff, Nat.reduceAdd, Nat.reduceMul, Nat.reduceLeDiff, Nat.reduceSub, Int.reduceToNat, Int.reduceNeg, Nat.reduceBEq, TY]; rfl) rfl (by first | trivial | omega) ?_
    refine ⟨_, ?_, by rw [show toS ((0 : Nat) : Int) = 0 from toS_zero]; rfl, rfl, rfl⟩
    exact leL_look (by simp only [RN, ↓reduceIte, ↓get8, reduceCtorEq, Nat.reduceLT, Nat.reduceEqDiff, Nat.reduceAdd, Nat.reduceMul, Nat.reduceLeDiff, Nat.reduceSub, Int.reduceToNat, Int.reduceNeg, Nat.reduceBEq]; first | done | trivial)
  have hv0 : v ≠ 0 := by simp at h0; omega
  have hw0 : IntKind.u64.wrap (v : Int) = v := u64w v (by omega)
  refine JS_go (tbOk _) 99 fun x hx => ?_
  simp only [RN, ↓reduceIte, ↓get8, reduceCtorEq, Nat.reduceLT, Nat.reduceEqDiff, Nat.reduceAdd, Nat.reduceMul, Nat.reduceLeDiff, Nat.reduceSub, Int.reduceToNat, Int.reduceNeg, Nat.reduceBEq, TY, h0] at hx
  subst hx
  refine ⟨_, _, rfl, by first | trivial | omega | (simp only [and_true, true_and]; omega), ?_⟩
  refine at_cond (fun h => nomatch h) (fun _ => ?_)
  refine JS_go (tbOk _) 99 fun x hx => ?_
  simp only [RN, ↓reduceIte, ↓get8, reduceCtorEq, Nat.reduceLT, Nat.reduceEqDiff, Nat.reduceAdd, Nat.reduceMul, Nat.reduceLeDiff, Nat.reduceSub, Int.reduceToNat, Int.reduceNeg, Nat.reduceBEq, TY, hw0] at hx
  subst hx
  refine ⟨_, _, rfl, by first | trivial | omega | (simp only [and_true, true_and]; omega), ?_⟩
  refine at_loop ?_
  refine JS_loopI (S := fun j : Nat => { n := 20, fr := [(4, .int .u64 ((v * 2 ^ j : Nat) : Int)), (3, .int .u64 ((1059 - j : Nat) : Int))], F := [], nx := nx, ds := [] })
    (fun j => v * 2 ^ j < 2 ^ 53) (fun j => 60 - j) 0 (by omega) ?_ ?_
  · exact le_of rfl (by simp only [RN, ↓reduceIte, ↓get8, reduceCtorEq, Nat.reduceLT, Nat.reduceEqDiff, Nat.reduceAdd, Nat.reduceMul, Nat.reduceLeDiff, Nat.reduceSub, Int.reduceToNat, Int.reduceNeg, Nat.reduceBEq, Nat.pow_zero, Nat.mul_one]; first | done | trivial) (by simp only [RN, ↓reduceIte, ↓get8, reduceCtorEq, Nat.reduceLT, Nat.reduceEqDiff, Nat.reduceAdd, Nat.reduceMul, Nat.reduceLeDiff, Nat.reduceSub, Int.reduceToNat, Int.reduceNeg, Nat.reduceBEq]; first | done | trivial) (Nat.le_refl _) rfl
  intro j hj
  have hj53 : j < 53 := by
    rcases Nat.lt_or_ge j 53 with h | h
    · exact h
    · exfalso
      have : 1 * 2 ^ 53 ≤ v * 2 ^ j := Nat.mul_le_mul (by omega) (Nat.pow_le_pow_right (by omega) h)
      omega
  have hs : v * 2 ^ (j + 1) = v * 2 ^ j * 2 := by rw [Nat.pow_succ, Nat.mul_assoc]
  obtain ⟨m, hm⟩ : ∃ m, v * 2 ^ j = m := ⟨_, rfl⟩
  rw [hm] at hj hs
  rw [hm]
  refine JS_go (tbOk _) 99 fun x hx => ?_
  simp only [RN, ↓reduceIte, ↓get8, reduceCtorEq, Nat.reduceLT, Nat.reduceEqDiff, Nat.reduceAdd, Nat.reduceMul, Nat.reduceLeDiff, Nat.reduceSub, Int.reduceToNat, Int.reduceNeg, Nat.reduceBEq, TY] at hx
  subst hx
  refine ⟨_, _, rfl, by first | trivial | omega | (simp only [and_true, true_and]; omega), ?_⟩
  refine at_cond (fun hlt2 => ?_) (fun hge => ?_)
  · have hlt3 : m < 4503599627370496 := by simp at hlt2; omega
    have w1 : IntKind.u64.wrap ((m : Int) * 2) = ((v * 2 ^ (j + 1) : Nat) : Int) := by rw [hs, show (m : Int) * 2 = ((m * 2 : Nat) : Int) by omega]; exact u64w _ (by omega)
    have w2 : IntKind.u64.wrap ((((1059 - j : Nat)) : Int) - 1) = ((1059 - (j + 1) : Nat) : Int) := by rw [show (((1059 - j : Nat)) : Int) - 1 = ((1059 - (j + 1) : Nat) : Int) by omega]; exact u64w _ (by omega)
    refine JS_go (tbOk _) 99 fun x hx => ?_
    simp only [RN, ↓reduceIte, ↓get8, reduceCtorEq, Nat.reduceLT, Nat.reduceEqDiff, Nat.reduceAdd, Nat.reduceMul, Nat.reduceLeDiff, Nat.reduceSub, Int.reduceToNat, Int.reduceNeg, Nat.reduceBEq, TY, w1, w2] at hx
    subst hx
    refine ⟨_, _, rfl, by first | trivial | omega | (simp only [and_true, true_and]; omega), ?_⟩
    exact at_done (in_nextI (j + 1) (by rw [hs]; omega) (by omega) (le_of rfl (by simp only [RN, ↓reduceIte, ↓get8, reduceCtorEq, Nat.reduceLT, Nat.reduceEqDiff, Nat.reduceAdd, Nat.reduceMul, Nat.reduceLeDiff, Nat.reduceSub, Int.reduceToNat, Int.reduceNeg, Nat.reduceBEq]; first | done | trivial) (by simp only [RN, ↓reduceIte, ↓get8, reduceCtorEq, Nat.reduceLT, Nat.reduceEqDiff, Nat.reduceAdd, Nat.reduceMul, Nat.reduceLeDiff, Nat.reduceSub, Int.reduceToNat, Int.reduceNeg, Nat.reduceBEq]; first | done | trivial) (Nat.le_refl _) rfl))
  · have hge3 : 4503599627370496 ≤ m := by simp at hge; omega
    refine JS_go (tbOk _) 99 fun x hx => ?_
    simp only [RN, ↓reduceIte, ↓get8, reduceCtorEq, Nat.reduceLT, Nat.reduceEqDiff, Nat.reduceAdd, Nat.reduceMul, Nat.reduceLeDiff, Nat.reduceSub, Int.reduceToNat, Int.reduceNeg, Nat.reduceBEq, TY] at hx
    subst hx
    refine ⟨_, _, rfl, by first | trivial | omega | (simp only [and_true, true_and]; omega), ?_⟩
    refine at_exit (in_exitI (by simp only [RN, ↓reduceIte, ↓get8, reduceCtorEq, Nat.reduceLT, Nat.reduceEqDiff, Nat.reduceAdd, Nat.reduceMul, Nat.reduceLeDiff, Nat.reduceSub, Int.reduceToNat, Int.reduceNeg, Nat.reduceBEq]; rfl) ?_)
    obtain ⟨t1, t2⟩ := toS_norm v j hv0 (by omega) (by omega) (by omega)
    rw [hm] at t1
    have w1 : IntKind.u64.wrap (((1059 - j : Nat) : Int) * 2 ^ min 52 IntKind.u64.bits) = (((1059 - j) * 2 ^ 52 : Nat) : Int) := by
      rw [show min 52 IntKind.u64.bits = 52 from rfl, show ((1059 - j : Nat) : Int) * 2 ^ 52 = (((1059 - j) * 2 ^ 52 : Nat) : Int) by simp]
      exact u64w _ (by omega)
    have w2 : IntKind.u64.wrap ((((1059 - j) * 2 ^ 52 : Nat) : Int) + (m : Int)) = (((1059 - j) * 2 ^ 52 + m : Nat) : Int) := by
      rw [show (((1059 - j) * 2 ^ 52 : Nat) : Int) + (m : Int) = (((1059 - j) * 2 ^ 52 + m : Nat) : Int) by omega]
      exact u64w _ (by omega)
    have w3 : IntKind.u64.wrap ((((1059 - j) * 2 ^ 52 + m : Nat) : Int) - 4503599627370496) = ((toS v : Nat) : Int) := by
      rw [show (((1059 - j) * 2 ^ 52 + m : Nat) : Int) - 4503599627370496 = ((toS v : Nat) : Int) by omega]
      exact u64w _ (by omega)
    refine JS_go (tbOk _) 99 fun x hx => ?_
    simp only [RN, ↓reduceIte, ↓get8, reduceCtorEq, Nat.reduceLT, Nat.reduceEqDiff, Nat.reduceAdd, Nat.reduceMul, Nat.reduceLeDiff, Nat.reduceSub, Int.reduceToNat, Int.reduceNeg, Nat.reduceBEq, TY, w1, w2, w3] at hx
    subst hx
    refine ⟨_, _, rfl, by first | trivial | omega | (simp only [and_true, true_and]; omega), ?_⟩
    first | refine at_ret ?_ | refine at_done ?_
    repeat (first | refine in_ret ?_ | refine in_retI ?_)
    first | refine ret_endK (by simp only [RN, ↓reduceIte, ↓get8, reduceCtorEq, Nat.reduceLT, Nat.reduceEqDiff, Nat.reduceAdd, Nat.reduceMul, Nat.reduceLeDiff, Nat.reduceSub, Int.reduceToNat, Int.reduceNeg, Nat.reduceBEq]; rfl) rfl trivial ?_ | refine nrm_endK (by simp only [RN, ↓reduceIte, ↓get8, reduceCtorEq, Nat.reduceLT, Nat.reduceEqDiff, Nat.reduceAdd, Nat.reduceMul, Nat.reduceLeDiff, Nat.reduceSub, Int.reduceToNat, Int.reduceNeg, Nat.reduceBEq]; rfl) rfl trivial ?_ | refine ret_endK (by simp only [RN, ↓reduceIte, ↓get8, reduceCtorEq, Nat.reduceLT, Nat.reduceEqDiff, Nat.reduceAdd, Nat.reduceMul, Nat.reduceLeDiff, Nat.reduceSub, Int.reduceToNat, Int.reduceNeg, Nat.reduceBEq, TY]; rfl) rfl (by first | trivial | omega) ?_
    refine ⟨_, ?_, rfl, rfl, rfl⟩
    exact leL_look (by simp only [RN, ↓reduceIte, ↓get8, reduceCtorEq, Nat.reduceLT, Nat.reduceEqDiff, Nat.reduceAdd, Nat.reduceMul, Nat.reduceLeDiff, Nat.reduceSub, Int.reduceToNat, Int.reduceNeg, Nat.reduceBEq]; first | done | trivial)
end Go.Proofs.Ytoihmanhldcjhaa.Id
namespace Go.Proofs.Ytoihmanhldcjhaa.Id
open Go Go.Proofs.Ytoihmanhldcjhaa.Rl
set_option linter.unusedSimpArgs false
set_option linter.unusedVariables false
def l8 (k : Kd) : List Int := [k.c1, k.c3, k.c8, k.c9, k.c10, k.c14, k.c15, k.c19]
def l10 (k : Kd) : List Int := [k.c4, k.c5, k.c6, k.c7, k.c11, k.c12, k.c13, k.c16, k.c17, k.c18]
theorem kdBytes_eq (k : Kd) : kdBytes k = [toB k.c0] ++ (l8 k).flatMap two ++ (l10 k).map toB ++ outB (toS k.c2) 8 := rfl
theorem l8_ok {k : Kd} {n : Int} (h : kindB k n = true) : ∀ v ∈ l8 k, 0 ≤ v ∧ v ≤ 65535 := by
  simp only [kindB, btw, List.all_cons, List.all_nil, Bool.and_true, Bool.and_eq_true, decide_eq_true_eq] at h
  intro v hv
  simp only [l8, List.mem_cons, List.not_mem_nil, or_false] at hv
  omega
theorem damage_ok {k : Wp} (h : weaponB k = true) : 0 ≤ k.c1 ∧ k.c1 ≤ 65535 := by
  simp only [weaponB, btw, List.all_cons, List.all_nil, Bool.and_true, Bool.and_eq_true, decide_eq_true_eq] at h
  omega
theorem outB_two (v : Nat) : outB v 2 = two (v : Int) := by
  simp [outB, List.range_succ, two]
theorem bys_app (a b : List UInt8) : bys a ++ bys b = bys (a ++ b) := by simp [bys]
theorem bys_take (a : List UInt8) : List.take a.length (bys a) = bys a := by rw [← bys_len a, List.take_length]
theorem del_far (nx b : Nat) (hb : nx ≤ b) : ∀ {T0 : Hp}, (∀ e ∈ T0, e.1 < nx) → del b T0 = T0
  | [], _ => rfl
  | (k, x) :: T0, h => by
    have hk : k < nx := h (k, x) (by simp)
    have : ¬ k = b := by omega
    rw [del_cons, if_neg this, del_far nx b hb fun e he => h e (by simp [he])]
theorem toS_lt (v : Nat) (hv : v ≤ 262144) : toS (v : Int) < 18446744073709551616 := by
  by_cases h0 : v = 0
  · subst h0; rw [show toS ((0 : Nat) : Int) = 0 from toS_zero]; omega
  · obtain ⟨q, m, e, hq, hr, ⟨i, hm, he⟩, a1, a2, a3, a4⟩ := by_one false v (by omega) h0
    obtain ⟨t1, t2⟩ := toS_norm v i h0 (by omega) (by rw [← hm]; exact a4) (by rw [← hm]; exact a1)
    rw [← hm] at t1
    omega
set_option maxRecDepth 100000 in
set_option maxHeartbeats 4000000 in
theorem refencode_c (B : Bk) (nx : Nat) (g : B.Good nx) (h0 : (checkB B.ks B.ws).1 = 0) :
    CallW Try.prog 14 [B.val] B.H nx fun o F' nx' => ∃ b, nx ≤ b ∧ b < nx' ∧ o = .ret (.slice (some ⟨b, 0, none⟩) (encB B.ks B.ws).length (encB B.ks B.ws).length) ∧ F' = (b, ⟨bys (encB B.ks B.ws), 5, 1, false, true⟩) :: B.H := by
  have l1 := g.l1
  have l2 := g.l2
  have t1 := g.t1
  have t2 := g.t2
  have t3 := g.t3
  have t4 := g.t4
  have t5 := g.t5
  rcases B with ⟨ks, kx, ws, wx, ok, kc, ow, wc, ro, loose⟩
  obtain ⟨hk, hw, hkl, hwl, hkn, hwn, hkw⟩ := g
  unfold Bk.val
  obtain ⟨T0, hT0⟩ : ∃ T0, Bk.H ⟨ks, kx, ws, wx, ok, kc, ow, wc, ro, loose⟩ = T0 := ⟨_, rfl⟩
  rw [hT0] at t1 t2 t3 t4 t5 ⊢
  dsimp only at l1 l2 t1 t2 t3 t4 t5 hk hw hkl hwl hkn hwn hkw h0 ⊢
  obtain ⟨⟨hk0, hk16⟩, hw16, hkB, hwB, -⟩ := check_ok h0
  have td : ∀ b, nx ≤ b → del b T0 = T0 := fun b hb => del_far nx b hb t1
  refine CallW_go (tbOk _) 147 [.tmp 2] Try.func14 rfl (by decide) rfl rfl (by simp) fun hlt => ?_
  simp only [params, Nat.zero_add, Nat.reduceAdd]
  have u1 := toB_wrap (ks.length : Int)
  have u2 := toB_wrap (ws.length : Int)
  refine JS_go (tbOk _) 99 fun x hx => ?_
  simp only [RN, ↓reduceIte, ↓get8, reduceCtorEq, Nat.reduceLT, Nat.reduceEqDiff, Nat.reduceAdd, Nat.reduceMul, Nat.reduceLeDiff, Nat.reduceSub, Int.reduceToNat, Int.reduceNeg, Nat.reduceBEq, TY, ↓l1, ↓l2, u1, u2, Nat.add_assoc, Nat.left_eq_add, Nat.add_eq_left, Nat.add_left_cancel_iff] at hx
  subst hx
  refine ⟨_, _, rfl, by first | trivial | omega | (simp only [and_true, true_and]; omega), ?_⟩
  refine at_loop ?_
  refine JS_loopI (S := fun x : Nat × Nat × Nat × Bool => { n := 147, fr := [(4, .int .i64 x.1), (3, .slice (some ⟨x.2.1, 0, none⟩) ((headB ks ws ++ (ks.take x.1).flatMap kdBytes)).length ((headB ks ws ++ (ks.take x.1).flatMap kdBytes)).length), (1, .pointer (some ⟨nx, 0, none⟩))], F := [(x.2.1, ⟨bys (headB ks ws ++ (ks.take x.1).flatMap kdBytes), 5, 1, false, x.2.2.2⟩), (nx, ⟨[slv ok ks.length kc, slv ow ws.length wc], 26, 2, false, false⟩)] ++ T0, nx := x.2.2.1, ds := [] })
    (fun p => p.1 ≤ ks.length ∧ nx < p.2.1 ∧ p.2.1 < p.2.2.1 ∧ (p.2.2.2 = false → p.1 = 0)) (fun x => ks.length - x.1) (0, nx + 1, nx + 2, false) ⟨Nat.zero_le _, by show nx < nx + 1; omega, by show nx + 1 < nx + 2; omega, fun _ => rfl⟩ ?_ ?_
  · have e0 : headB ks ws ++ (ks.take 0).flatMap kdBytes = [toB ks.length, toB ws.length] := by simp [headB]
    dsimp only
    rw [e0]
    refine ⟨rfl, leL_look (by simp only [RN, ↓reduceIte, ↓get8, reduceCtorEq, Nat.reduceLT, Nat.reduceEqDiff, Nat.reduceAdd, Nat.reduceMul, Nat.reduceLeDiff, Nat.reduceSub, Int.reduceToNat, Int.reduceNeg, Nat.reduceBEq]; first | done | trivial), ?_, Nat.le_refl _, rfl⟩
    refine leT (X := [_, _]) ?_ ?_
    · simp only [RN, ↓reduceIte, ↓get8, reduceCtorEq, Nat.reduceLT, Nat.reduceEqDiff, Nat.reduceAdd, Nat.reduceMul, Nat.reduceLeDiff, Nat.reduceSub, Int.reduceToNat, Int.reduceNeg, Nat.reduceBEq, bys, List.map_cons, List.map_nil, Nat.add_assoc, Nat.left_eq_add, Nat.add_eq_left, Nat.add_left_cancel_iff]; first | done | trivial
    · intro id c h
      have u0 := t5 id c h
      have w0 : ¬ id = nx := by omega
      have w1 : ¬ id = nx + 1 := by omega
      simp only [RN, ↓reduceIte, ↓get8, reduceCtorEq, Nat.reduceLT, Nat.reduceEqDiff, Nat.reduceAdd, Nat.reduceMul, Nat.reduceLeDiff, Nat.reduceSub, Int.reduceToNat, Int.reduceNeg, Nat.reduceBEq, w0, w1, bys, List.map_cons, List.map_nil, Nat.add_assoc, Nat.left_eq_add, Nat.add_eq_left, Nat.add_left_cancel_iff, h]
  rintro ⟨j, b, n, lo⟩ ⟨hj, hnb, hbn, hlo⟩
  dsimp only at hj hnb hbn hlo ⊢
  obtain ⟨E0, hE0⟩ : ∃ E0, headB ks ws ++ (ks.take j).flatMap kdBytes = E0 := ⟨_, rfl⟩
  rw [hE0]
  have hEl : E0.length = 2 + 35 * j := by
    rw [← hE0, List.length_append, flat_len kdBytes 35 kdBytes_len, List.length_take]
    simp [headB]; omega
  have f0 : ¬ nx = b := by omega
  have f1 : ¬ nx = n := by omega
  have f2 : ∀ i, ¬ nx = n + i := by intro i; omega
  have f3 : ¬ n = nx := by omega
  have f4 : ∀ i, ¬ n + i = nx := by intro i; omega
  have f5 : ¬ b = nx := by omega
  have f6 : ¬ b = n := by omega
  have f7 : ∀ i, ¬ b = n + i := by intro i; omega
  have f8 : ¬ n = b := by omega
  have f9 : ∀ i, ¬ n + i = b := by intro i; omega
  refine JS_go (tbOk _) 99 fun x hx => ?_
  simp only [RN, ↓reduceIte, ↓get8, reduceCtorEq, Nat.reduceLT, Nat.reduceEqDiff, Nat.reduceAdd, Nat.reduceMul, Nat.reduceLeDiff, Nat.reduceSub, Int.reduceToNat, Int.reduceNeg, Nat.reduceBEq, TY, ↓l1, f0, f1, f2, f3, f4, f5, f6, f7, f8, f9, Nat.add_assoc, Nat.left_eq_add, Nat.add_eq_left, Nat.add_left_cancel_iff] at hx
  subst hx
  refine ⟨_, _, rfl, by first | trivial | omega | (simp only [and_true, true_and]; omega), ?_⟩
  refine at_cond (fun hlt2 => ?_) (fun hge => ?_)
  · have hlt3 : j < ks.length := by simpa using hlt2
    obtain ⟨q, hq⟩ : ∃ q, ok = some q := by
      cases ok with
      | none => rw [hk rfl] at hlt3; exact absurd hlt3 (by simp)
      | some q => exact ⟨q, rfl⟩
    have hqn := hkn q hq
    have lq := t2 q hq
    have hs : slv ok ks.length kc = .slice (some ⟨q, 0, none⟩) ks.length kc := by rw [hq]; rfl
    have kg := kcells_get (ks := ks ++ kx) (j := j) (by simp; omega)
    rw [List.getElem_append_left hlt3] at kg
    have kl := kcells_len (ks ++ kx)
    rw [List.length_append] at kl
    obtain ⟨k, hkj⟩ : ∃ k, ks[j] = k := ⟨_, rfl⟩
    rw [hkj] at kg
    have hkk : kindB k ws.length = true := by rw [← hkj]; exact hkB _ (List.getElem_mem hlt3)
    obtain ⟨hv0, hv1⟩ := kindB_speed hkk
    have h8 := l8_ok hkk
    have g0 : ¬ nx = b := by omega
    have g1 : ¬ nx = q := by omega
    have g2 : ¬ nx = n := by omega
    have g3 : ∀ i, ¬ nx = n + i := by intro i; omega
    have g4 : ¬ n = nx := by omega
    have g5 : ∀ i, ¬ n + i = nx := by intro i; omega
    have g6 : ¬ b = nx := by omega
    have g7 : ¬ b = q := by omega
    have g8 : ¬ b = n := by omega
    have g9 : ∀ i, ¬ b = n + i := by intro i; omega
    have g10 : ¬ n = b := by omega
    have g11 : ∀ i, ¬ n + i = b := by intro i; omega
    have g12 : ¬ q = nx := by omega
    have g13 : ¬ q = b := by omega
    have g14 : ¬ q = n := by omega
    have g15 : ∀ i, ¬ q = n + i := by intro i; omega
    have g16 : ¬ n = q := by omega
    have g17 : ∀ i, ¬ n + i = q := by intro i; omega
    obtain ⟨E1, hE1⟩ : ∃ E1, E0 ++ [toB k.c0] = E1 := ⟨_, rfl⟩
    have hEl1 : E1.length = 3 + 35 * j := by rw [← hE1]; simp [hEl]; omega
    refine JS_skip (JS_seq (JS_block (JS_seq (JS_cut ({ n := 147, fr := [(5, .pointer (some ⟨n, 0, none⟩)), (4, .int .i64 j), (3, .slice (some ⟨b, 0, none⟩) (E0).length (E0).length), (1, .pointer (some ⟨nx, 0, none⟩))], F := [(b, ⟨bys E0, 5, 1, false, lo⟩), (n, ⟨k.cells, 46, 20, false, false⟩), (nx, ⟨[slv ok ks.length kc, slv ow ws.length wc], 26, 2, false, false⟩)] ++ T0, nx := n + 1, ds := [] }) ?_ (JS_seq (JS_cut ({ n := 147, fr := [(5, .pointer (some ⟨n, 0, none⟩)), (4, .int .i64 j), (3, .slice (some ⟨n + 2, 0, none⟩) (E1).length (E1).length), (1, .pointer (some ⟨nx, 0, none⟩))], F := [(n + 2, ⟨bys E1, 5, 1, false, true⟩), (n, ⟨k.cells, 46, 20, false, false⟩), (nx, ⟨[slv ok ks.length kc, slv ow ws.length wc], 26, 2, false, false⟩)] ++ T0, nx := n + 3, ds := [] }) ?_ ?_))))))
    · skip
      refine JS_go (tbOk _) 99 fun x hx => ?_
      simp only [RN, ↓reduceIte, ↓get8, reduceCtorEq, Nat.reduceLT, Nat.reduceEqDiff, Nat.reduceAdd, Nat.reduceMul, Nat.reduceLeDiff, Nat.reduceSub, Int.reduceToNat, Int.reduceNeg, Nat.reduceBEq, TY, hs, lq, kg, kl, Kd.cells, g0, g1, g2, g3, g4, g5, g6, g7, g8, g9, g10, g11, g12, g13, g14, g15, g16, g17, Nat.add_assoc, Nat.left_eq_add, Nat.add_eq_left, Nat.add_left_cancel_iff] at hx
      subst hx
      refine ⟨_, _, rfl, by first | trivial | omega | (simp only [and_true, true_and]; omega), ?_⟩
      refine at_done (in_cut ⟨rfl, leL_look (by simp only [RN, ↓reduceIte, ↓get8, reduceCtorEq, Nat.reduceLT, Nat.reduceEqDiff, Nat.reduceAdd, Nat.reduceMul, Nat.reduceLeDiff, Nat.reduceSub, Int.reduceToNat, Int.reduceNeg, Nat.reduceBEq]; first | done | trivial), ?_, Nat.le_refl _, rfl⟩)
      refine leT (X := [_, _, _]) ?_ ?_
      · simp only [RN, ↓reduceIte, ↓get8, reduceCtorEq, Nat.reduceLT, Nat.reduceEqDiff, Nat.reduceAdd, Nat.reduceMul, Nat.reduceLeDiff, Nat.reduceSub, Int.reduceToNat, Int.reduceNeg, Nat.reduceBEq, g0, g1, g2, g3, g4, g5, g6, g7, g8, g9, g10, g11, g12, g13, g14, g15, g16, g17, Kd.cells, hs, Nat.add_assoc, Nat.left_eq_add, Nat.add_eq_left, Nat.add_left_cancel_iff]; first | done | trivial
      · intro id c h
        have u0 := t5 id c h
        have w0 : ¬ id = nx := by omega
        have w1 : ¬ id = b := by omega
        have w2 : ¬ id = n := by omega
        simp only [RN, ↓reduceIte, ↓get8, reduceCtorEq, Nat.reduceLT, Nat.reduceEqDiff, Nat.reduceAdd, Nat.reduceMul, Nat.reduceLeDiff, Nat.reduceSub, Int.reduceToNat, Int.reduceNeg, Nat.reduceBEq, w0, w1, w2, g0, g1, g2, g3, g4, g5, g6, g7, g8, g9, g10, g11, g12, g13, g14, g15, g16, g17, Kd.cells, hs, Nat.add_assoc, Nat.left_eq_add, Nat.add_eq_left, Nat.add_left_cancel_iff, h]
    · have w1 := toB_wrap k.c0
      have w2 : ¬ E0.length + 1 ≤ E0.length := by omega
      have w3 := bys_take E0
      have w4 : bys E0 ++ [Value.int .u8 (toB k.c0).toNat] = bys E1 := by rw [← hE1, bys_snoc]
      have w5 : E0.length + 1 = E1.length := by rw [hEl, hEl1]; omega
      have w6 : ¬ E1.length ≤ E0.length := by omega
      have w7 := bys_len E0
      have w8 := td b (by omega)
      cases lo
      · skip
        refine JS_go (tbOk _) 99 fun x hx => ?_
        simp only [RN, ↓reduceIte, ↓get8, reduceCtorEq, Nat.reduceLT, Nat.reduceEqDiff, Nat.reduceAdd, Nat.reduceMul, Nat.reduceLeDiff, Nat.reduceSub, Int.reduceToNat, Int.reduceNeg, Nat.reduceBEq, TY, Kd.cells, w1, w2, w3, w4, w5, w6, w7, w8, g0, g1, g2, g3, g4, g5, g6, g7, g8, g9, g10, g11, g12, g13, g14, g15, g16, g17, Nat.add_assoc, Nat.left_eq_add, Nat.add_eq_left, Nat.add_left_cancel_iff] at hx
        subst hx
        refine ⟨_, _, rfl, by first | trivial | omega | (simp only [and_true, true_and]; omega), ?_⟩
        refine at_done (in_cut ⟨rfl, leL_look (by simp only [RN, ↓reduceIte, ↓get8, reduceCtorEq, Nat.reduceLT, Nat.reduceEqDiff, Nat.reduceAdd, Nat.reduceMul, Nat.reduceLeDiff, Nat.reduceSub, Int.reduceToNat, Int.reduceNeg, Nat.reduceBEq, w5]; first | done | trivial), ?_, Nat.le_refl _, rfl⟩)
        refine leT (X := [_, _, _]) ?_ ?_
        · simp only [RN, ↓reduceIte, ↓get8, reduceCtorEq, Nat.reduceLT, Nat.reduceEqDiff, Nat.reduceAdd, Nat.reduceMul, Nat.reduceLeDiff, Nat.reduceSub, Int.reduceToNat, Int.reduceNeg, Nat.reduceBEq, g0, g1, g2, g3, g4, g5, g6, g7, g8, g9, g10, g11, g12, g13, g14, g15, g16, g17, Kd.cells, w4, w5, Nat.add_assoc, Nat.left_eq_add, Nat.add_eq_left, Nat.add_left_cancel_iff]; first | done | trivial
        · intro id c h
          have u0 := t5 id c h
          have w0 : ¬ id = nx := by omega
          have w1 : ¬ id = b := by omega
          have w2 : ¬ id = n := by omega
          have w3 : ¬ id = n + 1 := by omega
          have w4 : ¬ id = n + 2 := by omega
          simp only [RN, ↓reduceIte, ↓get8, reduceCtorEq, Nat.reduceLT, Nat.reduceEqDiff, Nat.reduceAdd, Nat.reduceMul, Nat.reduceLeDiff, Nat.reduceSub, Int.reduceToNat, Int.reduceNeg, Nat.reduceBEq, w0, w1, w2, w3, w4, g0, g1, g2, g3, g4, g5, g6, g7, g8, g9, g10, g11, g12, g13, g14, g15, g16, g17, Kd.cells, w4, w5, Nat.add_assoc, Nat.left_eq_add, Nat.add_eq_left, Nat.add_left_cancel_iff, h]
      · skip
        refine JS_go (tbOk _) 99 fun x hx => ?_
        simp only [RN, ↓reduceIte, ↓get8, reduceCtorEq, Nat.reduceLT, Nat.reduceEqDiff, Nat.reduceAdd, Nat.reduceMul, Nat.reduceLeDiff, Nat.reduceSub, Int.reduceToNat, Int.reduceNeg, Nat.reduceBEq, TY, Kd.cells, w1, w2, w3, w4, w5, w6, w7, w8, g0, g1, g2, g3, g4, g5, g6, g7, g8, g9, g10, g11, g12, g13, g14, g15, g16, g17, Nat.add_assoc, Nat.left_eq_add, Nat.add_eq_left, Nat.add_left_cancel_iff] at hx
        subst hx
        refine ⟨_, _, rfl, by first | trivial | omega | (simp only [and_true, true_and]; omega), ?_⟩
        refine at_done (in_cut ⟨rfl, leL_look (by simp only [RN, ↓reduceIte, ↓get8, reduceCtorEq, Nat.reduceLT, Nat.reduceEqDiff, Nat.reduceAdd, Nat.reduceMul, Nat.reduceLeDiff, Nat.reduceSub, Int.reduceToNat, Int.reduceNeg, Nat.reduceBEq, w5]; first | done | trivial), ?_, Nat.le_refl _, rfl⟩)
        refine leT (X := [_, _, _]) ?_ ?_
        · simp only [RN, ↓reduceIte, ↓get8, reduceCtorEq, Nat.reduceLT, Nat.reduceEqDiff, Nat.reduceAdd, Nat.reduceMul, Nat.reduceLeDiff, Nat.reduceSub, Int.reduceToNat, Int.reduceNeg, Nat.reduceBEq, g0, g1, g2, g3, g4, g5, g6, g7, g8, g9, g10, g11, g12, g13, g14, g15, g16, g17, Kd.cells, w4, w5, Nat.add_assoc, Nat.left_eq_add, Nat.add_eq_left, Nat.add_left_cancel_iff]; first | done | trivial
        · intro id c h
          have u0 := t5 id c h
          have w0 : ¬ id = nx := by omega
          have w1 : ¬ id = b := by omega
          have w2 : ¬ id = n := by omega
          have w3 : ¬ id = n + 1 := by omega
          have w4 : ¬ id = n + 2 := by omega
          simp only [RN, ↓reduceIte, ↓get8, reduceCtorEq, Nat.reduceLT, Nat.reduceEqDiff, Nat.reduceAdd, Nat.reduceMul, Nat.reduceLeDiff, Nat.reduceSub, Int.reduceToNat, Int.reduceNeg, Nat.reduceBEq, w0, w1, w2, w3, w4, g0, g1, g2, g3, g4, g5, g6, g7, g8, g9, g10, g11, g12, g13, g14, g15, g16, g17, Kd.cells, w4, w5, Nat.add_assoc, Nat.left_eq_add, Nat.add_eq_left, Nat.add_left_cancel_iff, h]
    clear u1 u2
    clear g0 g1 g2 g3 g4 g5 g6 g7 g8 g9 g10 g11 g12 g13 g14 g15 g16 g17 f0 f1 f2 f3 f4 f5 f6 f7 f8 f9
    clear hs lq kg kl
    obtain ⟨lb, hlb⟩ : ∃ lb, lb = n + 3 := ⟨_, rfl⟩
    have p0 : ¬ nx = n := by omega
    have p1 : ∀ i, ¬ nx = n + i := by intro i; omega
    have p2 : ¬ n = nx := by omega
    have p3 : ∀ i, ¬ n + i = nx := by intro i; omega
    refine JS_go (tbOk _) 99 fun x hx => ?_
    simp only [RN, ↓reduceIte, ↓get8, reduceCtorEq, Nat.reduceLT, Nat.reduceEqDiff, Nat.reduceAdd, Nat.reduceMul, Nat.reduceLeDiff, Nat.reduceSub, Int.reduceToNat, Int.reduceNeg, Nat.reduceBEq, TY, Kd.cells, p0, p1, p2, p3, Nat.add_assoc, Nat.left_eq_add, Nat.add_eq_left, Nat.add_left_cancel_iff] at hx
    subst hx
    refine ⟨_, _, rfl, by first | trivial | omega | (simp only [and_true, true_and]; omega), ?_⟩
    refine at_loop ?_
    refine JS_loopI (S := fun x : Nat × Nat × Nat => { n := 147, fr := [(58, .int .i64 x.1), (57, .int .i64 8), (56, .slice (some ⟨lb, 0, none⟩) 8 8), (3, .slice (some ⟨x.2.1, 0, none⟩) ((E1 ++ ((l8 k).take x.1).flatMap two)).length ((E1 ++ ((l8 k).take x.1).flatMap two)).length), (5, .pointer (some ⟨n, 0, none⟩)), (4, .int .i64 j), (1, .pointer (some ⟨nx, 0, none⟩))], F := [(x.2.1, ⟨bys (E1 ++ ((l8 k).take x.1).flatMap two), 5, 1, false, true⟩), (n, ⟨k.cells, 46, 20, false, false⟩), (lb, ⟨ints (l8 k), 3, 1, false, false⟩), (nx, ⟨[slv ok ks.length kc, slv ow ws.length wc], 26, 2, false, false⟩)] ++ T0, nx := x.2.2, ds := [] })
      (fun p => p.1 ≤ 8 ∧ n + 4 ≤ p.2.2 ∧ p.2.1 < p.2.2 ∧ (p.2.1 = n + 2 ∨ n + 4 ≤ p.2.1)) (fun x => 8 - x.1) (0, n + 2, n + 4) ⟨Nat.zero_le _, Nat.le_refl _, by show n + 2 < n + 4; omega, .inl rfl⟩ ?_ ?_
    · have e0 : E1 ++ ((l8 k).take 0).flatMap two = E1 := by simp
      dsimp only
      rw [e0]
      refine ⟨rfl, leL_look (by simp only [RN, ↓reduceIte, ↓get8, reduceCtorEq, Nat.reduceLT, Nat.reduceEqDiff, Nat.reduceAdd, Nat.reduceMul, Nat.reduceLeDiff, Nat.reduceSub, Int.reduceToNat, Int.reduceNeg, Nat.reduceBEq, hlb]; first | done | trivial), ?_, Nat.le_refl _, rfl⟩
      refine leT (X := [_, _, _, _]) ?_ ?_
      · simp only [RN, ↓reduceIte, ↓get8, reduceCtorEq, Nat.reduceLT, Nat.reduceEqDiff, Nat.reduceAdd, Nat.reduceMul, Nat.reduceLeDiff, Nat.reduceSub, Int.reduceToNat, Int.reduceNeg, Nat.reduceBEq, p0, p1, p2, p3, hlb, ints, l8, Kd.cells, Nat.add_assoc, Nat.left_eq_add, Nat.add_eq_left, Nat.add_left_cancel_iff]; first | done | trivial
      · intro id c h
        have u0 := t5 id c h
        have w0 : ¬ id = nx := by omega
        have w1 : ¬ id = n := by omega
        have w2 : ¬ id = n + 1 := by omega
        have w3 : ¬ id = n + 2 := by omega
        have w4 : ¬ id = n + 3 := by omega
        simp only [RN, ↓reduceIte, ↓get8, reduceCtorEq, Nat.reduceLT, Nat.reduceEqDiff, Nat.reduceAdd, Nat.reduceMul, Nat.reduceLeDiff, Nat.reduceSub, Int.reduceToNat, Int.reduceNeg, Nat.reduceBEq, w0, w1, w2, w3, w4, p0, p1, p2, p3, hlb, ints, l8, Kd.cells, Nat.add_assoc, Nat.left_eq_add, Nat.add_eq_left, Nat.add_left_cancel_iff, h]
    rintro ⟨i, b2, n2⟩ ⟨hi, hn2, hbn2, hb2⟩
    dsimp only at hi hn2 hbn2 hb2 ⊢
    obtain ⟨E2, hE2⟩ : ∃ E2, E1 ++ ((l8 k).take i).flatMap two = E2 := ⟨_, rfl⟩
    rw [hE2]
    have hEl2 : E2.length = 3 + 35 * j + 2 * i := by
      rw [← hE2, List.length_append, twos_len, List.length_take]
      simp [l8]; omega
    have r0 : ¬ nx = b2 := by omega
    have r1 : ¬ nx = n := by omega
    have r2 : ¬ nx = lb := by omega
    have r3 : ¬ nx = n2 := by omega
    have r4 : ∀ i, ¬ nx = n2 + i := by intro i; omega
    have r5 : ¬ n2 = nx := by omega
    have r6 : ∀ i, ¬ n2 + i = nx := by intro i; omega
    have r7 : ¬ b2 = nx := by omega
    have r8 : ¬ b2 = n := by omega
    have r9 : ¬ b2 = lb := by omega
    have r10 : ¬ b2 = n2 := by omega
    have r11 : ∀ i, ¬ b2 = n2 + i := by intro i; omega
    have r12 : ¬ n2 = b2 := by omega
    have r13 : ∀ i, ¬ n2 + i = b2 := by intro i; omega
    have r14 : ¬ n = nx := by omega
    have r15 : ¬ n = b2 := by omega
    have r16 : ¬ n = lb := by omega
    have r17 : ¬ n = n2 := by omega
    have r18 : ∀ i, ¬ n = n2 + i := by intro i; omega
    have r19 : ¬ n2 = n := by omega
    have r20 : ∀ i, ¬ n2 + i = n := by intro i; omega
    have r21 : ¬ lb = nx := by omega
    have r22 : ¬ lb = b2 := by omega
    have r23 : ¬ lb = n := by omega
    have r24 : ¬ lb = n2 := by omega
    have r25 : ∀ i, ¬ lb = n2 + i := by intro i; omega
    have r26 : ¬ n2 = lb := by omega
    have r27 : ∀ i, ¬ n2 + i = lb := by intro i; omega
    refine JS_go (tbOk _) 99 fun x hx => ?_
    simp only [RN, ↓reduceIte, ↓get8, reduceCtorEq, Nat.reduceLT, Nat.reduceEqDiff, Nat.reduceAdd, Nat.reduceMul, Nat.reduceLeDiff, Nat.reduceSub, Int.reduceToNat, Int.reduceNeg, Nat.reduceBEq, TY] at hx
    subst hx
    refine ⟨_, _, rfl, by first | trivial | omega | (simp only [and_true, true_and]; omega), ?_⟩
    refine at_cond (fun hlt4 => ?_) (fun hge4 => ?_)
    · have hl9 : (l8 k).length = 8 := rfl
      have hlt5 : i < (l8 k).length := by have := of_decide_eq_true hlt4; omega
      obtain ⟨vn, hvn⟩ : ∃ vn : Nat, (l8 k)[i] = vn := ⟨(l8 k)[i].toNat, by have := h8 _ (List.getElem_mem hlt5); omega⟩
      have hvb := h8 _ (List.getElem_mem hlt5)
      rw [hvn] at hvb
      have hg := ints_get hlt5
      rw [hvn] at hg
      have hwu := u64w vn (by omega)
      have hll : (ints (l8 k)).length = 8 := rfl
      obtain ⟨E3, hE3⟩ : ∃ E3, E2 ++ outB vn 2 = E3 := ⟨_, rfl⟩
      have hEl3 : E2.length + 2 = E3.length := by rw [← hE3, List.length_append, outB_len]
      refine JS_go (tbOk _) 99 fun x hx => ?_
      simp only [RN, ↓reduceIte, ↓get8, reduceCtorEq, Nat.reduceLT, Nat.reduceEqDiff, Nat.reduceAdd, Nat.reduceMul, Nat.reduceLeDiff, Nat.reduceSub, Int.reduceToNat, Int.reduceNeg, Nat.reduceBEq, TY, hg, hwu, hll, r0, r1, r2, r3, r4, r5, r6, r7, r8, r9, r10, r11, r12, r13, r14, r15, r16, r17, r18, r19, r20, r21, r22, r23, r24, r25, r26, r27, Nat.add_assoc, Nat.left_eq_add, Nat.add_eq_left, Nat.add_left_cancel_iff] at hx
      subst hx
      refine ⟨_, _, rfl, by first | trivial | omega | (simp only [and_true, true_and]; omega), ?_⟩
      refine at_callG (put_c vn 2 n2 (by omega) (by omega)) (by simp only [RN, ↓reduceIte, ↓get8, reduceCtorEq, Nat.reduceLT, Nat.reduceEqDiff, Nat.reduceAdd, Nat.reduceMul, Nat.reduceLeDiff, Nat.reduceSub, Int.reduceToNat, Int.reduceNeg, Nat.reduceBEq]; first | done | trivial) ?_
      rintro o L' n3 ⟨p, rfl, rfl, hp1, hp2⟩
      refine ⟨_, by simp only [RN, ↓reduceIte, ↓get8, reduceCtorEq, Nat.reduceLT, Nat.reduceEqDiff, Nat.reduceAdd, Nat.reduceMul, Nat.reduceLeDiff, Nat.reduceSub, Int.reduceToNat, Int.reduceNeg, Nat.reduceBEq]; rfl, ?_⟩
      have s0 : ¬ nx = b2 := by omega
      have s1 : ¬ nx = n := by omega
      have s2 : ¬ nx = lb := by omega
      have s3 : ¬ nx = p := by omega
      have s4 : ¬ nx = n3 := by omega
      have s5 : ∀ i, ¬ nx = n3 + i := by intro i; omega
      have s6 : ¬ n3 = nx := by omega
      have s7 : ∀ i, ¬ n3 + i = nx := by intro i; omega
      have s8 : ¬ b2 = nx := by omega
      have s9 : ¬ b2 = n := by omega
      have s10 : ¬ b2 = lb := by omega
      have s11 : ¬ b2 = p := by omega
      have s12 : ¬ b2 = n3 := by omega
      have s13 : ∀ i, ¬ b2 = n3 + i := by intro i; omega
      have s14 : ¬ n3 = b2 := by omega
      have s15 : ∀ i, ¬ n3 + i = b2 := by intro i; omega
      have s16 : ¬ n = nx := by omega
      have s17 : ¬ n = b2 := by omega
      have s18 : ¬ n = lb := by omega
      have s19 : ¬ n = p := by omega
      have s20 : ¬ n = n3 := by omega
      have s21 : ∀ i, ¬ n = n3 + i := by intro i; omega
      have s22 : ¬ n3 = n := by omega
      have s23 : ∀ i, ¬ n3 + i = n := by intro i; omega
      have s24 : ¬ lb = nx := by omega
      have s25 : ¬ lb = b2 := by omega
      have s26 : ¬ lb = n := by omega
      have s27 : ¬ lb = p := by omega
      have s28 : ¬ lb = n3 := by omega
      have s29 : ∀ i, ¬ lb = n3 + i := by intro i; omega
      have s30 : ¬ n3 = lb := by omega
      have s31 : ∀ i, ¬ n3 + i = lb := by intro i; omega
      have s32 : ¬ p = nx := by omega
      have s33 : ¬ p = b2 := by omega
      have s34 : ¬ p = n := by omega
      have s35 : ¬ p = lb := by omega
      have s36 : ¬ p = n3 := by omega
      have s37 : ∀ i, ¬ p = n3 + i := by intro i; omega
      have s38 : ¬ n3 = p := by omega
      have s39 : ∀ i, ¬ n3 + i = p := by intro i; omega
      have v1 : ¬ E2.length + 2 ≤ E2.length := by omega
      have v2 : ¬ E3.length ≤ E2.length := by omega
      have v3 := bys_take (outB vn 2)
      rw [outB_len] at v3
      have v4 : bys E2 ++ bys (outB vn 2) = bys E3 := by rw [bys_app, hE3]
      have v5 := bys_len E2
      have v6 := bys_len (outB vn 2)
      rw [outB_len] at v6
      have v7 := td b2 (by omega)
      have hw3 : IntKind.i64.wrap ((i : Int) + 1) = ((i + 1 : Nat) : Int) := wrap_i64 (i + 1) (by omega)
      refine JS_go (tbOk _) 99 fun x hx => ?_
      simp only [RN, ↓reduceIte, ↓get8, reduceCtorEq, Nat.reduceLT, Nat.reduceEqDiff, Nat.reduceAdd, Nat.reduceMul, Nat.reduceLeDiff, Nat.reduceSub, Int.reduceToNat, Int.reduceNeg, Nat.reduceBEq, TY, v1, v2, v3, v4, v5, v6, v7, hEl3, hw3, s0, s1, s2, s3, s4, s5, s6, s7, s8, s9, s10, s11, s12, s13, s14, s15, s16, s17, s18, s19, s20, s21, s22, s23, s24, s25, s26, s27, s28, s29, s30, s31, s32, s33, s34, s35, s36, s37, s38, s39, Nat.add_assoc, Nat.left_eq_add, Nat.add_eq_left, Nat.add_left_cancel_iff] at hx
      subst hx
      refine ⟨_, _, rfl, by first | trivial | omega | (simp only [and_true, true_and]; omega), ?_⟩
      refine at_done (in_nextI (i + 1, n3, n3 + 1) ⟨by show i + 1 ≤ 8; omega, by show n + 4 ≤ n3 + 1; omega, by show n3 < n3 + 1; omega, .inr (by show n + 4 ≤ n3; omega)⟩ (by show 8 - (i + 1) < 8 - i; omega) ?_)
      have eJ : E1 ++ ((l8 k).take (i + 1)).flatMap two = E3 := by
        rw [List.take_succ_eq_append_getElem hlt5, hvn, List.flatMap_append, ← List.append_assoc, hE2, ← hE3, outB_two]
        simp
      dsimp only
      rw [eJ]
      refine ⟨rfl, leL_look (by simp only [RN, ↓reduceIte, ↓get8, reduceCtorEq, Nat.reduceLT, Nat.reduceEqDiff, Nat.reduceAdd, Nat.reduceMul, Nat.reduceLeDiff, Nat.reduceSub, Int.reduceToNat, Int.reduceNeg, Nat.reduceBEq]; first | done | trivial), ?_, Nat.le_refl _, rfl⟩
      refine leT (X := [_, _, _, _]) ?_ ?_
      · simp only [RN, ↓reduceIte, ↓get8, reduceCtorEq, Nat.reduceLT, Nat.reduceEqDiff, Nat.reduceAdd, Nat.reduceMul, Nat.reduceLeDiff, Nat.reduceSub, Int.reduceToNat, Int.reduceNeg, Nat.reduceBEq, s0, s1, s2, s3, s4, s5, s6, s7, s8, s9, s10, s11, s12, s13, s14, s15, s16, s17, s18, s19, s20, s21, s22, s23, s24, s25, s26, s27, s28, s29, s30, s31, s32, s33, s34, s35, s36, s37, s38, s39, Nat.add_assoc, Nat.left_eq_add, Nat.add_eq_left, Nat.add_left_cancel_iff]; first | done | trivial
      · intro id c h
        have u0 := t5 id c h
        have w0 : ¬ id = nx := by omega
        have w1 : ¬ id = b2 := by omega
        have w2 : ¬ id = n := by omega
        have w3 : ¬ id = lb := by omega
        have w4 : ¬ id = p := by omega
        have w5 : ¬ id = n3 := by omega
        simp only [RN, ↓reduceIte, ↓get8, reduceCtorEq, Nat.reduceLT, Nat.reduceEqDiff, Nat.reduceAdd, Nat.reduceMul, Nat.reduceLeDiff, Nat.reduceSub, Int.reduceToNat, Int.reduceNeg, Nat.reduceBEq, w0, w1, w2, w3, w4, w5, s0, s1, s2, s3, s4, s5, s6, s7, s8, s9, s10, s11, s12, s13, s14, s15, s16, s17, s18, s19, s20, s21, s22, s23, s24, s25, s26, s27, s28, s29, s30, s31, s32, s33, s34, s35, s36, s37, s38, s39, Nat.add_assoc, Nat.left_eq_add, Nat.add_eq_left, Nat.add_left_cancel_iff, h]
    have hi8 : i = 8 := by simp at hge4; omega
    subst hi8
    have e8 : (l8 k).take 8 = l8 k := rfl
    rw [e8] at hE2
    refine JS_go (tbOk _) 99 fun x hx => ?_
    simp only [RN, ↓reduceIte, ↓get8, reduceCtorEq, Nat.reduceLT, Nat.reduceEqDiff, Nat.reduceAdd, Nat.reduceMul, Nat.reduceLeDiff, Nat.reduceSub, Int.reduceToNat, Int.reduceNeg, Nat.reduceBEq, TY] at hx
    subst hx
    refine ⟨_, _, rfl, by first | trivial | omega | (simp only [and_true, true_and]; omega), ?_⟩
    refine at_exit (in_exitI (by simp only [RN, ↓reduceIte, ↓get8, reduceCtorEq, Nat.reduceLT, Nat.reduceEqDiff, Nat.reduceAdd, Nat.reduceMul, Nat.reduceLeDiff, Nat.reduceSub, Int.reduceToNat, Int.reduceNeg, Nat.reduceBEq]; rfl) ?_)
    clear hge4 hi
    refine JS_go (tbOk _) 99 fun x hx => ?_
    simp only [RN, ↓reduceIte, ↓get8, reduceCtorEq, Nat.reduceLT, Nat.reduceEqDiff, Nat.reduceAdd, Nat.reduceMul, Nat.reduceLeDiff, Nat.reduceSub, Int.reduceToNat, Int.reduceNeg, Nat.reduceBEq, TY, Kd.cells, r0, r1, r2, r3, r4, r5, r6, r7, r8, r9, r10, r11, r12, r13, r14, r15, r16, r17, r18, r19, r20, r21, r22, r23, r24, r25, r26, r27, Nat.add_assoc, Nat.left_eq_add, Nat.add_eq_left, Nat.add_left_cancel_iff] at hx
    subst hx
    refine ⟨_, _, rfl, by first | trivial | omega | (simp only [and_true, true_and]; omega), ?_⟩
    refine at_loop ?_
    refine JS_loopI (S := fun x : Nat × Nat × Nat => { n := 147, fr := [(90, .int .i64 x.1), (89, .int .i64 10), (88, .slice (some ⟨n2, 0, none⟩) 10 10), (3, .slice (some ⟨x.2.1, 0, none⟩) ((E2 ++ ((l10 k).take x.1).map toB)).length ((E2 ++ ((l10 k).take x.1).map toB)).length), (5, .pointer (some ⟨n, 0, none⟩)), (4, .int .i64 j), (1, .pointer (some ⟨nx, 0, none⟩))], F := [(x.2.1, ⟨bys (E2 ++ ((l10 k).take x.1).map toB), 5, 1, false, true⟩), (n, ⟨k.cells, 46, 20, false, false⟩), (n2, ⟨ints (l10 k), 3, 1, false, false⟩), (nx, ⟨[slv ok ks.length kc, slv ow ws.length wc], 26, 2, false, false⟩)] ++ T0, nx := x.2.2, ds := [] })
      (fun p => p.1 ≤ 10 ∧ n2 + 1 ≤ p.2.2 ∧ p.2.1 < p.2.2 ∧ (p.2.1 = b2 ∨ n2 + 1 ≤ p.2.1)) (fun x => 10 - x.1) (0, b2, n2 + 1) ⟨Nat.zero_le _, Nat.le_refl _, by show b2 < n2 + 1; omega, .inl rfl⟩ ?_ ?_
    · have e0 : E2 ++ ((l10 k).take 0).map toB = E2 := by simp
      dsimp only
      rw [e0]
      refine ⟨rfl, leL_look (by simp only [RN, ↓reduceIte, ↓get8, reduceCtorEq, Nat.reduceLT, Nat.reduceEqDiff, Nat.reduceAdd, Nat.reduceMul, Nat.reduceLeDiff, Nat.reduceSub, Int.reduceToNat, Int.reduceNeg, Nat.reduceBEq]; first | done | trivial), ?_, Nat.le_refl _, rfl⟩
      refine leT (X := [_, _, _, _]) ?_ ?_
      · simp only [RN, ↓reduceIte, ↓get8, reduceCtorEq, Nat.reduceLT, Nat.reduceEqDiff, Nat.reduceAdd, Nat.reduceMul, Nat.reduceLeDiff, Nat.reduceSub, Int.reduceToNat, Int.reduceNeg, Nat.reduceBEq, r0, r1, r2, r3, r4, r5, r6, r7, r8, r9, r10, r11, r12, r13, r14, r15, r16, r17, r18, r19, r20, r21, r22, r23, r24, r25, r26, r27, ints, l10, Kd.cells, Nat.add_assoc, Nat.left_eq_add, Nat.add_eq_left, Nat.add_left_cancel_iff]; first | done | trivial
      · intro id c h
        have u0 := t5 id c h
        have w0 : ¬ id = nx := by omega
        have w1 : ¬ id = b2 := by omega
        have w2 : ¬ id = n := by omega
        have w3 : ¬ id = lb := by omega
        have w4 : ¬ id = n2 := by omega
        simp only [RN, ↓reduceIte, ↓get8, reduceCtorEq, Nat.reduceLT, Nat.reduceEqDiff, Nat.reduceAdd, Nat.reduceMul, Nat.reduceLeDiff, Nat.reduceSub, Int.reduceToNat, Int.reduceNeg, Nat.reduceBEq, w0, w1, w2, w3, w4, r0, r1, r2, r3, r4, r5, r6, r7, r8, r9, r10, r11, r12, r13, r14, r15, r16, r17, r18, r19, r20, r21, r22, r23, r24, r25, r26, r27, ints, l10, Kd.cells, Nat.add_assoc, Nat.left_eq_add, Nat.add_eq_left, Nat.add_left_cancel_iff, h]
    obtain ⟨mb, hmb⟩ : ∃ mb, mb = n2 := ⟨_, rfl⟩
    rw [← hmb]
    rintro ⟨i, b3, n3⟩ ⟨hi, hn3, hbn3, hb3⟩
    dsimp only at hi hn3 hbn3 hb3 ⊢
    obtain ⟨E4, hE4⟩ : ∃ E4, E2 ++ ((l10 k).take i).map toB = E4 := ⟨_, rfl⟩
    rw [hE4]
    have hEl4 : E4.length = 19 + 35 * j + i := by
      rw [← hE4, List.length_append, List.length_map, List.length_take]
      simp [l10]; omega
    have y0 : ¬ nx = b3 := by omega
    have y1 : ¬ nx = n := by omega
    have y2 : ¬ nx = mb := by omega
    have y3 : ¬ nx = n3 := by omega
    have y4 : ∀ i, ¬ nx = n3 + i := by intro i; omega
    have y5 : ¬ n3 = nx := by omega
    have y6 : ∀ i, ¬ n3 + i = nx := by intro i; omega
    have y7 : ¬ b3 = nx := by omega
    have y8 : ¬ b3 = n := by omega
    have y9 : ¬ b3 = mb := by omega
    have y10 : ¬ b3 = n3 := by omega
    have y11 : ∀ i, ¬ b3 = n3 + i := by intro i; omega
    have y12 : ¬ n3 = b3 := by omega
    have y13 : ∀ i, ¬ n3 + i = b3 := by intro i; omega
    have y14 : ¬ n = nx := by omega
    have y15 : ¬ n = b3 := by omega
    have y16 : ¬ n = mb := by omega
    have y17 : ¬ n = n3 := by omega
    have y18 : ∀ i, ¬ n = n3 + i := by intro i; omega
    have y19 : ¬ n3 = n := by omega
    have y20 : ∀ i, ¬ n3 + i = n := by intro i; omega
    have y21 : ¬ mb = nx := by omega
    have y22 : ¬ mb = b3 := by omega
    have y23 : ¬ mb = n := by omega
    have y24 : ¬ mb = n3 := by omega
    have y25 : ∀ i, ¬ mb = n3 + i := by intro i; omega
    have y26 : ¬ n3 = mb := by omega
    have y27 : ∀ i, ¬ n3 + i = mb := by intro i; omega
    refine JS_go (tbOk _) 99 fun x hx => ?_
    simp only [RN, ↓reduceIte, ↓get8, reduceCtorEq, Nat.reduceLT, Nat.reduceEqDiff, Nat.reduceAdd, Nat.reduceMul, Nat.reduceLeDiff, Nat.reduceSub, Int.reduceToNat, Int.reduceNeg, Nat.reduceBEq, TY] at hx
    subst hx
    refine ⟨_, _, rfl, by first | trivial | omega | (simp only [and_true, true_and]; omega), ?_⟩
    refine at_cond (fun hlt4 => ?_) (fun hge4 => ?_)
    · have hl9 : (l10 k).length = 10 := rfl
      have hlt5 : i < (l10 k).length := by have := of_decide_eq_true hlt4; omega
      have hg := ints_get hlt5
      have hll : (ints (l10 k)).length = 10 := rfl
      have hwu := toB_wrap (l10 k)[i]
      obtain ⟨E5, hE5⟩ : ∃ E5, E4 ++ [toB (l10 k)[i]] = E5 := ⟨_, rfl⟩
      have hEl5 : E4.length + 1 = E5.length := by rw [← hE5]; simp
      have v1 : ¬ E4.length + 1 ≤ E4.length := by omega
      have v2 : ¬ E5.length ≤ E4.length := by omega
      have v4 : bys E4 ++ [Value.int .u8 (toB (l10 k)[i]).toNat] = bys E5 := by rw [bys_snoc, hE5]
      have v5 := bys_len E4
      have v7 := td b3 (by omega)
      have hw3 : IntKind.i64.wrap ((i : Int) + 1) = ((i + 1 : Nat) : Int) := wrap_i64 (i + 1) (by omega)
      refine JS_go (tbOk _) 99 fun x hx => ?_
      simp only [RN, ↓reduceIte, ↓get8, reduceCtorEq, Nat.reduceLT, Nat.reduceEqDiff, Nat.reduceAdd, Nat.reduceMul, Nat.reduceLeDiff, Nat.reduceSub, Int.reduceToNat, Int.reduceNeg, Nat.reduceBEq, TY, hg, hll, hwu, v1, v2, v4, v5, v7, hEl5, hw3, y0, y1, y2, y3, y4, y5, y6, y7, y8, y9, y10, y11, y12, y13, y14, y15, y16, y17, y18, y19, y20, y21, y22, y23, y24, y25, y26, y27, Nat.add_assoc, Nat.left_eq_add, Nat.add_eq_left, Nat.add_left_cancel_iff] at hx
      subst hx
      refine ⟨_, _, rfl, by first | trivial | omega | (simp only [and_true, true_and]; omega), ?_⟩
      refine at_done (in_nextI (i + 1, n3 + 1, n3 + 2) ⟨by show i + 1 ≤ 10; omega, by show mb + 1 ≤ n3 + 2; omega, by show n3 + 1 < n3 + 2; omega, .inr (by show mb + 1 ≤ n3 + 1; omega)⟩ (by show 10 - (i + 1) < 10 - i; omega) ?_)
      have eJ : E2 ++ ((l10 k).take (i + 1)).map toB = E5 := by
        rw [List.take_succ_eq_append_getElem hlt5, List.map_append, ← List.append_assoc, hE4, ← hE5]
        simp
      dsimp only
      rw [eJ]
      refine ⟨rfl, leL_look (by simp only [RN, ↓reduceIte, ↓get8, reduceCtorEq, Nat.reduceLT, Nat.reduceEqDiff, Nat.reduceAdd, Nat.reduceMul, Nat.reduceLeDiff, Nat.reduceSub, Int.reduceToNat, Int.reduceNeg, Nat.reduceBEq]; first | done | trivial), ?_, Nat.le_refl _, rfl⟩
      refine leT (X := [_, _, _, _]) ?_ ?_
      · simp only [RN, ↓reduceIte, ↓get8, reduceCtorEq, Nat.reduceLT, Nat.reduceEqDiff, Nat.reduceAdd, Nat.reduceMul, Nat.reduceLeDiff, Nat.reduceSub, Int.reduceToNat, Int.reduceNeg, Nat.reduceBEq, y0, y1, y2, y3, y4, y5, y6, y7, y8, y9, y10, y11, y12, y13, y14, y15, y16, y17, y18, y19, y20, y21, y22, y23, y24, y25, y26, y27, Nat.add_assoc, Nat.left_eq_add, Nat.add_eq_left, Nat.add_left_cancel_iff]; first | done | trivial
      · intro id c h
        have u0 := t5 id c h
        have w0 : ¬ id = nx := by omega
        have w1 : ¬ id = b3 := by omega
        have w2 : ¬ id = n := by omega
        have w3 : ¬ id = mb := by omega
        have w4 : ¬ id = n3 := by omega
        have w5 : ¬ id = n3 + 1 := by omega
        simp only [RN, ↓reduceIte, ↓get8, reduceCtorEq, Nat.reduceLT, Nat.reduceEqDiff, Nat.reduceAdd, Nat.reduceMul, Nat.reduceLeDiff, Nat.reduceSub, Int.reduceToNat, Int.reduceNeg, Nat.reduceBEq, w0, w1, w2, w3, w4, w5, y0, y1, y2, y3, y4, y5, y6, y7, y8, y9, y10, y11, y12, y13, y14, y15, y16, y17, y18, y19, y20, y21, y22, y23, y24, y25, y26, y27, Nat.add_assoc, Nat.left_eq_add, Nat.add_eq_left, Nat.add_left_cancel_iff, h]
    have hi8 : i = 10 := by simp at hge4; omega
    subst hi8
    have e8 : (l10 k).take 10 = l10 k := rfl
    rw [e8] at hE4
    refine JS_go (tbOk _) 99 fun x hx => ?_
    simp only [RN, ↓reduceIte, ↓get8, reduceCtorEq, Nat.reduceLT, Nat.reduceEqDiff, Nat.reduceAdd, Nat.reduceMul, Nat.reduceLeDiff, Nat.reduceSub, Int.reduceToNat, Int.reduceNeg, Nat.reduceBEq, TY] at hx
    subst hx
    refine ⟨_, _, rfl, by first | trivial | omega | (simp only [and_true, true_and]; omega), ?_⟩
    refine at_exit (in_exitI (by simp only [RN, ↓reduceIte, ↓get8, reduceCtorEq, Nat.reduceLT, Nat.reduceEqDiff, Nat.reduceAdd, Nat.reduceMul, Nat.reduceLeDiff, Nat.reduceSub, Int.reduceToNat, Int.reduceNeg, Nat.reduceBEq]; rfl) ?_)
    obtain ⟨sv, hsv⟩ : ∃ sv : Nat, k.c2 = sv := ⟨k.c2.toNat, by omega⟩
    have hsv1 : sv ≤ 262144 := by omega
    refine JS_go (tbOk _) 99 fun x hx => ?_
    simp only [RN, ↓reduceIte, ↓get8, reduceCtorEq, Nat.reduceLT, Nat.reduceEqDiff, Nat.reduceAdd, Nat.reduceMul, Nat.reduceLeDiff, Nat.reduceSub, Int.reduceToNat, Int.reduceNeg, Nat.reduceBEq, TY, Kd.cells, hsv, y0, y1, y2, y3, y4, y5, y6, y7, y8, y9, y10, y11, y12, y13, y14, y15, y16, y17, y18, y19, y20, y21, y22, y23, y24, y25, y26, y27, Nat.add_assoc, Nat.left_eq_add, Nat.add_eq_left, Nat.add_left_cancel_iff] at hx
    subst hx
    refine ⟨_, _, rfl, by first | trivial | omega | (simp only [and_true, true_and]; omega), ?_⟩
    refine at_callK (float_c sv n3 hsv1) (by simp only [RN, ↓reduceIte, ↓get8, reduceCtorEq, Nat.reduceLT, Nat.reduceEqDiff, Nat.reduceAdd, Nat.reduceMul, Nat.reduceLeDiff, Nat.reduceSub, Int.reduceToNat, Int.reduceNeg, Nat.reduceBEq, y0, y1, y2, y3, y4, y5, y6, y7, y8, y9, y10, y11, y12, y13, y14, y15, y16, y17, y18, y19, y20, y21, y22, y23, y24, y25, y26, y27, Nat.add_assoc, Nat.left_eq_add, Nat.add_eq_left, Nat.add_left_cancel_iff]; first | done | trivial) (by simp only [RN, ↓reduceIte, ↓get8, reduceCtorEq, Nat.reduceLT, Nat.reduceEqDiff, Nat.reduceAdd, Nat.reduceMul, Nat.reduceLeDiff, Nat.reduceSub, Int.reduceToNat, Int.reduceNeg, Nat.reduceBEq, y0, y1, y2, y3, y4, y5, y6, y7, y8, y9, y10, y11, y12, y13, y14, y15, y16, y17, y18, y19, y20, y21, y22, y23, y24, y25, y26, y27, Nat.add_assoc, Nat.left_eq_add, Nat.add_eq_left, Nat.add_left_cancel_iff]; rfl) ?_
    refine JS_go (tbOk _) 99 fun x hx => ?_
    simp only [RN, ↓reduceIte, ↓get8, reduceCtorEq, Nat.reduceLT, Nat.reduceEqDiff, Nat.reduceAdd, Nat.reduceMul, Nat.reduceLeDiff, Nat.reduceSub, Int.reduceToNat, Int.reduceNeg, Nat.reduceBEq, TY] at hx
    subst hx
    refine ⟨_, _, rfl, by first | trivial | omega | (simp only [and_true, true_and]; omega), ?_⟩
    refine at_callG (put_c (toS sv) 8 n3 (toS_lt sv hsv1) (by omega)) (by simp only [RN, ↓reduceIte, ↓get8, reduceCtorEq, Nat.reduceLT, Nat.reduceEqDiff, Nat.reduceAdd, Nat.reduceMul, Nat.reduceLeDiff, Nat.reduceSub, Int.reduceToNat, Int.reduceNeg, Nat.reduceBEq]; first | done | trivial) ?_
    rintro o L' n4 ⟨p, rfl, rfl, hp1, hp2⟩
    refine ⟨_, by simp only [RN, ↓reduceIte, ↓get8, reduceCtorEq, Nat.reduceLT, Nat.reduceEqDiff, Nat.reduceAdd, Nat.reduceMul, Nat.reduceLeDiff, Nat.reduceSub, Int.reduceToNat, Int.reduceNeg, Nat.reduceBEq]; rfl, ?_⟩
    obtain ⟨E6, hE6⟩ : ∃ E6, E4 ++ outB (toS sv) 8 = E6 := ⟨_, rfl⟩
    have hEl6 : E4.length + 8 = E6.length := by rw [← hE6, List.length_append, outB_len]
    have z0 : ¬ nx = b3 := by omega
    have z1 : ¬ nx = n := by omega
    have z2 : ¬ nx = mb := by omega
    have z3 : ¬ nx = p := by omega
    have z4 : ¬ nx = n4 := by omega
    have z5 : ∀ i, ¬ nx = n4 + i := by intro i; omega
    have z6 : ¬ n4 = nx := by omega
    have z7 : ∀ i, ¬ n4 + i = nx := by intro i; omega
    have z8 : ¬ b3 = nx := by omega
    have z9 : ¬ b3 = n := by omega
    have z10 : ¬ b3 = mb := by omega
    have z11 : ¬ b3 = p := by omega
    have z12 : ¬ b3 = n4 := by omega
    have z13 : ∀ i, ¬ b3 = n4 + i := by intro i; omega
    have z14 : ¬ n4 = b3 := by omega
    have z15 : ∀ i, ¬ n4 + i = b3 := by intro i; omega
    have z16 : ¬ n = nx := by omega
    have z17 : ¬ n = b3 := by omega
    have z18 : ¬ n = mb := by omega
    have z19 : ¬ n = p := by omega
    have z20 : ¬ n = n4 := by omega
    have z21 : ∀ i, ¬ n = n4 + i := by intro i; omega
    have z22 : ¬ n4 = n := by omega
    have z23 : ∀ i, ¬ n4 + i = n := by intro i; omega
    have z24 : ¬ mb = nx := by omega
    have z25 : ¬ mb = b3 := by omega
    have z26 : ¬ mb = n := by omega
    have z27 : ¬ mb = p := by omega
    have z28 : ¬ mb = n4 := by omega
    have z29 : ∀ i, ¬ mb = n4 + i := by intro i; omega
    have z30 : ¬ n4 = mb := by omega
    have z31 : ∀ i, ¬ n4 + i = mb := by intro i; omega
    have z32 : ¬ p = nx := by omega
    have z33 : ¬ p = b3 := by omega
    have z34 : ¬ p = n := by omega
    have z35 : ¬ p = mb := by omega
    have z36 : ¬ p = n4 := by omega
    have z37 : ∀ i, ¬ p = n4 + i := by intro i; omega
    have z38 : ¬ n4 = p := by omega
    have z39 : ∀ i, ¬ n4 + i = p := by intro i; omega
    have v1 : ¬ E4.length + 8 ≤ E4.length := by omega
    have v2 : ¬ E6.length ≤ E4.length := by omega
    have v3 := bys_take (outB (toS sv) 8)
    rw [outB_len] at v3
    have v4 : bys E4 ++ bys (outB (toS sv) 8) = bys E6 := by rw [bys_app, hE6]
    have v5 := bys_len E4
    have v6 := bys_len (outB (toS sv) 8)
    rw [outB_len] at v6
    have v7 := td b3 (by omega)
    have hw3 : IntKind.i64.wrap ((j : Int) + 1) = ((j + 1 : Nat) : Int) := wrap_i64 (j + 1) (by omega)
    refine JS_go (tbOk _) 99 fun x hx => ?_
    simp only [RN, ↓reduceIte, ↓get8, reduceCtorEq, Nat.reduceLT, Nat.reduceEqDiff, Nat.reduceAdd, Nat.reduceMul, Nat.reduceLeDiff, Nat.reduceSub, Int.reduceToNat, Int.reduceNeg, Nat.reduceBEq, TY, v1, v2, v3, v4, v5, v6, v7, hEl6, hw3, z0, z1, z2, z3, z4, z5, z6, z7, z8, z9, z10, z11, z12, z13, z14, z15, z16, z17, z18, z19, z20, z21, z22, z23, z24, z25, z26, z27, z28, z29, z30, z31, z32, z33, z34, z35, z36, z37, z38, z39, Nat.add_assoc, Nat.left_eq_add, Nat.add_eq_left, Nat.add_left_cancel_iff] at hx
    subst hx
    refine ⟨_, _, rfl, by first | trivial | omega | (simp only [and_true, true_and]; omega), ?_⟩
    refine at_done (in_nextI (j + 1, n4, n4 + 1, true) ⟨hlt3, by show nx < n4; omega, by show n4 < n4 + 1; omega, nofun⟩ (by show ks.length - (j + 1) < ks.length - j; omega) ?_)
    have eJ : headB ks ws ++ (ks.take (j + 1)).flatMap kdBytes = E6 := by
      rw [List.take_succ_eq_append_getElem hlt3, hkj, List.flatMap_append, ← List.append_assoc, hE0, ← hE6, ← hE4, ← hE2, ← hE1, ← hsv]
      simp [kdBytes_eq]
    dsimp only
    rw [eJ]
    refine ⟨rfl, leL_look (by simp only [RN, ↓reduceIte, ↓get8, reduceCtorEq, Nat.reduceLT, Nat.reduceEqDiff, Nat.reduceAdd, Nat.reduceMul, Nat.reduceLeDiff, Nat.reduceSub, Int.reduceToNat, Int.reduceNeg, Nat.reduceBEq]; first | done | trivial), ?_, Nat.le_refl _, rfl⟩
    refine leT (X := [_, _]) ?_ ?_
    · simp only [RN, ↓reduceIte, ↓get8, reduceCtorEq, Nat.reduceLT, Nat.reduceEqDiff, Nat.reduceAdd, Nat.reduceMul, Nat.reduceLeDiff, Nat.reduceSub, Int.reduceToNat, Int.reduceNeg, Nat.reduceBEq, z0, z1, z2, z3, z4, z5, z6, z7, z8, z9, z10, z11, z12, z13, z14, z15, z16, z17, z18, z19, z20, z21, z22, z23, z24, z25, z26, z27, z28, z29, z30, z31, z32, z33, z34, z35, z36, z37, z38, z39, Nat.add_assoc, Nat.left_eq_add, Nat.add_eq_left, Nat.add_left_cancel_iff]; first | done | trivial
    · intro id c h
      have u0 := t5 id c h
      have w0 : ¬ id = nx := by omega
      have w1 : ¬ id = b3 := by omega
      have w2 : ¬ id = n := by omega
      have w3 : ¬ id = mb := by omega
      have w4 : ¬ id = p := by omega
      have w5 : ¬ id = n4 := by omega
      simp only [RN, ↓reduceIte, ↓get8, reduceCtorEq, Nat.reduceLT, Nat.reduceEqDiff, Nat.reduceAdd, Nat.reduceMul, Nat.reduceLeDiff, Nat.reduceSub, Int.reduceToNat, Int.reduceNeg, Nat.reduceBEq, w0, w1, w2, w3, w4, w5, z0, z1, z2, z3, z4, z5, z6, z7, z8, z9, z10, z11, z12, z13, z14, z15, z16, z17, z18, z19, z20, z21, z22, z23, z24, z25, z26, z27, z28, z29, z30, z31, z32, z33, z34, z35, z36, z37, z38, z39, Nat.add_assoc, Nat.left_eq_add, Nat.add_eq_left, Nat.add_left_cancel_iff, h]
  have hj2 : j = ks.length := by simp at hge; omega
  subst hj2
  obtain rfl : lo = true := by
    cases lo with
    | true => rfl
    | false => have := hlo rfl; omega
  rw [List.take_length] at hE0
  refine JS_go (tbOk _) 99 fun x hx => ?_
  simp only [RN, ↓reduceIte, ↓get8, reduceCtorEq, Nat.reduceLT, Nat.reduceEqDiff, Nat.reduceAdd, Nat.reduceMul, Nat.reduceLeDiff, Nat.reduceSub, Int.reduceToNat, Int.reduceNeg, Nat.reduceBEq, TY] at hx
  subst hx
  refine ⟨_, _, rfl, by first | trivial | omega | (simp only [and_true, true_and]; omega), ?_⟩
  refine at_exit (in_exitI (by simp only [RN, ↓reduceIte, ↓get8, reduceCtorEq, Nat.reduceLT, Nat.reduceEqDiff, Nat.reduceAdd, Nat.reduceMul, Nat.reduceLeDiff, Nat.reduceSub, Int.reduceToNat, Int.reduceNeg, Nat.reduceBEq]; rfl) ?_)
  refine JS_go (tbOk _) 99 fun x hx => ?_
  simp only [RN, ↓reduceIte, ↓get8, reduceCtorEq, Nat.reduceLT, Nat.reduceEqDiff, Nat.reduceAdd, Nat.reduceMul, Nat.reduceLeDiff, Nat.reduceSub, Int.reduceToNat, Int.reduceNeg, Nat.reduceBEq, TY] at hx
  subst hx
  refine ⟨_, _, rfl, by first | trivial | omega | (simp only [and_true, true_and]; omega), ?_⟩
  refine at_loop ?_
  obtain ⟨K0, hK0⟩ : ∃ K0, E0 = K0 := ⟨_, rfl⟩
  rw [hK0] at hE0 hEl ⊢
  clear hK0 E0
  refine JS_loopI (S := fun x : Nat × Nat × Nat => { n := 147, fr := [(10, .int .i64 x.1), (3, .slice (some ⟨x.2.1, 0, none⟩) ((K0 ++ (ws.take x.1).flatMap wpBytes)).length ((K0 ++ (ws.take x.1).flatMap wpBytes)).length), (1, .pointer (some ⟨nx, 0, none⟩))], F := [(x.2.1, ⟨bys (K0 ++ (ws.take x.1).flatMap wpBytes), 5, 1, false, true⟩), (nx, ⟨[slv ok ks.length kc, slv ow ws.length wc], 26, 2, false, false⟩)] ++ T0, nx := x.2.2, ds := [] })
    (fun p => p.1 ≤ ws.length ∧ nx < p.2.1 ∧ p.2.1 < p.2.2) (fun x => ws.length - x.1) (0, b, n) ⟨Nat.zero_le _, hnb, hbn⟩ ?_ ?_
  · have e0 : K0 ++ (ws.take 0).flatMap wpBytes = K0 := by simp
    dsimp only
    rw [e0]
    exact ⟨rfl, leL_look (by simp only [RN, ↓reduceIte, ↓get8, reduceCtorEq, Nat.reduceLT, Nat.reduceEqDiff, Nat.reduceAdd, Nat.reduceMul, Nat.reduceLeDiff, Nat.reduceSub, Int.reduceToNat, Int.reduceNeg, Nat.reduceBEq]; first | done | trivial), fun id c h => h, Nat.le_refl _, rfl⟩
  clear hnb hbn hlt hlo f0 f1 f2 f3 f4 f5 f6 f7 f8 f9
  clear hge hj
  rintro ⟨j, b, n⟩ ⟨hj, hnb, hbn⟩
  dsimp only at hj hnb hbn ⊢
  obtain ⟨E0, hE9⟩ : ∃ E0, K0 ++ (ws.take j).flatMap wpBytes = E0 := ⟨_, rfl⟩
  rw [hE9]
  have hEl0 : E0.length = 2 + 35 * ks.length + 14 * j := by
    rw [← hE9, List.length_append, flat_len wpBytes 14 wpBytes_len, List.length_take]
    omega
  have f0 : ¬ nx = b := by omega
  have f1 : ¬ nx = n := by omega
  have f2 : ∀ i, ¬ nx = n + i := by intro i; omega
  have f3 : ¬ n = nx := by omega
  have f4 : ∀ i, ¬ n + i = nx := by intro i; omega
  have f5 : ¬ b = nx := by omega
  have f6 : ¬ b = n := by omega
  have f7 : ∀ i, ¬ b = n + i := by intro i; omega
  have f8 : ¬ n = b := by omega
  have f9 : ∀ i, ¬ n + i = b := by intro i; omega
  refine JS_go (tbOk _) 99 fun x hx => ?_
  simp only [RN, ↓reduceIte, ↓get8, reduceCtorEq, Nat.reduceLT, Nat.reduceEqDiff, Nat.reduceAdd, Nat.reduceMul, Nat.reduceLeDiff, Nat.reduceSub, Int.reduceToNat, Int.reduceNeg, Nat.reduceBEq, TY, ↓l2, f0, f1, f2, f3, f4, f5, f6, f7, f8, f9, Nat.add_assoc, Nat.left_eq_add, Nat.add_eq_left, Nat.add_left_cancel_iff] at hx
  subst hx
  refine ⟨_, _, rfl, by first | trivial | omega | (simp only [and_true, true_and]; omega), ?_⟩
  refine at_cond (fun hlt2 => ?_) (fun hge => ?_)
  · have hlt3 : j < ws.length := by simpa using hlt2
    obtain ⟨q, hq⟩ : ∃ q, ow = some q := by
      cases ow with
      | none => rw [hw rfl] at hlt3; exact absurd hlt3 (by simp)
      | some q => exact ⟨q, rfl⟩
    have hqn := hwn q hq
    have lq := t3 q hq
    have hs : slv ow ws.length wc = .slice (some ⟨q, 0, none⟩) ws.length wc := by rw [hq]; rfl
    have kg := wcells_get (ws := ws ++ wx) (j := j) (by simp; omega)
    rw [List.getElem_append_left hlt3] at kg
    have kl := wcells_len (ws ++ wx)
    rw [List.length_append] at kl
    obtain ⟨k, hkj⟩ : ∃ k, ws[j] = k := ⟨_, rfl⟩
    rw [hkj] at kg
    have hkk : weaponB k = true := by rw [← hkj]; exact hwB _ (List.getElem_mem hlt3)
    obtain ⟨hv0, hv1⟩ := weaponB_speed hkk
    have hdm := damage_ok hkk
    obtain ⟨dn, hdn⟩ : ∃ dn : Nat, k.c1 = dn := ⟨k.c1.toNat, by omega⟩
    obtain ⟨sv, hsv⟩ : ∃ sv : Nat, k.c2 = sv := ⟨k.c2.toNat, by omega⟩
    have hsv1 : sv ≤ 262144 := by omega
    have g0 : ¬ nx = b := by omega
    have g1 : ¬ nx = q := by omega
    have g2 : ¬ nx = n := by omega
    have g3 : ∀ i, ¬ nx = n + i := by intro i; omega
    have g4 : ¬ n = nx := by omega
    have g5 : ∀ i, ¬ n + i = nx := by intro i; omega
    have g6 : ¬ b = nx := by omega
    have g7 : ¬ b = q := by omega
    have g8 : ¬ b = n := by omega
    have g9 : ∀ i, ¬ b = n + i := by intro i; omega
    have g10 : ¬ n = b := by omega
    have g11 : ∀ i, ¬ n + i = b := by intro i; omega
    have g12 : ¬ q = nx := by omega
    have g13 : ¬ q = b := by omega
    have g14 : ¬ q = n := by omega
    have g15 : ∀ i, ¬ q = n + i := by intro i; omega
    have g16 : ¬ n = q := by omega
    have g17 : ∀ i, ¬ n + i = q := by intro i; omega
    refine JS_go (tbOk _) 99 fun x hx => ?_
    simp only [RN, ↓reduceIte, ↓get8, reduceCtorEq, Nat.reduceLT, Nat.reduceEqDiff, Nat.reduceAdd, Nat.reduceMul, Nat.reduceLeDiff, Nat.reduceSub, Int.reduceToNat, Int.reduceNeg, Nat.reduceBEq, TY, hs, lq, kg, kl, Wp.cells, g0, g1, g2, g3, g4, g5, g6, g7, g8, g9, g10, g11, g12, g13, g14, g15, g16, g17, Nat.add_assoc, Nat.left_eq_add, Nat.add_eq_left, Nat.add_left_cancel_iff] at hx
    subst hx
    refine ⟨_, _, rfl, by first | trivial | omega | (simp only [and_true, true_and]; omega), ?_⟩
    refine at_condM ({ n := 147, fr := [(12, .int .i64 (if k.under then 1 else 0)), (11, .pointer (some ⟨n, 0, none⟩)), (10, .int .i64 j), (3, .slice (some ⟨b, 0, none⟩) (E0).length (E0).length), (1, .pointer (some ⟨nx, 0, none⟩))], F := [(b, ⟨bys E0, 5, 1, false, true⟩), (n, ⟨k.cells, 51, 6, false, false⟩), (nx, ⟨[slv ok ks.length kc, slv ow ws.length wc], 26, 2, false, false⟩)] ++ T0, nx := n + 1, ds := [] }) (fun h => ?_) (fun h => ?_) ?_
    · skip
      refine JS_go (tbOk _) 99 fun x hx => ?_
      simp only [RN, ↓reduceIte, ↓get8, reduceCtorEq, Nat.reduceLT, Nat.reduceEqDiff, Nat.reduceAdd, Nat.reduceMul, Nat.reduceLeDiff, Nat.reduceSub, Int.reduceToNat, Int.reduceNeg, Nat.reduceBEq, TY] at hx
      subst hx
      refine ⟨_, _, rfl, by first | trivial | omega | (simp only [and_true, true_and]; omega), ?_⟩
      refine at_done (in_cut ⟨rfl, leL_look (by rw [if_pos h]; simp only [RN, ↓reduceIte, ↓get8, reduceCtorEq, Nat.reduceLT, Nat.reduceEqDiff, Nat.reduceAdd, Nat.reduceMul, Nat.reduceLeDiff, Nat.reduceSub, Int.reduceToNat, Int.reduceNeg, Nat.reduceBEq]; first | done | trivial), ?_, Nat.le_refl _, rfl⟩)
      refine leT (X := [_, _, _]) ?_ ?_
      · simp only [RN, ↓reduceIte, ↓get8, reduceCtorEq, Nat.reduceLT, Nat.reduceEqDiff, Nat.reduceAdd, Nat.reduceMul, Nat.reduceLeDiff, Nat.reduceSub, Int.reduceToNat, Int.reduceNeg, Nat.reduceBEq, g0, g1, g2, g3, g4, g5, g6, g7, g8, g9, g10, g11, g12, g13, g14, g15, g16, g17, Wp.cells, hs, Nat.add_assoc, Nat.left_eq_add, Nat.add_eq_left, Nat.add_left_cancel_iff]; first | done | trivial
      · intro id c h
        have u0 := t5 id c h
        have w0 : ¬ id = nx := by omega
        have w1 : ¬ id = b := by omega
        have w2 : ¬ id = n := by omega
        simp only [RN, ↓reduceIte, ↓get8, reduceCtorEq, Nat.reduceLT, Nat.reduceEqDiff, Nat.reduceAdd, Nat.reduceMul, Nat.reduceLeDiff, Nat.reduceSub, Int.reduceToNat, Int.reduceNeg, Nat.reduceBEq, w0, w1, w2, g0, g1, g2, g3, g4, g5, g6, g7, g8, g9, g10, g11, g12, g13, g14, g15, g16, g17, Wp.cells, hs, Nat.add_assoc, Nat.left_eq_add, Nat.add_eq_left, Nat.add_left_cancel_iff, h]
    · skip
      refine JS_go (tbOk _) 99 fun x hx => ?_
      simp only [RN, ↓reduceIte, ↓get8, reduceCtorEq, Nat.reduceLT, Nat.reduceEqDiff, Nat.reduceAdd, Nat.reduceMul, Nat.reduceLeDiff, Nat.reduceSub, Int.reduceToNat, Int.reduceNeg, Nat.reduceBEq, TY] at hx
      subst hx
      refine ⟨_, _, rfl, by first | trivial | omega | (simp only [and_true, true_and]; omega), ?_⟩
      refine at_done (in_cut ⟨rfl, leL_look (by rw [h]; simp only [RN, ↓reduceIte, ↓get8, reduceCtorEq, Nat.reduceLT, Nat.reduceEqDiff, Nat.reduceAdd, Nat.reduceMul, Nat.reduceLeDiff, Nat.reduceSub, Int.reduceToNat, Int.reduceNeg, Nat.reduceBEq]; first | done | trivial), ?_, Nat.le_refl _, rfl⟩)
      refine leT (X := [_, _, _]) ?_ ?_
      · simp only [RN, ↓reduceIte, ↓get8, reduceCtorEq, Nat.reduceLT, Nat.reduceEqDiff, Nat.reduceAdd, Nat.reduceMul, Nat.reduceLeDiff, Nat.reduceSub, Int.reduceToNat, Int.reduceNeg, Nat.reduceBEq, g0, g1, g2, g3, g4, g5, g6, g7, g8, g9, g10, g11, g12, g13, g14, g15, g16, g17, Wp.cells, hs, Nat.add_assoc, Nat.left_eq_add, Nat.add_eq_left, Nat.add_left_cancel_iff]; first | done | trivial
      · intro id c h
        have u0 := t5 id c h
        have w0 : ¬ id = nx := by omega
        have w1 : ¬ id = b := by omega
        have w2 : ¬ id = n := by omega
        simp only [RN, ↓reduceIte, ↓get8, reduceCtorEq, Nat.reduceLT, Nat.reduceEqDiff, Nat.reduceAdd, Nat.reduceMul, Nat.reduceLeDiff, Nat.reduceSub, Int.reduceToNat, Int.reduceNeg, Nat.reduceBEq, w0, w1, w2, g0, g1, g2, g3, g4, g5, g6, g7, g8, g9, g10, g11, g12, g13, g14, g15, g16, g17, Wp.cells, hs, Nat.add_assoc, Nat.left_eq_add, Nat.add_eq_left, Nat.add_left_cancel_iff, h]
    clear lq kg kl hs
    clear g0 g1 g2 g3 g4 g5 g6 g7 g8 g9 g10 g11 g12 g13 g14 g15 g16 g17 f0 f1 f2 f3 f4 f5 f6 f7 f8 f9
    have g0 : ¬ nx = b := by omega
    have g1 : ¬ nx = n := by omega
    have g2 : ∀ i, ¬ nx = n + i := by intro i; omega
    have g3 : ¬ n = nx := by omega
    have g4 : ∀ i, ¬ n + i = nx := by intro i; omega
    have g5 : ¬ b = nx := by omega
    have g6 : ¬ b = n := by omega
    have g7 : ∀ i, ¬ b = n + i := by intro i; omega
    have g8 : ¬ n = b := by omega
    have g9 : ∀ i, ¬ n + i = b := by intro i; omega
    obtain ⟨uv, huv⟩ : ∃ uv : Int, (if k.under then 1 else 0) = uv := ⟨_, rfl⟩
    rw [huv]
    have hwu := u64w dn (by omega)
    refine JS_go (tbOk _) 99 fun x hx => ?_
    simp only [RN, ↓reduceIte, ↓get8, reduceCtorEq, Nat.reduceLT, Nat.reduceEqDiff, Nat.reduceAdd, Nat.reduceMul, Nat.reduceLeDiff, Nat.reduceSub, Int.reduceToNat, Int.reduceNeg, Nat.reduceBEq, TY, Wp.cells, hdn, hwu, g0, g1, g2, g3, g4, g5, g6, g7, g8, g9, Nat.add_assoc, Nat.left_eq_add, Nat.add_eq_left, Nat.add_left_cancel_iff] at hx
    subst hx
    refine ⟨_, _, rfl, by first | trivial | omega | (simp only [and_true, true_and]; omega), ?_⟩
    refine at_callG (put_c dn 2 (n + 1) (by omega) (by omega)) (by simp only [RN, ↓reduceIte, ↓get8, reduceCtorEq, Nat.reduceLT, Nat.reduceEqDiff, Nat.reduceAdd, Nat.reduceMul, Nat.reduceLeDiff, Nat.reduceSub, Int.reduceToNat, Int.reduceNeg, Nat.reduceBEq]; first | done | trivial) ?_
    rintro o L' n3 ⟨p, rfl, rfl, hp1, hp2⟩
    refine ⟨_, by simp only [RN, ↓reduceIte, ↓get8, reduceCtorEq, Nat.reduceLT, Nat.reduceEqDiff, Nat.reduceAdd, Nat.reduceMul, Nat.reduceLeDiff, Nat.reduceSub, Int.reduceToNat, Int.reduceNeg, Nat.reduceBEq]; rfl, ?_⟩
    obtain ⟨E1, hE1⟩ : ∃ E1, E0 ++ outB dn 2 = E1 := ⟨_, rfl⟩
    have hEl1 : E0.length + 2 = E1.length := by rw [← hE1, List.length_append, outB_len]
    obtain ⟨E2, hE2⟩ : ∃ E2, E1 ++ [toB k.c0, toB k.c3, toB k.c4, toB uv] = E2 := ⟨_, rfl⟩
    have hEl2 : E1.length + 4 = E2.length := by rw [← hE2]; simp
    have s0 : ¬ nx = b := by omega
    have s1 : ¬ nx = n := by omega
    have s2 : ¬ nx = p := by omega
    have s3 : ¬ nx = n3 := by omega
    have s4 : ∀ i, ¬ nx = n3 + i := by intro i; omega
    have s5 : ¬ n3 = nx := by omega
    have s6 : ∀ i, ¬ n3 + i = nx := by intro i; omega
    have s7 : ¬ b = nx := by omega
    have s8 : ¬ b = n := by omega
    have s9 : ¬ b = p := by omega
    have s10 : ¬ b = n3 := by omega
    have s11 : ∀ i, ¬ b = n3 + i := by intro i; omega
    have s12 : ¬ n3 = b := by omega
    have s13 : ∀ i, ¬ n3 + i = b := by intro i; omega
    have s14 : ¬ n = nx := by omega
    have s15 : ¬ n = b := by omega
    have s16 : ¬ n = p := by omega
    have s17 : ¬ n = n3 := by omega
    have s18 : ∀ i, ¬ n = n3 + i := by intro i; omega
    have s19 : ¬ n3 = n := by omega
    have s20 : ∀ i, ¬ n3 + i = n := by intro i; omega
    have s21 : ¬ p = nx := by omega
    have s22 : ¬ p = b := by omega
    have s23 : ¬ p = n := by omega
    have s24 : ¬ p = n3 := by omega
    have s25 : ∀ i, ¬ p = n3 + i := by intro i; omega
    have s26 : ¬ n3 = p := by omega
    have s27 : ∀ i, ¬ n3 + i = p := by intro i; omega
    have v1 : ¬ E0.length + 2 ≤ E0.length := by omega
    have v2 : ¬ E1.length ≤ E0.length := by omega
    have v3 := bys_take (outB dn 2)
    rw [outB_len] at v3
    have v4 : bys E0 ++ bys (outB dn 2) = bys E1 := by rw [bys_app, hE1]
    have v5 := bys_len E0
    have v6 := bys_len (outB dn 2)
    rw [outB_len] at v6
    have v7 := td b (by omega)
    have v8 := td n3 (by omega)
    have x1 := toB_wrap k.c0
    have x2 := toB_wrap k.c3
    have x3 := toB_wrap k.c4
    have x4 := toB_wrap uv
    have x5 : ¬ E1.length + 4 ≤ E1.length := by omega
    have x6 : ¬ E2.length ≤ E1.length := by omega
    have x7 : bys E1 ++ [Value.int .u8 (toB k.c0).toNat, Value.int .u8 (toB k.c3).toNat, Value.int .u8 (toB k.c4).toNat, Value.int .u8 (toB uv).toNat] = bys E2 := by rw [← hE2, ← bys_app]; rfl
    have x8 := bys_len E1
    refine JS_go (tbOk _) 99 fun x hx => ?_
    simp only [RN, ↓reduceIte, ↓get8, reduceCtorEq, Nat.reduceLT, Nat.reduceEqDiff, Nat.reduceAdd, Nat.reduceMul, Nat.reduceLeDiff, Nat.reduceSub, Int.reduceToNat, Int.reduceNeg, Nat.reduceBEq, TY, Wp.cells, hsv, v1, v2, v3, v4, v5, v6, v7, v8, hEl1, hEl2, x1, x2, x3, x4, x5, x6, x7, x8, s0, s1, s2, s3, s4, s5, s6, s7, s8, s9, s10, s11, s12, s13, s14, s15, s16, s17, s18, s19, s20, s21, s22, s23, s24, s25, s26, s27, Nat.add_assoc, Nat.left_eq_add, Nat.add_eq_left, Nat.add_left_cancel_iff] at hx
    subst hx
    refine ⟨_, _, rfl, by first | trivial | omega | (simp only [and_true, true_and]; omega), ?_⟩
    refine at_callK (float_c sv (n3 + 3) hsv1) (by simp only [RN, ↓reduceIte, ↓get8, reduceCtorEq, Nat.reduceLT, Nat.reduceEqDiff, Nat.reduceAdd, Nat.reduceMul, Nat.reduceLeDiff, Nat.reduceSub, Int.reduceToNat, Int.reduceNeg, Nat.reduceBEq, s0, s1, s2, s3, s4, s5, s6, s7, s8, s9, s10, s11, s12, s13, s14, s15, s16, s17, s18, s19, s20, s21, s22, s23, s24, s25, s26, s27, Nat.add_assoc, Nat.left_eq_add, Nat.add_eq_left, Nat.add_left_cancel_iff]; first | done | trivial) (by simp only [RN, ↓reduceIte, ↓get8, reduceCtorEq, Nat.reduceLT, Nat.reduceEqDiff, Nat.reduceAdd, Nat.reduceMul, Nat.reduceLeDiff, Nat.reduceSub, Int.reduceToNat, Int.reduceNeg, Nat.reduceBEq, s0, s1, s2, s3, s4, s5, s6, s7, s8, s9, s10, s11, s12, s13, s14, s15, s16, s17, s18, s19, s20, s21, s22, s23, s24, s25, s26, s27, Nat.add_assoc, Nat.left_eq_add, Nat.add_eq_left, Nat.add_left_cancel_iff]; rfl) ?_
    refine JS_go (tbOk _) 99 fun x hx => ?_
    simp only [RN, ↓reduceIte, ↓get8, reduceCtorEq, Nat.reduceLT, Nat.reduceEqDiff, Nat.reduceAdd, Nat.reduceMul, Nat.reduceLeDiff, Nat.reduceSub, Int.reduceToNat, Int.reduceNeg, Nat.reduceBEq, TY] at hx
    subst hx
    refine ⟨_, _, rfl, by first | trivial | omega | (simp only [and_true, true_and]; omega), ?_⟩
    refine at_callG (put_c (toS sv) 8 (n3 + 3) (toS_lt sv hsv1) (by omega)) (by simp only [RN, ↓reduceIte, ↓get8, reduceCtorEq, Nat.reduceLT, Nat.reduceEqDiff, Nat.reduceAdd, Nat.reduceMul, Nat.reduceLeDiff, Nat.reduceSub, Int.reduceToNat, Int.reduceNeg, Nat.reduceBEq]; first | done | trivial) ?_
    rintro o L' n4 ⟨p4, rfl, rfl, hp3, hp4⟩
    refine ⟨_, by simp only [RN, ↓reduceIte, ↓get8, reduceCtorEq, Nat.reduceLT, Nat.reduceEqDiff, Nat.reduceAdd, Nat.reduceMul, Nat.reduceLeDiff, Nat.reduceSub, Int.reduceToNat, Int.reduceNeg, Nat.reduceBEq]; rfl, ?_⟩
    obtain ⟨E6, hE6⟩ : ∃ E6, E2 ++ outB (toS sv) 8 = E6 := ⟨_, rfl⟩
    have hEl6 : E2.length + 8 = E6.length := by rw [← hE6, List.length_append, outB_len]
    obtain ⟨bb, hbb⟩ : ∃ bb, bb = n3 + 2 := ⟨_, rfl⟩
    obtain ⟨cc, hcc⟩ : ∃ cc, cc = n3 + 1 := ⟨_, rfl⟩
    rw [← hbb, ← hcc]
    have z0 : ¬ nx = b := by omega
    have z1 : ¬ nx = n := by omega
    have z2 : ¬ nx = p := by omega
    have z3 : ¬ nx = n3 := by omega
    have z4 : ¬ nx = cc := by omega
    have z5 : ¬ nx = bb := by omega
    have z6 : ¬ nx = p4 := by omega
    have z7 : ¬ nx = n4 := by omega
    have z8 : ∀ i, ¬ nx = n4 + i := by intro i; omega
    have z9 : ¬ n4 = nx := by omega
    have z10 : ∀ i, ¬ n4 + i = nx := by intro i; omega
    have z11 : ¬ b = nx := by omega
    have z12 : ¬ b = n := by omega
    have z13 : ¬ b = p := by omega
    have z14 : ¬ b = n3 := by omega
    have z15 : ¬ b = cc := by omega
    have z16 : ¬ b = bb := by omega
    have z17 : ¬ b = p4 := by omega
    have z18 : ¬ b = n4 := by omega
    have z19 : ∀ i, ¬ b = n4 + i := by intro i; omega
    have z20 : ¬ n4 = b := by omega
    have z21 : ∀ i, ¬ n4 + i = b := by intro i; omega
    have z22 : ¬ n = nx := by omega
    have z23 : ¬ n = b := by omega
    have z24 : ¬ n = p := by omega
    have z25 : ¬ n = n3 := by omega
    have z26 : ¬ n = cc := by omega
    have z27 : ¬ n = bb := by omega
    have z28 : ¬ n = p4 := by omega
    have z29 : ¬ n = n4 := by omega
    have z30 : ∀ i, ¬ n = n4 + i := by intro i; omega
    have z31 : ¬ n4 = n := by omega
    have z32 : ∀ i, ¬ n4 + i = n := by intro i; omega
    have z33 : ¬ p = nx := by omega
    have z34 : ¬ p = b := by omega
    have z35 : ¬ p = n := by omega
    have z36 : ¬ p = n3 := by omega
    have z37 : ¬ p = cc := by omega
    have z38 : ¬ p = bb := by omega
    have z39 : ¬ p = p4 := by omega
    have z40 : ¬ p = n4 := by omega
    have z41 : ∀ i, ¬ p = n4 + i := by intro i; omega
    have z42 : ¬ n4 = p := by omega
    have z43 : ∀ i, ¬ n4 + i = p := by intro i; omega
    have z44 : ¬ n3 = nx := by omega
    have z45 : ¬ n3 = b := by omega
    have z46 : ¬ n3 = n := by omega
    have z47 : ¬ n3 = p := by omega
    have z48 : ¬ n3 = cc := by omega
    have z49 : ¬ n3 = bb := by omega
    have z50 : ¬ n3 = p4 := by omega
    have z51 : ¬ n3 = n4 := by omega
    have z52 : ∀ i, ¬ n3 = n4 + i := by intro i; omega
    have z53 : ¬ n4 = n3 := by omega
    have z54 : ∀ i, ¬ n4 + i = n3 := by intro i; omega
    have z55 : ¬ cc = nx := by omega
    have z56 : ¬ cc = b := by omega
    have z57 : ¬ cc = n := by omega
    have z58 : ¬ cc = p := by omega
    have z59 : ¬ cc = n3 := by omega
    have z60 : ¬ cc = bb := by omega
    have z61 : ¬ cc = p4 := by omega
    have z62 : ¬ cc = n4 := by omega
    have z63 : ∀ i, ¬ cc = n4 + i := by intro i; omega
    have z64 : ¬ n4 = cc := by omega
    have z65 : ∀ i, ¬ n4 + i = cc := by intro i; omega
    have z66 : ¬ bb = nx := by omega
    have z67 : ¬ bb = b := by omega
    have z68 : ¬ bb = n := by omega
    have z69 : ¬ bb = p := by omega
    have z70 : ¬ bb = n3 := by omega
    have z71 : ¬ bb = cc := by omega
    have z72 : ¬ bb = p4 := by omega
    have z73 : ¬ bb = n4 := by omega
    have z74 : ∀ i, ¬ bb = n4 + i := by intro i; omega
    have z75 : ¬ n4 = bb := by omega
    have z76 : ∀ i, ¬ n4 + i = bb := by intro i; omega
    have z77 : ¬ p4 = nx := by omega
    have z78 : ¬ p4 = b := by omega
    have z79 : ¬ p4 = n := by omega
    have z80 : ¬ p4 = p := by omega
    have z81 : ¬ p4 = n3 := by omega
    have z82 : ¬ p4 = cc := by omega
    have z83 : ¬ p4 = bb := by omega
    have z84 : ¬ p4 = n4 := by omega
    have z85 : ∀ i, ¬ p4 = n4 + i := by intro i; omega
    have z86 : ¬ n4 = p4 := by omega
    have z87 : ∀ i, ¬ n4 + i = p4 := by intro i; omega
    have y1 : ¬ E2.length + 8 ≤ E2.length := by omega
    have y2 : ¬ E6.length ≤ E2.length := by omega
    have y3 := bys_take (outB (toS sv) 8)
    rw [outB_len] at y3
    have y4 : bys E2 ++ bys (outB (toS sv) 8) = bys E6 := by rw [bys_app, hE6]
    have y5 := bys_len E2
    have y6 := bys_len (outB (toS sv) 8)
    rw [outB_len] at y6
    have y7 := td bb (by omega)
    have hw3 : IntKind.i64.wrap ((j : Int) + 1) = ((j + 1 : Nat) : Int) := wrap_i64 (j + 1) (by omega)
    refine JS_go (tbOk _) 99 fun x hx => ?_
    simp only [RN, ↓reduceIte, ↓get8, reduceCtorEq, Nat.reduceLT, Nat.reduceEqDiff, Nat.reduceAdd, Nat.reduceMul, Nat.reduceLeDiff, Nat.reduceSub, Int.reduceToNat, Int.reduceNeg, Nat.reduceBEq, TY, y1, y2, y3, y4, y5, y6, y7, hEl6, hw3, z0, z1, z2, z3, z4, z5, z6, z7, z8, z9, z10, z11, z12, z13, z14, z15, z16, z17, z18, z19, z20, z21, z22, z23, z24, z25, z26, z27, z28, z29, z30, z31, z32, z33, z34, z35, z36, z37, z38, z39, z40, z41, z42, z43, z44, z45, z46, z47, z48, z49, z50, z51, z52, z53, z54, z55, z56, z57, z58, z59, z60, z61, z62, z63, z64, z65, z66, z67, z68, z69, z70, z71, z72, z73, z74, z75, z76, z77, z78, z79, z80, z81, z82, z83, z84, z85, z86, z87, Nat.add_assoc, Nat.left_eq_add, Nat.add_eq_left, Nat.add_left_cancel_iff] at hx
    subst hx
    refine ⟨_, _, rfl, by first | trivial | omega | (simp only [and_true, true_and]; omega), ?_⟩
    refine at_done (in_nextI (j + 1, n4, n4 + 1) ⟨hlt3, by show nx < n4; omega, by show n4 < n4 + 1; omega⟩ (by show ws.length - (j + 1) < ws.length - j; omega) ?_)
    have eJ : K0 ++ (ws.take (j + 1)).flatMap wpBytes = E6 := by
      rw [List.take_succ_eq_append_getElem hlt3, hkj, List.flatMap_append, ← List.append_assoc, hE9, ← hE6, ← hE2, ← hE1, ← hsv, outB_two, ← hdn, ← huv]
      simp [wpBytes]
    dsimp only
    rw [eJ]
    refine ⟨rfl, leL_look (by simp only [RN, ↓reduceIte, ↓get8, reduceCtorEq, Nat.reduceLT, Nat.reduceEqDiff, Nat.reduceAdd, Nat.reduceMul, Nat.reduceLeDiff, Nat.reduceSub, Int.reduceToNat, Int.reduceNeg, Nat.reduceBEq]; first | done | trivial), ?_, Nat.le_refl _, rfl⟩
    refine leT (X := [_, _]) ?_ ?_
    · simp only [RN, ↓reduceIte, ↓get8, reduceCtorEq, Nat.reduceLT, Nat.reduceEqDiff, Nat.reduceAdd, Nat.reduceMul, Nat.reduceLeDiff, Nat.reduceSub, Int.reduceToNat, Int.reduceNeg, Nat.reduceBEq, z0, z1, z2, z3, z4, z5, z6, z7, z8, z9, z10, z11, z12, z13, z14, z15, z16, z17, z18, z19, z20, z21, z22, z23, z24, z25, z26, z27, z28, z29, z30, z31, z32, z33, z34, z35, z36, z37, z38, z39, z40, z41, z42, z43, z44, z45, z46, z47, z48, z49, z50, z51, z52, z53, z54, z55, z56, z57, z58, z59, z60, z61, z62, z63, z64, z65, z66, z67, z68, z69, z70, z71, z72, z73, z74, z75, z76, z77, z78, z79, z80, z81, z82, z83, z84, z85, z86, z87, Nat.add_assoc, Nat.left_eq_add, Nat.add_eq_left, Nat.add_left_cancel_iff]; first | done | trivial
    · intro id c h
      have u0 := t5 id c h
      have w0 : ¬ id = nx := by omega
      have w1 : ¬ id = b := by omega
      have w2 : ¬ id = n := by omega
      have w3 : ¬ id = p := by omega
      have w4 : ¬ id = n3 := by omega
      have w5 : ¬ id = cc := by omega
      have w6 : ¬ id = bb := by omega
      have w7 : ¬ id = p4 := by omega
      have w8 : ¬ id = n4 := by omega
      simp only [RN, ↓reduceIte, ↓get8, reduceCtorEq, Nat.reduceLT, Nat.reduceEqDiff, Nat.reduceAdd, Nat.reduceMul, Nat.reduceLeDiff, Nat.reduceSub, Int.reduceToNat, Int.reduceNeg, Nat.reduceBEq, w0, w1, w2, w3, w4, w5, w6, w7, w8, z0, z1, z2, z3, z4, z5, z6, z7, z8, z9, z10, z11, z12, z13, z14, z15, z16, z17, z18, z19, z20, z21, z22, z23, z24, z25, z26, z27, z28, z29, z30, z31, z32, z33, z34, z35, z36, z37, z38, z39, z40, z41, z42, z43, z44, z45, z46, z47, z48, z49, z50, z51, z52, z53, z54, z55, z56, z57, z58, z59, z60, z61, z62, z63, z64, z65, z66, z67, z68, z69, z70, z71, z72, z73, z74, z75, z76, z77, z78, z79, z80, z81, z82, z83, z84, z85, z86, z87, Nat.add_assoc, Nat.left_eq_add, Nat.add_eq_left, Nat.add_left_cancel_iff, h]
  have hj2 : j = ws.length := by simp at hge; omega
  subst hj2
  rw [List.take_length, ← hE0] at hE9
  refine JS_go (tbOk _) 99 fun x hx => ?_
  simp only [RN, ↓reduceIte, ↓get8, reduceCtorEq, Nat.reduceLT, Nat.reduceEqDiff, Nat.reduceAdd, Nat.reduceMul, Nat.reduceLeDiff, Nat.reduceSub, Int.reduceToNat, Int.reduceNeg, Nat.reduceBEq, TY] at hx
  subst hx
  refine ⟨_, _, rfl, by first | trivial | omega | (simp only [and_true, true_and]; omega), ?_⟩
  refine at_exit (in_exitI (by simp only [RN, ↓reduceIte, ↓get8, reduceCtorEq, Nat.reduceLT, Nat.reduceEqDiff, Nat.reduceAdd, Nat.reduceMul, Nat.reduceLeDiff, Nat.reduceSub, Int.reduceToNat, Int.reduceNeg, Nat.reduceBEq]; rfl) ?_)
  refine JS_go (tbOk _) 99 fun x hx => ?_
  simp only [RN, ↓reduceIte, ↓get8, reduceCtorEq, Nat.reduceLT, Nat.reduceEqDiff, Nat.reduceAdd, Nat.reduceMul, Nat.reduceLeDiff, Nat.reduceSub, Int.reduceToNat, Int.reduceNeg, Nat.reduceBEq, TY] at hx
  subst hx
  refine ⟨_, _, rfl, by first | trivial | omega | (simp only [and_true, true_and]; omega), ?_⟩
  refine at_ret ?_
  have hEE : encB ks ws = E0 := hE9
  rw [hEE]
  refine ret_endK (by simp only [RN, ↓reduceIte, ↓get8, reduceCtorEq, Nat.reduceLT, Nat.reduceEqDiff, Nat.reduceAdd, Nat.reduceMul, Nat.reduceLeDiff, Nat.reduceSub, Int.reduceToNat, Int.reduceNeg, Nat.reduceBEq]; first | done | rfl) rfl trivial ⟨(b, ⟨bys E0, 5, 1, false, true⟩) :: T0, ?_, b, by omega, hbn, rfl, rfl⟩
  refine leT (X := [_]) ?_ ?_
  · simp only [RN, ↓reduceIte, ↓get8, reduceCtorEq, Nat.reduceLT, Nat.reduceEqDiff, Nat.reduceAdd, Nat.reduceMul, Nat.reduceLeDiff, Nat.reduceSub, Int.reduceToNat, Int.reduceNeg, Nat.reduceBEq, Nat.add_assoc, Nat.left_eq_add, Nat.add_eq_left, Nat.add_left_cancel_iff]; first | done | trivial
  · intro id c h
    have u0 := t5 id c h
    have w0 : ¬ id = nx := by omega
    have w1 : ¬ id = b := by omega
    simp only [RN, ↓reduceIte, ↓get8, reduceCtorEq, Nat.reduceLT, Nat.reduceEqDiff, Nat.reduceAdd, Nat.reduceMul, Nat.reduceLeDiff, Nat.reduceSub, Int.reduceToNat, Int.reduceNeg, Nat.reduceBEq, w0, w1, Nat.add_assoc, Nat.left_eq_add, Nat.add_eq_left, Nat.add_left_cancel_iff, h]
end Go.Proofs.Ytoihmanhldcjhaa.Id
namespace Go.Proofs.Ytoihmanhldcjhaa.Id
open Go Go.Proofs.Ytoihmanhldcjhaa.Rl
set_option linter.unusedSimpArgs false
set_option linter.unusedVariables false
theorem bytesOf_bys : ∀ l : List UInt8, bytesOf (bys l) = some l
  | [] => rfl
  | b :: l => by
    have h := bytesOf_bys l
    unfold bys at h ⊢
    simp [bytesOf, h]
theorem refencode_n (B : Bk) (nx : Nat) (g : B.Good nx) (h0 : (checkB B.ks B.ws).1 = 0) :
    CallW Try.prog 14 [B.val] B.H nx fun o F' nx' => ∃ X, (∃ b, nx ≤ b ∧ b < nx' ∧ o = .ret (.slice (some ⟨b, 0, none⟩) (encB B.ks B.ws).length (encB B.ks B.ws).length) ∧ X = [(b, ⟨bys (encB B.ks B.ws), 5, 1, false, true⟩)]) ∧ F' = B.H ++ X ∧ ∀ e ∈ X, nx ≤ e.1 := by
  refine (refencode_c B nx g h0).drop ?_
  rintro o F' n ⟨b, h3, h4, rfl, rfl⟩
  refine ⟨B.H ++ [(b, ⟨bys (encB B.ks B.ws), 5, 1, false, true⟩)], ?_, _, ⟨b, h3, h4, rfl, rfl⟩, rfl, fun e he => by simp at he; subst he; exact h3⟩
  intro id bk hb
  rw [look_append] at hb
  rw [look_cons]
  cases hl : look id B.H with
  | some y =>
    rw [hl] at hb; cases hb
    have := g.t5 id _ hl
    rw [if_neg (by omega)]
  | none =>
    rw [hl] at hb
    dsimp only at hb
    rw [look_cons] at hb
    split at hb
    · rename_i e; rw [if_pos e]; exact hb
    · cases hb
theorem look_past {T0 : Hp} {b nx : Nat} (h : ∀ id x, look id T0 = some x → id < nx) (hb : nx ≤ b) (Y : Hp) : look b (T0 ++ Y) = look b Y := by
  rw [look_append]
  cases hl : look b T0 with
  | none => rfl
  | some x => have := h b x hl; omega
theorem look_in {T0 : Hp} {id : Nat} {x : Blk} (h : look id T0 = some x) (Y : Hp) : look id (T0 ++ Y) = some x := by rw [look_append, h]
set_option maxRecDepth 100000 in
set_option maxHeartbeats 4000000 in
theorem encodes_c (B : Bk) (nx : Nat) (g : B.G0 nx) : CallW Try.prog 5 [B.val] B.H nx fun o F' n => (o = .ret (.bool true) ∧ nx ≤ n) ∧ F' = B.H := by
  obtain ⟨C, hC, gC, hCH⟩ : ∃ C, C = fewB B ∧ C.Good nx ∧ C.H = B.H := ⟨_, rfl, fewB_good g, fewB_H B⟩
  have hF := few_c B (nx + 1) (g.mono (by omega))
  rw [← hC] at hF
  unfold Bk.val at hF ⊢
  obtain ⟨T0, hT0⟩ : ∃ T0, B.H = T0 := ⟨_, rfl⟩
  rw [hT0] at hF hCH ⊢
  refine CallW_go (tbOk _) 31 [.tmp 2] Try.func5 rfl (by decide) rfl rfl (by simp) fun hlt => ?_
  simp only [params, Nat.zero_add, Nat.reduceAdd]
  have ne : ∀ id b, look id T0 = some b → ¬ id = nx := fun id b h => by have := hlt id b h; omega
  refine JS_go (tbOk _) 99 fun x hx => ?_
  simp only [RN, ↓reduceIte, ↓get8, reduceCtorEq, Nat.reduceLT, Nat.reduceEqDiff, Nat.reduceAdd, Nat.reduceMul, Nat.reduceLeDiff, Nat.reduceSub, Int.reduceToNat, Int.reduceNeg, Nat.reduceBEq, TY] at hx
  subst hx
  refine ⟨_, _, rfl, by first | trivial | omega | (simp only [and_true, true_and]; omega), ?_⟩
  refine at_quiet hF (fun id b h => by simp only [RN, ↓reduceIte, ↓get8, reduceCtorEq, Nat.reduceLT, Nat.reduceEqDiff, Nat.reduceAdd, Nat.reduceMul, Nat.reduceLeDiff, Nat.reduceSub, Int.reduceToNat, Int.reduceNeg, Nat.reduceBEq, ne id b h, h]) ?_
  rintro o n ⟨rfl, hn⟩
  refine ⟨_, by simp only [RN, ↓reduceIte, ↓get8, reduceCtorEq, Nat.reduceLT, Nat.reduceEqDiff, Nat.reduceAdd, Nat.reduceMul, Nat.reduceLeDiff, Nat.reduceSub, Int.reduceToNat, Int.reduceNeg, Nat.reduceBEq]; rfl, ?_⟩
  have hR := refcheck_q C n (gC.mono (by omega))
  rw [hCH] at hR
  unfold Bk.val at hR
  refine JS_go (tbOk _) 99 fun x hx => ?_
  simp only [RN, ↓reduceIte, ↓get8, reduceCtorEq, Nat.reduceLT, Nat.reduceEqDiff, Nat.reduceAdd, Nat.reduceMul, Nat.reduceLeDiff, Nat.reduceSub, Int.reduceToNat, Int.reduceNeg, Nat.reduceBEq, TY] at hx
  subst hx
  refine ⟨_, _, rfl, by first | trivial | omega | (simp only [and_true, true_and]; omega), ?_⟩
  refine at_quiet hR (fun id b h => by simp only [RN, ↓reduceIte, ↓get8, reduceCtorEq, Nat.reduceLT, Nat.reduceEqDiff, Nat.reduceAdd, Nat.reduceMul, Nat.reduceLeDiff, Nat.reduceSub, Int.reduceToNat, Int.reduceNeg, Nat.reduceBEq, ne id b h, h]) ?_
  rintro o n3 ⟨rfl, hn3⟩
  refine ⟨_, by simp only [RN, ↓reduceIte, ↓get8, reduceCtorEq, Nat.reduceLT, Nat.reduceEqDiff, Nat.reduceAdd, Nat.reduceMul, Nat.reduceLeDiff, Nat.reduceSub, Int.reduceToNat, Int.reduceNeg, Nat.reduceBEq]; rfl, ?_⟩
  have hE := encode_n C n3 (gC.mono (by omega))
  refine JS_go (tbOk _) 99 fun x hx => ?_
  simp only [RN, ↓reduceIte, ↓get8, reduceCtorEq, Nat.reduceLT, Nat.reduceEqDiff, Nat.reduceAdd, Nat.reduceMul, Nat.reduceLeDiff, Nat.reduceSub, Int.reduceToNat, Int.reduceNeg, Nat.reduceBEq, TY] at hx
  subst hx
  refine ⟨_, _, rfl, by first | trivial | omega | (simp only [and_true, true_and]; omega), ?_⟩
  refine at_cond (fun h => ?_) (fun h => ?_)
  · have h0 : ¬ (checkB C.ks C.ws).1 = 0 := by simpa using h
    simp only [if_neg h0] at hE
    rw [hCH] at hE
    unfold Bk.val at hE
    refine JS_go (tbOk _) 99 fun x hx => ?_
    simp only [RN, ↓reduceIte, ↓get8, reduceCtorEq, Nat.reduceLT, Nat.reduceEqDiff, Nat.reduceAdd, Nat.reduceMul, Nat.reduceLeDiff, Nat.reduceSub, Int.reduceToNat, Int.reduceNeg, Nat.reduceBEq, TY] at hx
    subst hx
    refine ⟨_, _, rfl, by first | trivial | omega | (simp only [and_true, true_and]; omega), ?_⟩
    refine at_new hE (fun id b h => by simp only [RN, ↓reduceIte, ↓get8, reduceCtorEq, Nat.reduceLT, Nat.reduceEqDiff, Nat.reduceAdd, Nat.reduceMul, Nat.reduceLeDiff, Nat.reduceSub, Int.reduceToNat, Int.reduceNeg, Nat.reduceBEq, ne id b h, h]) ?_
    rintro o X n4 ⟨hn4, rfl, rfl⟩ -
    refine ⟨_, by simp only [RN, ↓reduceIte, ↓get8, reduceCtorEq, Nat.reduceLT, Nat.reduceEqDiff, Nat.reduceAdd, Nat.reduceMul, Nat.reduceLeDiff, Nat.reduceSub, Int.reduceToNat, Int.reduceNeg, Nat.reduceBEq]; rfl, ?_⟩
    refine JS_go (tbOk _) 99 fun x hx => ?_
    simp only [RN, ↓reduceIte, ↓get8, reduceCtorEq, Nat.reduceLT, Nat.reduceEqDiff, Nat.reduceAdd, Nat.reduceMul, Nat.reduceLeDiff, Nat.reduceSub, Int.reduceToNat, Int.reduceNeg, Nat.reduceBEq, TY] at hx
    subst hx
    refine ⟨_, _, rfl, by first | trivial | omega | (simp only [and_true, true_and]; omega), ?_⟩
    refine at_quiet (awake_c n4) (fun _ _ h => by cases h) ?_
    rintro o n5 ⟨rfl, hn5⟩
    refine ⟨_, by simp only [RN, ↓reduceIte, ↓get8, reduceCtorEq, Nat.reduceLT, Nat.reduceEqDiff, Nat.reduceAdd, Nat.reduceMul, Nat.reduceLeDiff, Nat.reduceSub, Int.reduceToNat, Int.reduceNeg, Nat.reduceBEq]; rfl, ?_⟩
    refine JS_go (tbOk _) 99 fun x hx => ?_
    simp only [RN, ↓reduceIte, ↓get8, reduceCtorEq, Nat.reduceLT, Nat.reduceEqDiff, Nat.reduceAdd, Nat.reduceMul, Nat.reduceLeDiff, Nat.reduceSub, Int.reduceToNat, Int.reduceNeg, Nat.reduceBEq, TY] at hx
    subst hx
    refine ⟨_, _, rfl, by first | trivial | omega | (simp only [and_true, true_and]; omega), ?_⟩
    refine at_ret (ret_endK (by simp only [RN, ↓reduceIte, ↓get8, reduceCtorEq, Nat.reduceLT, Nat.reduceEqDiff, Nat.reduceAdd, Nat.reduceMul, Nat.reduceLeDiff, Nat.reduceSub, Int.reduceToNat, Int.reduceNeg, Nat.reduceBEq]; first | done | rfl) rfl trivial ⟨T0, fun id b h => ?_, ⟨rfl, by show nx ≤ n5; omega⟩, rfl⟩)
    simp only [RN, ↓reduceIte, ↓get8, reduceCtorEq, Nat.reduceLT, Nat.reduceEqDiff, Nat.reduceAdd, Nat.reduceMul, Nat.reduceLeDiff, Nat.reduceSub, Int.reduceToNat, Int.reduceNeg, Nat.reduceBEq, ne id b h, h]
  · have h0 : (checkB C.ks C.ws).1 = 0 := by simpa using h
    simp only [if_pos h0] at hE
    obtain ⟨E, hEE⟩ : ∃ E, encB C.ks C.ws = E := ⟨_, rfl⟩
    rw [hCH, hEE] at hE
    unfold Bk.val at hE
    refine JS_go (tbOk _) 99 fun x hx => ?_
    simp only [RN, ↓reduceIte, ↓get8, reduceCtorEq, Nat.reduceLT, Nat.reduceEqDiff, Nat.reduceAdd, Nat.reduceMul, Nat.reduceLeDiff, Nat.reduceSub, Int.reduceToNat, Int.reduceNeg, Nat.reduceBEq, TY] at hx
    subst hx
    refine ⟨_, _, rfl, by first | trivial | omega | (simp only [and_true, true_and]; omega), ?_⟩
    rw [CRJ]
    refine JS_draw (tbOk _) { wr := [(21, 0), (22, 1), (23, 2), (24, 3), (25, 4), (26, 5), (27, 6), (28, 7), (29, 8), (30, 9), (2, 10)], anc := [[], [0], [0, 1], [], [0, 1, 3], [0, 1, 3, 4], [0, 1, 2, 3, 4, 5], [0, 1, 2, 3, 4, 5, 6], [0, 1, 2, 3, 4, 5, 6, 7], [0, 1, 2, 3, 4, 5, 6, 7, 8], [0, 1, 2, 3, 4, 5, 6, 7, 8, 9]], ch := [(1, []), (4, []), (8, [])], ac := [[0, 3], [2, 3], [2, 5, 6, 7], [9, 10]], nw := [[0, 3], [2], [5, 6, 7], [9, 10]], fl := [[], [3], [2], []] } (by kernel_rfl) (by kernel_rfl) (by kernel_rfl) ?_
    refine JS_go (tbOk _) 99 fun x hx => ?_
    simp only [RN, ↓reduceIte, ↓get8, reduceCtorEq, Nat.reduceLT, Nat.reduceEqDiff, Nat.reduceAdd, Nat.reduceMul, Nat.reduceLeDiff, Nat.reduceSub, Int.reduceToNat, Int.reduceNeg, Nat.reduceBEq, TY] at hx
    subst hx
    refine ⟨_, _, rfl, by first | trivial | omega | (simp only [and_true, true_and]; omega), ?_⟩
    refine at_dnew hE (fun id b h => by simp only [RN, ↓reduceIte, ↓get8, reduceCtorEq, Nat.reduceLT, Nat.reduceEqDiff, Nat.reduceAdd, Nat.reduceMul, Nat.reduceLeDiff, Nat.reduceSub, Int.reduceToNat, Int.reduceNeg, Nat.reduceBEq, ne id b h, h]) ?_
    rintro o X n4 ⟨hn4, b, hb, hb4, rfl, rfl⟩ -
    have hR := refencode_n C n4 (gC.mono (by omega)) h0
    rw [hCH, hEE] at hR
    unfold Bk.val at hR
    have f0 : ¬ b = nx := by omega
    have f1 : ∀ Y, look b (T0 ++ Y) = look b Y := look_past hlt (by omega)
    have s1 := bys_take E
    have s2 := bytesOf_bys E
    have s3 := bys_len E
    refine JS_go (tbOk _) 99 fun x hx => ?_
    simp only [RN, ↓reduceIte, ↓get8, reduceCtorEq, Nat.reduceLT, Nat.reduceEqDiff, Nat.reduceAdd, Nat.reduceMul, Nat.reduceLeDiff, Nat.reduceSub, Int.reduceToNat, Int.reduceNeg, Nat.reduceBEq, TY, f0, f1, s1, s2, s3, List.append_assoc] at hx
    subst hx
    refine ⟨_, _, rfl, by first | trivial | omega | (simp only [and_true, true_and]; omega), ?_⟩
    refine at_dnew hR (fun id b h => by simp only [RN, ↓reduceIte, ↓get8, reduceCtorEq, Nat.reduceLT, Nat.reduceEqDiff, Nat.reduceAdd, Nat.reduceMul, Nat.reduceLeDiff, Nat.reduceSub, Int.reduceToNat, Int.reduceNeg, Nat.reduceBEq, ne id b h, look_in h]) ?_
    rintro o X n5 ⟨c, hc, hc5, rfl, rfl⟩ -
    have g0 : ¬ c = nx := by omega
    have g1 : ∀ Y, look c (T0 ++ Y) = look c Y := look_past hlt (by omega)
    have g2 : ¬ c = b := by omega
    have g3 : ¬ b = c := by omega
    refine JS_go (tbOk _) 99 fun x hx => ?_
    simp only [RN, ↓reduceIte, ↓get8, reduceCtorEq, Nat.reduceLT, Nat.reduceEqDiff, Nat.reduceAdd, Nat.reduceMul, Nat.reduceLeDiff, Nat.reduceSub, Int.reduceToNat, Int.reduceNeg, Nat.reduceBEq, TY, f0, f1, g0, g1, g2, g3, s1, s2, s3, List.append_assoc] at hx
    subst hx
    refine ⟨_, _, rfl, by first | trivial | omega | (simp only [and_true, true_and]; omega), ?_⟩
    refine at_dquiet (awake_c n5) (fun _ _ h => by cases h) ?_
    rintro o n6 ⟨rfl, hn6⟩
    refine JS_go (tbOk _) 99 fun x hx => ?_
    simp only [RN, ↓reduceIte, ↓get8, reduceCtorEq, Nat.reduceLT, Nat.reduceEqDiff, Nat.reduceAdd, Nat.reduceMul, Nat.reduceLeDiff, Nat.reduceSub, Int.reduceToNat, Int.reduceNeg, Nat.reduceBEq, TY, f0, f1, g0, g1, g2, g3, s1, s2, s3, List.append_assoc] at hx
    subst hx
    refine ⟨_, _, rfl, by first | trivial | omega | (simp only [and_true, true_and]; omega), ?_⟩
    refine at_ret (ret_endK (by simp only [RN, ↓reduceIte, ↓get8, reduceCtorEq, Nat.reduceLT, Nat.reduceEqDiff, Nat.reduceAdd, Nat.reduceMul, Nat.reduceLeDiff, Nat.reduceSub, Int.reduceToNat, Int.reduceNeg, Nat.reduceBEq]; first | done | rfl) rfl trivial ⟨T0, fun id b h => ?_, ⟨rfl, by show nx ≤ n6; omega⟩, rfl⟩)
    simp only [RN, ↓reduceIte, ↓get8, reduceCtorEq, Nat.reduceLT, Nat.reduceEqDiff, Nat.reduceAdd, Nat.reduceMul, Nat.reduceLeDiff, Nat.reduceSub, Int.reduceToNat, Int.reduceNeg, Nat.reduceBEq, ne id b h, look_in h, List.append_assoc]
end Go.Proofs.Ytoihmanhldcjhaa.Id
namespace Go.Proofs.Ytoihmanhldcjhaa.KindsEncodes
open Go Go.RowKit Go.ChangeShapes Go.WideShapes Go.ChangeAt Go.Proofs.Ytoihmanhldcjhaa.Id
set_option linter.unusedVariables false
set_option linter.unusedSimpArgs false
theorem own : ownKnob Try.prog.godebug = none := by kernel_rfl
theorem walk {H : Type} {enc : TypeId × Value → H} {b0 : Nat} {W0 : World} (z0 z1 : Value) (h : Value.okWide Try.prog W0 .any b0 26 (.agg #[z0, z1])) (h0 : ∃ m x, DataW.trod enc Try.prog W0 0 (fun _ => true) true m 23 [z0] = some x) (h1 : ∃ m x, DataW.trod enc Try.prog W0 0 (fun _ => true) true m 24 [z1] = some x) (W : World) (e0 : W0 = W) : Calls Try.prog 5 #[.agg #[z0, z1]] W fun e W' => e = .returned (.bool true) ∧ Below W.heap.size W W' := by
  subst e0
  obtain ⟨B, mm, g, hh, hv, hro⟩ := book_open h h0 h1
  exact law_calls (encodes_c B 2 g) Try.func5 (by decide) rfl hro hh hv
theorem laidOut : laidOutB Try.prog = true := by kernel_rfl
theorem cells0 {H : Type} {enc : TypeId × Value → H} {w : World} {base : Nat} {spare : Nat → Bool} {held : Bool} {cs : Array Value} (h : gflatOk enc Try.prog w base spare held [.other 23, .other 24] cs.toList) : ∃ (z0 : Value) (z1 : Value), cs = #[z0, z1] ∧ (∃ m x, DataW.trod enc Try.prog w base spare held m 23 [z0] = some x) ∧ (∃ m x, DataW.trod enc Try.prog w base spare held m 24 [z1] = some x) := by
  obtain ⟨l⟩ := cs
  replace h : gflatOk enc Try.prog w base spare held [.other 23, .other 24] l := h
  rcases l with _ | ⟨z0, l⟩
  · exact h.elim
  obtain ⟨w0, h⟩ := h
  rcases l with _ | ⟨z1, l⟩
  · exact h.elim
  obtain ⟨w1, h⟩ := h
  rcases l with _ | ⟨v, l⟩
  · exact ⟨z0, z1, rfl, w0, w1⟩
  · exact h.elim
set_option maxRecDepth 100000 in
theorem lifted (os : Os) (started : os.Started) (H : Type) (enc : TypeId × Value → H) :
    ReturnsInHanded {} Try.checked os 5 .any (Rows.kindsEncodesSpec.pre6 enc Try.prog Try.f5 Rows.kindsEncodesRow.domain false) (Rows.kindsEncodesSpec.post enc Try.prog Try.f5 false true false false) := by
  refine returnsInHanded_of_change_sized (C := Try.checked) own started (by kernel_rfl) Try.func5
    (ChangeSpec.witness6 (enc := enc) (C := Try.checked) false ⟨#[], #[.agg #[.slice none 0 0, .slice none 0 0]], []⟩ 8 (by kernel_rfl) (by kernel_rfl) (by kernel_rfl) (by kernel_rfl)) ?_
  intro W base args ds gs before hval0 hW hcnd hsz0 _
  have hval : ∀ (j : Nat) t v, Try.f5.params[j]? = some t → args[j]? = some v → Value.okWide Try.prog W .any base t v := hval0
  have hW' := hW
  obtain ⟨p, q, hA0, hV, rfl, hfz, hnd⟩ := hW
  have hA : DataW.TrodAll enc Try.prog W 0 (fun _ => true) true Try.f5.params.toList args.toList ds p := hA0
  rw [Try.params5] at hA hval
  obtain ⟨v0, vs0, d0, ds0, p0, q0, hargs, rfl, rfl, h0, r0⟩ := trodAll_cons hA
  obtain ⟨rfl, rfl, rfl⟩ := trodAll_nil r0
  obtain rfl : args = #[v0] := by cases args; simp_all
  obtain ⟨rfl, rfl⟩ := trodVars_none hV
  have k0 := h0
  have lt0 : ∀ x ∈ p0, x.block < W.heap.size := by obtain ⟨m, hm⟩ := k0; exact DataW.trod_lt m _ _ _ hm
  obtain ⟨cs0, rfl, hf0⟩ := gopen_flat (n := 6) (by kernel_rfl) Try.underlying26 (hval 0 26 v0 rfl rfl) h0
  obtain ⟨a0_0, a0_1, rfl, w0_0, w0_1⟩ := cells0 hf0
  clear hA0 hval0
  refine (walk a0_0 a0_1 (hval 0 26 _ rfl rfl) w0_0 w0_1 W rfl).mono fun e W' ⟨he, hb⟩ => ?_
  subst he
  exact ⟨_, rfl, _, _, _, [], _, [], hW', trodAll_cons_mk (shut_bool Try.underlying4 _) trodAll_mk0, (trodAll_cons_mk (Below.trod laidOut (by kernel_rfl) (of_decide_eq_true (by kernel_rfl)) k0 hb lt0) trodAll_mk0), rfl, hb.frame _, fun h => by cases h⟩
theorem proved : Rows.KindsEncodesSaid :=
  OpenClaim.holds_of_wide 5 Try.f5 rfl rfl rfl rfl rfl rfl rfl ⟨rfl, rfl, rfl, rfl, rfl⟩ rfl rfl rfl rfl rfl (by kernel_rfl) Try.func5 (by kernel_rfl)
    (of_decide_eq_true (by kernel_rfl)) (by unfold Func.isWrapper; first | (rw [if_pos (by decide +kernel)]; kernel_rfl) | (rw [if_neg (by decide +kernel)]; exact ⟨rfl, rfl⟩))
    (fun os started H enc _ => lifted os started H enc)
end Go.Proofs.Ytoihmanhldcjhaa.KindsEncodes
