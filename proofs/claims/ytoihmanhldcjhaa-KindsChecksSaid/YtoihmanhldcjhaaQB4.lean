/- What the claim's proof leans on: texts of this claim, laid together. -/
import Derived.Test.YtoihmanhldcjhaaQB3
import Derived.Deep.Slices
import Derived.Test.YtoihmanhldcjhaaRows
import Derived.SevenTiedAt
import Derived.SizedLaws
import Derived.OpenShut
namespace Go.Proofs.Ytoihmanhldcjhaa.Id
open Go Go.Proofs.Ytoihmanhldcjhaa.Rl
set_option linter.unusedSimpArgs false
set_option linter.unusedVariables false
structure Bk.G0 (B : Bk) (nx : Nat) : Prop where
  hk : B.ok = none → B.ks = []
  hw : B.ow = none → B.ws = []
  hkn : ∀ b, B.ok = some b → b < nx
  hwn : ∀ b, B.ow = some b → b < nx
  hkw : ∀ b c, B.ok = some b → B.ow = some c → ¬ c = b
  hkc : B.ks.length ≤ B.kc
  hwc : B.ws.length ≤ B.wc
def fewB (B : Bk) : Bk := { B with ks := B.ks.take 18, kx := B.ks.drop 18 ++ B.kx, ws := B.ws.take 18, wx := B.ws.drop 18 ++ B.wx }
theorem fewB_H (B : Bk) : (fewB B).H = B.H := by
  unfold Bk.H fewB
  dsimp only
  rw [← List.append_assoc, List.take_append_drop, ← List.append_assoc, List.take_append_drop]
theorem fewB_good {B : Bk} {nx : Nat} (g : B.G0 nx) : (fewB B).Good nx :=
  ⟨fun h => by show B.ks.take 18 = []; rw [g.hk h]; rfl, fun h => by show B.ws.take 18 = []; rw [g.hw h]; rfl, by show (B.ks.take 18).length ≤ 1000; rw [List.length_take]; omega, by show (B.ws.take 18).length ≤ 1000; rw [List.length_take]; omega, g.hkn, g.hwn, g.hkw⟩
set_option maxRecDepth 100000 in
theorem few_c (B : Bk) (nx : Nat) (g : B.G0 nx) : CallW Try.prog 10 [B.val] B.H nx fun o F' n => (o = .ret (fewB B).val ∧ nx ≤ n) ∧ F' = B.H := by
  have l1 : ilen (tbOf Try.prog) 23 (slv B.ok B.ks.length B.kc) = some (.int .i64 B.ks.length) := ilen_slv (tbOf Try.prog) 23 46 (by rw [und_eq, Try.underlying23]) _ _ _ (fun h => by rw [g.hk h]; rfl)
  have l2 : ilen (tbOf Try.prog) 24 (slv B.ow B.ws.length B.wc) = some (.int .i64 B.ws.length) := ilen_slv (tbOf Try.prog) 24 51 (by rw [und_eq, Try.underlying24]) _ _ _ (fun h => by rw [g.hw h]; rfl)
  have t2 : ∀ b, B.ok = some b → look b B.H = some ⟨kcells (B.ks ++ B.kx), 46, 20, B.ro, B.loose⟩ := by
    rcases B with ⟨ks, kx, ws, wx, ok, kc, ow, wc, ro, loose⟩
    intro b h; dsimp only at h; subst h; simp [Bk.H, kblk, look_cons]
  have t3 : ∀ c, B.ow = some c → look c B.H = some ⟨wcells (B.ws ++ B.wx), 51, 6, B.ro, B.loose⟩ := by
    rcases B with ⟨ks, kx, ws, wx, ok, kc, ow, wc, ro, loose⟩
    intro c h; dsimp only at h; subst h
    cases ok with
    | none => simp [Bk.H, kblk, wpblk, look_cons]
    | some b => have := g.hkw b c rfl rfl; simp [Bk.H, kblk, wpblk, look_cons, this]
  unfold Bk.val fewB
  dsimp only
  rw [List.length_take, List.length_take]
  obtain ⟨T0, hT0⟩ : ∃ T0, B.H = T0 := ⟨_, rfl⟩
  rw [hT0] at t2 t3 ⊢
  rcases B with ⟨ks, kx, ws, wx, ok, kc, ow, wc, ro, loose⟩
  obtain ⟨hk, hw, hkn, hwn, hkw, hkc, hwc⟩ := g
  dsimp only at l1 l2 t2 t3 hk hw hkn hwn hkw hkc hwc ⊢
  refine CallW_go (tbOk _) 20 [.cell 2 26] Try.func10 rfl (by decide) rfl rfl (by simp) fun hlt => ?_
  simp only [params, Nat.zero_add, Nat.reduceAdd]
  refine JS_go (tbOk _) 99 fun x hx => ?_
  simp only [RN, ↓reduceIte, ↓get8, reduceCtorEq, Nat.reduceLT, Nat.reduceEqDiff, Nat.reduceAdd, Nat.reduceMul, Nat.reduceLeDiff, Nat.reduceSub, Int.reduceToNat, Int.reduceNeg, Nat.reduceBEq, TY, ↓l1, Nat.add_assoc, Nat.left_eq_add, Nat.add_eq_left, Nat.add_left_cancel_iff] at hx
  subst hx
  refine ⟨_, _, rfl, by first | trivial | omega | (simp only [and_true, true_and]; omega), ?_⟩
  refine at_condM ({ n := 20, fr := [(2, .pointer (some ⟨nx + 1, 0, none⟩)), (1, .pointer (some ⟨nx, 0, none⟩))], F := [(nx, ⟨[slv ok (min 18 ks.length) kc, slv ow ws.length wc], 26, 2, false, false⟩), (nx + 1, ⟨[.slice none 0 0, .slice none 0 0], 26, 2, false, false⟩)] ++ T0, nx := nx + 2, ds := [] }) (fun h => ?_) (fun h => ?_) ?_
  · have hl : 18 < ks.length := by have := of_decide_eq_true h; omega
    obtain ⟨b, hb⟩ : ∃ b, ok = some b := by
      cases ok with
      | none => rw [hk rfl] at hl; exact absurd hl (by simp)
      | some b => exact ⟨b, rfl⟩
    have hm : min 18 ks.length = 18 := by omega
    have lb := t2 b hb
    have hbn := hkn b hb
    have q0 : ¬ b = nx := by omega
    have q1 : ∀ i, ¬ b = nx + i := by intro i; omega
    have hs : slv ok ks.length kc = .slice (some ⟨b, 0, none⟩) ks.length kc := by rw [hb]; rfl
    have hs2 : slv ok (min 18 ks.length) kc = .slice (some ⟨b, 0, none⟩) 18 kc := by rw [hb, hm]; rfl
    rw [hs2]
    refine JS_go (tbOk _) 99 fun x hx => ?_
    simp only [RN, ↓reduceIte, ↓get8, reduceCtorEq, Nat.reduceLT, Nat.reduceEqDiff, Nat.reduceAdd, Nat.reduceMul, Nat.reduceLeDiff, Nat.reduceSub, Int.reduceToNat, Int.reduceNeg, Nat.reduceBEq, TY, hs, lb, q0, q1, Nat.sub_zero, Nat.add_assoc, Nat.left_eq_add, Nat.add_eq_left, Nat.add_left_cancel_iff] at hx
    subst hx
    refine ⟨_, _, rfl, ?_, ?_⟩
    · simp; omega
    refine at_done (in_cut ⟨rfl, leL_look (by simp only [RN, ↓reduceIte, ↓get8, reduceCtorEq, Nat.reduceLT, Nat.reduceEqDiff, Nat.reduceAdd, Nat.reduceMul, Nat.reduceLeDiff, Nat.reduceSub, Int.reduceToNat, Int.reduceNeg, Nat.reduceBEq]; first | done | trivial), ?_, Nat.le_refl _, rfl⟩)
    refine leT (X := [_, _]) (by simp only [RN, ↓reduceIte, ↓get8, reduceCtorEq, Nat.reduceLT, Nat.reduceEqDiff, Nat.reduceAdd, Nat.reduceMul, Nat.reduceLeDiff, Nat.reduceSub, Int.reduceToNat, Int.reduceNeg, Nat.reduceBEq, hs, Nat.add_assoc, Nat.left_eq_add, Nat.add_eq_left, Nat.add_left_cancel_iff]; first | done | trivial) ?_
    intro id c h
    have u0 := hlt id c h
    have u1 : ¬ id = nx := by omega
    have u2 : ∀ i, ¬ id = nx + i := by intro i; omega
    simp only [RN, ↓reduceIte, ↓get8, reduceCtorEq, Nat.reduceLT, Nat.reduceEqDiff, Nat.reduceAdd, Nat.reduceMul, Nat.reduceLeDiff, Nat.reduceSub, Int.reduceToNat, Int.reduceNeg, Nat.reduceBEq, u1, u2, h]
  · have hl : ¬ 18 < ks.length := by have := of_decide_eq_false h; omega
    have hm : min 18 ks.length = ks.length := by omega
    rw [hm]
    refine JS_go (tbOk _) 99 fun x hx => ?_
    simp only [RN, ↓reduceIte, ↓get8, reduceCtorEq, Nat.reduceLT, Nat.reduceEqDiff, Nat.reduceAdd, Nat.reduceMul, Nat.reduceLeDiff, Nat.reduceSub, Int.reduceToNat, Int.reduceNeg, Nat.reduceBEq, TY] at hx
    subst hx
    refine ⟨_, _, rfl, by first | trivial | omega | (simp only [and_true, true_and]; omega), ?_⟩
    refine at_done (in_cut ⟨rfl, leL_look (by simp only [RN, ↓reduceIte, ↓get8, reduceCtorEq, Nat.reduceLT, Nat.reduceEqDiff, Nat.reduceAdd, Nat.reduceMul, Nat.reduceLeDiff, Nat.reduceSub, Int.reduceToNat, Int.reduceNeg, Nat.reduceBEq]; first | done | trivial), ?_, Nat.le_refl _, rfl⟩)
    refine leT (X := [_, _]) (by simp only [RN, ↓reduceIte, ↓get8, reduceCtorEq, Nat.reduceLT, Nat.reduceEqDiff, Nat.reduceAdd, Nat.reduceMul, Nat.reduceLeDiff, Nat.reduceSub, Int.reduceToNat, Int.reduceNeg, Nat.reduceBEq, Nat.add_assoc, Nat.left_eq_add, Nat.add_eq_left, Nat.add_left_cancel_iff]; first | done | trivial) ?_
    intro id c h
    have u0 := hlt id c h
    have u1 : ¬ id = nx := by omega
    have u2 : ∀ i, ¬ id = nx + i := by intro i; omega
    simp only [RN, ↓reduceIte, ↓get8, reduceCtorEq, Nat.reduceLT, Nat.reduceEqDiff, Nat.reduceAdd, Nat.reduceMul, Nat.reduceLeDiff, Nat.reduceSub, Int.reduceToNat, Int.reduceNeg, Nat.reduceBEq, u1, u2, h]
  refine JS_go (tbOk _) 99 fun x hx => ?_
  simp only [RN, ↓reduceIte, ↓get8, reduceCtorEq, Nat.reduceLT, Nat.reduceEqDiff, Nat.reduceAdd, Nat.reduceMul, Nat.reduceLeDiff, Nat.reduceSub, Int.reduceToNat, Int.reduceNeg, Nat.reduceBEq, TY, ↓l2, Nat.add_assoc, Nat.left_eq_add, Nat.add_eq_left, Nat.add_left_cancel_iff] at hx
  subst hx
  refine ⟨_, _, rfl, by first | trivial | omega | (simp only [and_true, true_and]; omega), ?_⟩
  refine at_condM ({ n := 20, fr := [(2, .pointer (some ⟨nx + 1, 0, none⟩)), (1, .pointer (some ⟨nx, 0, none⟩))], F := [(nx, ⟨[slv ok (min 18 ks.length) kc, slv ow (min 18 ws.length) wc], 26, 2, false, false⟩), (nx + 1, ⟨[.slice none 0 0, .slice none 0 0], 26, 2, false, false⟩)] ++ T0, nx := nx + 2, ds := [] }) (fun h => ?_) (fun h => ?_) ?_
  · have hl : 18 < ws.length := by have := of_decide_eq_true h; omega
    obtain ⟨b, hb⟩ : ∃ b, ow = some b := by
      cases ow with
      | none => rw [hw rfl] at hl; exact absurd hl (by simp)
      | some b => exact ⟨b, rfl⟩
    have hm : min 18 ws.length = 18 := by omega
    have lb := t3 b hb
    have hbn := hwn b hb
    have q0 : ¬ b = nx := by omega
    have q1 : ∀ i, ¬ b = nx + i := by intro i; omega
    have hs : slv ow ws.length wc = .slice (some ⟨b, 0, none⟩) ws.length wc := by rw [hb]; rfl
    have hs2 : slv ow (min 18 ws.length) wc = .slice (some ⟨b, 0, none⟩) 18 wc := by rw [hb, hm]; rfl
    rw [hs2]
    refine JS_go (tbOk _) 99 fun x hx => ?_
    simp only [RN, ↓reduceIte, ↓get8, reduceCtorEq, Nat.reduceLT, Nat.reduceEqDiff, Nat.reduceAdd, Nat.reduceMul, Nat.reduceLeDiff, Nat.reduceSub, Int.reduceToNat, Int.reduceNeg, Nat.reduceBEq, TY, hs, lb, q0, q1, Nat.sub_zero, Nat.add_assoc, Nat.left_eq_add, Nat.add_eq_left, Nat.add_left_cancel_iff] at hx
    subst hx
    refine ⟨_, _, rfl, ?_, ?_⟩
    · simp; omega
    refine at_done (in_cut ⟨rfl, leL_look (by simp only [RN, ↓reduceIte, ↓get8, reduceCtorEq, Nat.reduceLT, Nat.reduceEqDiff, Nat.reduceAdd, Nat.reduceMul, Nat.reduceLeDiff, Nat.reduceSub, Int.reduceToNat, Int.reduceNeg, Nat.reduceBEq]; first | done | trivial), ?_, Nat.le_refl _, rfl⟩)
    refine leT (X := [_, _]) (by simp only [RN, ↓reduceIte, ↓get8, reduceCtorEq, Nat.reduceLT, Nat.reduceEqDiff, Nat.reduceAdd, Nat.reduceMul, Nat.reduceLeDiff, Nat.reduceSub, Int.reduceToNat, Int.reduceNeg, Nat.reduceBEq, hs, Nat.add_assoc, Nat.left_eq_add, Nat.add_eq_left, Nat.add_left_cancel_iff]; first | done | trivial) ?_
    intro id c h
    have u0 := hlt id c h
    have u1 : ¬ id = nx := by omega
    have u2 : ∀ i, ¬ id = nx + i := by intro i; omega
    simp only [RN, ↓reduceIte, ↓get8, reduceCtorEq, Nat.reduceLT, Nat.reduceEqDiff, Nat.reduceAdd, Nat.reduceMul, Nat.reduceLeDiff, Nat.reduceSub, Int.reduceToNat, Int.reduceNeg, Nat.reduceBEq, u1, u2, h]
  · have hl : ¬ 18 < ws.length := by have := of_decide_eq_false h; omega
    have hm : min 18 ws.length = ws.length := by omega
    rw [hm]
    refine JS_go (tbOk _) 99 fun x hx => ?_
    simp only [RN, ↓reduceIte, ↓get8, reduceCtorEq, Nat.reduceLT, Nat.reduceEqDiff, Nat.reduceAdd, Nat.reduceMul, Nat.reduceLeDiff, Nat.reduceSub, Int.reduceToNat, Int.reduceNeg, Nat.reduceBEq, TY] at hx
    subst hx
    refine ⟨_, _, rfl, by first | trivial | omega | (simp only [and_true, true_and]; omega), ?_⟩
    refine at_done (in_cut ⟨rfl, leL_look (by simp only [RN, ↓reduceIte, ↓get8, reduceCtorEq, Nat.reduceLT, Nat.reduceEqDiff, Nat.reduceAdd, Nat.reduceMul, Nat.reduceLeDiff, Nat.reduceSub, Int.reduceToNat, Int.reduceNeg, Nat.reduceBEq]; first | done | trivial), ?_, Nat.le_refl _, rfl⟩)
    refine leT (X := [_, _]) (by simp only [RN, ↓reduceIte, ↓get8, reduceCtorEq, Nat.reduceLT, Nat.reduceEqDiff, Nat.reduceAdd, Nat.reduceMul, Nat.reduceLeDiff, Nat.reduceSub, Int.reduceToNat, Int.reduceNeg, Nat.reduceBEq, Nat.add_assoc, Nat.left_eq_add, Nat.add_eq_left, Nat.add_left_cancel_iff]; first | done | trivial) ?_
    intro id c h
    have u0 := hlt id c h
    have u1 : ¬ id = nx := by omega
    have u2 : ∀ i, ¬ id = nx + i := by intro i; omega
    simp only [RN, ↓reduceIte, ↓get8, reduceCtorEq, Nat.reduceLT, Nat.reduceEqDiff, Nat.reduceAdd, Nat.reduceMul, Nat.reduceLeDiff, Nat.reduceSub, Int.reduceToNat, Int.reduceNeg, Nat.reduceBEq, u1, u2, h]
  refine JS_go (tbOk _) 99 fun x hx => ?_
  simp only [RN, ↓reduceIte, ↓get8, reduceCtorEq, Nat.reduceLT, Nat.reduceEqDiff, Nat.reduceAdd, Nat.reduceMul, Nat.reduceLeDiff, Nat.reduceSub, Int.reduceToNat, Int.reduceNeg, Nat.reduceBEq, TY, Nat.add_assoc, Nat.left_eq_add, Nat.add_eq_left, Nat.add_left_cancel_iff] at hx
  subst hx
  refine ⟨_, _, rfl, by first | trivial | omega | (simp only [and_true, true_and]; omega), ?_⟩
  refine at_ret ?_
  refine ret_endK (by simp only [RN, ↓reduceIte, ↓get8, reduceCtorEq, Nat.reduceLT, Nat.reduceEqDiff, Nat.reduceAdd, Nat.reduceMul, Nat.reduceLeDiff, Nat.reduceSub, Int.reduceToNat, Int.reduceNeg, Nat.reduceBEq, TY, Nat.add_assoc, Nat.left_eq_add, Nat.add_eq_left, Nat.add_left_cancel_iff]; rfl) rfl (by first | trivial | omega) ⟨T0, ?_, ⟨rfl, by show nx ≤ nx + 2; omega⟩, rfl⟩
  intro id c h
  have u0 := hlt id c h
  have u1 : ¬ id = nx := by omega
  have u2 : ∀ i, ¬ id = nx + i := by intro i; omega
  simp only [RN, ↓reduceIte, ↓get8, reduceCtorEq, Nat.reduceLT, Nat.reduceEqDiff, Nat.reduceAdd, Nat.reduceMul, Nat.reduceLeDiff, Nat.reduceSub, Int.reduceToNat, Int.reduceNeg, Nat.reduceBEq, u1, u2, h]
theorem Bk.G0.mono {B : Bk} {nx nx' : Nat} (g : B.G0 nx) (h : nx ≤ nx') : B.G0 nx' :=
  ⟨g.hk, g.hw, fun b e => Nat.lt_of_lt_of_le (g.hkn b e) h, fun b e => Nat.lt_of_lt_of_le (g.hwn b e) h, g.hkw, g.hkc, g.hwc⟩
theorem check_q (B : Bk) (nx : Nat) (g : B.Good nx) : CallW Try.prog 11 [B.val] B.H nx fun o F' n => (o = .ret (.tuple #[.int .i64 (checkB B.ks B.ws).1, .int .i64 (checkB B.ks B.ws).2]) ∧ nx ≤ n) ∧ F' = B.H :=
  (check_c B nx g).mono fun o F' n h => ⟨⟨h.1, h.2.2⟩, h.2.1⟩
theorem refcheck_q (B : Bk) (nx : Nat) (g : B.Good nx) : CallW Try.prog 12 [B.val] B.H nx fun o F' n => (o = .ret (.tuple #[.int .i64 (checkB B.ks B.ws).1, .int .i64 (checkB B.ks B.ws).2]) ∧ nx ≤ n) ∧ F' = B.H :=
  (refcheck_c B nx g).mono fun o F' n h => ⟨⟨h.1, h.2.2⟩, h.2.1⟩
set_option maxRecDepth 100000 in
theorem checks_c (B : Bk) (nx : Nat) (g : B.G0 nx) : CallW Try.prog 4 [B.val] B.H nx fun o F' n => (o = .ret (.bool true) ∧ nx ≤ n) ∧ F' = B.H := by
  obtain ⟨C, hC, gC, hCH⟩ : ∃ C, C = fewB B ∧ C.Good nx ∧ C.H = B.H := ⟨_, rfl, fewB_good g, fewB_H B⟩
  have hF := few_c B (nx + 1) (g.mono (by omega))
  rw [← hC] at hF
  unfold Bk.val at hF ⊢
  obtain ⟨T0, hT0⟩ : ∃ T0, B.H = T0 := ⟨_, rfl⟩
  rw [hT0] at hF hCH ⊢
  refine CallW_go (tbOk _) 30 [.tmp 2] Try.func4 rfl (by decide) rfl rfl (by simp) fun hlt => ?_
  simp only [params, Nat.zero_add, Nat.reduceAdd]
  have ne : ∀ id b, look id T0 = some b → ¬ id = nx := fun id b h => by have := hlt id b h; omega
  refine JS_go (tbOk _) 99 fun x hx => ?_
  simp only [RN, ↓reduceIte, ↓get8, reduceCtorEq, Nat.reduceLT, Nat.reduceEqDiff, Nat.reduceAdd, Nat.reduceMul, Nat.reduceLeDiff, Nat.reduceSub, Int.reduceToNat, Int.reduceNeg, Nat.reduceBEq, TY] at hx
  subst hx
  refine ⟨_, _, rfl, by first | trivial | omega | (simp only [and_true, true_and]; omega), ?_⟩
  refine at_quiet hF (fun id b h => by simp only [RN, ↓reduceIte, ↓get8, reduceCtorEq, Nat.reduceLT, Nat.reduceEqDiff, Nat.reduceAdd, Nat.reduceMul, Nat.reduceLeDiff, Nat.reduceSub, Int.reduceToNat, Int.reduceNeg, Nat.reduceBEq, ne id b h, h]) ?_
  rintro o n ⟨rfl, hn⟩
  refine ⟨_, by simp only [RN, ↓reduceIte, ↓get8, reduceCtorEq, Nat.reduceLT, Nat.reduceEqDiff, Nat.reduceAdd, Nat.reduceMul, Nat.reduceLeDiff, Nat.reduceSub, Int.reduceToNat, Int.reduceNeg, Nat.reduceBEq]; rfl, ?_⟩
  have hK := check_q C n (gC.mono (by omega))
  rw [hCH] at hK
  unfold Bk.val at hK
  refine JS_go (tbOk _) 99 fun x hx => ?_
  simp only [RN, ↓reduceIte, ↓get8, reduceCtorEq, Nat.reduceLT, Nat.reduceEqDiff, Nat.reduceAdd, Nat.reduceMul, Nat.reduceLeDiff, Nat.reduceSub, Int.reduceToNat, Int.reduceNeg, Nat.reduceBEq, TY] at hx
  subst hx
  refine ⟨_, _, rfl, by first | trivial | omega | (simp only [and_true, true_and]; omega), ?_⟩
  refine at_quiet hK (fun id b h => by simp only [RN, ↓reduceIte, ↓get8, reduceCtorEq, Nat.reduceLT, Nat.reduceEqDiff, Nat.reduceAdd, Nat.reduceMul, Nat.reduceLeDiff, Nat.reduceSub, Int.reduceToNat, Int.reduceNeg, Nat.reduceBEq, ne id b h, h]) ?_
  rintro o n2 ⟨rfl, hn2⟩
  refine ⟨_, by simp only [RN, ↓reduceIte, ↓get8, reduceCtorEq, Nat.reduceLT, Nat.reduceEqDiff, Nat.reduceAdd, Nat.reduceMul, Nat.reduceLeDiff, Nat.reduceSub, Int.reduceToNat, Int.reduceNeg, Nat.reduceBEq]; rfl, ?_⟩
  have hR := refcheck_q C n2 (gC.mono (by omega))
  rw [hCH] at hR
  unfold Bk.val at hR
  refine JS_go (tbOk _) 99 fun x hx => ?_
  simp only [RN, ↓reduceIte, ↓get8, reduceCtorEq, Nat.reduceLT, Nat.reduceEqDiff, Nat.reduceAdd, Nat.reduceMul, Nat.reduceLeDiff, Nat.reduceSub, Int.reduceToNat, Int.reduceNeg, Nat.reduceBEq, TY] at hx
  subst hx
  refine ⟨_, _, rfl, by first | trivial | omega | (simp only [and_true, true_and]; omega), ?_⟩
  refine at_quiet hR (fun id b h => by simp only [RN, ↓reduceIte, ↓get8, reduceCtorEq, Nat.reduceLT, Nat.reduceEqDiff, Nat.reduceAdd, Nat.reduceMul, Nat.reduceLeDiff, Nat.reduceSub, Int.reduceToNat, Int.reduceNeg, Nat.reduceBEq, ne id b h, h]) ?_
  rintro o n3 ⟨rfl, hn3⟩
  refine ⟨_, by simp only [RN, ↓reduceIte, ↓get8, reduceCtorEq, Nat.reduceLT, Nat.reduceEqDiff, Nat.reduceAdd, Nat.reduceMul, Nat.reduceLeDiff, Nat.reduceSub, Int.reduceToNat, Int.reduceNeg, Nat.reduceBEq]; rfl, ?_⟩
  refine JS_go (tbOk _) 99 fun x hx => ?_
  simp only [RN, ↓reduceIte, ↓get8, reduceCtorEq, Nat.reduceLT, Nat.reduceEqDiff, Nat.reduceAdd, Nat.reduceMul, Nat.reduceLeDiff, Nat.reduceSub, Int.reduceToNat, Int.reduceNeg, Nat.reduceBEq, TY] at hx
  subst hx
  refine ⟨_, _, rfl, by first | trivial | omega | (simp only [and_true, true_and]; omega), ?_⟩
  refine at_quiet (awake_c n3) (fun _ _ h => by cases h) ?_
  rintro o n4 ⟨rfl, hn4⟩
  refine ⟨_, by simp only [RN, ↓reduceIte, ↓get8, reduceCtorEq, Nat.reduceLT, Nat.reduceEqDiff, Nat.reduceAdd, Nat.reduceMul, Nat.reduceLeDiff, Nat.reduceSub, Int.reduceToNat, Int.reduceNeg, Nat.reduceBEq]; rfl, ?_⟩
  refine JS_go (tbOk _) 99 fun x hx => ?_
  simp only [RN, ↓reduceIte, ↓get8, reduceCtorEq, Nat.reduceLT, Nat.reduceEqDiff, Nat.reduceAdd, Nat.reduceMul, Nat.reduceLeDiff, Nat.reduceSub, Int.reduceToNat, Int.reduceNeg, Nat.reduceBEq, TY] at hx
  subst hx
  refine ⟨_, _, rfl, by first | trivial | omega | (simp only [and_true, true_and]; omega), ?_⟩
  refine at_ret (ret_endK (by simp only [RN, ↓reduceIte, ↓get8, reduceCtorEq, Nat.reduceLT, Nat.reduceEqDiff, Nat.reduceAdd, Nat.reduceMul, Nat.reduceLeDiff, Nat.reduceSub, Int.reduceToNat, Int.reduceNeg, Nat.reduceBEq]; first | done | rfl) rfl trivial ⟨T0, fun id b h => ?_, ⟨rfl, by show nx ≤ n4; omega⟩, rfl⟩)
  simp only [RN, ↓reduceIte, ↓get8, reduceCtorEq, Nat.reduceLT, Nat.reduceEqDiff, Nat.reduceAdd, Nat.reduceMul, Nat.reduceLeDiff, Nat.reduceSub, Int.reduceToNat, Int.reduceNeg, Nat.reduceBEq, ne id b h, h]
end Go.Proofs.Ytoihmanhldcjhaa.Id
namespace Go.Proofs.Ytoihmanhldcjhaa.Id
open Go Go.RowKit Go.ChangeShapes Go.WideShapes
set_option linter.unusedSimpArgs false
set_option linter.unusedVariables false
section
variable {H : Type} {enc : TypeId × Value → H} {W : World}
theorem slice_open {t e : TypeId} {α : Type} (f : α → List Value) (m : Nat) (hm : 0 < m) (hf : ∀ x, (f x).length = m) (hfl : ∀ x, (f x).all flat1 = true) (hf1 : ∀ x, (f x).all (·.oneCell') = true) (leaves : List Leaf) (hg : gleaves Try.prog 6 e = some leaves) (hC : Try.prog.cellsOf e = m)
    (ht : Try.prog.underlying t = some (.slice e)) (hrow : ∀ cs : List Value, gflatOk enc Try.prog W 0 (fun _ => true) true leaves cs → ∃ x, f x = cs) {z : Value} {fuel : Nat} {x : DataW H × List MemPlace}
    {b0 : Nat} (hok : Cell.okWide Try.prog W .any b0 t z) (h : DataW.trod enc Try.prog W 0 (fun _ => true) true fuel t [z] = some x) :
    z = .slice none 0 0 ∨ ∃ (p : Place) (len cap : Nat) (l : List α), len ≤ cap ∧ l.length = cap ∧ (∀ (mm : Mp) id, mm id = some p → VR mm (.slice (some ⟨id, 0, none⟩) len cap) z) ∧ ∀ (mm : Mp) el, BR mm ⟨l.flatMap f, el, m, true, false⟩ p W := by
  rcases Go.Deep.open_slice ht h with ⟨h1, _⟩ | ⟨a, len, cap, m1, n, D, Pl, h1, hb, hl, hmx, hmm, hx, hi⟩
  · simp only [List.cons.injEq, and_true] at h1
    exact .inl h1
  · simp only [List.cons.injEq, and_true] at h1
    subst h1
    right
    rw [if_pos rfl] at hmm
    subst hmm
    have hk : len ≤ m1 ∧ (m1 : Int) ≤ IntKind.i64.max ∧ W.has Try.prog .any b0 a e m1 := by
      unfold Cell.okWide at hok
      rw [ht] at hok
      dsimp only at hok
      unfold Cell.ok at hok
      rw [ht] at hok
      exact hok
    obtain ⟨_, hsp, row, cells, hsh, _⟩ := hk.2.2
    obtain ⟨b, off, spot⟩ := a
    dsimp only at hsp hsh
    subst hsp
    obtain ⟨rc, el, fz, hW⟩ : ∃ rc el fz, W.heap[b]? = some (.cells rc el fz) := by
      unfold World.shape? at hsh
      split at hsh
      · rename_i c el fz hc; exact ⟨c, el, fz, hc⟩
      · cases hsh
    have hrows : ∀ i, i < m1 → ∃ x : α, ∀ j v, (f x)[j]? = some v → rc[off + (i * m + j)]? = some v := by
      intro i him
      obtain ⟨cs, hcs, htr⟩ := hi i him
      rw [hC] at hcs
      obtain ⟨_, hcl, hat⟩ := World.cells?_some hcs
      obtain ⟨x, hx⟩ := hrow cs (gflat_open 6 _ _ hg _ _ _ (by rw [hC]; exact hcl) htr)
      refine ⟨x, fun j v hv => ?_⟩
      rw [hx] at hv
      have hj : j < m := by
        have := (List.getElem?_eq_some_iff.1 hv).1
        omega
      have h2 := hat j hj
      rw [hv, Go.Deep.add_add] at h2
      unfold World.cell? at h2
      have hb2 : ((⟨b, off, none⟩ : Addr).add (i * m + j)).block = b := by unfold Addr.add; split <;> rfl
      have ho2 : ((⟨b, off, none⟩ : Addr).add (i * m + j)).off = off + (i * m + j) := by
        unfold Addr.add; split
        · rename_i h0; rw [h0]; rfl
        · rfl
      have hs2 : ((⟨b, off, none⟩ : Addr).add (i * m + j)).spot = none := by unfold Addr.add; split <;> rfl
      rw [hb2, hW] at h2
      dsimp only at h2
      rw [hs2, ho2] at h2
      simpa using h2
    obtain ⟨l, hll, hlp⟩ := choose_list m1 hrows
    have hcell : ∀ (n : Nat) (v : Value), (l.flatMap f)[n]? = some v → rc[off + n]? = some v := by
      intro n v hv
      obtain ⟨g1, g2⟩ := flat_idx f m hm hf l n v hv
      have := hlp (n / m) g1 (n % m) v g2
      rwa [Nat.mul_comm, Nat.div_add_mod] at this
    have hlen : (l.flatMap f).length = m1 * m := by rw [flat_len f m hf, hll]
    have hall : (l.flatMap f).all (·.oneCell') = true := by
      rw [List.all_eq_true]
      intro v hv
      obtain ⟨x, _, hx⟩ := List.mem_flatMap.1 hv
      exact (List.all_eq_true.1 (hf1 x)) v hx
    have hvr : ∀ (mm : Mp) (n : Nat) (v : Value), (l.flatMap f)[n]? = some v → VR mm v v := by
      intro mm n v hv
      obtain ⟨x, _, hx⟩ := List.mem_flatMap.1 (List.mem_of_getElem? hv)
      exact VR.of_flat1 ((List.all_eq_true.1 (hfl x)) v hx)
    by_cases hc0 : m1 = 0
    · subst hc0
      have hl0 : len = 0 := by omega
      subst hl0
      have hnil : l = [] := List.eq_nil_of_length_eq_zero hll
      subst hnil
      refine ⟨⟨b, 0, rc.size, 0, m, false⟩, 0, 0, [], Nat.le_refl _, rfl, fun mm id hmi => .se 0 off hmi, fun mm el2 => ⟨rfl, rfl, rfl, Nat.zero_le _, rfl, rc, el, fz, hW, (Nat.zero_add _).symm, nofun, fun i v hv => by simp at hv⟩⟩
    · have hsize : off + m1 * m ≤ rc.size := by
        have hlast : m1 * m - 1 < (l.flatMap f).length := by rw [hlen]; have := Nat.mul_pos (Nat.pos_of_ne_zero hc0) hm; omega
        have := hcell _ _ (List.getElem?_eq_getElem hlast)
        have := (Array.getElem?_eq_some_iff.1 this).1
        omega
      refine ⟨⟨b, off, rc.size - off, m1 * m, m, false⟩, len, m1, l, hk.1, hll, fun mm id hmi => ?_, fun mm el2 => ⟨hlen.symm, rfl, rfl, by show m1 * m ≤ rc.size - off; omega, hall, rc, el, fz, hW, by show rc.size = off + (rc.size - off); omega, nofun, fun i v hv => ⟨v, hcell i v hv, hvr mm i v hv⟩⟩⟩
      exact VR.sl (p := ⟨b, off, rc.size - off, m1 * m, m, false⟩) 0 len m1 m1 hmi (.inl rfl) (by show 0 + m1 * m ≤ rc.size - off; omega) hk.1
theorem kind_row (cs : List Value) (h : gflatOk enc Try.prog W 0 (fun _ => true) true [.int .i64, .int .i64, .int .i64, .int .i64, .int .i64, .int .i64, .int .i64, .int .i64, .int .i64, .int .i64, .int .i64, .int .i64, .int .i64, .int .i64, .int .i64, .int .i64, .int .i64, .int .i64, .int .i64, .int .i64] cs) : ∃ k, Kd.cells k = cs := by
  rcases cs with _ | ⟨u0, cs⟩
  · exact h.elim
  obtain ⟨⟨z0, rfl, _⟩, h⟩ := h
  rcases cs with _ | ⟨u1, cs⟩
  · exact h.elim
  obtain ⟨⟨z1, rfl, _⟩, h⟩ := h
  rcases cs with _ | ⟨u2, cs⟩
  · exact h.elim
  obtain ⟨⟨z2, rfl, _⟩, h⟩ := h
  rcases cs with _ | ⟨u3, cs⟩
  · exact h.elim
  obtain ⟨⟨z3, rfl, _⟩, h⟩ := h
  rcases cs with _ | ⟨u4, cs⟩
  · exact h.elim
  obtain ⟨⟨z4, rfl, _⟩, h⟩ := h
  rcases cs with _ | ⟨u5, cs⟩
  · exact h.elim
  obtain ⟨⟨z5, rfl, _⟩, h⟩ := h
  rcases cs with _ | ⟨u6, cs⟩
  · exact h.elim
  obtain ⟨⟨z6, rfl, _⟩, h⟩ := h
  rcases cs with _ | ⟨u7, cs⟩
  · exact h.elim
  obtain ⟨⟨z7, rfl, _⟩, h⟩ := h
  rcases cs with _ | ⟨u8, cs⟩
  · exact h.elim
  obtain ⟨⟨z8, rfl, _⟩, h⟩ := h
  rcases cs with _ | ⟨u9, cs⟩
  · exact h.elim
  obtain ⟨⟨z9, rfl, _⟩, h⟩ := h
  rcases cs with _ | ⟨u10, cs⟩
  · exact h.elim
  obtain ⟨⟨z10, rfl, _⟩, h⟩ := h
  rcases cs with _ | ⟨u11, cs⟩
  · exact h.elim
  obtain ⟨⟨z11, rfl, _⟩, h⟩ := h
  rcases cs with _ | ⟨u12, cs⟩
  · exact h.elim
  obtain ⟨⟨z12, rfl, _⟩, h⟩ := h
  rcases cs with _ | ⟨u13, cs⟩
  · exact h.elim
  obtain ⟨⟨z13, rfl, _⟩, h⟩ := h
  rcases cs with _ | ⟨u14, cs⟩
  · exact h.elim
  obtain ⟨⟨z14, rfl, _⟩, h⟩ := h
  rcases cs with _ | ⟨u15, cs⟩
  · exact h.elim
  obtain ⟨⟨z15, rfl, _⟩, h⟩ := h
  rcases cs with _ | ⟨u16, cs⟩
  · exact h.elim
  obtain ⟨⟨z16, rfl, _⟩, h⟩ := h
  rcases cs with _ | ⟨u17, cs⟩
  · exact h.elim
  obtain ⟨⟨z17, rfl, _⟩, h⟩ := h
  rcases cs with _ | ⟨u18, cs⟩
  · exact h.elim
  obtain ⟨⟨z18, rfl, _⟩, h⟩ := h
  rcases cs with _ | ⟨u19, cs⟩
  · exact h.elim
  obtain ⟨⟨z19, rfl, _⟩, h⟩ := h
  rcases cs with _ | ⟨v, cs⟩
  · exact ⟨⟨z0, z1, z2, z3, z4, z5, z6, z7, z8, z9, z10, z11, z12, z13, z14, z15, z16, z17, z18, z19⟩, rfl⟩
  · exact h.elim
theorem weapon_row (cs : List Value) (h : gflatOk enc Try.prog W 0 (fun _ => true) true [.int .i64, .int .i64, .int .i64, .int .i64, .int .i64, .bool] cs) : ∃ k, Wp.cells k = cs := by
  rcases cs with _ | ⟨u0, cs⟩
  · exact h.elim
  obtain ⟨⟨z0, rfl, _⟩, h⟩ := h
  rcases cs with _ | ⟨u1, cs⟩
  · exact h.elim
  obtain ⟨⟨z1, rfl, _⟩, h⟩ := h
  rcases cs with _ | ⟨u2, cs⟩
  · exact h.elim
  obtain ⟨⟨z2, rfl, _⟩, h⟩ := h
  rcases cs with _ | ⟨u3, cs⟩
  · exact h.elim
  obtain ⟨⟨z3, rfl, _⟩, h⟩ := h
  rcases cs with _ | ⟨u4, cs⟩
  · exact h.elim
  obtain ⟨⟨z4, rfl, _⟩, h⟩ := h
  rcases cs with _ | ⟨u5, cs⟩
  · exact h.elim
  obtain ⟨⟨z5, rfl⟩, h⟩ := h
  rcases cs with _ | ⟨v, cs⟩
  · exact ⟨⟨z0, z1, z2, z3, z4, z5⟩, rfl⟩
  · exact h.elim
end
end Go.Proofs.Ytoihmanhldcjhaa.Id
namespace Go.Proofs.Ytoihmanhldcjhaa.Id
open Go Go.RowKit Go.ChangeShapes Go.WideShapes
set_option linter.unusedSimpArgs false
set_option linter.unusedVariables false
structure Opened {α : Type} (f : α → List Value) (m : Nat) (W : World) (z : Value) (op : Option Place) (len cap : Nat) (l : List α) : Prop where
  hl : len ≤ cap
  no : op = none → len = 0 ∧ z = .slice none 0 0
  rows : ∀ p, op = some p → l.length = cap
  vr : ∀ p, op = some p → ∀ (mm : Mp) id, mm id = some p → VR mm (.slice (some ⟨id, 0, none⟩) len cap) z
  br : ∀ p, op = some p → ∀ (mm : Mp) el, BR mm ⟨l.flatMap f, el, m, true, false⟩ p W
section
variable {H : Type} {enc : TypeId × Value → H} {W : World}
theorem opened_of {α : Type} {f : α → List Value} {m : Nat} {z : Value} (h : z = .slice none 0 0 ∨ ∃ (p : Place) (len cap : Nat) (l : List α), len ≤ cap ∧ l.length = cap ∧ (∀ (mm : Mp) id, mm id = some p → VR mm (.slice (some ⟨id, 0, none⟩) len cap) z) ∧ ∀ (mm : Mp) el, BR mm ⟨l.flatMap f, el, m, true, false⟩ p W) :
    ∃ op len cap l, Opened f m W z op len cap l := by
  rcases h with h | ⟨p, len, cap, l, h1, h2, h3, h4⟩
  · exact ⟨none, 0, 0, [], Nat.le_refl _, fun _ => ⟨rfl, h⟩, nofun, nofun, nofun⟩
  · exact ⟨some p, len, cap, l, h1, nofun, fun q hq => h2, fun q hq => by cases hq; exact h3, fun q hq => by cases hq; exact h4⟩
theorem open_kinds {z : Value} {b0 fuel : Nat} {x : DataW H × List MemPlace} (hok : Cell.okWide Try.prog W .any b0 23 z) (h : DataW.trod enc Try.prog W 0 (fun _ => true) true fuel 23 [z] = some x) : ∃ op len cap l, Opened Kd.cells 20 W z op len cap l :=
  opened_of (slice_open Kd.cells 20 (by omega) (fun _ => rfl) (fun _ => rfl) (fun _ => rfl) _ (by kernel_rfl) (by kernel_rfl) Try.underlying23 kind_row hok h)
theorem open_weapons {z : Value} {b0 fuel : Nat} {x : DataW H × List MemPlace} (hok : Cell.okWide Try.prog W .any b0 24 z) (h : DataW.trod enc Try.prog W 0 (fun _ => true) true fuel 24 [z] = some x) : ∃ op len cap l, Opened Wp.cells 6 W z op len cap l :=
  opened_of (slice_open Wp.cells 6 (by omega) (fun _ => rfl) (fun _ => rfl) (fun _ => rfl) _ (by kernel_rfl) (by kernel_rfl) Try.underlying24 weapon_row hok h)
end
theorem book_cells {W : World} {b0 : Nat} {z0 z1 : Value} (h : Value.okWide Try.prog W .any b0 26 (.agg #[z0, z1])) : Cell.okWide Try.prog W .any b0 23 z0 ∧ Cell.okWide Try.prog W .any b0 24 z1 := by
  unfold Value.okWide at h
  rw [Try.underlying26] at h
  obtain ⟨cs, e, _, ts, hts, _, hall⟩ := h
  cases e
  have e2 : Try.prog.cellTypes Try.prog.depth 26 = some [23, 24] := by kernel_rfl
  rw [e2] at hts
  cases hts
  obtain ⟨u0, g0, k0⟩ := hall 0 z0 rfl
  obtain ⟨u1, g1, k1⟩ := hall 1 z1 rfl
  cases g0; cases g1
  exact ⟨k0, k1⟩
def argBk (ok : Option Place) (lenk capk : Nat) (lk : List Kd) (ow : Option Place) (lenw capw : Nat) (lw : List Wp) : Bk := ⟨lk.take lenk, lk.drop lenk, lw.take lenw, lw.drop lenw, ok.map fun _ => 0, capk, ow.map fun _ => 1, capw, true, false⟩
section
variable {W : World} {z0 z1 : Value} {ok ow : Option Place} {lenk capk lenw capw : Nat} {lk : List Kd} {lw : List Wp} (hk : Opened Kd.cells 20 W z0 ok lenk capk lk) (hw : Opened Wp.cells 6 W z1 ow lenw capw lw)
include hk hw
theorem argBk_good {nx : Nat} (h2 : 2 ≤ nx) : (argBk ok lenk capk lk ow lenw capw lw).G0 nx := by
  refine ⟨fun h => ?_, fun h => ?_, fun b h => ?_, fun b h => ?_, fun b c h1 h2 => ?_, ?_, ?_⟩
  · cases ok with
    | none => show lk.take lenk = []; rw [(hk.no rfl).1]; rfl
    | some p => cases h
  · cases ow with
    | none => show lw.take lenw = []; rw [(hw.no rfl).1]; rfl
    | some p => cases h
  · cases ok with
    | none => cases h
    | some p => cases h; show 0 < nx; omega
  · cases ow with
    | none => cases h
    | some p => cases h; show 1 < nx; omega
  · cases ok with
    | none => cases h1
    | some p => cases ow with
      | none => cases h2
      | some q => cases h1; cases h2; show ¬ (1 : Nat) = 0; decide
  · show (lk.take lenk).length ≤ capk; rw [List.length_take]; have := hk.hl; omega
  · show (lw.take lenw).length ≤ capw; rw [List.length_take]; have := hw.hl; omega
theorem argBk_has {mm : Mp} (m0 : mm 0 = ok) (m1 : mm 1 = ow) : ∀ id blk, look id (argBk ok lenk capk lk ow lenw capw lw).H = some blk → blk.ro = true ∧ id < 2 ∧ ∃ p, mm id = some p ∧ BR mm blk p W := by
  intro id blk h
  unfold Bk.H argBk at h
  dsimp only at h
  rw [List.take_append_drop, List.take_append_drop, look_append] at h
  cases ok with
  | none =>
    cases ow with
    | none => cases h
    | some q =>
      simp only [Option.map, kblk, wpblk] at h
      rw [show look id ([] : Hp) = none from rfl] at h
      dsimp only at h
      rw [look_cons] at h
      split at h
      · rename_i e; subst e; cases h; exact ⟨rfl, by omega, q, m1, hw.br q rfl mm 51⟩
      · cases h
  | some p =>
    simp only [Option.map, kblk] at h
    rw [look_cons] at h
    by_cases h0 : id = 0
    · subst h0
      rw [if_pos rfl] at h
      cases h
      exact ⟨rfl, by omega, p, m0, hk.br p rfl mm 46⟩
    · rw [if_neg h0, show look id ([] : Hp) = none from rfl] at h
      dsimp only at h
      cases ow with
      | none => cases h
      | some q =>
        simp only [wpblk] at h
        rw [look_cons] at h
        split at h
        · rename_i e; subst e; cases h; exact ⟨rfl, by omega, q, m1, hw.br q rfl mm 51⟩
        · cases h
theorem argBk_vr {mm : Mp} (m0 : mm 0 = ok) (m1 : mm 1 = ow) : VR mm (argBk ok lenk capk lk ow lenw capw lw).val (.agg #[z0, z1]) := by
  unfold Bk.val argBk
  dsimp only
  have ek : ∀ p, ok = some p → (lk.take lenk).length = lenk := fun p h => by rw [List.length_take, hk.rows p h]; have := hk.hl; omega
  have ew : ∀ p, ow = some p → (lw.take lenw).length = lenw := fun p h => by rw [List.length_take, hw.rows p h]; have := hw.hl; omega
  refine .agg (.cons ?_ (.cons ?_ .nil)) (by cases ok <;> cases ow <;> rfl)
  · cases ok with
    | none => rw [(hk.no rfl).2]; exact .snil
    | some p => simp only [Option.map, slv]; rw [ek p rfl]; exact hk.vr p rfl mm 0 m0
  · cases ow with
    | none => rw [(hw.no rfl).2]; exact .snil
    | some p => simp only [Option.map, slv]; rw [ew p rfl]; exact hw.vr p rfl mm 1 m1
end
theorem book_open {H : Type} {enc : TypeId × Value → H} {W : World} {b0 : Nat} {z0 z1 : Value} (h : Value.okWide Try.prog W .any b0 26 (.agg #[z0, z1])) (h0 : ∃ m x, DataW.trod enc Try.prog W 0 (fun _ => true) true m 23 [z0] = some x) (h1 : ∃ m x, DataW.trod enc Try.prog W 0 (fun _ => true) true m 24 [z1] = some x) :
    ∃ (B : Bk) (mm : Mp), B.G0 2 ∧ HR mm B.H 2 W ∧ VRs mm [B.val] (#[Value.agg #[z0, z1]] : Array Value).toList ∧ ∀ id blk, look id B.H = some blk → blk.ro = true := by
  obtain ⟨k0, k1⟩ := book_cells h
  obtain ⟨f0, x0, t0⟩ := h0
  obtain ⟨f1, x1, t1⟩ := h1
  obtain ⟨ok, lenk, capk, lk, hk⟩ := open_kinds k0 t0
  obtain ⟨ow, lenw, capw, lw, hw⟩ := open_weapons k1 t1
  refine ⟨argBk ok lenk capk lk ow lenw capw lw, fun id => if id = 0 then ok else if id = 1 then ow else none, argBk_good hk hw (Nat.le_refl _), ⟨?_, ?_, ?_⟩, ?_, ?_⟩
  · exact fun id blk e => (argBk_has hk hw (mm := fun id => if id = 0 then ok else if id = 1 then ow else none) rfl rfl id blk e).2.2
  · intro id h
    show (if id = 0 then ok else if id = 1 then ow else none) = none
    rw [if_neg (by omega), if_neg (by omega)]
  · intro i j bi bj pi pj _ e1 _ _ _ hro
    rw [(argBk_has hk hw (mm := fun id => if id = 0 then ok else if id = 1 then ow else none) rfl rfl i bi e1).1] at hro
    cases hro
  · exact .cons (argBk_vr hk hw rfl rfl) .nil
  · exact fun id blk e => (argBk_has hk hw (mm := fun id => if id = 0 then ok else if id = 1 then ow else none) rfl rfl id blk e).1
end Go.Proofs.Ytoihmanhldcjhaa.Id
namespace Go.Proofs.Ytoihmanhldcjhaa.KindsChecks
open Go Go.RowKit Go.ChangeShapes Go.WideShapes Go.ChangeAt Go.Proofs.Ytoihmanhldcjhaa.Id
set_option linter.unusedVariables false
set_option linter.unusedSimpArgs false
theorem own : ownKnob Try.prog.godebug = none := by kernel_rfl
theorem walk {H : Type} {enc : TypeId × Value → H} {b0 : Nat} {W0 : World} (z0 z1 : Value) (h : Value.okWide Try.prog W0 .any b0 26 (.agg #[z0, z1])) (h0 : ∃ m x, DataW.trod enc Try.prog W0 0 (fun _ => true) true m 23 [z0] = some x) (h1 : ∃ m x, DataW.trod enc Try.prog W0 0 (fun _ => true) true m 24 [z1] = some x) (W : World) (e0 : W0 = W) : Calls Try.prog 4 #[.agg #[z0, z1]] W fun e W' => e = .returned (.bool true) ∧ Below W.heap.size W W' := by
  subst e0
  obtain ⟨B, mm, g, hh, hv, hro⟩ := book_open h h0 h1
  exact law_calls (checks_c B 2 g) Try.func4 (by decide) rfl hro hh hv
theorem laidOut : laidOutB Try.prog = true := by kernel_rfl
theorem cells0 {H : Type} {enc : TypeId × Value → H} {w : World} {base : Nat} {spare : Nat → Bool} {held : Bool} {cs : Array Value} (h : gflatOk enc Try.prog w base spare held [.other 23, .other 24] cs.toList) : ∃ (z0 : Value) (z1 : Value), cs = #[z0, z1] ∧ (∃ m x, DataW.trod enc Try.prog w base spare held m 23 [z0] = some x) ∧ (∃ m x, DataW.trod enc Try.prog w base spare held m 24 [z1] = some x) := by
  obtain ⟨l⟩ := cs
  replace h : gflatOk enc Try.prog w base spare held [.other 23, .other 24] l := h
  rcases l with _ | ⟨z0, l⟩
  · exact h.elim
  obtain ⟨w0, h⟩ := h
  rcases l with _ | ⟨z1, l⟩
  · exact h.elim
  obtain ⟨w1, h⟩ := h
  rcases l with _ | ⟨v, l⟩
  · exact ⟨z0, z1, rfl, w0, w1⟩
  · exact h.elim
set_option maxRecDepth 100000 in
theorem lifted (os : Os) (started : os.Started) (H : Type) (enc : TypeId × Value → H) :
    ReturnsInHanded {} Try.checked os 4 .any (Rows.kindsChecksSpec.pre6 enc Try.prog Try.f4 Rows.kindsChecksRow.domain false) (Rows.kindsChecksSpec.post enc Try.prog Try.f4 false true false false) := by
  refine returnsInHanded_of_change_sized (C := Try.checked) own started (by kernel_rfl) Try.func4
    (ChangeSpec.witness6 (enc := enc) (C := Try.checked) false ⟨#[], #[.agg #[.slice none 0 0, .slice none 0 0]], []⟩ 8 (by kernel_rfl) (by kernel_rfl) (by kernel_rfl) (by kernel_rfl)) ?_
  intro W base args ds gs before hval0 hW hcnd hsz0 _
  have hval : ∀ (j : Nat) t v, Try.f4.params[j]? = some t → args[j]? = some v → Value.okWide Try.prog W .any base t v := hval0
  have hW' := hW
  obtain ⟨p, q, hA0, hV, rfl, hfz, hnd⟩ := hW
  have hA : DataW.TrodAll enc Try.prog W 0 (fun _ => true) true Try.f4.params.toList args.toList ds p := hA0
  rw [Try.params4] at hA hval
  obtain ⟨v0, vs0, d0, ds0, p0, q0, hargs, rfl, rfl, h0, r0⟩ := trodAll_cons hA
  obtain ⟨rfl, rfl, rfl⟩ := trodAll_nil r0
  obtain rfl : args = #[v0] := by cases args; simp_all
  obtain ⟨rfl, rfl⟩ := trodVars_none hV
  have k0 := h0
  have lt0 : ∀ x ∈ p0, x.block < W.heap.size := by obtain ⟨m, hm⟩ := k0; exact DataW.trod_lt m _ _ _ hm
  obtain ⟨cs0, rfl, hf0⟩ := gopen_flat (n := 6) (by kernel_rfl) Try.underlying26 (hval 0 26 v0 rfl rfl) h0
  obtain ⟨a0_0, a0_1, rfl, w0_0, w0_1⟩ := cells0 hf0
  clear hA0 hval0
  refine (walk a0_0 a0_1 (hval 0 26 _ rfl rfl) w0_0 w0_1 W rfl).mono fun e W' ⟨he, hb⟩ => ?_
  subst he
  exact ⟨_, rfl, _, _, _, [], _, [], hW', trodAll_cons_mk (shut_bool Try.underlying4 _) trodAll_mk0, (trodAll_cons_mk (Below.trod laidOut (by kernel_rfl) (of_decide_eq_true (by kernel_rfl)) k0 hb lt0) trodAll_mk0), rfl, hb.frame _, fun h => by cases h⟩
theorem proved : Rows.KindsChecksSaid :=
  OpenClaim.holds_of_wide 4 Try.f4 rfl rfl rfl rfl rfl rfl rfl ⟨rfl, rfl, rfl, rfl, rfl⟩ rfl rfl rfl rfl rfl (by kernel_rfl) Try.func4 (by kernel_rfl)
    (of_decide_eq_true (by kernel_rfl)) (by unfold Func.isWrapper; first | (rw [if_pos (by decide +kernel)]; kernel_rfl) | (rw [if_neg (by decide +kernel)]; exact ⟨rfl, rfl⟩))
    (fun os started H enc _ => lifted os started H enc)
end Go.Proofs.Ytoihmanhldcjhaa.KindsChecks
