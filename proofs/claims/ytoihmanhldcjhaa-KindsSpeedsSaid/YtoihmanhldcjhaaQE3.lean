/- What the claim's proof leans on: texts of this claim, laid together. -/
import Derived.Test.YtoihmanhldcjhaaQE2
import Derived.Test.YtoihmanhldcjhaaRows
import Derived.SevenTiedAt
import Derived.SizedLaws
import Derived.OpenShut
namespace Go.Proofs.Ytoihmanhldcjhaa.Id
open Go Go.Proofs.Ytoihmanhldcjhaa.Rl
set_option linter.unusedSimpArgs false
set_option linter.unusedVariables false
def kdAt (bs : List UInt8) (at_ : Nat) (x : Int × Int) : Kd := ⟨le ((bs.drop (at_ + 0)).take 1), le ((bs.drop (at_ + 1)).take 2), x.1, le ((bs.drop (at_ + 3)).take 2), le ((bs.drop (at_ + 17)).take 1), le ((bs.drop (at_ + 18)).take 1), le ((bs.drop (at_ + 19)).take 1), le ((bs.drop (at_ + 20)).take 1), le ((bs.drop (at_ + 5)).take 2), le ((bs.drop (at_ + 7)).take 2), le ((bs.drop (at_ + 9)).take 2), le ((bs.drop (at_ + 21)).take 1), le ((bs.drop (at_ + 22)).take 1), le ((bs.drop (at_ + 23)).take 1), le ((bs.drop (at_ + 11)).take 2), le ((bs.drop (at_ + 13)).take 2), le ((bs.drop (at_ + 24)).take 1), le ((bs.drop (at_ + 25)).take 1), le ((bs.drop (at_ + 26)).take 1), le ((bs.drop (at_ + 15)).take 2)⟩
set_option maxRecDepth 100000 in
set_option maxHeartbeats 4000000 in
theorem rkind_c (bs : List UInt8) (ln cp : Nat) (at_ : Nat) (r b : Nat) (nx : Nat) (ro loose : Bool) (ha : at_ + 35 ≤ ln) (hl : ln ≤ bs.length ∧ ln ≤ 1000000) (hbr : ¬ b = r) (hrn : r < nx) (hbn : b < nx) (x : Int × Int) (hx : ofS (le ((bs.drop (at_ + 27)).take 8)) = x) :
    CallW Try.prog 31 [.pointer (some ⟨r, 0, none⟩)] (rdH bs ln cp at_ r b ro loose) nx fun o F' nx' => o = okOr x.2 ((at_ + 27 : Nat) : Int) (.agg (kdAt bs at_ x).cells.toArray) ∧ F' = rdH bs ln cp (at_ + 35) r b ro loose ∧ nx' = nx + 2 := by
  have hrb : ¬ r = b := fun e => hbr e.symm
  have hr0 : ¬ r = nx := by omega
  have hr1 : ∀ i, ¬ r = nx + i := by intro i; omega
  have hb0 : ¬ b = nx := by omega
  have hb1 : ∀ i, ¬ b = nx + i := by intro i; omega
  have hr2 : ¬ nx = r := by omega
  have hr3 : ∀ i, ¬ nx + i = r := by intro i; omega
  have hb2 : ¬ nx = b := by omega
  have hb3 : ∀ i, ¬ nx + i = b := by intro i; omega
  unfold rdH
  refine CallW_go (tbOk _) 65 [.cell 2 46] Try.func31 rfl (by decide) rfl rfl (by simp) fun hlt => ?_
  simp only [params, Nat.zero_add, Nat.reduceAdd]
  have h0 := one_c bs ln cp (at_ + 0) r b (nx + 1) ro loose (by omega) hl hbr
  unfold rdH at h0
  refine JS_go (tbOk _) 99 fun x hx => ?_
  simp only [RN, ↓reduceIte, ↓get8, reduceCtorEq, Nat.reduceLT, Nat.reduceEqDiff, Nat.reduceAdd, Nat.reduceMul, Nat.reduceLeDiff, Nat.reduceSub, Int.reduceToNat, Int.reduceNeg, Nat.reduceBEq, TY, hbr, hr0, hr1, hb0, hb1, hr2, hr3, hb2, hb3, hrb, Nat.add_assoc, Nat.left_eq_add, Nat.add_eq_left, Nat.add_left_cancel_iff] at hx
  subst hx
  refine ⟨_, _, rfl, by first | trivial | omega | (simp only [and_true, true_and]; omega), ?_⟩
  refine at_callK (h0) (by simp only [RN, ↓reduceIte, ↓get8, reduceCtorEq, Nat.reduceLT, Nat.reduceEqDiff, Nat.reduceAdd, Nat.reduceMul, Nat.reduceLeDiff, Nat.reduceSub, Int.reduceToNat, Int.reduceNeg, Nat.reduceBEq, hbr, hr0, hr1, hb0, hb1, hr2, hr3, hb2, hb3, hrb, Nat.add_assoc, Nat.left_eq_add, Nat.add_eq_left, Nat.add_left_cancel_iff]; first | done | trivial) (by simp only [RN, ↓reduceIte, ↓get8, reduceCtorEq, Nat.reduceLT, Nat.reduceEqDiff, Nat.reduceAdd, Nat.reduceMul, Nat.reduceLeDiff, Nat.reduceSub, Int.reduceToNat, Int.reduceNeg, Nat.reduceBEq, hbr, hr0, hr1, hb0, hb1, hr2, hr3, hb2, hb3, hrb, Nat.add_assoc, Nat.left_eq_add, Nat.add_eq_left, Nat.add_left_cancel_iff]; rfl) ?_
  have h1 := two_c bs ln cp (at_ + 1) r b (nx + 2) ro loose (by omega) hl hbr
  unfold rdH at h1
  refine JS_go (tbOk _) 99 fun x hx => ?_
  simp only [RN, ↓reduceIte, ↓get8, reduceCtorEq, Nat.reduceLT, Nat.reduceEqDiff, Nat.reduceAdd, Nat.reduceMul, Nat.reduceLeDiff, Nat.reduceSub, Int.reduceToNat, Int.reduceNeg, Nat.reduceBEq, TY, hbr, hr0, hr1, hb0, hb1, hr2, hr3, hb2, hb3, hrb, Nat.add_assoc, Nat.left_eq_add, Nat.add_eq_left, Nat.add_left_cancel_iff] at hx
  subst hx
  refine ⟨_, _, rfl, by first | trivial | omega | (simp only [and_true, true_and]; omega), ?_⟩
  refine at_callK (h1) (by simp only [RN, ↓reduceIte, ↓get8, reduceCtorEq, Nat.reduceLT, Nat.reduceEqDiff, Nat.reduceAdd, Nat.reduceMul, Nat.reduceLeDiff, Nat.reduceSub, Int.reduceToNat, Int.reduceNeg, Nat.reduceBEq, hbr, hr0, hr1, hb0, hb1, hr2, hr3, hb2, hb3, hrb, Nat.add_assoc, Nat.left_eq_add, Nat.add_eq_left, Nat.add_left_cancel_iff]; first | done | trivial) (by simp only [RN, ↓reduceIte, ↓get8, reduceCtorEq, Nat.reduceLT, Nat.reduceEqDiff, Nat.reduceAdd, Nat.reduceMul, Nat.reduceLeDiff, Nat.reduceSub, Int.reduceToNat, Int.reduceNeg, Nat.reduceBEq, hbr, hr0, hr1, hb0, hb1, hr2, hr3, hb2, hb3, hrb, Nat.add_assoc, Nat.left_eq_add, Nat.add_eq_left, Nat.add_left_cancel_iff]; rfl) ?_
  have h2 := two_c bs ln cp (at_ + 3) r b (nx + 2) ro loose (by omega) hl hbr
  unfold rdH at h2
  refine JS_go (tbOk _) 99 fun x hx => ?_
  simp only [RN, ↓reduceIte, ↓get8, reduceCtorEq, Nat.reduceLT, Nat.reduceEqDiff, Nat.reduceAdd, Nat.reduceMul, Nat.reduceLeDiff, Nat.reduceSub, Int.reduceToNat, Int.reduceNeg, Nat.reduceBEq, TY, hbr, hr0, hr1, hb0, hb1, hr2, hr3, hb2, hb3, hrb, Nat.add_assoc, Nat.left_eq_add, Nat.add_eq_left, Nat.add_left_cancel_iff] at hx
  subst hx
  refine ⟨_, _, rfl, by first | trivial | omega | (simp only [and_true, true_and]; omega), ?_⟩
  refine at_callK (h2) (by simp only [RN, ↓reduceIte, ↓get8, reduceCtorEq, Nat.reduceLT, Nat.reduceEqDiff, Nat.reduceAdd, Nat.reduceMul, Nat.reduceLeDiff, Nat.reduceSub, Int.reduceToNat, Int.reduceNeg, Nat.reduceBEq, hbr, hr0, hr1, hb0, hb1, hr2, hr3, hb2, hb3, hrb, Nat.add_assoc, Nat.left_eq_add, Nat.add_eq_left, Nat.add_left_cancel_iff]; first | done | trivial) (by simp only [RN, ↓reduceIte, ↓get8, reduceCtorEq, Nat.reduceLT, Nat.reduceEqDiff, Nat.reduceAdd, Nat.reduceMul, Nat.reduceLeDiff, Nat.reduceSub, Int.reduceToNat, Int.reduceNeg, Nat.reduceBEq, hbr, hr0, hr1, hb0, hb1, hr2, hr3, hb2, hb3, hrb, Nat.add_assoc, Nat.left_eq_add, Nat.add_eq_left, Nat.add_left_cancel_iff]; rfl) ?_
  have h3 := two_c bs ln cp (at_ + 5) r b (nx + 2) ro loose (by omega) hl hbr
  unfold rdH at h3
  refine JS_go (tbOk _) 99 fun x hx => ?_
  simp only [RN, ↓reduceIte, ↓get8, reduceCtorEq, Nat.reduceLT, Nat.reduceEqDiff, Nat.reduceAdd, Nat.reduceMul, Nat.reduceLeDiff, Nat.reduceSub, Int.reduceToNat, Int.reduceNeg, Nat.reduceBEq, TY, hbr, hr0, hr1, hb0, hb1, hr2, hr3, hb2, hb3, hrb, Nat.add_assoc, Nat.left_eq_add, Nat.add_eq_left, Nat.add_left_cancel_iff] at hx
  subst hx
  refine ⟨_, _, rfl, by first | trivial | omega | (simp only [and_true, true_and]; omega), ?_⟩
  refine at_callK (h3) (by simp only [RN, ↓reduceIte, ↓get8, reduceCtorEq, Nat.reduceLT, Nat.reduceEqDiff, Nat.reduceAdd, Nat.reduceMul, Nat.reduceLeDiff, Nat.reduceSub, Int.reduceToNat, Int.reduceNeg, Nat.reduceBEq, hbr, hr0, hr1, hb0, hb1, hr2, hr3, hb2, hb3, hrb, Nat.add_assoc, Nat.left_eq_add, Nat.add_eq_left, Nat.add_left_cancel_iff]; first | done | trivial) (by simp only [RN, ↓reduceIte, ↓get8, reduceCtorEq, Nat.reduceLT, Nat.reduceEqDiff, Nat.reduceAdd, Nat.reduceMul, Nat.reduceLeDiff, Nat.reduceSub, Int.reduceToNat, Int.reduceNeg, Nat.reduceBEq, hbr, hr0, hr1, hb0, hb1, hr2, hr3, hb2, hb3, hrb, Nat.add_assoc, Nat.left_eq_add, Nat.add_eq_left, Nat.add_left_cancel_iff]; rfl) ?_
  have h4 := two_c bs ln cp (at_ + 7) r b (nx + 2) ro loose (by omega) hl hbr
  unfold rdH at h4
  refine JS_go (tbOk _) 99 fun x hx => ?_
  simp only [RN, ↓reduceIte, ↓get8, reduceCtorEq, Nat.reduceLT, Nat.reduceEqDiff, Nat.reduceAdd, Nat.reduceMul, Nat.reduceLeDiff, Nat.reduceSub, Int.reduceToNat, Int.reduceNeg, Nat.reduceBEq, TY, hbr, hr0, hr1, hb0, hb1, hr2, hr3, hb2, hb3, hrb, Nat.add_assoc, Nat.left_eq_add, Nat.add_eq_left, Nat.add_left_cancel_iff] at hx
  subst hx
  refine ⟨_, _, rfl, by first | trivial | omega | (simp only [and_true, true_and]; omega), ?_⟩
  refine at_callK (h4) (by simp only [RN, ↓reduceIte, ↓get8, reduceCtorEq, Nat.reduceLT, Nat.reduceEqDiff, Nat.reduceAdd, Nat.reduceMul, Nat.reduceLeDiff, Nat.reduceSub, Int.reduceToNat, Int.reduceNeg, Nat.reduceBEq, hbr, hr0, hr1, hb0, hb1, hr2, hr3, hb2, hb3, hrb, Nat.add_assoc, Nat.left_eq_add, Nat.add_eq_left, Nat.add_left_cancel_iff]; first | done | trivial) (by simp only [RN, ↓reduceIte, ↓get8, reduceCtorEq, Nat.reduceLT, Nat.reduceEqDiff, Nat.reduceAdd, Nat.reduceMul, Nat.reduceLeDiff, Nat.reduceSub, Int.reduceToNat, Int.reduceNeg, Nat.reduceBEq, hbr, hr0, hr1, hb0, hb1, hr2, hr3, hb2, hb3, hrb, Nat.add_assoc, Nat.left_eq_add, Nat.add_eq_left, Nat.add_left_cancel_iff]; rfl) ?_
  have h5 := two_c bs ln cp (at_ + 9) r b (nx + 2) ro loose (by omega) hl hbr
  unfold rdH at h5
  refine JS_go (tbOk _) 99 fun x hx => ?_
  simp only [RN, ↓reduceIte, ↓get8, reduceCtorEq, Nat.reduceLT, Nat.reduceEqDiff, Nat.reduceAdd, Nat.reduceMul, Nat.reduceLeDiff, Nat.reduceSub, Int.reduceToNat, Int.reduceNeg, Nat.reduceBEq, TY, hbr, hr0, hr1, hb0, hb1, hr2, hr3, hb2, hb3, hrb, Nat.add_assoc, Nat.left_eq_add, Nat.add_eq_left, Nat.add_left_cancel_iff] at hx
  subst hx
  refine ⟨_, _, rfl, by first | trivial | omega | (simp only [and_true, true_and]; omega), ?_⟩
  refine at_callK (h5) (by simp only [RN, ↓reduceIte, ↓get8, reduceCtorEq, Nat.reduceLT, Nat.reduceEqDiff, Nat.reduceAdd, Nat.reduceMul, Nat.reduceLeDiff, Nat.reduceSub, Int.reduceToNat, Int.reduceNeg, Nat.reduceBEq, hbr, hr0, hr1, hb0, hb1, hr2, hr3, hb2, hb3, hrb, Nat.add_assoc, Nat.left_eq_add, Nat.add_eq_left, Nat.add_left_cancel_iff]; first | done | trivial) (by simp only [RN, ↓reduceIte, ↓get8, reduceCtorEq, Nat.reduceLT, Nat.reduceEqDiff, Nat.reduceAdd, Nat.reduceMul, Nat.reduceLeDiff, Nat.reduceSub, Int.reduceToNat, Int.reduceNeg, Nat.reduceBEq, hbr, hr0, hr1, hb0, hb1, hr2, hr3, hb2, hb3, hrb, Nat.add_assoc, Nat.left_eq_add, Nat.add_eq_left, Nat.add_left_cancel_iff]; rfl) ?_
  have h6 := two_c bs ln cp (at_ + 11) r b (nx + 2) ro loose (by omega) hl hbr
  unfold rdH at h6
  refine JS_go (tbOk _) 99 fun x hx => ?_
  simp only [RN, ↓reduceIte, ↓get8, reduceCtorEq, Nat.reduceLT, Nat.reduceEqDiff, Nat.reduceAdd, Nat.reduceMul, Nat.reduceLeDiff, Nat.reduceSub, Int.reduceToNat, Int.reduceNeg, Nat.reduceBEq, TY, hbr, hr0, hr1, hb0, hb1, hr2, hr3, hb2, hb3, hrb, Nat.add_assoc, Nat.left_eq_add, Nat.add_eq_left, Nat.add_left_cancel_iff] at hx
  subst hx
  refine ⟨_, _, rfl, by first | trivial | omega | (simp only [and_true, true_and]; omega), ?_⟩
  refine at_callK (h6) (by simp only [RN, ↓reduceIte, ↓get8, reduceCtorEq, Nat.reduceLT, Nat.reduceEqDiff, Nat.reduceAdd, Nat.reduceMul, Nat.reduceLeDiff, Nat.reduceSub, Int.reduceToNat, Int.reduceNeg, Nat.reduceBEq, hbr, hr0, hr1, hb0, hb1, hr2, hr3, hb2, hb3, hrb, Nat.add_assoc, Nat.left_eq_add, Nat.add_eq_left, Nat.add_left_cancel_iff]; first | done | trivial) (by simp only [RN, ↓reduceIte, ↓get8, reduceCtorEq, Nat.reduceLT, Nat.reduceEqDiff, Nat.reduceAdd, Nat.reduceMul, Nat.reduceLeDiff, Nat.reduceSub, Int.reduceToNat, Int.reduceNeg, Nat.reduceBEq, hbr, hr0, hr1, hb0, hb1, hr2, hr3, hb2, hb3, hrb, Nat.add_assoc, Nat.left_eq_add, Nat.add_eq_left, Nat.add_left_cancel_iff]; rfl) ?_
  have h7 := two_c bs ln cp (at_ + 13) r b (nx + 2) ro loose (by omega) hl hbr
  unfold rdH at h7
  refine JS_go (tbOk _) 99 fun x hx => ?_
  simp only [RN, ↓reduceIte, ↓get8, reduceCtorEq, Nat.reduceLT, Nat.reduceEqDiff, Nat.reduceAdd, Nat.reduceMul, Nat.reduceLeDiff, Nat.reduceSub, Int.reduceToNat, Int.reduceNeg, Nat.reduceBEq, TY, hbr, hr0, hr1, hb0, hb1, hr2, hr3, hb2, hb3, hrb, Nat.add_assoc, Nat.left_eq_add, Nat.add_eq_left, Nat.add_left_cancel_iff] at hx
  subst hx
  refine ⟨_, _, rfl, by first | trivial | omega | (simp only [and_true, true_and]; omega), ?_⟩
  refine at_callK (h7) (by simp only [RN, ↓reduceIte, ↓get8, reduceCtorEq, Nat.reduceLT, Nat.reduceEqDiff, Nat.reduceAdd, Nat.reduceMul, Nat.reduceLeDiff, Nat.reduceSub, Int.reduceToNat, Int.reduceNeg, Nat.reduceBEq, hbr, hr0, hr1, hb0, hb1, hr2, hr3, hb2, hb3, hrb, Nat.add_assoc, Nat.left_eq_add, Nat.add_eq_left, Nat.add_left_cancel_iff]; first | done | trivial) (by simp only [RN, ↓reduceIte, ↓get8, reduceCtorEq, Nat.reduceLT, Nat.reduceEqDiff, Nat.reduceAdd, Nat.reduceMul, Nat.reduceLeDiff, Nat.reduceSub, Int.reduceToNat, Int.reduceNeg, Nat.reduceBEq, hbr, hr0, hr1, hb0, hb1, hr2, hr3, hb2, hb3, hrb, Nat.add_assoc, Nat.left_eq_add, Nat.add_eq_left, Nat.add_left_cancel_iff]; rfl) ?_
  have h8 := two_c bs ln cp (at_ + 15) r b (nx + 2) ro loose (by omega) hl hbr
  unfold rdH at h8
  refine JS_go (tbOk _) 99 fun x hx => ?_
  simp only [RN, ↓reduceIte, ↓get8, reduceCtorEq, Nat.reduceLT, Nat.reduceEqDiff, Nat.reduceAdd, Nat.reduceMul, Nat.reduceLeDiff, Nat.reduceSub, Int.reduceToNat, Int.reduceNeg, Nat.reduceBEq, TY, hbr, hr0, hr1, hb0, hb1, hr2, hr3, hb2, hb3, hrb, Nat.add_assoc, Nat.left_eq_add, Nat.add_eq_left, Nat.add_left_cancel_iff] at hx
  subst hx
  refine ⟨_, _, rfl, by first | trivial | omega | (simp only [and_true, true_and]; omega), ?_⟩
  refine at_callK (h8) (by simp only [RN, ↓reduceIte, ↓get8, reduceCtorEq, Nat.reduceLT, Nat.reduceEqDiff, Nat.reduceAdd, Nat.reduceMul, Nat.reduceLeDiff, Nat.reduceSub, Int.reduceToNat, Int.reduceNeg, Nat.reduceBEq, hbr, hr0, hr1, hb0, hb1, hr2, hr3, hb2, hb3, hrb, Nat.add_assoc, Nat.left_eq_add, Nat.add_eq_left, Nat.add_left_cancel_iff]; first | done | trivial) (by simp only [RN, ↓reduceIte, ↓get8, reduceCtorEq, Nat.reduceLT, Nat.reduceEqDiff, Nat.reduceAdd, Nat.reduceMul, Nat.reduceLeDiff, Nat.reduceSub, Int.reduceToNat, Int.reduceNeg, Nat.reduceBEq, hbr, hr0, hr1, hb0, hb1, hr2, hr3, hb2, hb3, hrb, Nat.add_assoc, Nat.left_eq_add, Nat.add_eq_left, Nat.add_left_cancel_iff]; rfl) ?_
  have h9 := one_c bs ln cp (at_ + 17) r b (nx + 2) ro loose (by omega) hl hbr
  unfold rdH at h9
  refine JS_go (tbOk _) 99 fun x hx => ?_
  simp only [RN, ↓reduceIte, ↓get8, reduceCtorEq, Nat.reduceLT, Nat.reduceEqDiff, Nat.reduceAdd, Nat.reduceMul, Nat.reduceLeDiff, Nat.reduceSub, Int.reduceToNat, Int.reduceNeg, Nat.reduceBEq, TY, hbr, hr0, hr1, hb0, hb1, hr2, hr3, hb2, hb3, hrb, Nat.add_assoc, Nat.left_eq_add, Nat.add_eq_left, Nat.add_left_cancel_iff] at hx
  subst hx
  refine ⟨_, _, rfl, by first | trivial | omega | (simp only [and_true, true_and]; omega), ?_⟩
  refine at_callK (h9) (by simp only [RN, ↓reduceIte, ↓get8, reduceCtorEq, Nat.reduceLT, Nat.reduceEqDiff, Nat.reduceAdd, Nat.reduceMul, Nat.reduceLeDiff, Nat.reduceSub, Int.reduceToNat, Int.reduceNeg, Nat.reduceBEq, hbr, hr0, hr1, hb0, hb1, hr2, hr3, hb2, hb3, hrb, Nat.add_assoc, Nat.left_eq_add, Nat.add_eq_left, Nat.add_left_cancel_iff]; first | done | trivial) (by simp only [RN, ↓reduceIte, ↓get8, reduceCtorEq, Nat.reduceLT, Nat.reduceEqDiff, Nat.reduceAdd, Nat.reduceMul, Nat.reduceLeDiff, Nat.reduceSub, Int.reduceToNat, Int.reduceNeg, Nat.reduceBEq, hbr, hr0, hr1, hb0, hb1, hr2, hr3, hb2, hb3, hrb, Nat.add_assoc, Nat.left_eq_add, Nat.add_eq_left, Nat.add_left_cancel_iff]; rfl) ?_
  have h10 := one_c bs ln cp (at_ + 18) r b (nx + 2) ro loose (by omega) hl hbr
  unfold rdH at h10
  refine JS_go (tbOk _) 99 fun x hx => ?_
  simp only [RN, ↓reduceIte, ↓get8, reduceCtorEq, Nat.reduceLT, Nat.reduceEqDiff, Nat.reduceAdd, Nat.reduceMul, Nat.reduceLeDiff, Nat.reduceSub, Int.reduceToNat, Int.reduceNeg, Nat.reduceBEq, TY, hbr, hr0, hr1, hb0, hb1, hr2, hr3, hb2, hb3, hrb, Nat.add_assoc, Nat.left_eq_add, Nat.add_eq_left, Nat.add_left_cancel_iff] at hx
  subst hx
  refine ⟨_, _, rfl, by first | trivial | omega | (simp only [and_true, true_and]; omega), ?_⟩
  refine at_callK (h10) (by simp only [RN, ↓reduceIte, ↓get8, reduceCtorEq, Nat.reduceLT, Nat.reduceEqDiff, Nat.reduceAdd, Nat.reduceMul, Nat.reduceLeDiff, Nat.reduceSub, Int.reduceToNat, Int.reduceNeg, Nat.reduceBEq, hbr, hr0, hr1, hb0, hb1, hr2, hr3, hb2, hb3, hrb, Nat.add_assoc, Nat.left_eq_add, Nat.add_eq_left, Nat.add_left_cancel_iff]; first | done | trivial) (by simp only [RN, ↓reduceIte, ↓get8, reduceCtorEq, Nat.reduceLT, Nat.reduceEqDiff, Nat.reduceAdd, Nat.reduceMul, Nat.reduceLeDiff, Nat.reduceSub, Int.reduceToNat, Int.reduceNeg, Nat.reduceBEq, hbr, hr0, hr1, hb0, hb1, hr2, hr3, hb2, hb3, hrb, Nat.add_assoc, Nat.left_eq_add, Nat.add_eq_left, Nat.add_left_cancel_iff]; rfl) ?_
  have h11 := one_c bs ln cp (at_ + 19) r b (nx + 2) ro loose (by omega) hl hbr
  unfold rdH at h11
  refine JS_go (tbOk _) 99 fun x hx => ?_
  simp only [RN, ↓reduceIte, ↓get8, reduceCtorEq, Nat.reduceLT, Nat.reduceEqDiff, Nat.reduceAdd, Nat.reduceMul, Nat.reduceLeDiff, Nat.reduceSub, Int.reduceToNat, Int.reduceNeg, Nat.reduceBEq, TY, hbr, hr0, hr1, hb0, hb1, hr2, hr3, hb2, hb3, hrb, Nat.add_assoc, Nat.left_eq_add, Nat.add_eq_left, Nat.add_left_cancel_iff] at hx
  subst hx
  refine ⟨_, _, rfl, by first | trivial | omega | (simp only [and_true, true_and]; omega), ?_⟩
  refine at_callK (h11) (by simp only [RN, ↓reduceIte, ↓get8, reduceCtorEq, Nat.reduceLT, Nat.reduceEqDiff, Nat.reduceAdd, Nat.reduceMul, Nat.reduceLeDiff, Nat.reduceSub, Int.reduceToNat, Int.reduceNeg, Nat.reduceBEq, hbr, hr0, hr1, hb0, hb1, hr2, hr3, hb2, hb3, hrb, Nat.add_assoc, Nat.left_eq_add, Nat.add_eq_left, Nat.add_left_cancel_iff]; first | done | trivial) (by simp only [RN, ↓reduceIte, ↓get8, reduceCtorEq, Nat.reduceLT, Nat.reduceEqDiff, Nat.reduceAdd, Nat.reduceMul, Nat.reduceLeDiff, Nat.reduceSub, Int.reduceToNat, Int.reduceNeg, Nat.reduceBEq, hbr, hr0, hr1, hb0, hb1, hr2, hr3, hb2, hb3, hrb, Nat.add_assoc, Nat.left_eq_add, Nat.add_eq_left, Nat.add_left_cancel_iff]; rfl) ?_
  have h12 := one_c bs ln cp (at_ + 20) r b (nx + 2) ro loose (by omega) hl hbr
  unfold rdH at h12
  refine JS_go (tbOk _) 99 fun x hx => ?_
  simp only [RN, ↓reduceIte, ↓get8, reduceCtorEq, Nat.reduceLT, Nat.reduceEqDiff, Nat.reduceAdd, Nat.reduceMul, Nat.reduceLeDiff, Nat.reduceSub, Int.reduceToNat, Int.reduceNeg, Nat.reduceBEq, TY, hbr, hr0, hr1, hb0, hb1, hr2, hr3, hb2, hb3, hrb, Nat.add_assoc, Nat.left_eq_add, Nat.add_eq_left, Nat.add_left_cancel_iff] at hx
  subst hx
  refine ⟨_, _, rfl, by first | trivial | omega | (simp only [and_true, true_and]; omega), ?_⟩
  refine at_callK (h12) (by simp only [RN, ↓reduceIte, ↓get8, reduceCtorEq, Nat.reduceLT, Nat.reduceEqDiff, Nat.reduceAdd, Nat.reduceMul, Nat.reduceLeDiff, Nat.reduceSub, Int.reduceToNat, Int.reduceNeg, Nat.reduceBEq, hbr, hr0, hr1, hb0, hb1, hr2, hr3, hb2, hb3, hrb, Nat.add_assoc, Nat.left_eq_add, Nat.add_eq_left, Nat.add_left_cancel_iff]; first | done | trivial) (by simp only [RN, ↓reduceIte, ↓get8, reduceCtorEq, Nat.reduceLT, Nat.reduceEqDiff, Nat.reduceAdd, Nat.reduceMul, Nat.reduceLeDiff, Nat.reduceSub, Int.reduceToNat, Int.reduceNeg, Nat.reduceBEq, hbr, hr0, hr1, hb0, hb1, hr2, hr3, hb2, hb3, hrb, Nat.add_assoc, Nat.left_eq_add, Nat.add_eq_left, Nat.add_left_cancel_iff]; rfl) ?_
  have h13 := one_c bs ln cp (at_ + 21) r b (nx + 2) ro loose (by omega) hl hbr
  unfold rdH at h13
  refine JS_go (tbOk _) 99 fun x hx => ?_
  simp only [RN, ↓reduceIte, ↓get8, reduceCtorEq, Nat.reduceLT, Nat.reduceEqDiff, Nat.reduceAdd, Nat.reduceMul, Nat.reduceLeDiff, Nat.reduceSub, Int.reduceToNat, Int.reduceNeg, Nat.reduceBEq, TY, hbr, hr0, hr1, hb0, hb1, hr2, hr3, hb2, hb3, hrb, Nat.add_assoc, Nat.left_eq_add, Nat.add_eq_left, Nat.add_left_cancel_iff] at hx
  subst hx
  refine ⟨_, _, rfl, by first | trivial | omega | (simp only [and_true, true_and]; omega), ?_⟩
  refine at_callK (h13) (by simp only [RN, ↓reduceIte, ↓get8, reduceCtorEq, Nat.reduceLT, Nat.reduceEqDiff, Nat.reduceAdd, Nat.reduceMul, Nat.reduceLeDiff, Nat.reduceSub, Int.reduceToNat, Int.reduceNeg, Nat.reduceBEq, hbr, hr0, hr1, hb0, hb1, hr2, hr3, hb2, hb3, hrb, Nat.add_assoc, Nat.left_eq_add, Nat.add_eq_left, Nat.add_left_cancel_iff]; first | done | trivial) (by simp only [RN, ↓reduceIte, ↓get8, reduceCtorEq, Nat.reduceLT, Nat.reduceEqDiff, Nat.reduceAdd, Nat.reduceMul, Nat.reduceLeDiff, Nat.reduceSub, Int.reduceToNat, Int.reduceNeg, Nat.reduceBEq, hbr, hr0, hr1, hb0, hb1, hr2, hr3, hb2, hb3, hrb, Nat.add_assoc, Nat.left_eq_add, Nat.add_eq_left, Nat.add_left_cancel_iff]; rfl) ?_
  have h14 := one_c bs ln cp (at_ + 22) r b (nx + 2) ro loose (by omega) hl hbr
  unfold rdH at h14
  refine JS_go (tbOk _) 99 fun x hx => ?_
  simp only [RN, ↓reduceIte, ↓get8, reduceCtorEq, Nat.reduceLT, Nat.reduceEqDiff, Nat.reduceAdd, Nat.reduceMul, Nat.reduceLeDiff, Nat.reduceSub, Int.reduceToNat, Int.reduceNeg, Nat.reduceBEq, TY, hbr, hr0, hr1, hb0, hb1, hr2, hr3, hb2, hb3, hrb, Nat.add_assoc, Nat.left_eq_add, Nat.add_eq_left, Nat.add_left_cancel_iff] at hx
  subst hx
  refine ⟨_, _, rfl, by first | trivial | omega | (simp only [and_true, true_and]; omega), ?_⟩
  refine at_callK (h14) (by simp only [RN, ↓reduceIte, ↓get8, reduceCtorEq, Nat.reduceLT, Nat.reduceEqDiff, Nat.reduceAdd, Nat.reduceMul, Nat.reduceLeDiff, Nat.reduceSub, Int.reduceToNat, Int.reduceNeg, Nat.reduceBEq, hbr, hr0, hr1, hb0, hb1, hr2, hr3, hb2, hb3, hrb, Nat.add_assoc, Nat.left_eq_add, Nat.add_eq_left, Nat.add_left_cancel_iff]; first | done | trivial) (by simp only [RN, ↓reduceIte, ↓get8, reduceCtorEq, Nat.reduceLT, Nat.reduceEqDiff, Nat.reduceAdd, Nat.reduceMul, Nat.reduceLeDiff, Nat.reduceSub, Int.reduceToNat, Int.reduceNeg, Nat.reduceBEq, hbr, hr0, hr1, hb0, hb1, hr2, hr3, hb2, hb3, hrb, Nat.add_assoc, Nat.left_eq_add, Nat.add_eq_left, Nat.add_left_cancel_iff]; rfl) ?_
  have h15 := one_c bs ln cp (at_ + 23) r b (nx + 2) ro loose (by omega) hl hbr
  unfold rdH at h15
  refine JS_go (tbOk _) 99 fun x hx => ?_
  simp only [RN, ↓reduceIte, ↓get8, reduceCtorEq, Nat.reduceLT, Nat.reduceEqDiff, Nat.reduceAdd, Nat.reduceMul, Nat.reduceLeDiff, Nat.reduceSub, Int.reduceToNat, Int.reduceNeg, Nat.reduceBEq, TY, hbr, hr0, hr1, hb0, hb1, hr2, hr3, hb2, hb3, hrb, Nat.add_assoc, Nat.left_eq_add, Nat.add_eq_left, Nat.add_left_cancel_iff] at hx
  subst hx
  refine ⟨_, _, rfl, by first | trivial | omega | (simp only [and_true, true_and]; omega), ?_⟩
  refine at_callK (h15) (by simp only [RN, ↓reduceIte, ↓get8, reduceCtorEq, Nat.reduceLT, Nat.reduceEqDiff, Nat.reduceAdd, Nat.reduceMul, Nat.reduceLeDiff, Nat.reduceSub, Int.reduceToNat, Int.reduceNeg, Nat.reduceBEq, hbr, hr0, hr1, hb0, hb1, hr2, hr3, hb2, hb3, hrb, Nat.add_assoc, Nat.left_eq_add, Nat.add_eq_left, Nat.add_left_cancel_iff]; first | done | trivial) (by simp only [RN, ↓reduceIte, ↓get8, reduceCtorEq, Nat.reduceLT, Nat.reduceEqDiff, Nat.reduceAdd, Nat.reduceMul, Nat.reduceLeDiff, Nat.reduceSub, Int.reduceToNat, Int.reduceNeg, Nat.reduceBEq, hbr, hr0, hr1, hb0, hb1, hr2, hr3, hb2, hb3, hrb, Nat.add_assoc, Nat.left_eq_add, Nat.add_eq_left, Nat.add_left_cancel_iff]; rfl) ?_
  have h16 := one_c bs ln cp (at_ + 24) r b (nx + 2) ro loose (by omega) hl hbr
  unfold rdH at h16
  refine JS_go (tbOk _) 99 fun x hx => ?_
  simp only [RN, ↓reduceIte, ↓get8, reduceCtorEq, Nat.reduceLT, Nat.reduceEqDiff, Nat.reduceAdd, Nat.reduceMul, Nat.reduceLeDiff, Nat.reduceSub, Int.reduceToNat, Int.reduceNeg, Nat.reduceBEq, TY, hbr, hr0, hr1, hb0, hb1, hr2, hr3, hb2, hb3, hrb, Nat.add_assoc, Nat.left_eq_add, Nat.add_eq_left, Nat.add_left_cancel_iff] at hx
  subst hx
  refine ⟨_, _, rfl, by first | trivial | omega | (simp only [and_true, true_and]; omega), ?_⟩
  refine at_callK (h16) (by simp only [RN, ↓reduceIte, ↓get8, reduceCtorEq, Nat.reduceLT, Nat.reduceEqDiff, Nat.reduceAdd, Nat.reduceMul, Nat.reduceLeDiff, Nat.reduceSub, Int.reduceToNat, Int.reduceNeg, Nat.reduceBEq, hbr, hr0, hr1, hb0, hb1, hr2, hr3, hb2, hb3, hrb, Nat.add_assoc, Nat.left_eq_add, Nat.add_eq_left, Nat.add_left_cancel_iff]; first | done | trivial) (by simp only [RN, ↓reduceIte, ↓get8, reduceCtorEq, Nat.reduceLT, Nat.reduceEqDiff, Nat.reduceAdd, Nat.reduceMul, Nat.reduceLeDiff, Nat.reduceSub, Int.reduceToNat, Int.reduceNeg, Nat.reduceBEq, hbr, hr0, hr1, hb0, hb1, hr2, hr3, hb2, hb3, hrb, Nat.add_assoc, Nat.left_eq_add, Nat.add_eq_left, Nat.add_left_cancel_iff]; rfl) ?_
  have h17 := one_c bs ln cp (at_ + 25) r b (nx + 2) ro loose (by omega) hl hbr
  unfold rdH at h17
  refine JS_go (tbOk _) 99 fun x hx => ?_
  simp only [RN, ↓reduceIte, ↓get8, reduceCtorEq, Nat.reduceLT, Nat.reduceEqDiff, Nat.reduceAdd, Nat.reduceMul, Nat.reduceLeDiff, Nat.reduceSub, Int.reduceToNat, Int.reduceNeg, Nat.reduceBEq, TY, hbr, hr0, hr1, hb0, hb1, hr2, hr3, hb2, hb3, hrb, Nat.add_assoc, Nat.left_eq_add, Nat.add_eq_left, Nat.add_left_cancel_iff] at hx
  subst hx
  refine ⟨_, _, rfl, by first | trivial | omega | (simp only [and_true, true_and]; omega), ?_⟩
  refine at_callK (h17) (by simp only [RN, ↓reduceIte, ↓get8, reduceCtorEq, Nat.reduceLT, Nat.reduceEqDiff, Nat.reduceAdd, Nat.reduceMul, Nat.reduceLeDiff, Nat.reduceSub, Int.reduceToNat, Int.reduceNeg, Nat.reduceBEq, hbr, hr0, hr1, hb0, hb1, hr2, hr3, hb2, hb3, hrb, Nat.add_assoc, Nat.left_eq_add, Nat.add_eq_left, Nat.add_left_cancel_iff]; first | done | trivial) (by simp only [RN, ↓reduceIte, ↓get8, reduceCtorEq, Nat.reduceLT, Nat.reduceEqDiff, Nat.reduceAdd, Nat.reduceMul, Nat.reduceLeDiff, Nat.reduceSub, Int.reduceToNat, Int.reduceNeg, Nat.reduceBEq, hbr, hr0, hr1, hb0, hb1, hr2, hr3, hb2, hb3, hrb, Nat.add_assoc, Nat.left_eq_add, Nat.add_eq_left, Nat.add_left_cancel_iff]; rfl) ?_
  have h18 := one_c bs ln cp (at_ + 26) r b (nx + 2) ro loose (by omega) hl hbr
  unfold rdH at h18
  refine JS_go (tbOk _) 99 fun x hx => ?_
  simp only [RN, ↓reduceIte, ↓get8, reduceCtorEq, Nat.reduceLT, Nat.reduceEqDiff, Nat.reduceAdd, Nat.reduceMul, Nat.reduceLeDiff, Nat.reduceSub, Int.reduceToNat, Int.reduceNeg, Nat.reduceBEq, TY, hbr, hr0, hr1, hb0, hb1, hr2, hr3, hb2, hb3, hrb, Nat.add_assoc, Nat.left_eq_add, Nat.add_eq_left, Nat.add_left_cancel_iff] at hx
  subst hx
  refine ⟨_, _, rfl, by first | trivial | omega | (simp only [and_true, true_and]; omega), ?_⟩
  refine at_callK (h18) (by simp only [RN, ↓reduceIte, ↓get8, reduceCtorEq, Nat.reduceLT, Nat.reduceEqDiff, Nat.reduceAdd, Nat.reduceMul, Nat.reduceLeDiff, Nat.reduceSub, Int.reduceToNat, Int.reduceNeg, Nat.reduceBEq, hbr, hr0, hr1, hb0, hb1, hr2, hr3, hb2, hb3, hrb, Nat.add_assoc, Nat.left_eq_add, Nat.add_eq_left, Nat.add_left_cancel_iff]; first | done | trivial) (by simp only [RN, ↓reduceIte, ↓get8, reduceCtorEq, Nat.reduceLT, Nat.reduceEqDiff, Nat.reduceAdd, Nat.reduceMul, Nat.reduceLeDiff, Nat.reduceSub, Int.reduceToNat, Int.reduceNeg, Nat.reduceBEq, hbr, hr0, hr1, hb0, hb1, hr2, hr3, hb2, hb3, hrb, Nat.add_assoc, Nat.left_eq_add, Nat.add_eq_left, Nat.add_left_cancel_iff]; rfl) ?_
  have hs := speed_c bs ln cp (at_ + 27) r b (nx + 2) ro loose (by omega) hl hbr x hx
  unfold rdH at hs
  refine JS_go (tbOk _) 99 fun x hx => ?_
  simp only [RN, ↓reduceIte, ↓get8, reduceCtorEq, Nat.reduceLT, Nat.reduceEqDiff, Nat.reduceAdd, Nat.reduceMul, Nat.reduceLeDiff, Nat.reduceSub, Int.reduceToNat, Int.reduceNeg, Nat.reduceBEq, TY, hbr, hr0, hr1, hb0, hb1, hr2, hr3, hb2, hb3, hrb, Nat.add_assoc, Nat.left_eq_add, Nat.add_eq_left, Nat.add_left_cancel_iff] at hx
  subst hx
  refine ⟨_, _, rfl, by first | trivial | omega | (simp only [and_true, true_and]; omega), ?_⟩
  refine at_callG hs (by simp only [RN, ↓reduceIte, ↓get8, reduceCtorEq, Nat.reduceLT, Nat.reduceEqDiff, Nat.reduceAdd, Nat.reduceMul, Nat.reduceLeDiff, Nat.reduceSub, Int.reduceToNat, Int.reduceNeg, Nat.reduceBEq, hbr, hr0, hr1, hb0, hb1, hr2, hr3, hb2, hb3, hrb, Nat.add_assoc, Nat.left_eq_add, Nat.add_eq_left, Nat.add_left_cancel_iff]; first | done | trivial) ?_
  rintro o L' n ⟨rfl, rfl, rfl⟩
  unfold okOr
  by_cases hc : x.2 = 0
  · simp only [if_pos hc]
    refine ⟨_, by simp only [RN, ↓reduceIte, ↓get8, reduceCtorEq, Nat.reduceLT, Nat.reduceEqDiff, Nat.reduceAdd, Nat.reduceMul, Nat.reduceLeDiff, Nat.reduceSub, Int.reduceToNat, Int.reduceNeg, Nat.reduceBEq, hbr, hr0, hr1, hb0, hb1, hr2, hr3, hb2, hb3, hrb, Nat.add_assoc, Nat.left_eq_add, Nat.add_eq_left, Nat.add_left_cancel_iff]; rfl, ?_⟩
    refine JS_go (tbOk _) 99 fun x hx => ?_
    simp only [RN, ↓reduceIte, ↓get8, reduceCtorEq, Nat.reduceLT, Nat.reduceEqDiff, Nat.reduceAdd, Nat.reduceMul, Nat.reduceLeDiff, Nat.reduceSub, Int.reduceToNat, Int.reduceNeg, Nat.reduceBEq, TY, hbr, hr0, hr1, hb0, hb1, hr2, hr3, hb2, hb3, hrb, Nat.add_assoc, Nat.left_eq_add, Nat.add_eq_left, Nat.add_left_cancel_iff] at hx
    subst hx
    refine ⟨_, _, rfl, by first | trivial | omega | (simp only [and_true, true_and]; omega), ?_⟩
    first | refine at_ret ?_ | refine at_done ?_
    repeat (first | refine in_ret ?_ | refine in_retI ?_)
    first | refine ret_endK (by simp only [RN, ↓reduceIte, ↓get8, reduceCtorEq, Nat.reduceLT, Nat.reduceEqDiff, Nat.reduceAdd, Nat.reduceMul, Nat.reduceLeDiff, Nat.reduceSub, Int.reduceToNat, Int.reduceNeg, Nat.reduceBEq]; rfl) rfl trivial ?_ | refine nrm_endK (by simp only [RN, ↓reduceIte, ↓get8, reduceCtorEq, Nat.reduceLT, Nat.reduceEqDiff, Nat.reduceAdd, Nat.reduceMul, Nat.reduceLeDiff, Nat.reduceSub, Int.reduceToNat, Int.reduceNeg, Nat.reduceBEq]; rfl) rfl trivial ?_ | refine ret_endK (by simp only [RN, ↓reduceIte, ↓get8, reduceCtorEq, Nat.reduceLT, Nat.reduceEqDiff, Nat.reduceAdd, Nat.reduceMul, Nat.reduceLeDiff, Nat.reduceSub, Int.reduceToNat, Int.reduceNeg, Nat.reduceBEq, TY, hbr, hr0, hr1, hb0, hb1, hr2, hr3, hb2, hb3, hrb, Nat.add_assoc, Nat.left_eq_add, Nat.add_eq_left, Nat.add_left_cancel_iff]; rfl) rfl (by first | trivial | omega) ?_
    refine ⟨_, ?_, rfl, rfl, rfl⟩
    exact leL_look (by simp only [RN, ↓reduceIte, ↓get8, reduceCtorEq, Nat.reduceLT, Nat.reduceEqDiff, Nat.reduceAdd, Nat.reduceMul, Nat.reduceLeDiff, Nat.reduceSub, Int.reduceToNat, Int.reduceNeg, Nat.reduceBEq, hbr, hr0, hr1, hb0, hb1, hr2, hr3, hb2, hb3, hrb, Nat.add_assoc, Nat.left_eq_add, Nat.add_eq_left, Nat.add_left_cancel_iff]; first | done | trivial)
  · simp only [if_neg hc]
    refine pan_endK rfl ⟨_, ?_, rfl, rfl, rfl⟩
    exact leL_look (by simp only [RN, ↓reduceIte, ↓get8, reduceCtorEq, Nat.reduceLT, Nat.reduceEqDiff, Nat.reduceAdd, Nat.reduceMul, Nat.reduceLeDiff, Nat.reduceSub, Int.reduceToNat, Int.reduceNeg, Nat.reduceBEq, hbr, hr0, hr1, hb0, hb1, hr2, hr3, hb2, hb3, hrb, Nat.add_assoc, Nat.left_eq_add, Nat.add_eq_left, Nat.add_left_cancel_iff]; first | done | trivial)
end Go.Proofs.Ytoihmanhldcjhaa.Id
namespace Go.Proofs.Ytoihmanhldcjhaa.Id
open Go Go.Proofs.Ytoihmanhldcjhaa.Rl
set_option linter.unusedSimpArgs false
set_option linter.unusedVariables false
def wpAt (bs : List UInt8) (at_ : Nat) (u : Nat) (x : Int × Int) : Wp := ⟨le ((bs.drop (at_ + 2)).take 1), le ((bs.drop (at_ + 0)).take 2), x.1, le ((bs.drop (at_ + 3)).take 1), le ((bs.drop (at_ + 4)).take 1), (u : Int) == 1⟩
set_option maxRecDepth 100000 in
set_option maxHeartbeats 4000000 in
theorem rweapon_no (bs : List UInt8) (ln cp : Nat) (at_ : Nat) (r b : Nat) (nx : Nat) (ro loose : Bool) (ha : at_ + 14 ≤ ln) (hl : ln ≤ bs.length ∧ ln ≤ 1000000) (hbr : ¬ b = r) (hrn : r < nx) (hbn : b < nx) (u : Nat) (hu : le ((bs.drop (at_ + 5)).take 1) = u) (h1 : 1 < u) :
    CallW Try.prog 32 [.pointer (some ⟨r, 0, none⟩)] (rdH bs ln cp at_ r b ro loose) nx fun o F' nx' => o = .pan (.iface 60 (.agg #[.int .i64 3, .int .i64 ((at_ + 5 : Nat) : Int)])) ∧ F' = rdH bs ln cp (at_ + 6) r b ro loose ∧ nx' = nx + 2 := by
  have hrb : ¬ r = b := fun e => hbr e.symm
  have hr0 : ¬ r = nx := by omega
  have hr1 : ∀ i, ¬ r = nx + i := by intro i; omega
  have hb0 : ¬ b = nx := by omega
  have hb1 : ∀ i, ¬ b = nx + i := by intro i; omega
  have hr2 : ¬ nx = r := by omega
  have hr3 : ∀ i, ¬ nx + i = r := by intro i; omega
  have hb2 : ¬ nx = b := by omega
  have hb3 : ∀ i, ¬ nx + i = b := by intro i; omega
  unfold rdH
  refine CallW_go (tbOk _) 36 [.cell 2 51] Try.func32 rfl (by decide) rfl rfl (by simp) fun hlt => ?_
  simp only [params, Nat.zero_add, Nat.reduceAdd]
  have h0 := two_c bs ln cp (at_ + 0) r b (nx + 1) ro loose (by omega) hl hbr
  unfold rdH at h0
  refine JS_go (tbOk _) 99 fun x hx => ?_
  simp only [RN, ↓reduceIte, ↓get8, reduceCtorEq, Nat.reduceLT, Nat.reduceEqDiff, Nat.reduceAdd, Nat.reduceMul, Nat.reduceLeDiff, Nat.reduceSub, Int.reduceToNat, Int.reduceNeg, Nat.reduceBEq, TY, hbr, hr0, hr1, hb0, hb1, hr2, hr3, hb2, hb3, hrb, Nat.add_assoc, Nat.left_eq_add, Nat.add_eq_left, Nat.add_left_cancel_iff] at hx
  subst hx
  refine ⟨_, _, rfl, by first | trivial | omega | (simp only [and_true, true_and]; omega), ?_⟩
  refine at_callK (h0) (by simp only [RN, ↓reduceIte, ↓get8, reduceCtorEq, Nat.reduceLT, Nat.reduceEqDiff, Nat.reduceAdd, Nat.reduceMul, Nat.reduceLeDiff, Nat.reduceSub, Int.reduceToNat, Int.reduceNeg, Nat.reduceBEq, hbr, hr0, hr1, hb0, hb1, hr2, hr3, hb2, hb3, hrb, Nat.add_assoc, Nat.left_eq_add, Nat.add_eq_left, Nat.add_left_cancel_iff]; first | done | trivial) (by simp only [RN, ↓reduceIte, ↓get8, reduceCtorEq, Nat.reduceLT, Nat.reduceEqDiff, Nat.reduceAdd, Nat.reduceMul, Nat.reduceLeDiff, Nat.reduceSub, Int.reduceToNat, Int.reduceNeg, Nat.reduceBEq, hbr, hr0, hr1, hb0, hb1, hr2, hr3, hb2, hb3, hrb, Nat.add_assoc, Nat.left_eq_add, Nat.add_eq_left, Nat.add_left_cancel_iff]; rfl) ?_
  have h1 := one_c bs ln cp (at_ + 2) r b (nx + 2) ro loose (by omega) hl hbr
  unfold rdH at h1
  refine JS_go (tbOk _) 99 fun x hx => ?_
  simp only [RN, ↓reduceIte, ↓get8, reduceCtorEq, Nat.reduceLT, Nat.reduceEqDiff, Nat.reduceAdd, Nat.reduceMul, Nat.reduceLeDiff, Nat.reduceSub, Int.reduceToNat, Int.reduceNeg, Nat.reduceBEq, TY, hbr, hr0, hr1, hb0, hb1, hr2, hr3, hb2, hb3, hrb, Nat.add_assoc, Nat.left_eq_add, Nat.add_eq_left, Nat.add_left_cancel_iff] at hx
  subst hx
  refine ⟨_, _, rfl, by first | trivial | omega | (simp only [and_true, true_and]; omega), ?_⟩
  refine at_callK (h1) (by simp only [RN, ↓reduceIte, ↓get8, reduceCtorEq, Nat.reduceLT, Nat.reduceEqDiff, Nat.reduceAdd, Nat.reduceMul, Nat.reduceLeDiff, Nat.reduceSub, Int.reduceToNat, Int.reduceNeg, Nat.reduceBEq, hbr, hr0, hr1, hb0, hb1, hr2, hr3, hb2, hb3, hrb, Nat.add_assoc, Nat.left_eq_add, Nat.add_eq_left, Nat.add_left_cancel_iff]; first | done | trivial) (by simp only [RN, ↓reduceIte, ↓get8, reduceCtorEq, Nat.reduceLT, Nat.reduceEqDiff, Nat.reduceAdd, Nat.reduceMul, Nat.reduceLeDiff, Nat.reduceSub, Int.reduceToNat, Int.reduceNeg, Nat.reduceBEq, hbr, hr0, hr1, hb0, hb1, hr2, hr3, hb2, hb3, hrb, Nat.add_assoc, Nat.left_eq_add, Nat.add_eq_left, Nat.add_left_cancel_iff]; rfl) ?_
  have h2 := one_c bs ln cp (at_ + 3) r b (nx + 2) ro loose (by omega) hl hbr
  unfold rdH at h2
  refine JS_go (tbOk _) 99 fun x hx => ?_
  simp only [RN, ↓reduceIte, ↓get8, reduceCtorEq, Nat.reduceLT, Nat.reduceEqDiff, Nat.reduceAdd, Nat.reduceMul, Nat.reduceLeDiff, Nat.reduceSub, Int.reduceToNat, Int.reduceNeg, Nat.reduceBEq, TY, hbr, hr0, hr1, hb0, hb1, hr2, hr3, hb2, hb3, hrb, Nat.add_assoc, Nat.left_eq_add, Nat.add_eq_left, Nat.add_left_cancel_iff] at hx
  subst hx
  refine ⟨_, _, rfl, by first | trivial | omega | (simp only [and_true, true_and]; omega), ?_⟩
  refine at_callK (h2) (by simp only [RN, ↓reduceIte, ↓get8, reduceCtorEq, Nat.reduceLT, Nat.reduceEqDiff, Nat.reduceAdd, Nat.reduceMul, Nat.reduceLeDiff, Nat.reduceSub, Int.reduceToNat, Int.reduceNeg, Nat.reduceBEq, hbr, hr0, hr1, hb0, hb1, hr2, hr3, hb2, hb3, hrb, Nat.add_assoc, Nat.left_eq_add, Nat.add_eq_left, Nat.add_left_cancel_iff]; first | done | trivial) (by simp only [RN, ↓reduceIte, ↓get8, reduceCtorEq, Nat.reduceLT, Nat.reduceEqDiff, Nat.reduceAdd, Nat.reduceMul, Nat.reduceLeDiff, Nat.reduceSub, Int.reduceToNat, Int.reduceNeg, Nat.reduceBEq, hbr, hr0, hr1, hb0, hb1, hr2, hr3, hb2, hb3, hrb, Nat.add_assoc, Nat.left_eq_add, Nat.add_eq_left, Nat.add_left_cancel_iff]; rfl) ?_
  have h3 := one_c bs ln cp (at_ + 4) r b (nx + 2) ro loose (by omega) hl hbr
  unfold rdH at h3
  refine JS_go (tbOk _) 99 fun x hx => ?_
  simp only [RN, ↓reduceIte, ↓get8, reduceCtorEq, Nat.reduceLT, Nat.reduceEqDiff, Nat.reduceAdd, Nat.reduceMul, Nat.reduceLeDiff, Nat.reduceSub, Int.reduceToNat, Int.reduceNeg, Nat.reduceBEq, TY, hbr, hr0, hr1, hb0, hb1, hr2, hr3, hb2, hb3, hrb, Nat.add_assoc, Nat.left_eq_add, Nat.add_eq_left, Nat.add_left_cancel_iff] at hx
  subst hx
  refine ⟨_, _, rfl, by first | trivial | omega | (simp only [and_true, true_and]; omega), ?_⟩
  refine at_callK (h3) (by simp only [RN, ↓reduceIte, ↓get8, reduceCtorEq, Nat.reduceLT, Nat.reduceEqDiff, Nat.reduceAdd, Nat.reduceMul, Nat.reduceLeDiff, Nat.reduceSub, Int.reduceToNat, Int.reduceNeg, Nat.reduceBEq, hbr, hr0, hr1, hb0, hb1, hr2, hr3, hb2, hb3, hrb, Nat.add_assoc, Nat.left_eq_add, Nat.add_eq_left, Nat.add_left_cancel_iff]; first | done | trivial) (by simp only [RN, ↓reduceIte, ↓get8, reduceCtorEq, Nat.reduceLT, Nat.reduceEqDiff, Nat.reduceAdd, Nat.reduceMul, Nat.reduceLeDiff, Nat.reduceSub, Int.reduceToNat, Int.reduceNeg, Nat.reduceBEq, hbr, hr0, hr1, hb0, hb1, hr2, hr3, hb2, hb3, hrb, Nat.add_assoc, Nat.left_eq_add, Nat.add_eq_left, Nat.add_left_cancel_iff]; rfl) ?_
  have h4 := one_c bs ln cp (at_ + 5) r b (nx + 2) ro loose (by omega) hl hbr
  rw [hu] at h4
  unfold rdH at h4
  refine JS_go (tbOk _) 99 fun x hx => ?_
  simp only [RN, ↓reduceIte, ↓get8, reduceCtorEq, Nat.reduceLT, Nat.reduceEqDiff, Nat.reduceAdd, Nat.reduceMul, Nat.reduceLeDiff, Nat.reduceSub, Int.reduceToNat, Int.reduceNeg, Nat.reduceBEq, TY, hbr, hr0, hr1, hb0, hb1, hr2, hr3, hb2, hb3, hrb, Nat.add_assoc, Nat.left_eq_add, Nat.add_eq_left, Nat.add_left_cancel_iff] at hx
  subst hx
  refine ⟨_, _, rfl, by first | trivial | omega | (simp only [and_true, true_and]; omega), ?_⟩
  refine at_callK (h4) (by simp only [RN, ↓reduceIte, ↓get8, reduceCtorEq, Nat.reduceLT, Nat.reduceEqDiff, Nat.reduceAdd, Nat.reduceMul, Nat.reduceLeDiff, Nat.reduceSub, Int.reduceToNat, Int.reduceNeg, Nat.reduceBEq, hbr, hr0, hr1, hb0, hb1, hr2, hr3, hb2, hb3, hrb, Nat.add_assoc, Nat.left_eq_add, Nat.add_eq_left, Nat.add_left_cancel_iff]; first | done | trivial) (by simp only [RN, ↓reduceIte, ↓get8, reduceCtorEq, Nat.reduceLT, Nat.reduceEqDiff, Nat.reduceAdd, Nat.reduceMul, Nat.reduceLeDiff, Nat.reduceSub, Int.reduceToNat, Int.reduceNeg, Nat.reduceBEq, hbr, hr0, hr1, hb0, hb1, hr2, hr3, hb2, hb3, hrb, Nat.add_assoc, Nat.left_eq_add, Nat.add_eq_left, Nat.add_left_cancel_iff]; rfl) ?_
  refine JS_go (tbOk _) 99 fun x hx => ?_
  simp only [RN, ↓reduceIte, ↓get8, reduceCtorEq, Nat.reduceLT, Nat.reduceEqDiff, Nat.reduceAdd, Nat.reduceMul, Nat.reduceLeDiff, Nat.reduceSub, Int.reduceToNat, Int.reduceNeg, Nat.reduceBEq, TY, hbr, hr0, hr1, hb0, hb1, hr2, hr3, hb2, hb3, hrb, Nat.add_assoc, Nat.left_eq_add, Nat.add_eq_left, Nat.add_left_cancel_iff] at hx
  subst hx
  refine ⟨_, _, rfl, by first | trivial | omega | (simp only [and_true, true_and]; omega), ?_⟩
  refine at_cond (fun h => ?_) (fun h => (by simp at h; omega))
  refine JS_go (tbOk _) 99 fun x hx => ?_
  simp only [RN, ↓reduceIte, ↓get8, reduceCtorEq, Nat.reduceLT, Nat.reduceEqDiff, Nat.reduceAdd, Nat.reduceMul, Nat.reduceLeDiff, Nat.reduceSub, Int.reduceToNat, Int.reduceNeg, Nat.reduceBEq, TY, hbr, hr0, hr1, hb0, hb1, hr2, hr3, hb2, hb3, hrb, Nat.add_assoc, Nat.left_eq_add, Nat.add_eq_left, Nat.add_left_cancel_iff] at hx
  subst hx
  refine ⟨_, _, rfl, by first | trivial | omega | (simp only [and_true, true_and]; omega), ?_⟩
  refine at_pan ?_
  repeat (first | refine in_pan ?_ | refine in_panI ?_)
  refine pan_endK rfl ⟨_, ?_, rfl, rfl, rfl⟩
  exact leL_look (by simp only [RN, ↓reduceIte, ↓get8, reduceCtorEq, Nat.reduceLT, Nat.reduceEqDiff, Nat.reduceAdd, Nat.reduceMul, Nat.reduceLeDiff, Nat.reduceSub, Int.reduceToNat, Int.reduceNeg, Nat.reduceBEq, hbr, hr0, hr1, hb0, hb1, hr2, hr3, hb2, hb3, hrb, Nat.add_assoc, Nat.left_eq_add, Nat.add_eq_left, Nat.add_left_cancel_iff]; first | done | trivial)
set_option maxRecDepth 100000 in
set_option maxHeartbeats 4000000 in
theorem rweapon_c (bs : List UInt8) (ln cp : Nat) (at_ : Nat) (r b : Nat) (nx : Nat) (ro loose : Bool) (ha : at_ + 14 ≤ ln) (hl : ln ≤ bs.length ∧ ln ≤ 1000000) (hbr : ¬ b = r) (hrn : r < nx) (hbn : b < nx) (u : Nat) (hu : le ((bs.drop (at_ + 5)).take 1) = u) (h1 : u ≤ 1) (x : Int × Int) (hx : ofS (le ((bs.drop (at_ + 6)).take 8)) = x) :
    CallW Try.prog 32 [.pointer (some ⟨r, 0, none⟩)] (rdH bs ln cp at_ r b ro loose) nx fun o F' nx' => o = okOr x.2 ((at_ + 6 : Nat) : Int) (.agg (wpAt bs at_ u x).cells.toArray) ∧ F' = rdH bs ln cp (at_ + 14) r b ro loose ∧ nx' = nx + 2 := by
  have hrb : ¬ r = b := fun e => hbr e.symm
  have hr0 : ¬ r = nx := by omega
  have hr1 : ∀ i, ¬ r = nx + i := by intro i; omega
  have hb0 : ¬ b = nx := by omega
  have hb1 : ∀ i, ¬ b = nx + i := by intro i; omega
  have hr2 : ¬ nx = r := by omega
  have hr3 : ∀ i, ¬ nx + i = r := by intro i; omega
  have hb2 : ¬ nx = b := by omega
  have hb3 : ∀ i, ¬ nx + i = b := by intro i; omega
  unfold rdH
  refine CallW_go (tbOk _) 36 [.cell 2 51] Try.func32 rfl (by decide) rfl rfl (by simp) fun hlt => ?_
  simp only [params, Nat.zero_add, Nat.reduceAdd]
  have h0 := two_c bs ln cp (at_ + 0) r b (nx + 1) ro loose (by omega) hl hbr
  unfold rdH at h0
  refine JS_go (tbOk _) 99 fun x hx => ?_
  simp only [RN, ↓reduceIte, ↓get8, reduceCtorEq, Nat.reduceLT, Nat.reduceEqDiff, Nat.reduceAdd, Nat.reduceMul, Nat.reduceLeDiff, Nat.reduceSub, Int.reduceToNat, Int.reduceNeg, Nat.reduceBEq, TY, hbr, hr0, hr1, hb0, hb1, hr2, hr3, hb2, hb3, hrb, Nat.add_assoc, Nat.left_eq_add, Nat.add_eq_left, Nat.add_left_cancel_iff] at hx
  subst hx
  refine ⟨_, _, rfl, by first | trivial | omega | (simp only [and_true, true_and]; omega), ?_⟩
  refine at_callK (h0) (by simp only [RN, ↓reduceIte, ↓get8, reduceCtorEq, Nat.reduceLT, Nat.reduceEqDiff, Nat.reduceAdd, Nat.reduceMul, Nat.reduceLeDiff, Nat.reduceSub, Int.reduceToNat, Int.reduceNeg, Nat.reduceBEq, hbr, hr0, hr1, hb0, hb1, hr2, hr3, hb2, hb3, hrb, Nat.add_assoc, Nat.left_eq_add, Nat.add_eq_left, Nat.add_left_cancel_iff]; first | done | trivial) (by simp only [RN, ↓reduceIte, ↓get8, reduceCtorEq, Nat.reduceLT, Nat.reduceEqDiff, Nat.reduceAdd, Nat.reduceMul, Nat.reduceLeDiff, Nat.reduceSub, Int.reduceToNat, Int.reduceNeg, Nat.reduceBEq, hbr, hr0, hr1, hb0, hb1, hr2, hr3, hb2, hb3, hrb, Nat.add_assoc, Nat.left_eq_add, Nat.add_eq_left, Nat.add_left_cancel_iff]; rfl) ?_
  have h1 := one_c bs ln cp (at_ + 2) r b (nx + 2) ro loose (by omega) hl hbr
  unfold rdH at h1
  refine JS_go (tbOk _) 99 fun x hx => ?_
  simp only [RN, ↓reduceIte, ↓get8, reduceCtorEq, Nat.reduceLT, Nat.reduceEqDiff, Nat.reduceAdd, Nat.reduceMul, Nat.reduceLeDiff, Nat.reduceSub, Int.reduceToNat, Int.reduceNeg, Nat.reduceBEq, TY, hbr, hr0, hr1, hb0, hb1, hr2, hr3, hb2, hb3, hrb, Nat.add_assoc, Nat.left_eq_add, Nat.add_eq_left, Nat.add_left_cancel_iff] at hx
  subst hx
  refine ⟨_, _, rfl, by first | trivial | omega | (simp only [and_true, true_and]; omega), ?_⟩
  refine at_callK (h1) (by simp only [RN, ↓reduceIte, ↓get8, reduceCtorEq, Nat.reduceLT, Nat.reduceEqDiff, Nat.reduceAdd, Nat.reduceMul, Nat.reduceLeDiff, Nat.reduceSub, Int.reduceToNat, Int.reduceNeg, Nat.reduceBEq, hbr, hr0, hr1, hb0, hb1, hr2, hr3, hb2, hb3, hrb, Nat.add_assoc, Nat.left_eq_add, Nat.add_eq_left, Nat.add_left_cancel_iff]; first | done | trivial) (by simp only [RN, ↓reduceIte, ↓get8, reduceCtorEq, Nat.reduceLT, Nat.reduceEqDiff, Nat.reduceAdd, Nat.reduceMul, Nat.reduceLeDiff, Nat.reduceSub, Int.reduceToNat, Int.reduceNeg, Nat.reduceBEq, hbr, hr0, hr1, hb0, hb1, hr2, hr3, hb2, hb3, hrb, Nat.add_assoc, Nat.left_eq_add, Nat.add_eq_left, Nat.add_left_cancel_iff]; rfl) ?_
  have h2 := one_c bs ln cp (at_ + 3) r b (nx + 2) ro loose (by omega) hl hbr
  unfold rdH at h2
  refine JS_go (tbOk _) 99 fun x hx => ?_
  simp only [RN, ↓reduceIte, ↓get8, reduceCtorEq, Nat.reduceLT, Nat.reduceEqDiff, Nat.reduceAdd, Nat.reduceMul, Nat.reduceLeDiff, Nat.reduceSub, Int.reduceToNat, Int.reduceNeg, Nat.reduceBEq, TY, hbr, hr0, hr1, hb0, hb1, hr2, hr3, hb2, hb3, hrb, Nat.add_assoc, Nat.left_eq_add, Nat.add_eq_left, Nat.add_left_cancel_iff] at hx
  subst hx
  refine ⟨_, _, rfl, by first | trivial | omega | (simp only [and_true, true_and]; omega), ?_⟩
  refine at_callK (h2) (by simp only [RN, ↓reduceIte, ↓get8, reduceCtorEq, Nat.reduceLT, Nat.reduceEqDiff, Nat.reduceAdd, Nat.reduceMul, Nat.reduceLeDiff, Nat.reduceSub, Int.reduceToNat, Int.reduceNeg, Nat.reduceBEq, hbr, hr0, hr1, hb0, hb1, hr2, hr3, hb2, hb3, hrb, Nat.add_assoc, Nat.left_eq_add, Nat.add_eq_left, Nat.add_left_cancel_iff]; first | done | trivial) (by simp only [RN, ↓reduceIte, ↓get8, reduceCtorEq, Nat.reduceLT, Nat.reduceEqDiff, Nat.reduceAdd, Nat.reduceMul, Nat.reduceLeDiff, Nat.reduceSub, Int.reduceToNat, Int.reduceNeg, Nat.reduceBEq, hbr, hr0, hr1, hb0, hb1, hr2, hr3, hb2, hb3, hrb, Nat.add_assoc, Nat.left_eq_add, Nat.add_eq_left, Nat.add_left_cancel_iff]; rfl) ?_
  have h3 := one_c bs ln cp (at_ + 4) r b (nx + 2) ro loose (by omega) hl hbr
  unfold rdH at h3
  refine JS_go (tbOk _) 99 fun x hx => ?_
  simp only [RN, ↓reduceIte, ↓get8, reduceCtorEq, Nat.reduceLT, Nat.reduceEqDiff, Nat.reduceAdd, Nat.reduceMul, Nat.reduceLeDiff, Nat.reduceSub, Int.reduceToNat, Int.reduceNeg, Nat.reduceBEq, TY, hbr, hr0, hr1, hb0, hb1, hr2, hr3, hb2, hb3, hrb, Nat.add_assoc, Nat.left_eq_add, Nat.add_eq_left, Nat.add_left_cancel_iff] at hx
  subst hx
  refine ⟨_, _, rfl, by first | trivial | omega | (simp only [and_true, true_and]; omega), ?_⟩
  refine at_callK (h3) (by simp only [RN, ↓reduceIte, ↓get8, reduceCtorEq, Nat.reduceLT, Nat.reduceEqDiff, Nat.reduceAdd, Nat.reduceMul, Nat.reduceLeDiff, Nat.reduceSub, Int.reduceToNat, Int.reduceNeg, Nat.reduceBEq, hbr, hr0, hr1, hb0, hb1, hr2, hr3, hb2, hb3, hrb, Nat.add_assoc, Nat.left_eq_add, Nat.add_eq_left, Nat.add_left_cancel_iff]; first | done | trivial) (by simp only [RN, ↓reduceIte, ↓get8, reduceCtorEq, Nat.reduceLT, Nat.reduceEqDiff, Nat.reduceAdd, Nat.reduceMul, Nat.reduceLeDiff, Nat.reduceSub, Int.reduceToNat, Int.reduceNeg, Nat.reduceBEq, hbr, hr0, hr1, hb0, hb1, hr2, hr3, hb2, hb3, hrb, Nat.add_assoc, Nat.left_eq_add, Nat.add_eq_left, Nat.add_left_cancel_iff]; rfl) ?_
  have h4 := one_c bs ln cp (at_ + 5) r b (nx + 2) ro loose (by omega) hl hbr
  rw [hu] at h4
  unfold rdH at h4
  refine JS_go (tbOk _) 99 fun x hx => ?_
  simp only [RN, ↓reduceIte, ↓get8, reduceCtorEq, Nat.reduceLT, Nat.reduceEqDiff, Nat.reduceAdd, Nat.reduceMul, Nat.reduceLeDiff, Nat.reduceSub, Int.reduceToNat, Int.reduceNeg, Nat.reduceBEq, TY, hbr, hr0, hr1, hb0, hb1, hr2, hr3, hb2, hb3, hrb, Nat.add_assoc, Nat.left_eq_add, Nat.add_eq_left, Nat.add_left_cancel_iff] at hx
  subst hx
  refine ⟨_, _, rfl, by first | trivial | omega | (simp only [and_true, true_and]; omega), ?_⟩
  refine at_callK (h4) (by simp only [RN, ↓reduceIte, ↓get8, reduceCtorEq, Nat.reduceLT, Nat.reduceEqDiff, Nat.reduceAdd, Nat.reduceMul, Nat.reduceLeDiff, Nat.reduceSub, Int.reduceToNat, Int.reduceNeg, Nat.reduceBEq, hbr, hr0, hr1, hb0, hb1, hr2, hr3, hb2, hb3, hrb, Nat.add_assoc, Nat.left_eq_add, Nat.add_eq_left, Nat.add_left_cancel_iff]; first | done | trivial) (by simp only [RN, ↓reduceIte, ↓get8, reduceCtorEq, Nat.reduceLT, Nat.reduceEqDiff, Nat.reduceAdd, Nat.reduceMul, Nat.reduceLeDiff, Nat.reduceSub, Int.reduceToNat, Int.reduceNeg, Nat.reduceBEq, hbr, hr0, hr1, hb0, hb1, hr2, hr3, hb2, hb3, hrb, Nat.add_assoc, Nat.left_eq_add, Nat.add_eq_left, Nat.add_left_cancel_iff]; rfl) ?_
  refine JS_go (tbOk _) 99 fun x hx => ?_
  simp only [RN, ↓reduceIte, ↓get8, reduceCtorEq, Nat.reduceLT, Nat.reduceEqDiff, Nat.reduceAdd, Nat.reduceMul, Nat.reduceLeDiff, Nat.reduceSub, Int.reduceToNat, Int.reduceNeg, Nat.reduceBEq, TY, hbr, hr0, hr1, hb0, hb1, hr2, hr3, hb2, hb3, hrb, Nat.add_assoc, Nat.left_eq_add, Nat.add_eq_left, Nat.add_left_cancel_iff] at hx
  subst hx
  refine ⟨_, _, rfl, by first | trivial | omega | (simp only [and_true, true_and]; omega), ?_⟩
  refine at_cond (fun h => (by simp at h; omega)) (fun h => ?_)
  have hs := speed_c bs ln cp (at_ + 6) r b (nx + 2) ro loose (by omega) hl hbr x hx
  unfold rdH at hs
  refine JS_go (tbOk _) 99 fun x hx => ?_
  simp only [RN, ↓reduceIte, ↓get8, reduceCtorEq, Nat.reduceLT, Nat.reduceEqDiff, Nat.reduceAdd, Nat.reduceMul, Nat.reduceLeDiff, Nat.reduceSub, Int.reduceToNat, Int.reduceNeg, Nat.reduceBEq, TY, hbr, hr0, hr1, hb0, hb1, hr2, hr3, hb2, hb3, hrb, Nat.add_assoc, Nat.left_eq_add, Nat.add_eq_left, Nat.add_left_cancel_iff] at hx
  subst hx
  refine ⟨_, _, rfl, by first | trivial | omega | (simp only [and_true, true_and]; omega), ?_⟩
  refine at_callG hs (by simp only [RN, ↓reduceIte, ↓get8, reduceCtorEq, Nat.reduceLT, Nat.reduceEqDiff, Nat.reduceAdd, Nat.reduceMul, Nat.reduceLeDiff, Nat.reduceSub, Int.reduceToNat, Int.reduceNeg, Nat.reduceBEq, hbr, hr0, hr1, hb0, hb1, hr2, hr3, hb2, hb3, hrb, Nat.add_assoc, Nat.left_eq_add, Nat.add_eq_left, Nat.add_left_cancel_iff]; first | done | trivial) ?_
  rintro o L' n ⟨rfl, rfl, rfl⟩
  unfold okOr
  by_cases hc : x.2 = 0
  · simp only [if_pos hc]
    refine ⟨_, by simp only [RN, ↓reduceIte, ↓get8, reduceCtorEq, Nat.reduceLT, Nat.reduceEqDiff, Nat.reduceAdd, Nat.reduceMul, Nat.reduceLeDiff, Nat.reduceSub, Int.reduceToNat, Int.reduceNeg, Nat.reduceBEq, hbr, hr0, hr1, hb0, hb1, hr2, hr3, hb2, hb3, hrb, Nat.add_assoc, Nat.left_eq_add, Nat.add_eq_left, Nat.add_left_cancel_iff]; rfl, ?_⟩
    refine JS_go (tbOk _) 99 fun x hx => ?_
    simp only [RN, ↓reduceIte, ↓get8, reduceCtorEq, Nat.reduceLT, Nat.reduceEqDiff, Nat.reduceAdd, Nat.reduceMul, Nat.reduceLeDiff, Nat.reduceSub, Int.reduceToNat, Int.reduceNeg, Nat.reduceBEq, TY, hbr, hr0, hr1, hb0, hb1, hr2, hr3, hb2, hb3, hrb, Nat.add_assoc, Nat.left_eq_add, Nat.add_eq_left, Nat.add_left_cancel_iff] at hx
    subst hx
    refine ⟨_, _, rfl, by first | trivial | omega | (simp only [and_true, true_and]; omega), ?_⟩
    first | refine at_ret ?_ | refine at_done ?_
    repeat (first | refine in_ret ?_ | refine in_retI ?_)
    first | refine ret_endK (by simp only [RN, ↓reduceIte, ↓get8, reduceCtorEq, Nat.reduceLT, Nat.reduceEqDiff, Nat.reduceAdd, Nat.reduceMul, Nat.reduceLeDiff, Nat.reduceSub, Int.reduceToNat, Int.reduceNeg, Nat.reduceBEq]; rfl) rfl trivial ?_ | refine nrm_endK (by simp only [RN, ↓reduceIte, ↓get8, reduceCtorEq, Nat.reduceLT, Nat.reduceEqDiff, Nat.reduceAdd, Nat.reduceMul, Nat.reduceLeDiff, Nat.reduceSub, Int.reduceToNat, Int.reduceNeg, Nat.reduceBEq]; rfl) rfl trivial ?_ | refine ret_endK (by simp only [RN, ↓reduceIte, ↓get8, reduceCtorEq, Nat.reduceLT, Nat.reduceEqDiff, Nat.reduceAdd, Nat.reduceMul, Nat.reduceLeDiff, Nat.reduceSub, Int.reduceToNat, Int.reduceNeg, Nat.reduceBEq, TY, hbr, hr0, hr1, hb0, hb1, hr2, hr3, hb2, hb3, hrb, Nat.add_assoc, Nat.left_eq_add, Nat.add_eq_left, Nat.add_left_cancel_iff]; rfl) rfl (by first | trivial | omega) ?_
    refine ⟨_, ?_, rfl, rfl, rfl⟩
    exact leL_look (by simp only [RN, ↓reduceIte, ↓get8, reduceCtorEq, Nat.reduceLT, Nat.reduceEqDiff, Nat.reduceAdd, Nat.reduceMul, Nat.reduceLeDiff, Nat.reduceSub, Int.reduceToNat, Int.reduceNeg, Nat.reduceBEq, hbr, hr0, hr1, hb0, hb1, hr2, hr3, hb2, hb3, hrb, Nat.add_assoc, Nat.left_eq_add, Nat.add_eq_left, Nat.add_left_cancel_iff]; first | done | trivial)
  · simp only [if_neg hc]
    refine pan_endK rfl ⟨_, ?_, rfl, rfl, rfl⟩
    exact leL_look (by simp only [RN, ↓reduceIte, ↓get8, reduceCtorEq, Nat.reduceLT, Nat.reduceEqDiff, Nat.reduceAdd, Nat.reduceMul, Nat.reduceLeDiff, Nat.reduceSub, Int.reduceToNat, Int.reduceNeg, Nat.reduceBEq, hbr, hr0, hr1, hb0, hb1, hr2, hr3, hb2, hb3, hrb, Nat.add_assoc, Nat.left_eq_add, Nat.add_eq_left, Nat.add_left_cancel_iff]; first | done | trivial)
end Go.Proofs.Ytoihmanhldcjhaa.Id
namespace Go.Proofs.Ytoihmanhldcjhaa.Id
open Go Go.Proofs.Ytoihmanhldcjhaa.Rl
set_option linter.unusedSimpArgs false
set_option linter.unusedVariables false
def kE (bs : List UInt8) (i : Nat) : Int × Int := ofS (le ((bs.drop (2 + 35 * i + 27)).take 8))
def kX (bs : List UInt8) (i : Nat) : Kd := kdAt bs (2 + 35 * i) (kE bs i)
def wU (bs : List UInt8) (a : Nat) : Nat := le ((bs.drop (a + 5)).take 1)
def wS (bs : List UInt8) (a : Nat) : Int × Int := ofS (le ((bs.drop (a + 6)).take 8))
def wE (bs : List UInt8) (a : Nat) : Int × Int := if 1 < wU bs a then (3, ((a + 5 : Nat) : Int)) else ((wS bs a).2, ((a + 6 : Nat) : Int))
def wX (bs : List UInt8) (a : Nat) : Wp := wpAt bs a (wU bs a) (wS bs a)
def wsF (bs : List UInt8) (m j : Nat) : List Wp := (List.range j).map fun x => wX bs (2 + 35 * m + 14 * x)
def decB (bs : List UInt8) (ln : Nat) : List Kd × List Wp × Int × Int :=
  if ln < 2 then ([], [], 2, ln) else
  if ln < 2 + 35 * le ((bs.drop 0).take 1) + 14 * le ((bs.drop 1).take 1) then ([], [], 2, ln) else
  if 2 + 35 * le ((bs.drop 0).take 1) + 14 * le ((bs.drop 1).take 1) < ln then ([], [], 7, (2 + 35 * le ((bs.drop 0).take 1) + 14 * le ((bs.drop 1).take 1) : Nat)) else
  match (List.range (le ((bs.drop 0).take 1))).find? fun i => decide ((kE bs i).2 ≠ 0) with
  | some i => ([], [], (kE bs i).2, (2 + 35 * i + 27 : Nat))
  | none => match (List.range (le ((bs.drop 1).take 1))).find? fun i => decide ((wE bs (2 + 35 * le ((bs.drop 0).take 1) + 14 * i)).1 ≠ 0) with
    | some i => ([], [], wE bs (2 + 35 * le ((bs.drop 0).take 1) + 14 * i))
    | none =>
      let ks := (List.range (le ((bs.drop 0).take 1))).map (kX bs)
      let ws := wsF bs (le ((bs.drop 0).take 1)) (le ((bs.drop 1).take 1))
      if (checkB ks ws).1 = 0 then (ks, ws, 0, 0) else ([], [], checkB ks ws)
structure Rd where
  bs : List UInt8
  ln : Nat
  oq : Option Nat
  cp : Nat
  ro : Bool
  loose : Bool
def Rd.val (R : Rd) : Value := slv R.oq R.ln R.cp
def Rd.H (R : Rd) : Hp := match R.oq with
  | none => []
  | some q => [(q, ⟨bys R.bs, 5, 1, R.ro, R.loose⟩)]
structure Rd.Good (R : Rd) (nx : Nat) : Prop where
  hl : R.ln ≤ R.bs.length ∧ R.ln ≤ 1000000
  h0 : R.oq = none → R.ln = 0
  hq : ∀ q, R.oq = some q → q < nx
  hc : R.ln ≤ R.cp
def decK (bs : List UInt8) (ln : Nat) (H : Hp) (nx : Nat) : Out → Hp → Nat → Prop := fun o F' nx' =>
  ∃ B : Bk, B.ks = (decB bs ln).1 ∧ B.ws = (decB bs ln).2.1 ∧ B.Good nx' ∧ (B.kx = [] ∧ B.wx = [] ∧ B.ro = false ∧ B.loose = true) ∧ (∀ b, B.ok = some b → nx ≤ b) ∧ (∀ b, B.ow = some b → nx ≤ b) ∧ nx ≤ nx' ∧
    o = .ret (.tuple #[B.val, .int .i64 (decB bs ln).2.2.1, .int .i64 (decB bs ln).2.2.2]) ∧ F' = H ++ B.H
theorem dec_err {bs : List UInt8} {ln : Nat} {H : Hp} {nx nx' : Nat} {e a : Int} (h : decB bs ln = ([], [], e, a)) (hn : nx ≤ nx') : decK bs ln H nx (.ret (.tuple #[.agg #[.slice none 0 0, .slice none 0 0], .int .i64 e, .int .i64 a])) H nx' := by
  unfold decK
  rw [h]
  exact ⟨⟨[], [], [], [], none, 0, none, 0, false, true⟩, rfl, rfl, ⟨fun _ => rfl, fun _ => rfl, by simp, by simp, nofun, nofun, nofun⟩, ⟨rfl, rfl, rfl, rfl⟩, nofun, nofun, hn, rfl, by simp [Bk.H, kblk, wpblk]⟩
theorem remN_farR (nx : Nat) (ids : List Nat) (hi : ∀ i ∈ ids, nx ≤ i) {R : Rd} (hq : ∀ q, R.oq = some q → q < nx) : remN ids R.H = R.H := by
  refine remN_farL nx ids hi fun e he => ?_
  unfold Rd.H at he
  split at he
  · cases he
  · rename_i q hq2
    rw [List.mem_singleton] at he
    subst he
    exact hq q hq2
theorem Rd.lt {R : Rd} {nx : Nat} (g : R.Good nx) : ∀ id b, look id R.H = some b → id < nx := by
  intro id b h
  unfold Rd.H at h
  split at h
  · cases h
  · rename_i q hq2
    rw [look_cons] at h
    split at h
    · rename_i e; subst e; exact g.hq _ hq2
    · cases h
theorem le1 (l : List UInt8) : le (l.take 1) < 256 := by
  have h := le_lt (l.take 1)
  have h2 : (l.take 1).length ≤ 1 := by simp; omega
  have : (256 : Nat) ^ (l.take 1).length ≤ 256 ^ 1 := Nat.pow_le_pow_right (by omega) h2
  omega
theorem remN_not (ids : List Nat) : ∀ {T0 : Hp}, (∀ e ∈ T0, ∀ i ∈ ids, ¬ e.1 = i) → remN ids T0 = T0
  | [], _ => rfl
  | (k, b) :: T0, h => by
    have : ids.contains k = false := by
      rw [List.contains_eq_mem, decide_eq_false_iff_not]
      intro hm
      exact h (k, b) (by simp) k hm rfl
    rw [remN, remN_not ids fun e he => h e (by simp [he]), hasN_eq, this]
    rfl
theorem del_not (b : Nat) : ∀ {T0 : Hp}, (∀ e ∈ T0, ¬ e.1 = b) → del b T0 = T0
  | [], _ => rfl
  | (k, x) :: T0, h => by
    have : ¬ k = b := h (k, x) (by simp)
    rw [del_cons, if_neg this, del_not b fun e he => h e (by simp [he])]
set_option maxRecDepth 100000 in
set_option maxHeartbeats 4000000 in
theorem decode_c (R : Rd) (nx : Nat) (g : R.Good nx) : CallW Try.prog 15 [R.val] R.H nx (decK R.bs R.ln R.H nx) := by
  have tl := ilen_slv (tbOf Try.prog) 34 5 (by rw [und_eq, Try.underlying34]) R.oq R.ln R.cp g.h0
  have tR := fun ids h => remN_farR nx ids h g.hq
  have tlt := Rd.lt g
  rcases R with ⟨bs, ln, oq, cp, ro, loose⟩
  obtain ⟨hl, hq0, hq, hc⟩ := g
  unfold Rd.val
  obtain ⟨T1, hT1⟩ : ∃ T1, Rd.H ⟨bs, ln, oq, cp, ro, loose⟩ = T1 := ⟨_, rfl⟩
  rw [hT1] at tR tlt ⊢
  dsimp only at tl tR tlt hl hq0 hq ⊢
  refine CallW_goD (tbOk _) 77 [.cell 2 26, .cell 3 28, .cell 4 3] Try.func15 rfl (by decide) rfl rfl (by simp) fun hlt => ?_
  simp only [params, Nat.zero_add, Nat.reduceAdd]
  cases c0 : decide ((ln : Int) < 2)
  case true =>
    skip
    have d0 : decB bs ln = ([], [], 2, (ln : Int)) := by unfold decB; rw [if_pos (by have := of_decide_eq_true c0; omega)]
    refine JS_go (tbOk _) 99 fun x hx => ?_
    simp only [RN, ↓reduceIte, ↓get8, reduceCtorEq, Nat.reduceLT, Nat.reduceEqDiff, Nat.reduceAdd, Nat.reduceMul, Nat.reduceLeDiff, Nat.reduceSub, Int.reduceToNat, Int.reduceNeg, Nat.reduceBEq, TY, ↓tl, c0, Nat.add_assoc, Nat.left_eq_add, Nat.add_eq_left, Nat.add_left_cancel_iff] at hx
    subst hx
    refine ⟨_, _, rfl, by first | trivial | omega | (simp only [and_true, true_and]; omega), ?_⟩
    refine at_cond (fun _ => ?_) (fun h => nomatch h)
    refine JS_go (tbOk _) 99 fun x hx => ?_
    simp only [RN, ↓reduceIte, ↓get8, reduceCtorEq, Nat.reduceLT, Nat.reduceEqDiff, Nat.reduceAdd, Nat.reduceMul, Nat.reduceLeDiff, Nat.reduceSub, Int.reduceToNat, Int.reduceNeg, Nat.reduceBEq, TY, ↓tl, Nat.add_assoc, Nat.left_eq_add, Nat.add_eq_left, Nat.add_left_cancel_iff] at hx
    subst hx
    refine ⟨_, _, rfl, by first | trivial | omega | (simp only [and_true, true_and]; omega), ?_⟩
    refine at_ret ?_
    refine deferQ_of (f := 29) (L := resH nx (nx + 1) (nx + 2) (.slice none 0 0) (.slice none 0 0) (.int .i64 2) (.int .i64 ln)) rfl (catch_nil nx (nx + 1) (nx + 2) (nx + 3) (.slice none 0 0) (.slice none 0 0) (.int .i64 2) (.int .i64 ln) (by omega) (by omega) (by omega)) (by unfold resH; simp only [RN, ↓reduceIte, ↓get8, reduceCtorEq, Nat.reduceLT, Nat.reduceEqDiff, Nat.reduceAdd, Nat.reduceMul, Nat.reduceLeDiff, Nat.reduceSub, Int.reduceToNat, Int.reduceNeg, Nat.reduceBEq, Nat.add_assoc, Nat.left_eq_add, Nat.add_eq_left, Nat.add_left_cancel_iff]; first | done | trivial) ?_
    rintro L' n' ⟨rfl, rfl⟩
    have rT := tR [nx, nx + 1, nx + 2] (by simp)
    refine ⟨_, _, by unfold resH; simp only [RN, ↓reduceIte, ↓get8, reduceCtorEq, Nat.reduceLT, Nat.reduceEqDiff, Nat.reduceAdd, Nat.reduceMul, Nat.reduceLeDiff, Nat.reduceSub, Int.reduceToNat, Int.reduceNeg, Nat.reduceBEq, TY, Nat.add_assoc, Nat.left_eq_add, Nat.add_eq_left, Nat.add_left_cancel_iff]; rfl, by first | trivial | omega, T1, fun id b h => ?_, dec_err d0 (by show nx ≤ nx + 3; omega)⟩
    have u0 := tlt id b h
    have w0 : ¬ id = nx := by omega
    have w1 : ¬ id = nx + 1 := by omega
    have w2 : ¬ id = nx + 2 := by omega
    simp only [RN, ↓reduceIte, ↓get8, reduceCtorEq, Nat.reduceLT, Nat.reduceEqDiff, Nat.reduceAdd, Nat.reduceMul, Nat.reduceLeDiff, Nat.reduceSub, Int.reduceToNat, Int.reduceNeg, Nat.reduceBEq, resH, rT, w0, w1, w2, Nat.add_assoc, Nat.left_eq_add, Nat.add_eq_left, Nat.add_left_cancel_iff, h]
  have c0' : 2 ≤ ln := by have := of_decide_eq_false c0; omega
  obtain ⟨q, rfl⟩ : ∃ q, oq = some q := by
    cases oq with
    | none => have := hq0 rfl; omega
    | some q => exact ⟨q, rfl⟩
  have hqn := hq q rfl
  obtain rfl : [(q, ⟨bys bs, 5, 1, ro, loose⟩)] = T1 := hT1
  clear tR tlt hq0 hq
  unfold slv
  clear tl
  obtain ⟨m, hm⟩ : ∃ m, le ((bs.drop 0).take 1) = m := ⟨_, rfl⟩
  obtain ⟨w, hw⟩ : ∃ w, le ((bs.drop 1).take 1) = w := ⟨_, rfl⟩
  have hm1 : m < 256 := by rw [← hm]; exact le1 _
  have hw1 : w < 256 := by rw [← hw]; exact le1 _
  have e1 : IntKind.i64.wrap (35 * (m : Int)) = ((35 * m : Nat) : Int) := by rw [show 35 * (m : Int) = ((35 * m : Nat) : Int) by omega]; exact wrap_i64 _ (by omega)
  have e2 : IntKind.i64.wrap (2 + ((35 * m : Nat) : Int)) = ((2 + 35 * m : Nat) : Int) := by rw [show 2 + ((35 * m : Nat) : Int) = ((2 + 35 * m : Nat) : Int) by omega]; exact wrap_i64 _ (by omega)
  have e3 : IntKind.i64.wrap (14 * (w : Int)) = ((14 * w : Nat) : Int) := by rw [show 14 * (w : Int) = ((14 * w : Nat) : Int) by omega]; exact wrap_i64 _ (by omega)
  obtain ⟨al, hal⟩ : ∃ al, 2 + 35 * m + 14 * w = al := ⟨_, rfl⟩
  have e4 : IntKind.i64.wrap (((2 + 35 * m : Nat) : Int) + ((14 * w : Nat) : Int)) = (al : Int) := by rw [show ((2 + 35 * m : Nat) : Int) + ((14 * w : Nat) : Int) = (al : Int) by omega]; exact wrap_i64 _ (by omega)
  have o1 := one_c bs ln cp 0 (nx + 3) q (nx + 4) ro loose (by omega) hl (by omega)
  have o2 := one_c bs ln cp 1 (nx + 3) q (nx + 4) ro loose (by omega) hl (by omega)
  rw [hm] at o1
  rw [hw] at o2
  unfold rdH at o1 o2
  have a0 : ¬ q = nx := by omega
  have a1 : ∀ i, ¬ q = nx + i := by intro i; omega
  have a2 : ¬ nx = q := by omega
  have a3 : ∀ i, ¬ nx + i = q := by intro i; omega
  have aq1 : ¬ nx + 3 = q := by omega
  refine JS_go (tbOk _) 99 fun x hx => ?_
  simp only [RN, ↓reduceIte, ↓get8, reduceCtorEq, Nat.reduceLT, Nat.reduceEqDiff, Nat.reduceAdd, Nat.reduceMul, Nat.reduceLeDiff, Nat.reduceSub, Int.reduceToNat, Int.reduceNeg, Nat.reduceBEq, TY, c0, a0, a1, a2, a3, aq1, Nat.add_assoc, Nat.left_eq_add, Nat.add_eq_left, Nat.add_left_cancel_iff] at hx
  subst hx
  refine ⟨_, _, rfl, by first | trivial | omega | (simp only [and_true, true_and]; omega), ?_⟩
  refine at_cond (fun h => nomatch h) (fun _ => ?_)
  refine JS_go (tbOk _) 99 fun x hx => ?_
  simp only [RN, ↓reduceIte, ↓get8, reduceCtorEq, Nat.reduceLT, Nat.reduceEqDiff, Nat.reduceAdd, Nat.reduceMul, Nat.reduceLeDiff, Nat.reduceSub, Int.reduceToNat, Int.reduceNeg, Nat.reduceBEq, TY, a0, a1, a2, a3, aq1, Nat.add_assoc, Nat.left_eq_add, Nat.add_eq_left, Nat.add_left_cancel_iff] at hx
  subst hx
  refine ⟨_, _, rfl, by first | trivial | omega | (simp only [and_true, true_and]; omega), ?_⟩
  refine at_callK (o1) (by simp only [RN, ↓reduceIte, ↓get8, reduceCtorEq, Nat.reduceLT, Nat.reduceEqDiff, Nat.reduceAdd, Nat.reduceMul, Nat.reduceLeDiff, Nat.reduceSub, Int.reduceToNat, Int.reduceNeg, Nat.reduceBEq, a0, a1, a2, a3, aq1, Nat.add_assoc, Nat.left_eq_add, Nat.add_eq_left, Nat.add_left_cancel_iff]; first | done | trivial) (by simp only [RN, ↓reduceIte, ↓get8, reduceCtorEq, Nat.reduceLT, Nat.reduceEqDiff, Nat.reduceAdd, Nat.reduceMul, Nat.reduceLeDiff, Nat.reduceSub, Int.reduceToNat, Int.reduceNeg, Nat.reduceBEq, a0, a1, a2, a3, aq1, Nat.add_assoc, Nat.left_eq_add, Nat.add_eq_left, Nat.add_left_cancel_iff]; rfl) ?_
  refine JS_go (tbOk _) 99 fun x hx => ?_
  simp only [RN, ↓reduceIte, ↓get8, reduceCtorEq, Nat.reduceLT, Nat.reduceEqDiff, Nat.reduceAdd, Nat.reduceMul, Nat.reduceLeDiff, Nat.reduceSub, Int.reduceToNat, Int.reduceNeg, Nat.reduceBEq, TY, a0, a1, a2, a3, aq1, Nat.add_assoc, Nat.left_eq_add, Nat.add_eq_left, Nat.add_left_cancel_iff] at hx
  subst hx
  refine ⟨_, _, rfl, by first | trivial | omega | (simp only [and_true, true_and]; omega), ?_⟩
  refine at_callK (o2) (by simp only [RN, ↓reduceIte, ↓get8, reduceCtorEq, Nat.reduceLT, Nat.reduceEqDiff, Nat.reduceAdd, Nat.reduceMul, Nat.reduceLeDiff, Nat.reduceSub, Int.reduceToNat, Int.reduceNeg, Nat.reduceBEq, a0, a1, a2, a3, aq1, Nat.add_assoc, Nat.left_eq_add, Nat.add_eq_left, Nat.add_left_cancel_iff]; first | done | trivial) (by simp only [RN, ↓reduceIte, ↓get8, reduceCtorEq, Nat.reduceLT, Nat.reduceEqDiff, Nat.reduceAdd, Nat.reduceMul, Nat.reduceLeDiff, Nat.reduceSub, Int.reduceToNat, Int.reduceNeg, Nat.reduceBEq, a0, a1, a2, a3, aq1, Nat.add_assoc, Nat.left_eq_add, Nat.add_eq_left, Nat.add_left_cancel_iff]; rfl) ?_
  cases c1 : decide ((ln : Int) < (al : Int))
  case true =>
    skip
    have d0 : decB bs ln = ([], [], 2, (ln : Int)) := by unfold decB; rw [hm, hw, hal, if_neg (by omega), if_pos (by have := of_decide_eq_true c1; omega)]
    refine JS_go (tbOk _) 99 fun x hx => ?_
    simp only [RN, ↓reduceIte, ↓get8, reduceCtorEq, Nat.reduceLT, Nat.reduceEqDiff, Nat.reduceAdd, Nat.reduceMul, Nat.reduceLeDiff, Nat.reduceSub, Int.reduceToNat, Int.reduceNeg, Nat.reduceBEq, TY, c1, e1, e2, e3, e4, a0, a1, a2, a3, aq1, Nat.add_assoc, Nat.left_eq_add, Nat.add_eq_left, Nat.add_left_cancel_iff] at hx
    subst hx
    refine ⟨_, _, rfl, by first | trivial | omega | (simp only [and_true, true_and]; omega), ?_⟩
    refine at_cond (fun _ => ?_) (fun h => nomatch h)
    refine JS_go (tbOk _) 99 fun x hx => ?_
    simp only [RN, ↓reduceIte, ↓get8, reduceCtorEq, Nat.reduceLT, Nat.reduceEqDiff, Nat.reduceAdd, Nat.reduceMul, Nat.reduceLeDiff, Nat.reduceSub, Int.reduceToNat, Int.reduceNeg, Nat.reduceBEq, TY, a0, a1, a2, a3, aq1, Nat.add_assoc, Nat.left_eq_add, Nat.add_eq_left, Nat.add_left_cancel_iff] at hx
    subst hx
    refine ⟨_, _, rfl, by first | trivial | omega | (simp only [and_true, true_and]; omega), ?_⟩
    refine at_ret ?_
    refine deferQ_of (f := 29) (L := resH nx (nx + 1) (nx + 2) (.slice none 0 0) (.slice none 0 0) (.int .i64 2) (.int .i64 ln)) rfl (catch_nil nx (nx + 1) (nx + 2) (nx + 4) (.slice none 0 0) (.slice none 0 0) (.int .i64 2) (.int .i64 ln) (by omega) (by omega) (by omega)) (by unfold resH; simp only [RN, ↓reduceIte, ↓get8, reduceCtorEq, Nat.reduceLT, Nat.reduceEqDiff, Nat.reduceAdd, Nat.reduceMul, Nat.reduceLeDiff, Nat.reduceSub, Int.reduceToNat, Int.reduceNeg, Nat.reduceBEq, a0, a1, a2, a3, aq1, Nat.add_assoc, Nat.left_eq_add, Nat.add_eq_left, Nat.add_left_cancel_iff]; first | done | trivial) ?_
    rintro L' n' ⟨rfl, rfl⟩
    refine ⟨_, _, by unfold resH; simp only [RN, ↓reduceIte, ↓get8, reduceCtorEq, Nat.reduceLT, Nat.reduceEqDiff, Nat.reduceAdd, Nat.reduceMul, Nat.reduceLeDiff, Nat.reduceSub, Int.reduceToNat, Int.reduceNeg, Nat.reduceBEq, TY, keepFr, a0, a1, a2, a3, aq1, Nat.add_assoc, Nat.left_eq_add, Nat.add_eq_left, Nat.add_left_cancel_iff]; rfl, by first | trivial | omega, [(q, ⟨bys bs, 5, 1, ro, loose⟩)], leL_look (by unfold resH; simp only [RN, ↓reduceIte, ↓get8, reduceCtorEq, Nat.reduceLT, Nat.reduceEqDiff, Nat.reduceAdd, Nat.reduceMul, Nat.reduceLeDiff, Nat.reduceSub, Int.reduceToNat, Int.reduceNeg, Nat.reduceBEq, a0, a1, a2, a3, aq1, Nat.add_assoc, Nat.left_eq_add, Nat.add_eq_left, Nat.add_left_cancel_iff]; first | done | trivial), dec_err d0 (by show nx ≤ nx + 4; omega)⟩
  cases c2 : decide ((ln : Int) > (al : Int))
  case true =>
    skip
    have d0 : decB bs ln = ([], [], 7, (al : Int)) := by unfold decB; rw [hm, hw, hal, if_neg (by omega), if_neg (by have := of_decide_eq_false c1; omega), if_pos (by have := of_decide_eq_true c2; omega)]
    refine JS_go (tbOk _) 99 fun x hx => ?_
    simp only [RN, ↓reduceIte, ↓get8, reduceCtorEq, Nat.reduceLT, Nat.reduceEqDiff, Nat.reduceAdd, Nat.reduceMul, Nat.reduceLeDiff, Nat.reduceSub, Int.reduceToNat, Int.reduceNeg, Nat.reduceBEq, TY, c1, c2, e1, e2, e3, e4, a0, a1, a2, a3, aq1, Nat.add_assoc, Nat.left_eq_add, Nat.add_eq_left, Nat.add_left_cancel_iff] at hx
    subst hx
    refine ⟨_, _, rfl, by first | trivial | omega | (simp only [and_true, true_and]; omega), ?_⟩
    refine at_cond (fun h => nomatch h) (fun _ => ?_)
    refine JS_go (tbOk _) 99 fun x hx => ?_
    simp only [RN, ↓reduceIte, ↓get8, reduceCtorEq, Nat.reduceLT, Nat.reduceEqDiff, Nat.reduceAdd, Nat.reduceMul, Nat.reduceLeDiff, Nat.reduceSub, Int.reduceToNat, Int.reduceNeg, Nat.reduceBEq, TY, c1, c2, e1, e2, e3, e4, a0, a1, a2, a3, aq1, Nat.add_assoc, Nat.left_eq_add, Nat.add_eq_left, Nat.add_left_cancel_iff] at hx
    subst hx
    refine ⟨_, _, rfl, by first | trivial | omega | (simp only [and_true, true_and]; omega), ?_⟩
    refine at_cond (fun _ => ?_) (fun h => nomatch h)
    refine JS_go (tbOk _) 99 fun x hx => ?_
    simp only [RN, ↓reduceIte, ↓get8, reduceCtorEq, Nat.reduceLT, Nat.reduceEqDiff, Nat.reduceAdd, Nat.reduceMul, Nat.reduceLeDiff, Nat.reduceSub, Int.reduceToNat, Int.reduceNeg, Nat.reduceBEq, TY, a0, a1, a2, a3, aq1, Nat.add_assoc, Nat.left_eq_add, Nat.add_eq_left, Nat.add_left_cancel_iff] at hx
    subst hx
    refine ⟨_, _, rfl, by first | trivial | omega | (simp only [and_true, true_and]; omega), ?_⟩
    refine at_ret ?_
    refine deferQ_of (f := 29) (L := resH nx (nx + 1) (nx + 2) (.slice none 0 0) (.slice none 0 0) (.int .i64 7) (.int .i64 al)) rfl (catch_nil nx (nx + 1) (nx + 2) (nx + 4) (.slice none 0 0) (.slice none 0 0) (.int .i64 7) (.int .i64 al) (by omega) (by omega) (by omega)) (by unfold resH; simp only [RN, ↓reduceIte, ↓get8, reduceCtorEq, Nat.reduceLT, Nat.reduceEqDiff, Nat.reduceAdd, Nat.reduceMul, Nat.reduceLeDiff, Nat.reduceSub, Int.reduceToNat, Int.reduceNeg, Nat.reduceBEq, a0, a1, a2, a3, aq1, Nat.add_assoc, Nat.left_eq_add, Nat.add_eq_left, Nat.add_left_cancel_iff]; first | done | trivial) ?_
    rintro L' n' ⟨rfl, rfl⟩
    refine ⟨_, _, by unfold resH; simp only [RN, ↓reduceIte, ↓get8, reduceCtorEq, Nat.reduceLT, Nat.reduceEqDiff, Nat.reduceAdd, Nat.reduceMul, Nat.reduceLeDiff, Nat.reduceSub, Int.reduceToNat, Int.reduceNeg, Nat.reduceBEq, TY, keepFr, a0, a1, a2, a3, aq1, Nat.add_assoc, Nat.left_eq_add, Nat.add_eq_left, Nat.add_left_cancel_iff]; rfl, by first | trivial | omega, [(q, ⟨bys bs, 5, 1, ro, loose⟩)], leL_look (by unfold resH; simp only [RN, ↓reduceIte, ↓get8, reduceCtorEq, Nat.reduceLT, Nat.reduceEqDiff, Nat.reduceAdd, Nat.reduceMul, Nat.reduceLeDiff, Nat.reduceSub, Int.reduceToNat, Int.reduceNeg, Nat.reduceBEq, a0, a1, a2, a3, aq1, Nat.add_assoc, Nat.left_eq_add, Nat.add_eq_left, Nat.add_left_cancel_iff]; first | done | trivial), dec_err d0 (by show nx ≤ nx + 4; omega)⟩
  have hall : ln = al := by have := of_decide_eq_false c1; have := of_decide_eq_false c2; omega
  refine JS_go (tbOk _) 99 fun x hx => ?_
  simp only [RN, ↓reduceIte, ↓get8, reduceCtorEq, Nat.reduceLT, Nat.reduceEqDiff, Nat.reduceAdd, Nat.reduceMul, Nat.reduceLeDiff, Nat.reduceSub, Int.reduceToNat, Int.reduceNeg, Nat.reduceBEq, TY, c1, c2, e1, e2, e3, e4, a0, a1, a2, a3, aq1, Nat.add_assoc, Nat.left_eq_add, Nat.add_eq_left, Nat.add_left_cancel_iff] at hx
  subst hx
  refine ⟨_, _, rfl, by first | trivial | omega | (simp only [and_true, true_and]; omega), ?_⟩
  refine at_cond (fun h => nomatch h) (fun _ => ?_)
  refine JS_go (tbOk _) 99 fun x hx => ?_
  simp only [RN, ↓reduceIte, ↓get8, reduceCtorEq, Nat.reduceLT, Nat.reduceEqDiff, Nat.reduceAdd, Nat.reduceMul, Nat.reduceLeDiff, Nat.reduceSub, Int.reduceToNat, Int.reduceNeg, Nat.reduceBEq, TY, c1, c2, e1, e2, e3, e4, a0, a1, a2, a3, aq1, Nat.add_assoc, Nat.left_eq_add, Nat.add_eq_left, Nat.add_left_cancel_iff] at hx
  subst hx
  refine ⟨_, _, rfl, by first | trivial | omega | (simp only [and_true, true_and]; omega), ?_⟩
  refine at_cond (fun h => nomatch h) (fun _ => ?_)
  refine JS_go (tbOk _) 99 fun x hx => ?_
  simp only [RN, ↓reduceIte, ↓get8, reduceCtorEq, Nat.reduceLT, Nat.reduceEqDiff, Nat.reduceAdd, Nat.reduceMul, Nat.reduceLeDiff, Nat.reduceSub, Int.reduceToNat, Int.reduceNeg, Nat.reduceBEq, TY, a0, a1, a2, a3, aq1, Nat.add_assoc, Nat.left_eq_add, Nat.add_eq_left, Nat.add_left_cancel_iff] at hx
  subst hx
  refine ⟨_, _, rfl, by first | trivial | omega | (simp only [and_true, true_and]; omega), ?_⟩
  refine at_loop ?_
  obtain ⟨B1, hB1⟩ : ∃ B1, B1 = nx + 1 := ⟨_, rfl⟩
  obtain ⟨B2, hB2⟩ : ∃ B2, B2 = nx + 2 := ⟨_, rfl⟩
  obtain ⟨r, hr⟩ : ∃ r, r = nx + 3 := ⟨_, rfl⟩
  refine JS_loopI (S := fun x : Nat × Option Nat × Nat => { n := 77, fr := [(45, .int .i64 x.1), (44, .int .i64 m), (7, .int .i64 w), (5, .pointer (some ⟨r, 0, none⟩)), (4, .pointer (some ⟨B2, 0, none⟩)), (3, .pointer (some ⟨B1, 0, none⟩)), (2, .pointer (some ⟨nx, 0, none⟩))], F := [(nx, ⟨[slv x.2.1 x.1 x.1, .slice none 0 0], 26, 2, false, false⟩), (B1, ⟨[.int .i64 0], 28, 1, false, false⟩), (B2, ⟨[.int .i64 0], 3, 1, false, false⟩), (r, ⟨[.slice (some ⟨q, 0, none⟩) ln cp, .int .i64 ((2 + 35 * x.1 : Nat) : Int)], 63, 2, false, false⟩), (q, ⟨bys bs, 5, 1, ro, loose⟩)] ++ kblk x.2.1 ((List.range x.1).map (kX bs)) false true, nx := x.2.2, ds := [{ target := .fn (.func 29) #[.pointer (some ⟨nx, 0, none⟩), .pointer (some ⟨B1, 0, none⟩), .pointer (some ⟨B2, 0, none⟩)], args := #[] }] })
    (fun p => p.1 ≤ m ∧ nx + 4 ≤ p.2.2 ∧ (p.2.1 = none → p.1 = 0) ∧ (∀ b, p.2.1 = some b → nx + 4 ≤ b ∧ b < p.2.2) ∧ ∀ j, j < p.1 → (kE bs j).2 = 0) (fun x => m - x.1) (0, none, nx + 4) ⟨Nat.zero_le _, Nat.le_refl _, fun _ => rfl, nofun, fun j hj => absurd hj (Nat.not_lt_zero j)⟩ ?_ ?_
  · subst hB1 hB2 hr
    exact le_of rfl (by simp only [RN, ↓reduceIte, ↓get8, reduceCtorEq, Nat.reduceLT, Nat.reduceEqDiff, Nat.reduceAdd, Nat.reduceMul, Nat.reduceLeDiff, Nat.reduceSub, Int.reduceToNat, Int.reduceNeg, Nat.reduceBEq]; first | done | trivial) (by simp only [RN, ↓reduceIte, ↓get8, reduceCtorEq, Nat.reduceLT, Nat.reduceEqDiff, Nat.reduceAdd, Nat.reduceMul, Nat.reduceLeDiff, Nat.reduceSub, Int.reduceToNat, Int.reduceNeg, Nat.reduceBEq, slv, kblk, a0, a1, a2, a3, aq1, Nat.add_assoc, Nat.left_eq_add, Nat.add_eq_left, Nat.add_left_cancel_iff]; first | done | trivial) (Nat.le_refl _) rfl
  rintro ⟨i, o, n⟩ ⟨hi, hn, hno, hso, hgood⟩
  dsimp only at hi hn hno hso hgood ⊢
  have hw3 : IntKind.i64.wrap ((i : Int) + 1) = ((i + 1 : Nat) : Int) := wrap_i64 (i + 1) (by omega)
  refine JS_go (tbOk _) 99 fun x hx => ?_
  simp only [RN, ↓reduceIte, ↓get8, reduceCtorEq, Nat.reduceLT, Nat.reduceEqDiff, Nat.reduceAdd, Nat.reduceMul, Nat.reduceLeDiff, Nat.reduceSub, Int.reduceToNat, Int.reduceNeg, Nat.reduceBEq, TY] at hx
  subst hx
  refine ⟨_, _, rfl, by first | trivial | omega | (simp only [and_true, true_and]; omega), ?_⟩
  refine at_cond (fun hlt2 => ?_) (fun hge => ?_)
  · have hlt3 : i < m := by simpa using hlt2
    have hK := rkind_c bs ln cp (2 + 35 * i) r q n ro loose (by omega) hl (by omega) (by omega) (by omega) (kE bs i) rfl
    obtain ⟨k, hk⟩ : ∃ k, kX bs i = k := ⟨_, rfl⟩
    rw [show kdAt bs (2 + 35 * i) (kE bs i) = k from hk] at hK
    obtain ⟨at_, hat⟩ : ∃ at_, 2 + 35 * i = at_ := ⟨_, rfl⟩
    rw [hat] at hK ⊢
    have hat2 : at_ + 35 = 2 + 35 * (i + 1) := by omega
    rw [hat2] at hK
    obtain ⟨a2, ha2⟩ : ∃ a2, 2 + 35 * (i + 1) = a2 := ⟨_, rfl⟩
    rw [ha2] at hK
    unfold rdH at hK
    cases o with
    | none =>
      obtain rfl := hno rfl
      have g0 : ¬ nx = B1 := by omega
      have g1 : ¬ nx = B2 := by omega
      have g2 : ¬ nx = r := by omega
      have g3 : ¬ nx = q := by omega
      have g4 : ¬ nx = n := by omega
      have g5 : ∀ i, ¬ nx = n + i := by intro i; omega
      have g6 : ¬ n = nx := by omega
      have g7 : ∀ i, ¬ n + i = nx := by intro i; omega
      have g8 : ¬ B1 = nx := by omega
      have g9 : ¬ B1 = B2 := by omega
      have g10 : ¬ B1 = r := by omega
      have g11 : ¬ B1 = q := by omega
      have g12 : ¬ B1 = n := by omega
      have g13 : ∀ i, ¬ B1 = n + i := by intro i; omega
      have g14 : ¬ n = B1 := by omega
      have g15 : ∀ i, ¬ n + i = B1 := by intro i; omega
      have g16 : ¬ B2 = nx := by omega
      have g17 : ¬ B2 = B1 := by omega
      have g18 : ¬ B2 = r := by omega
      have g19 : ¬ B2 = q := by omega
      have g20 : ¬ B2 = n := by omega
      have g21 : ∀ i, ¬ B2 = n + i := by intro i; omega
      have g22 : ¬ n = B2 := by omega
      have g23 : ∀ i, ¬ n + i = B2 := by intro i; omega
      have g24 : ¬ r = nx := by omega
      have g25 : ¬ r = B1 := by omega
      have g26 : ¬ r = B2 := by omega
      have g27 : ¬ r = q := by omega
      have g28 : ¬ r = n := by omega
      have g29 : ∀ i, ¬ r = n + i := by intro i; omega
      have g30 : ¬ n = r := by omega
      have g31 : ∀ i, ¬ n + i = r := by intro i; omega
      have g32 : ¬ q = nx := by omega
      have g33 : ¬ q = B1 := by omega
      have g34 : ¬ q = B2 := by omega
      have g35 : ¬ q = r := by omega
      have g36 : ¬ q = n := by omega
      have g37 : ∀ i, ¬ q = n + i := by intro i; omega
      have g38 : ¬ n = q := by omega
      have g39 : ∀ i, ¬ n + i = q := by intro i; omega
      simp only [slv, kblk]
      refine JS_go (tbOk _) 99 fun x hx => ?_
      simp only [RN, ↓reduceIte, ↓get8, reduceCtorEq, Nat.reduceLT, Nat.reduceEqDiff, Nat.reduceAdd, Nat.reduceMul, Nat.reduceLeDiff, Nat.reduceSub, Int.reduceToNat, Int.reduceNeg, Nat.reduceBEq, TY, g0, g1, g2, g3, g4, g5, g6, g7, g8, g9, g10, g11, g12, g13, g14, g15, g16, g17, g18, g19, g20, g21, g22, g23, g24, g25, g26, g27, g28, g29, g30, g31, g32, g33, g34, g35, g36, g37, g38, g39, Nat.add_assoc, Nat.left_eq_add, Nat.add_eq_left, Nat.add_left_cancel_iff] at hx
      subst hx
      refine ⟨_, _, rfl, by first | trivial | omega | (simp only [and_true, true_and]; omega), ?_⟩
      rw [CRJ]
      refine JS_draw (tbOk _) { wr := [(47, 0), (48, 1), (49, 2), (50, 3), (51, 4), (52, 5), (53, 6)], anc := [[], [0], [], [2], [2, 3], [0, 1, 2, 3, 4], [0, 1, 2, 3, 4, 5], [0, 1, 2, 3, 4, 5, 6]], ch := [(3, []), (4, []), (5, []), (7, [])], ac := [[0, 1, 2], [0, 1], [0, 1], [6], []], nw := [[0, 1, 2], [], [], [6], []], fl := [[], [0, 1], [0, 1], [], []] } (by kernel_rfl) (by kernel_rfl) (by kernel_rfl) ?_
      refine JS_go (tbOk _) 99 fun x hx => ?_
      simp only [RN, ↓reduceIte, ↓get8, reduceCtorEq, Nat.reduceLT, Nat.reduceEqDiff, Nat.reduceAdd, Nat.reduceMul, Nat.reduceLeDiff, Nat.reduceSub, Int.reduceToNat, Int.reduceNeg, Nat.reduceBEq, TY, g0, g1, g2, g3, g4, g5, g6, g7, g8, g9, g10, g11, g12, g13, g14, g15, g16, g17, g18, g19, g20, g21, g22, g23, g24, g25, g26, g27, g28, g29, g30, g31, g32, g33, g34, g35, g36, g37, g38, g39, Nat.add_assoc, Nat.left_eq_add, Nat.add_eq_left, Nat.add_left_cancel_iff] at hx
      subst hx
      refine ⟨_, _, rfl, by first | trivial | omega | (simp only [and_true, true_and]; omega), ?_⟩
      refine at_dcallG hK (by simp only [RN, ↓reduceIte, ↓get8, reduceCtorEq, Nat.reduceLT, Nat.reduceEqDiff, Nat.reduceAdd, Nat.reduceMul, Nat.reduceLeDiff, Nat.reduceSub, Int.reduceToNat, Int.reduceNeg, Nat.reduceBEq, g0, g1, g2, g3, g4, g5, g6, g7, g8, g9, g10, g11, g12, g13, g14, g15, g16, g17, g18, g19, g20, g21, g22, g23, g24, g25, g26, g27, g28, g29, g30, g31, g32, g33, g34, g35, g36, g37, g38, g39, Nat.add_assoc, Nat.left_eq_add, Nat.add_eq_left, Nat.add_left_cancel_iff]; first | done | trivial) ?_
      rintro o2 L' n2 ⟨rfl, rfl, rfl⟩
      unfold okOr
      by_cases hc : (kE bs 0).2 = 0
      · simp only [if_pos hc]
        have v2 : k.cells = kcells ((List.range (0 + 1)).map (kX bs)) := by rw [← hk]; simp [kcells]
        unfold Kd.cells at v2
        refine JS_go (tbOk _) 99 fun x hx => ?_
        simp only [RN, ↓reduceIte, ↓get8, reduceCtorEq, Nat.reduceLT, Nat.reduceEqDiff, Nat.reduceAdd, Nat.reduceMul, Nat.reduceLeDiff, Nat.reduceSub, Int.reduceToNat, Int.reduceNeg, Nat.reduceBEq, TY, Kd.cells, hw3, g0, g1, g2, g3, g4, g5, g6, g7, g8, g9, g10, g11, g12, g13, g14, g15, g16, g17, g18, g19, g20, g21, g22, g23, g24, g25, g26, g27, g28, g29, g30, g31, g32, g33, g34, g35, g36, g37, g38, g39, Nat.add_assoc, Nat.left_eq_add, Nat.add_eq_left, Nat.add_left_cancel_iff] at hx
        subst hx
        refine ⟨_, _, rfl, by first | trivial | omega | (simp only [and_true, true_and]; omega), ?_⟩
        refine at_done (in_nextI (0 + 1, some (n + 3), n + 4) ⟨hlt3, by show nx + 4 ≤ n + 4; omega, nofun, fun c hc => ?_, fun j hj => ?_⟩ (by show m - (0 + 1) < m - 0; omega) ?_)
        · cases hc; exact ⟨by omega, by show n + 3 < n + 4; omega⟩
        · rcases Nat.lt_or_ge j 0 with h | h
          · exact hgood j h
          · obtain rfl : j = 0 := by have : j < 0 + 1 := hj; omega
            exact hc
        · dsimp only
          rw [ha2]
          exact le_of rfl (by simp only [RN, ↓reduceIte, ↓get8, reduceCtorEq, Nat.reduceLT, Nat.reduceEqDiff, Nat.reduceAdd, Nat.reduceMul, Nat.reduceLeDiff, Nat.reduceSub, Int.reduceToNat, Int.reduceNeg, Nat.reduceBEq]; first | done | trivial) (by simp only [RN, ↓reduceIte, ↓get8, reduceCtorEq, Nat.reduceLT, Nat.reduceEqDiff, Nat.reduceAdd, Nat.reduceMul, Nat.reduceLeDiff, Nat.reduceSub, Int.reduceToNat, Int.reduceNeg, Nat.reduceBEq, slv, kblk, v2, g0, g1, g2, g3, g4, g5, g6, g7, g8, g9, g10, g11, g12, g13, g14, g15, g16, g17, g18, g19, g20, g21, g22, g23, g24, g25, g26, g27, g28, g29, g30, g31, g32, g33, g34, g35, g36, g37, g38, g39, Nat.add_assoc, Nat.left_eq_add, Nat.add_eq_left, Nat.add_left_cancel_iff]; first | done | trivial) (Nat.le_refl _) rfl
      · simp only [if_neg hc]
        have hfd : (List.range m).find? (fun i => decide ((kE bs i).2 ≠ 0)) = some 0 := by
          rw [List.find?_range_eq_some]
          exact ⟨by simpa using hc, by simpa using hlt3, fun j hj => by simpa using hgood j hj⟩
        have d0 : decB bs ln = ([], [], (kE bs 0).2, ((at_ + 27 : Nat) : Int)) := by
          unfold decB
          rw [hm, hw, hal, if_neg (by omega), if_neg (by omega), if_neg (by omega), hfd, ← hat]
        refine in_panI ?_
        refine deferQ_of (f := 29) (L := resH nx B1 B2 (.slice none 0 0) (.slice none 0 0) (.int .i64 0) (.int .i64 0)) rfl (catch_no nx B1 B2 (n + 2) (.slice none 0 0) (.slice none 0 0) (.int .i64 0) (.int .i64 0) (kE bs 0).2 ((at_ + 27 : Nat) : Int) (by omega) (by omega) (by omega)) (by unfold resH; simp only [RN, ↓reduceIte, ↓get8, reduceCtorEq, Nat.reduceLT, Nat.reduceEqDiff, Nat.reduceAdd, Nat.reduceMul, Nat.reduceLeDiff, Nat.reduceSub, Int.reduceToNat, Int.reduceNeg, Nat.reduceBEq, g0, g1, g2, g3, g4, g5, g6, g7, g8, g9, g10, g11, g12, g13, g14, g15, g16, g17, g18, g19, g20, g21, g22, g23, g24, g25, g26, g27, g28, g29, g30, g31, g32, g33, g34, g35, g36, g37, g38, g39, Nat.add_assoc, Nat.left_eq_add, Nat.add_eq_left, Nat.add_left_cancel_iff]; first | done | trivial) ?_
        rintro L' n' ⟨rfl, rfl⟩
        refine ⟨_, _, by unfold resH; simp only [RN, ↓reduceIte, ↓get8, reduceCtorEq, Nat.reduceLT, Nat.reduceEqDiff, Nat.reduceAdd, Nat.reduceMul, Nat.reduceLeDiff, Nat.reduceSub, Int.reduceToNat, Int.reduceNeg, Nat.reduceBEq, TY, keepFr, g0, g1, g2, g3, g4, g5, g6, g7, g8, g9, g10, g11, g12, g13, g14, g15, g16, g17, g18, g19, g20, g21, g22, g23, g24, g25, g26, g27, g28, g29, g30, g31, g32, g33, g34, g35, g36, g37, g38, g39, Nat.add_assoc, Nat.left_eq_add, Nat.add_eq_left, Nat.add_left_cancel_iff]; rfl, by first | trivial | omega, [(q, ⟨bys bs, 5, 1, ro, loose⟩)], leL_look (by unfold resH; simp only [RN, ↓reduceIte, ↓get8, reduceCtorEq, Nat.reduceLT, Nat.reduceEqDiff, Nat.reduceAdd, Nat.reduceMul, Nat.reduceLeDiff, Nat.reduceSub, Int.reduceToNat, Int.reduceNeg, Nat.reduceBEq, g0, g1, g2, g3, g4, g5, g6, g7, g8, g9, g10, g11, g12, g13, g14, g15, g16, g17, g18, g19, g20, g21, g22, g23, g24, g25, g26, g27, g28, g29, g30, g31, g32, g33, g34, g35, g36, g37, g38, g39, Nat.add_assoc, Nat.left_eq_add, Nat.add_eq_left, Nat.add_left_cancel_iff]; first | done | trivial), dec_err d0 (by show nx ≤ n + 2 + 1; omega)⟩
    | some b =>
      obtain ⟨hb1, hb2⟩ := hso b rfl
      have g0 : ¬ nx = B1 := by omega
      have g1 : ¬ nx = B2 := by omega
      have g2 : ¬ nx = r := by omega
      have g3 : ¬ nx = q := by omega
      have g4 : ¬ nx = b := by omega
      have g5 : ¬ nx = n := by omega
      have g6 : ∀ i, ¬ nx = n + i := by intro i; omega
      have g7 : ¬ n = nx := by omega
      have g8 : ∀ i, ¬ n + i = nx := by intro i; omega
      have g9 : ¬ B1 = nx := by omega
      have g10 : ¬ B1 = B2 := by omega
      have g11 : ¬ B1 = r := by omega
      have g12 : ¬ B1 = q := by omega
      have g13 : ¬ B1 = b := by omega
      have g14 : ¬ B1 = n := by omega
      have g15 : ∀ i, ¬ B1 = n + i := by intro i; omega
      have g16 : ¬ n = B1 := by omega
      have g17 : ∀ i, ¬ n + i = B1 := by intro i; omega
      have g18 : ¬ B2 = nx := by omega
      have g19 : ¬ B2 = B1 := by omega
      have g20 : ¬ B2 = r := by omega
      have g21 : ¬ B2 = q := by omega
      have g22 : ¬ B2 = b := by omega
      have g23 : ¬ B2 = n := by omega
      have g24 : ∀ i, ¬ B2 = n + i := by intro i; omega
      have g25 : ¬ n = B2 := by omega
      have g26 : ∀ i, ¬ n + i = B2 := by intro i; omega
      have g27 : ¬ r = nx := by omega
      have g28 : ¬ r = B1 := by omega
      have g29 : ¬ r = B2 := by omega
      have g30 : ¬ r = q := by omega
      have g31 : ¬ r = b := by omega
      have g32 : ¬ r = n := by omega
      have g33 : ∀ i, ¬ r = n + i := by intro i; omega
      have g34 : ¬ n = r := by omega
      have g35 : ∀ i, ¬ n + i = r := by intro i; omega
      have g36 : ¬ q = nx := by omega
      have g37 : ¬ q = B1 := by omega
      have g38 : ¬ q = B2 := by omega
      have g39 : ¬ q = r := by omega
      have g40 : ¬ q = b := by omega
      have g41 : ¬ q = n := by omega
      have g42 : ∀ i, ¬ q = n + i := by intro i; omega
      have g43 : ¬ n = q := by omega
      have g44 : ∀ i, ¬ n + i = q := by intro i; omega
      have g45 : ¬ b = nx := by omega
      have g46 : ¬ b = B1 := by omega
      have g47 : ¬ b = B2 := by omega
      have g48 : ¬ b = r := by omega
      have g49 : ¬ b = q := by omega
      have g50 : ¬ b = n := by omega
      have g51 : ∀ i, ¬ b = n + i := by intro i; omega
      have g52 : ¬ n = b := by omega
      have g53 : ∀ i, ¬ n + i = b := by intro i; omega
      simp only [slv, kblk]
      refine JS_go (tbOk _) 99 fun x hx => ?_
      simp only [RN, ↓reduceIte, ↓get8, reduceCtorEq, Nat.reduceLT, Nat.reduceEqDiff, Nat.reduceAdd, Nat.reduceMul, Nat.reduceLeDiff, Nat.reduceSub, Int.reduceToNat, Int.reduceNeg, Nat.reduceBEq, TY, g0, g1, g2, g3, g4, g5, g6, g7, g8, g9, g10, g11, g12, g13, g14, g15, g16, g17, g18, g19, g20, g21, g22, g23, g24, g25, g26, g27, g28, g29, g30, g31, g32, g33, g34, g35, g36, g37, g38, g39, g40, g41, g42, g43, g44, g45, g46, g47, g48, g49, g50, g51, g52, g53, Nat.add_assoc, Nat.left_eq_add, Nat.add_eq_left, Nat.add_left_cancel_iff] at hx
      subst hx
      refine ⟨_, _, rfl, by first | trivial | omega | (simp only [and_true, true_and]; omega), ?_⟩
      rw [CRJ]
      refine JS_draw (tbOk _) { wr := [(47, 0), (48, 1), (49, 2), (50, 3), (51, 4), (52, 5), (53, 6)], anc := [[], [0], [], [2], [2, 3], [0, 1, 2, 3, 4], [0, 1, 2, 3, 4, 5], [0, 1, 2, 3, 4, 5, 6]], ch := [(3, []), (4, []), (5, []), (7, [])], ac := [[0, 1, 2], [0, 1], [0, 1], [6], []], nw := [[0, 1, 2], [], [], [6], []], fl := [[], [0, 1], [0, 1], [], []] } (by kernel_rfl) (by kernel_rfl) (by kernel_rfl) ?_
      refine JS_go (tbOk _) 99 fun x hx => ?_
      simp only [RN, ↓reduceIte, ↓get8, reduceCtorEq, Nat.reduceLT, Nat.reduceEqDiff, Nat.reduceAdd, Nat.reduceMul, Nat.reduceLeDiff, Nat.reduceSub, Int.reduceToNat, Int.reduceNeg, Nat.reduceBEq, TY, g0, g1, g2, g3, g4, g5, g6, g7, g8, g9, g10, g11, g12, g13, g14, g15, g16, g17, g18, g19, g20, g21, g22, g23, g24, g25, g26, g27, g28, g29, g30, g31, g32, g33, g34, g35, g36, g37, g38, g39, g40, g41, g42, g43, g44, g45, g46, g47, g48, g49, g50, g51, g52, g53, Nat.add_assoc, Nat.left_eq_add, Nat.add_eq_left, Nat.add_left_cancel_iff] at hx
      subst hx
      refine ⟨_, _, rfl, by first | trivial | omega | (simp only [and_true, true_and]; omega), ?_⟩
      refine at_dcallG hK (by simp only [RN, ↓reduceIte, ↓get8, reduceCtorEq, Nat.reduceLT, Nat.reduceEqDiff, Nat.reduceAdd, Nat.reduceMul, Nat.reduceLeDiff, Nat.reduceSub, Int.reduceToNat, Int.reduceNeg, Nat.reduceBEq, g0, g1, g2, g3, g4, g5, g6, g7, g8, g9, g10, g11, g12, g13, g14, g15, g16, g17, g18, g19, g20, g21, g22, g23, g24, g25, g26, g27, g28, g29, g30, g31, g32, g33, g34, g35, g36, g37, g38, g39, g40, g41, g42, g43, g44, g45, g46, g47, g48, g49, g50, g51, g52, g53, Nat.add_assoc, Nat.left_eq_add, Nat.add_eq_left, Nat.add_left_cancel_iff]; first | done | trivial) ?_
      rintro o2 L' n2 ⟨rfl, rfl, rfl⟩
      unfold okOr
      by_cases hc : (kE bs i).2 = 0
      · simp only [if_pos hc]
        have v1 : (kcells ((List.range i).map (kX bs))).length = i * 20 := by rw [kcells_len]; simp
        have v2 : kcells ((List.range i).map (kX bs)) ++ k.cells = kcells ((List.range (i + 1)).map (kX bs)) := by rw [← hk]; simp [List.range_succ, kcells]
        have v3 : ¬ i + 1 ≤ i := by omega
        unfold Kd.cells at v2
        refine JS_go (tbOk _) 99 fun x hx => ?_
        simp only [RN, ↓reduceIte, ↓get8, reduceCtorEq, Nat.reduceLT, Nat.reduceEqDiff, Nat.reduceAdd, Nat.reduceMul, Nat.reduceLeDiff, Nat.reduceSub, Int.reduceToNat, Int.reduceNeg, Nat.reduceBEq, TY, Kd.cells, v1, v2, v3, hw3, g0, g1, g2, g3, g4, g5, g6, g7, g8, g9, g10, g11, g12, g13, g14, g15, g16, g17, g18, g19, g20, g21, g22, g23, g24, g25, g26, g27, g28, g29, g30, g31, g32, g33, g34, g35, g36, g37, g38, g39, g40, g41, g42, g43, g44, g45, g46, g47, g48, g49, g50, g51, g52, g53, Nat.add_assoc, Nat.left_eq_add, Nat.add_eq_left, Nat.add_left_cancel_iff] at hx
        subst hx
        refine ⟨_, _, rfl, by first | trivial | omega | (simp only [and_true, true_and]; omega), ?_⟩
        refine at_done (in_nextI (i + 1, some (n + 3), n + 4) ⟨hlt3, by show nx + 4 ≤ n + 4; omega, nofun, fun c hc => ?_, fun j hj => ?_⟩ (by show m - (i + 1) < m - i; omega) ?_)
        · cases hc; exact ⟨by omega, by show n + 3 < n + 4; omega⟩
        · rcases Nat.lt_or_ge j i with h | h
          · exact hgood j h
          · obtain rfl : j = i := by have : j < i + 1 := hj; omega
            exact hc
        · dsimp only
          rw [ha2]
          exact le_of rfl (by simp only [RN, ↓reduceIte, ↓get8, reduceCtorEq, Nat.reduceLT, Nat.reduceEqDiff, Nat.reduceAdd, Nat.reduceMul, Nat.reduceLeDiff, Nat.reduceSub, Int.reduceToNat, Int.reduceNeg, Nat.reduceBEq]; first | done | trivial) (by simp only [RN, ↓reduceIte, ↓get8, reduceCtorEq, Nat.reduceLT, Nat.reduceEqDiff, Nat.reduceAdd, Nat.reduceMul, Nat.reduceLeDiff, Nat.reduceSub, Int.reduceToNat, Int.reduceNeg, Nat.reduceBEq, slv, kblk, v2, g0, g1, g2, g3, g4, g5, g6, g7, g8, g9, g10, g11, g12, g13, g14, g15, g16, g17, g18, g19, g20, g21, g22, g23, g24, g25, g26, g27, g28, g29, g30, g31, g32, g33, g34, g35, g36, g37, g38, g39, g40, g41, g42, g43, g44, g45, g46, g47, g48, g49, g50, g51, g52, g53, Nat.add_assoc, Nat.left_eq_add, Nat.add_eq_left, Nat.add_left_cancel_iff]; first | done | trivial) (Nat.le_refl _) rfl
      · simp only [if_neg hc]
        have hfd : (List.range m).find? (fun i => decide ((kE bs i).2 ≠ 0)) = some i := by
          rw [List.find?_range_eq_some]
          exact ⟨by simpa using hc, by simpa using hlt3, fun j hj => by simpa using hgood j hj⟩
        have d0 : decB bs ln = ([], [], (kE bs i).2, ((at_ + 27 : Nat) : Int)) := by
          unfold decB
          rw [hm, hw, hal, if_neg (by omega), if_neg (by omega), if_neg (by omega), hfd, ← hat]
        refine in_panI ?_
        refine deferQ_of (f := 29) (L := resH nx B1 B2 (.slice (some ⟨b, 0, none⟩) i i) (.slice none 0 0) (.int .i64 0) (.int .i64 0)) rfl (catch_no nx B1 B2 (n + 2) (.slice (some ⟨b, 0, none⟩) i i) (.slice none 0 0) (.int .i64 0) (.int .i64 0) (kE bs i).2 ((at_ + 27 : Nat) : Int) (by omega) (by omega) (by omega)) (by unfold resH; simp only [RN, ↓reduceIte, ↓get8, reduceCtorEq, Nat.reduceLT, Nat.reduceEqDiff, Nat.reduceAdd, Nat.reduceMul, Nat.reduceLeDiff, Nat.reduceSub, Int.reduceToNat, Int.reduceNeg, Nat.reduceBEq, g0, g1, g2, g3, g4, g5, g6, g7, g8, g9, g10, g11, g12, g13, g14, g15, g16, g17, g18, g19, g20, g21, g22, g23, g24, g25, g26, g27, g28, g29, g30, g31, g32, g33, g34, g35, g36, g37, g38, g39, g40, g41, g42, g43, g44, g45, g46, g47, g48, g49, g50, g51, g52, g53, Nat.add_assoc, Nat.left_eq_add, Nat.add_eq_left, Nat.add_left_cancel_iff]; first | done | trivial) ?_
        rintro L' n' ⟨rfl, rfl⟩
        refine ⟨_, _, by unfold resH; simp only [RN, ↓reduceIte, ↓get8, reduceCtorEq, Nat.reduceLT, Nat.reduceEqDiff, Nat.reduceAdd, Nat.reduceMul, Nat.reduceLeDiff, Nat.reduceSub, Int.reduceToNat, Int.reduceNeg, Nat.reduceBEq, TY, keepFr, g0, g1, g2, g3, g4, g5, g6, g7, g8, g9, g10, g11, g12, g13, g14, g15, g16, g17, g18, g19, g20, g21, g22, g23, g24, g25, g26, g27, g28, g29, g30, g31, g32, g33, g34, g35, g36, g37, g38, g39, g40, g41, g42, g43, g44, g45, g46, g47, g48, g49, g50, g51, g52, g53, Nat.add_assoc, Nat.left_eq_add, Nat.add_eq_left, Nat.add_left_cancel_iff]; rfl, by first | trivial | omega, [(q, ⟨bys bs, 5, 1, ro, loose⟩)], leL_look (by unfold resH; simp only [RN, ↓reduceIte, ↓get8, reduceCtorEq, Nat.reduceLT, Nat.reduceEqDiff, Nat.reduceAdd, Nat.reduceMul, Nat.reduceLeDiff, Nat.reduceSub, Int.reduceToNat, Int.reduceNeg, Nat.reduceBEq, g0, g1, g2, g3, g4, g5, g6, g7, g8, g9, g10, g11, g12, g13, g14, g15, g16, g17, g18, g19, g20, g21, g22, g23, g24, g25, g26, g27, g28, g29, g30, g31, g32, g33, g34, g35, g36, g37, g38, g39, g40, g41, g42, g43, g44, g45, g46, g47, g48, g49, g50, g51, g52, g53, Nat.add_assoc, Nat.left_eq_add, Nat.add_eq_left, Nat.add_left_cancel_iff]; first | done | trivial), dec_err d0 (by show nx ≤ n + 2 + 1; omega)⟩
  have hi2 : i = m := by simp at hge; omega
  subst hi2
  clear hge hi
  have hf1 : (List.range i).find? (fun i => decide ((kE bs i).2 ≠ 0)) = none := by
    rw [List.find?_eq_none]
    intro j hj
    simpa using hgood j (by simpa using hj)
  obtain ⟨KS, hKS⟩ : ∃ KS, (List.range i).map (kX bs) = KS := ⟨_, rfl⟩
  have hKl : KS.length = i := by rw [← hKS]; simp
  obtain ⟨KB, hKB⟩ : ∃ KB, kblk o KS false true = KB := ⟨_, rfl⟩
  have kbn : ∀ e ∈ KB, nx + 4 ≤ e.1 ∧ e.1 < n := by
    intro e he
    rw [← hKB] at he
    cases o with
    | none => simp [kblk] at he
    | some b => simp [kblk] at he; subst he; exact hso b rfl
  have kbl : ∀ id c, look id KB = some c → nx + 4 ≤ id ∧ id < n := by
    intro id c h
    obtain ⟨e, he, rfl⟩ := List.mem_map.1 (look_mem h)
    exact kbn e he
  have kbr : ∀ ids : List Nat, (∀ i ∈ ids, i < nx + 4 ∨ n ≤ i) → remN ids KB = KB := fun ids h => remN_not ids fun e he i hi e2 => by have := kbn e he; have := h i hi; omega
  have kbd : ∀ b, n ≤ b → del b KB = KB := fun b h => del_not b fun e he e2 => by have := kbn e he; omega
  obtain ⟨KV, hKV⟩ : ∃ KV, slv o i i = KV := ⟨_, rfl⟩
  rw [hKS, hKB, hKV]
  have h0 : ¬ nx = B1 := by omega
  have h1 : ¬ nx = B2 := by omega
  have h2 : ¬ nx = r := by omega
  have h3 : ¬ nx = q := by omega
  have h4 : ¬ nx = n := by omega
  have h5 : ∀ i, ¬ nx = n + i := by intro i; omega
  have h6 : ¬ n = nx := by omega
  have h7 : ∀ i, ¬ n + i = nx := by intro i; omega
  have h8 : ¬ B1 = nx := by omega
  have h9 : ¬ B1 = B2 := by omega
  have h10 : ¬ B1 = r := by omega
  have h11 : ¬ B1 = q := by omega
  have h12 : ¬ B1 = n := by omega
  have h13 : ∀ i, ¬ B1 = n + i := by intro i; omega
  have h14 : ¬ n = B1 := by omega
  have h15 : ∀ i, ¬ n + i = B1 := by intro i; omega
  have h16 : ¬ B2 = nx := by omega
  have h17 : ¬ B2 = B1 := by omega
  have h18 : ¬ B2 = r := by omega
  have h19 : ¬ B2 = q := by omega
  have h20 : ¬ B2 = n := by omega
  have h21 : ∀ i, ¬ B2 = n + i := by intro i; omega
  have h22 : ¬ n = B2 := by omega
  have h23 : ∀ i, ¬ n + i = B2 := by intro i; omega
  have h24 : ¬ r = nx := by omega
  have h25 : ¬ r = B1 := by omega
  have h26 : ¬ r = B2 := by omega
  have h27 : ¬ r = q := by omega
  have h28 : ¬ r = n := by omega
  have h29 : ∀ i, ¬ r = n + i := by intro i; omega
  have h30 : ¬ n = r := by omega
  have h31 : ∀ i, ¬ n + i = r := by intro i; omega
  have h32 : ¬ q = nx := by omega
  have h33 : ¬ q = B1 := by omega
  have h34 : ¬ q = B2 := by omega
  have h35 : ¬ q = r := by omega
  have h36 : ¬ q = n := by omega
  have h37 : ∀ i, ¬ q = n + i := by intro i; omega
  have h38 : ¬ n = q := by omega
  have h39 : ∀ i, ¬ n + i = q := by intro i; omega
  refine JS_go (tbOk _) 99 fun x hx => ?_
  simp only [RN, ↓reduceIte, ↓get8, reduceCtorEq, Nat.reduceLT, Nat.reduceEqDiff, Nat.reduceAdd, Nat.reduceMul, Nat.reduceLeDiff, Nat.reduceSub, Int.reduceToNat, Int.reduceNeg, Nat.reduceBEq, TY] at hx
  subst hx
  refine ⟨_, _, rfl, by first | trivial | omega | (simp only [and_true, true_and]; omega), ?_⟩
  refine at_exit (in_exitI (by simp only [RN, ↓reduceIte, ↓get8, reduceCtorEq, Nat.reduceLT, Nat.reduceEqDiff, Nat.reduceAdd, Nat.reduceMul, Nat.reduceLeDiff, Nat.reduceSub, Int.reduceToNat, Int.reduceNeg, Nat.reduceBEq]; rfl) ?_)
  refine JS_go (tbOk _) 99 fun x hx => ?_
  simp only [RN, ↓reduceIte, ↓get8, reduceCtorEq, Nat.reduceLT, Nat.reduceEqDiff, Nat.reduceAdd, Nat.reduceMul, Nat.reduceLeDiff, Nat.reduceSub, Int.reduceToNat, Int.reduceNeg, Nat.reduceBEq, TY, h0, h1, h2, h3, h4, h5, h6, h7, h8, h9, h10, h11, h12, h13, h14, h15, h16, h17, h18, h19, h20, h21, h22, h23, h24, h25, h26, h27, h28, h29, h30, h31, h32, h33, h34, h35, h36, h37, h38, h39, Nat.add_assoc, Nat.left_eq_add, Nat.add_eq_left, Nat.add_left_cancel_iff] at hx
  subst hx
  refine ⟨_, _, rfl, by first | trivial | omega | (simp only [and_true, true_and]; omega), ?_⟩
  refine at_loop ?_
  refine JS_loopI (S := fun x : Nat × Option Nat × Nat => { n := 77, fr := [(56, .int .i64 x.1), (55, .int .i64 w), (7, .int .i64 w), (5, .pointer (some ⟨r, 0, none⟩)), (4, .pointer (some ⟨B2, 0, none⟩)), (3, .pointer (some ⟨B1, 0, none⟩)), (2, .pointer (some ⟨nx, 0, none⟩))], F := [(nx, ⟨[KV, slv x.2.1 x.1 x.1], 26, 2, false, false⟩), (B1, ⟨[.int .i64 0], 28, 1, false, false⟩), (B2, ⟨[.int .i64 0], 3, 1, false, false⟩), (r, ⟨[.slice (some ⟨q, 0, none⟩) ln cp, .int .i64 ((2 + 35 * i + 14 * x.1 : Nat) : Int)], 63, 2, false, false⟩), (q, ⟨bys bs, 5, 1, ro, loose⟩)] ++ (wpblk x.2.1 (wsF bs i x.1) false true ++ KB), nx := x.2.2, ds := [{ target := .fn (.func 29) #[.pointer (some ⟨nx, 0, none⟩), .pointer (some ⟨B1, 0, none⟩), .pointer (some ⟨B2, 0, none⟩)], args := #[] }] })
    (fun p => p.1 ≤ w ∧ n ≤ p.2.2 ∧ (p.2.1 = none → p.1 = 0) ∧ (∀ b, p.2.1 = some b → n ≤ b ∧ b < p.2.2) ∧ ∀ j, j < p.1 → (wE bs (2 + 35 * i + 14 * j)).1 = 0) (fun x => w - x.1) (0, none, n) ⟨Nat.zero_le _, Nat.le_refl _, fun _ => rfl, nofun, fun j hj => absurd hj (Nat.not_lt_zero j)⟩ ?_ ?_
  · exact ⟨rfl, leL_look (by simp only [RN, ↓reduceIte, ↓get8, reduceCtorEq, Nat.reduceLT, Nat.reduceEqDiff, Nat.reduceAdd, Nat.reduceMul, Nat.reduceLeDiff, Nat.reduceSub, Int.reduceToNat, Int.reduceNeg, Nat.reduceBEq]; first | done | trivial), fun id c h => h, Nat.le_refl _, rfl⟩
  rintro ⟨j, ow, n2⟩ ⟨hj, hn2, hnw, hsw, hgw⟩
  dsimp only at hj hn2 hnw hsw hgw ⊢
  have hw3 : IntKind.i64.wrap ((j : Int) + 1) = ((j + 1 : Nat) : Int) := wrap_i64 (j + 1) (by omega)
  refine JS_go (tbOk _) 99 fun x hx => ?_
  simp only [RN, ↓reduceIte, ↓get8, reduceCtorEq, Nat.reduceLT, Nat.reduceEqDiff, Nat.reduceAdd, Nat.reduceMul, Nat.reduceLeDiff, Nat.reduceSub, Int.reduceToNat, Int.reduceNeg, Nat.reduceBEq, TY] at hx
  subst hx
  refine ⟨_, _, rfl, by first | trivial | omega | (simp only [and_true, true_and]; omega), ?_⟩
  refine at_cond (fun hlt2 => ?_) (fun hge => ?_)
  · have hlt3 : j < w := by simpa using hlt2
    obtain ⟨at_, hat⟩ : ∃ at_, 2 + 35 * i + 14 * j = at_ := ⟨_, rfl⟩
    have hat2 : at_ + 14 = 2 + 35 * i + 14 * (j + 1) := by omega
    obtain ⟨a2, ha2⟩ : ∃ a2, at_ + 14 = a2 := ⟨_, rfl⟩
    have ha3 : 2 + 35 * i + 14 * (j + 1) = a2 := by omega
    have rK := kbr [r, q] (by simp; omega)
    have rK2 := kbr [nx, B1, B2] (by simp; omega)
    rw [hat]
    cases ow with
    | none =>
      obtain rfl := hnw rfl
      have g0 : ¬ nx = B1 := by omega
      have g1 : ¬ nx = B2 := by omega
      have g2 : ¬ nx = r := by omega
      have g3 : ¬ nx = q := by omega
      have g4 : ¬ nx = n2 := by omega
      have g5 : ∀ i, ¬ nx = n2 + i := by intro i; omega
      have g6 : ¬ n2 = nx := by omega
      have g7 : ∀ i, ¬ n2 + i = nx := by intro i; omega
      have g8 : ¬ B1 = nx := by omega
      have g9 : ¬ B1 = B2 := by omega
      have g10 : ¬ B1 = r := by omega
      have g11 : ¬ B1 = q := by omega
      have g12 : ¬ B1 = n2 := by omega
      have g13 : ∀ i, ¬ B1 = n2 + i := by intro i; omega
      have g14 : ¬ n2 = B1 := by omega
      have g15 : ∀ i, ¬ n2 + i = B1 := by intro i; omega
      have g16 : ¬ B2 = nx := by omega
      have g17 : ¬ B2 = B1 := by omega
      have g18 : ¬ B2 = r := by omega
      have g19 : ¬ B2 = q := by omega
      have g20 : ¬ B2 = n2 := by omega
      have g21 : ∀ i, ¬ B2 = n2 + i := by intro i; omega
      have g22 : ¬ n2 = B2 := by omega
      have g23 : ∀ i, ¬ n2 + i = B2 := by intro i; omega
      have g24 : ¬ r = nx := by omega
      have g25 : ¬ r = B1 := by omega
      have g26 : ¬ r = B2 := by omega
      have g27 : ¬ r = q := by omega
      have g28 : ¬ r = n2 := by omega
      have g29 : ∀ i, ¬ r = n2 + i := by intro i; omega
      have g30 : ¬ n2 = r := by omega
      have g31 : ∀ i, ¬ n2 + i = r := by intro i; omega
      have g32 : ¬ q = nx := by omega
      have g33 : ¬ q = B1 := by omega
      have g34 : ¬ q = B2 := by omega
      have g35 : ¬ q = r := by omega
      have g36 : ¬ q = n2 := by omega
      have g37 : ∀ i, ¬ q = n2 + i := by intro i; omega
      have g38 : ¬ n2 = q := by omega
      have g39 : ∀ i, ¬ n2 + i = q := by intro i; omega
      simp only [slv, wpblk]
      refine JS_go (tbOk _) 99 fun x hx => ?_
      simp only [RN, ↓reduceIte, ↓get8, reduceCtorEq, Nat.reduceLT, Nat.reduceEqDiff, Nat.reduceAdd, Nat.reduceMul, Nat.reduceLeDiff, Nat.reduceSub, Int.reduceToNat, Int.reduceNeg, Nat.reduceBEq, TY, g0, g1, g2, g3, g4, g5, g6, g7, g8, g9, g10, g11, g12, g13, g14, g15, g16, g17, g18, g19, g20, g21, g22, g23, g24, g25, g26, g27, g28, g29, g30, g31, g32, g33, g34, g35, g36, g37, g38, g39, Nat.add_assoc, Nat.left_eq_add, Nat.add_eq_left, Nat.add_left_cancel_iff] at hx
      subst hx
      refine ⟨_, _, rfl, by first | trivial | omega | (simp only [and_true, true_and]; omega), ?_⟩
      rw [CRJ]
      refine JS_draw (tbOk _) { wr := [(58, 0), (59, 1), (60, 2), (61, 3), (62, 4), (63, 5), (64, 6)], anc := [[], [0], [], [2], [2, 3], [0, 1, 2, 3, 4], [0, 1, 2, 3, 4, 5], [0, 1, 2, 3, 4, 5, 6]], ch := [(3, []), (4, []), (5, []), (7, [])], ac := [[0, 1, 2], [0, 1], [0, 1], [6], []], nw := [[0, 1, 2], [], [], [6], []], fl := [[], [0, 1], [0, 1], [], []] } (by kernel_rfl) (by kernel_rfl) (by kernel_rfl) ?_
      refine JS_go (tbOk _) 99 fun x hx => ?_
      simp only [RN, ↓reduceIte, ↓get8, reduceCtorEq, Nat.reduceLT, Nat.reduceEqDiff, Nat.reduceAdd, Nat.reduceMul, Nat.reduceLeDiff, Nat.reduceSub, Int.reduceToNat, Int.reduceNeg, Nat.reduceBEq, TY, g0, g1, g2, g3, g4, g5, g6, g7, g8, g9, g10, g11, g12, g13, g14, g15, g16, g17, g18, g19, g20, g21, g22, g23, g24, g25, g26, g27, g28, g29, g30, g31, g32, g33, g34, g35, g36, g37, g38, g39, Nat.add_assoc, Nat.left_eq_add, Nat.add_eq_left, Nat.add_left_cancel_iff] at hx
      subst hx
      refine ⟨_, _, rfl, by first | trivial | omega | (simp only [and_true, true_and]; omega), ?_⟩
      obtain ⟨u, hu⟩ : ∃ u, le ((bs.drop (at_ + 5)).take 1) = u := ⟨_, rfl⟩
      by_cases hu1 : 1 < u
      · have hK := rweapon_no bs ln cp at_ r q n2 ro loose (by omega) hl (by omega) (by omega) (by omega) u hu hu1
        unfold rdH at hK
        refine at_dcallG hK (by simp only [RN, ↓reduceIte, ↓get8, reduceCtorEq, Nat.reduceLT, Nat.reduceEqDiff, Nat.reduceAdd, Nat.reduceMul, Nat.reduceLeDiff, Nat.reduceSub, Int.reduceToNat, Int.reduceNeg, Nat.reduceBEq, g0, g1, g2, g3, g4, g5, g6, g7, g8, g9, g10, g11, g12, g13, g14, g15, g16, g17, g18, g19, g20, g21, g22, g23, g24, g25, g26, g27, g28, g29, g30, g31, g32, g33, g34, g35, g36, g37, g38, g39, Nat.add_assoc, Nat.left_eq_add, Nat.add_eq_left, Nat.add_left_cancel_iff]; first | done | trivial) ?_
        rintro o2 L' n4 ⟨rfl, rfl, rfl⟩
        have hwE : wE bs at_ = (3, ((at_ + 5 : Nat) : Int)) := by unfold wE; rw [show wU bs at_ = u from hu, if_pos hu1]
        have hfd : (List.range w).find? (fun x => decide ((wE bs (2 + 35 * i + 14 * x)).1 ≠ 0)) = some 0 := by
          rw [List.find?_range_eq_some]
          refine ⟨?_, by simpa using hlt3, fun x hx => by simpa using hgw x hx⟩
          rw [hat, hwE]; rfl
        have d0 : decB bs ln = ([], [], 3, ((at_ + 5 : Nat) : Int)) := by
          unfold decB
          rw [hm, hw, hal, if_neg (by omega), if_neg (by omega), if_neg (by omega), hf1]
          dsimp only
          rw [hfd]
          dsimp only
          rw [hat, hwE]
        refine in_panI ?_
        refine deferQ_of (f := 29) (L := resH nx B1 B2 (KV) (.slice none 0 0) (.int .i64 0) (.int .i64 0)) rfl (catch_no nx B1 B2 (n2 + 2) (KV) (.slice none 0 0) (.int .i64 0) (.int .i64 0) 3 ((at_ + 5 : Nat) : Int) (by omega) (by omega) (by omega)) (by unfold resH; simp only [RN, ↓reduceIte, ↓get8, reduceCtorEq, Nat.reduceLT, Nat.reduceEqDiff, Nat.reduceAdd, Nat.reduceMul, Nat.reduceLeDiff, Nat.reduceSub, Int.reduceToNat, Int.reduceNeg, Nat.reduceBEq, rK, rK2, g0, g1, g2, g3, g4, g5, g6, g7, g8, g9, g10, g11, g12, g13, g14, g15, g16, g17, g18, g19, g20, g21, g22, g23, g24, g25, g26, g27, g28, g29, g30, g31, g32, g33, g34, g35, g36, g37, g38, g39, Nat.add_assoc, Nat.left_eq_add, Nat.add_eq_left, Nat.add_left_cancel_iff]; first | done | trivial) ?_
        rintro L' n' ⟨rfl, rfl⟩
        refine ⟨_, _, by unfold resH; simp only [RN, ↓reduceIte, ↓get8, reduceCtorEq, Nat.reduceLT, Nat.reduceEqDiff, Nat.reduceAdd, Nat.reduceMul, Nat.reduceLeDiff, Nat.reduceSub, Int.reduceToNat, Int.reduceNeg, Nat.reduceBEq, TY, keepFr, rK, rK2, g0, g1, g2, g3, g4, g5, g6, g7, g8, g9, g10, g11, g12, g13, g14, g15, g16, g17, g18, g19, g20, g21, g22, g23, g24, g25, g26, g27, g28, g29, g30, g31, g32, g33, g34, g35, g36, g37, g38, g39, Nat.add_assoc, Nat.left_eq_add, Nat.add_eq_left, Nat.add_left_cancel_iff]; rfl, by first | trivial | omega, [(q, ⟨bys bs, 5, 1, ro, loose⟩)], leL_look (by unfold resH; simp only [RN, ↓reduceIte, ↓get8, reduceCtorEq, Nat.reduceLT, Nat.reduceEqDiff, Nat.reduceAdd, Nat.reduceMul, Nat.reduceLeDiff, Nat.reduceSub, Int.reduceToNat, Int.reduceNeg, Nat.reduceBEq, rK, rK2, g0, g1, g2, g3, g4, g5, g6, g7, g8, g9, g10, g11, g12, g13, g14, g15, g16, g17, g18, g19, g20, g21, g22, g23, g24, g25, g26, g27, g28, g29, g30, g31, g32, g33, g34, g35, g36, g37, g38, g39, Nat.add_assoc, Nat.left_eq_add, Nat.add_eq_left, Nat.add_left_cancel_iff]; first | done | trivial), dec_err d0 (by show nx ≤ n2 + 2 + 1; omega)⟩
      have hK := rweapon_c bs ln cp at_ r q n2 ro loose (by omega) hl (by omega) (by omega) (by omega) u hu (by omega) (wS bs at_) rfl
      have hwE : wE bs at_ = ((wS bs at_).2, ((at_ + 6 : Nat) : Int)) := by unfold wE; rw [show wU bs at_ = u from hu, if_neg hu1]
      obtain ⟨k, hk⟩ : ∃ k, wX bs at_ = k := ⟨_, rfl⟩
      rw [show wpAt bs at_ u (wS bs at_) = k from by rw [← hk, ← hu]; rfl, ha2] at hK
      unfold rdH at hK
      refine at_dcallG hK (by simp only [RN, ↓reduceIte, ↓get8, reduceCtorEq, Nat.reduceLT, Nat.reduceEqDiff, Nat.reduceAdd, Nat.reduceMul, Nat.reduceLeDiff, Nat.reduceSub, Int.reduceToNat, Int.reduceNeg, Nat.reduceBEq, g0, g1, g2, g3, g4, g5, g6, g7, g8, g9, g10, g11, g12, g13, g14, g15, g16, g17, g18, g19, g20, g21, g22, g23, g24, g25, g26, g27, g28, g29, g30, g31, g32, g33, g34, g35, g36, g37, g38, g39, Nat.add_assoc, Nat.left_eq_add, Nat.add_eq_left, Nat.add_left_cancel_iff]; first | done | trivial) ?_
      rintro o2 L' n4 ⟨rfl, rfl, rfl⟩
      unfold okOr
      by_cases hc : (wS bs at_).2 = 0
      · simp only [if_pos hc]
        have v2 : k.cells = wcells (wsF bs i (0 + 1)) := by rw [← hk, ← hat]; simp [wsF, wcells]
        unfold Wp.cells at v2
        refine JS_go (tbOk _) 99 fun x hx => ?_
        simp only [RN, ↓reduceIte, ↓get8, reduceCtorEq, Nat.reduceLT, Nat.reduceEqDiff, Nat.reduceAdd, Nat.reduceMul, Nat.reduceLeDiff, Nat.reduceSub, Int.reduceToNat, Int.reduceNeg, Nat.reduceBEq, TY, Wp.cells, hw3, rK, g0, g1, g2, g3, g4, g5, g6, g7, g8, g9, g10, g11, g12, g13, g14, g15, g16, g17, g18, g19, g20, g21, g22, g23, g24, g25, g26, g27, g28, g29, g30, g31, g32, g33, g34, g35, g36, g37, g38, g39, Nat.add_assoc, Nat.left_eq_add, Nat.add_eq_left, Nat.add_left_cancel_iff] at hx
        subst hx
        refine ⟨_, _, rfl, by first | trivial | omega | (simp only [and_true, true_and]; omega), ?_⟩
        refine at_done (in_nextI (0 + 1, some (n2 + 3), n2 + 4) ⟨hlt3, by show n ≤ n2 + 4; omega, nofun, fun c hc => ?_, fun x hx => ?_⟩ (by show w - (0 + 1) < w - 0; omega) ?_)
        · cases hc; exact ⟨by omega, by show n2 + 3 < n2 + 4; omega⟩
        · rcases Nat.lt_or_ge x 0 with h | h
          · exact hgw x h
          · obtain rfl : x = 0 := by have : x < 0 + 1 := hx; omega
            rw [hat, hwE]; exact hc
        · dsimp only
          rw [ha3]
          refine ⟨rfl, leL_look (by simp only [RN, ↓reduceIte, ↓get8, reduceCtorEq, Nat.reduceLT, Nat.reduceEqDiff, Nat.reduceAdd, Nat.reduceMul, Nat.reduceLeDiff, Nat.reduceSub, Int.reduceToNat, Int.reduceNeg, Nat.reduceBEq]; first | done | trivial), ?_, Nat.le_refl _, rfl⟩
          simp only [slv, wpblk]
          refine leT (X := [_, _, _, _, _, _]) ?_ ?_
          · simp only [RN, ↓reduceIte, ↓get8, reduceCtorEq, Nat.reduceLT, Nat.reduceEqDiff, Nat.reduceAdd, Nat.reduceMul, Nat.reduceLeDiff, Nat.reduceSub, Int.reduceToNat, Int.reduceNeg, Nat.reduceBEq, v2, rK, g0, g1, g2, g3, g4, g5, g6, g7, g8, g9, g10, g11, g12, g13, g14, g15, g16, g17, g18, g19, g20, g21, g22, g23, g24, g25, g26, g27, g28, g29, g30, g31, g32, g33, g34, g35, g36, g37, g38, g39, Nat.add_assoc, Nat.left_eq_add, Nat.add_eq_left, Nat.add_left_cancel_iff]; first | done | trivial
          · intro id c h
            have u0 := kbl id c h
            have w0 : ¬ id = nx := by omega
            have w1 : ¬ id = B1 := by omega
            have w2 : ¬ id = B2 := by omega
            have w3 : ¬ id = r := by omega
            have w4 : ¬ id = q := by omega
            have w5 : ¬ id = n2 := by omega
            have w6 : ¬ id = n2 + 2 := by omega
            have w7 : ¬ id = n2 + 3 := by omega
            simp only [RN, ↓reduceIte, ↓get8, reduceCtorEq, Nat.reduceLT, Nat.reduceEqDiff, Nat.reduceAdd, Nat.reduceMul, Nat.reduceLeDiff, Nat.reduceSub, Int.reduceToNat, Int.reduceNeg, Nat.reduceBEq, rK, w0, w1, w2, w3, w4, w5, w6, w7, g0, g1, g2, g3, g4, g5, g6, g7, g8, g9, g10, g11, g12, g13, g14, g15, g16, g17, g18, g19, g20, g21, g22, g23, g24, g25, g26, g27, g28, g29, g30, g31, g32, g33, g34, g35, g36, g37, g38, g39, Nat.add_assoc, Nat.left_eq_add, Nat.add_eq_left, Nat.add_left_cancel_iff, h]
      · simp only [if_neg hc]
        have hfd : (List.range w).find? (fun x => decide ((wE bs (2 + 35 * i + 14 * x)).1 ≠ 0)) = some 0 := by
          rw [List.find?_range_eq_some]
          refine ⟨?_, by simpa using hlt3, fun x hx => by simpa using hgw x hx⟩
          rw [hat, hwE]; simpa using hc
        have d0 : decB bs ln = ([], [], (wS bs at_).2, ((at_ + 6 : Nat) : Int)) := by
          unfold decB
          rw [hm, hw, hal, if_neg (by omega), if_neg (by omega), if_neg (by omega), hf1]
          dsimp only
          rw [hfd]
          dsimp only
          rw [hat, hwE]
        refine in_panI ?_
        refine deferQ_of (f := 29) (L := resH nx B1 B2 (KV) (.slice none 0 0) (.int .i64 0) (.int .i64 0)) rfl (catch_no nx B1 B2 (n2 + 2) (KV) (.slice none 0 0) (.int .i64 0) (.int .i64 0) (wS bs at_).2 ((at_ + 6 : Nat) : Int) (by omega) (by omega) (by omega)) (by unfold resH; simp only [RN, ↓reduceIte, ↓get8, reduceCtorEq, Nat.reduceLT, Nat.reduceEqDiff, Nat.reduceAdd, Nat.reduceMul, Nat.reduceLeDiff, Nat.reduceSub, Int.reduceToNat, Int.reduceNeg, Nat.reduceBEq, rK, rK2, g0, g1, g2, g3, g4, g5, g6, g7, g8, g9, g10, g11, g12, g13, g14, g15, g16, g17, g18, g19, g20, g21, g22, g23, g24, g25, g26, g27, g28, g29, g30, g31, g32, g33, g34, g35, g36, g37, g38, g39, Nat.add_assoc, Nat.left_eq_add, Nat.add_eq_left, Nat.add_left_cancel_iff]; first | done | trivial) ?_
        rintro L' n' ⟨rfl, rfl⟩
        refine ⟨_, _, by unfold resH; simp only [RN, ↓reduceIte, ↓get8, reduceCtorEq, Nat.reduceLT, Nat.reduceEqDiff, Nat.reduceAdd, Nat.reduceMul, Nat.reduceLeDiff, Nat.reduceSub, Int.reduceToNat, Int.reduceNeg, Nat.reduceBEq, TY, keepFr, rK, rK2, g0, g1, g2, g3, g4, g5, g6, g7, g8, g9, g10, g11, g12, g13, g14, g15, g16, g17, g18, g19, g20, g21, g22, g23, g24, g25, g26, g27, g28, g29, g30, g31, g32, g33, g34, g35, g36, g37, g38, g39, Nat.add_assoc, Nat.left_eq_add, Nat.add_eq_left, Nat.add_left_cancel_iff]; rfl, by first | trivial | omega, [(q, ⟨bys bs, 5, 1, ro, loose⟩)], leL_look (by unfold resH; simp only [RN, ↓reduceIte, ↓get8, reduceCtorEq, Nat.reduceLT, Nat.reduceEqDiff, Nat.reduceAdd, Nat.reduceMul, Nat.reduceLeDiff, Nat.reduceSub, Int.reduceToNat, Int.reduceNeg, Nat.reduceBEq, rK, rK2, g0, g1, g2, g3, g4, g5, g6, g7, g8, g9, g10, g11, g12, g13, g14, g15, g16, g17, g18, g19, g20, g21, g22, g23, g24, g25, g26, g27, g28, g29, g30, g31, g32, g33, g34, g35, g36, g37, g38, g39, Nat.add_assoc, Nat.left_eq_add, Nat.add_eq_left, Nat.add_left_cancel_iff]; first | done | trivial), dec_err d0 (by show nx ≤ n2 + 2 + 1; omega)⟩
    | some b =>
      obtain ⟨hb1, hb2⟩ := hsw b rfl
      have dK := kbd b hb1
      have g0 : ¬ nx = B1 := by omega
      have g1 : ¬ nx = B2 := by omega
      have g2 : ¬ nx = r := by omega
      have g3 : ¬ nx = q := by omega
      have g4 : ¬ nx = b := by omega
      have g5 : ¬ nx = n2 := by omega
      have g6 : ∀ i, ¬ nx = n2 + i := by intro i; omega
      have g7 : ¬ n2 = nx := by omega
      have g8 : ∀ i, ¬ n2 + i = nx := by intro i; omega
      have g9 : ¬ B1 = nx := by omega
      have g10 : ¬ B1 = B2 := by omega
      have g11 : ¬ B1 = r := by omega
      have g12 : ¬ B1 = q := by omega
      have g13 : ¬ B1 = b := by omega
      have g14 : ¬ B1 = n2 := by omega
      have g15 : ∀ i, ¬ B1 = n2 + i := by intro i; omega
      have g16 : ¬ n2 = B1 := by omega
      have g17 : ∀ i, ¬ n2 + i = B1 := by intro i; omega
      have g18 : ¬ B2 = nx := by omega
      have g19 : ¬ B2 = B1 := by omega
      have g20 : ¬ B2 = r := by omega
      have g21 : ¬ B2 = q := by omega
      have g22 : ¬ B2 = b := by omega
      have g23 : ¬ B2 = n2 := by omega
      have g24 : ∀ i, ¬ B2 = n2 + i := by intro i; omega
      have g25 : ¬ n2 = B2 := by omega
      have g26 : ∀ i, ¬ n2 + i = B2 := by intro i; omega
      have g27 : ¬ r = nx := by omega
      have g28 : ¬ r = B1 := by omega
      have g29 : ¬ r = B2 := by omega
      have g30 : ¬ r = q := by omega
      have g31 : ¬ r = b := by omega
      have g32 : ¬ r = n2 := by omega
      have g33 : ∀ i, ¬ r = n2 + i := by intro i; omega
      have g34 : ¬ n2 = r := by omega
      have g35 : ∀ i, ¬ n2 + i = r := by intro i; omega
      have g36 : ¬ q = nx := by omega
      have g37 : ¬ q = B1 := by omega
      have g38 : ¬ q = B2 := by omega
      have g39 : ¬ q = r := by omega
      have g40 : ¬ q = b := by omega
      have g41 : ¬ q = n2 := by omega
      have g42 : ∀ i, ¬ q = n2 + i := by intro i; omega
      have g43 : ¬ n2 = q := by omega
      have g44 : ∀ i, ¬ n2 + i = q := by intro i; omega
      have g45 : ¬ b = nx := by omega
      have g46 : ¬ b = B1 := by omega
      have g47 : ¬ b = B2 := by omega
      have g48 : ¬ b = r := by omega
      have g49 : ¬ b = q := by omega
      have g50 : ¬ b = n2 := by omega
      have g51 : ∀ i, ¬ b = n2 + i := by intro i; omega
      have g52 : ¬ n2 = b := by omega
      have g53 : ∀ i, ¬ n2 + i = b := by intro i; omega
      simp only [slv, wpblk]
      refine JS_go (tbOk _) 99 fun x hx => ?_
      simp only [RN, ↓reduceIte, ↓get8, reduceCtorEq, Nat.reduceLT, Nat.reduceEqDiff, Nat.reduceAdd, Nat.reduceMul, Nat.reduceLeDiff, Nat.reduceSub, Int.reduceToNat, Int.reduceNeg, Nat.reduceBEq, TY, g0, g1, g2, g3, g4, g5, g6, g7, g8, g9, g10, g11, g12, g13, g14, g15, g16, g17, g18, g19, g20, g21, g22, g23, g24, g25, g26, g27, g28, g29, g30, g31, g32, g33, g34, g35, g36, g37, g38, g39, g40, g41, g42, g43, g44, g45, g46, g47, g48, g49, g50, g51, g52, g53, Nat.add_assoc, Nat.left_eq_add, Nat.add_eq_left, Nat.add_left_cancel_iff] at hx
      subst hx
      refine ⟨_, _, rfl, by first | trivial | omega | (simp only [and_true, true_and]; omega), ?_⟩
      rw [CRJ]
      refine JS_draw (tbOk _) { wr := [(58, 0), (59, 1), (60, 2), (61, 3), (62, 4), (63, 5), (64, 6)], anc := [[], [0], [], [2], [2, 3], [0, 1, 2, 3, 4], [0, 1, 2, 3, 4, 5], [0, 1, 2, 3, 4, 5, 6]], ch := [(3, []), (4, []), (5, []), (7, [])], ac := [[0, 1, 2], [0, 1], [0, 1], [6], []], nw := [[0, 1, 2], [], [], [6], []], fl := [[], [0, 1], [0, 1], [], []] } (by kernel_rfl) (by kernel_rfl) (by kernel_rfl) ?_
      refine JS_go (tbOk _) 99 fun x hx => ?_
      simp only [RN, ↓reduceIte, ↓get8, reduceCtorEq, Nat.reduceLT, Nat.reduceEqDiff, Nat.reduceAdd, Nat.reduceMul, Nat.reduceLeDiff, Nat.reduceSub, Int.reduceToNat, Int.reduceNeg, Nat.reduceBEq, TY, g0, g1, g2, g3, g4, g5, g6, g7, g8, g9, g10, g11, g12, g13, g14, g15, g16, g17, g18, g19, g20, g21, g22, g23, g24, g25, g26, g27, g28, g29, g30, g31, g32, g33, g34, g35, g36, g37, g38, g39, g40, g41, g42, g43, g44, g45, g46, g47, g48, g49, g50, g51, g52, g53, Nat.add_assoc, Nat.left_eq_add, Nat.add_eq_left, Nat.add_left_cancel_iff] at hx
      subst hx
      refine ⟨_, _, rfl, by first | trivial | omega | (simp only [and_true, true_and]; omega), ?_⟩
      obtain ⟨u, hu⟩ : ∃ u, le ((bs.drop (at_ + 5)).take 1) = u := ⟨_, rfl⟩
      by_cases hu1 : 1 < u
      · have hK := rweapon_no bs ln cp at_ r q n2 ro loose (by omega) hl (by omega) (by omega) (by omega) u hu hu1
        unfold rdH at hK
        refine at_dcallG hK (by simp only [RN, ↓reduceIte, ↓get8, reduceCtorEq, Nat.reduceLT, Nat.reduceEqDiff, Nat.reduceAdd, Nat.reduceMul, Nat.reduceLeDiff, Nat.reduceSub, Int.reduceToNat, Int.reduceNeg, Nat.reduceBEq, g0, g1, g2, g3, g4, g5, g6, g7, g8, g9, g10, g11, g12, g13, g14, g15, g16, g17, g18, g19, g20, g21, g22, g23, g24, g25, g26, g27, g28, g29, g30, g31, g32, g33, g34, g35, g36, g37, g38, g39, g40, g41, g42, g43, g44, g45, g46, g47, g48, g49, g50, g51, g52, g53, Nat.add_assoc, Nat.left_eq_add, Nat.add_eq_left, Nat.add_left_cancel_iff]; first | done | trivial) ?_
        rintro o2 L' n4 ⟨rfl, rfl, rfl⟩
        have hwE : wE bs at_ = (3, ((at_ + 5 : Nat) : Int)) := by unfold wE; rw [show wU bs at_ = u from hu, if_pos hu1]
        have hfd : (List.range w).find? (fun x => decide ((wE bs (2 + 35 * i + 14 * x)).1 ≠ 0)) = some j := by
          rw [List.find?_range_eq_some]
          refine ⟨?_, by simpa using hlt3, fun x hx => by simpa using hgw x hx⟩
          rw [hat, hwE]; rfl
        have d0 : decB bs ln = ([], [], 3, ((at_ + 5 : Nat) : Int)) := by
          unfold decB
          rw [hm, hw, hal, if_neg (by omega), if_neg (by omega), if_neg (by omega), hf1]
          dsimp only
          rw [hfd]
          dsimp only
          rw [hat, hwE]
        refine in_panI ?_
        refine deferQ_of (f := 29) (L := resH nx B1 B2 (KV) (.slice (some ⟨b, 0, none⟩) j j) (.int .i64 0) (.int .i64 0)) rfl (catch_no nx B1 B2 (n2 + 2) (KV) (.slice (some ⟨b, 0, none⟩) j j) (.int .i64 0) (.int .i64 0) 3 ((at_ + 5 : Nat) : Int) (by omega) (by omega) (by omega)) (by unfold resH; simp only [RN, ↓reduceIte, ↓get8, reduceCtorEq, Nat.reduceLT, Nat.reduceEqDiff, Nat.reduceAdd, Nat.reduceMul, Nat.reduceLeDiff, Nat.reduceSub, Int.reduceToNat, Int.reduceNeg, Nat.reduceBEq, rK, rK2, g0, g1, g2, g3, g4, g5, g6, g7, g8, g9, g10, g11, g12, g13, g14, g15, g16, g17, g18, g19, g20, g21, g22, g23, g24, g25, g26, g27, g28, g29, g30, g31, g32, g33, g34, g35, g36, g37, g38, g39, g40, g41, g42, g43, g44, g45, g46, g47, g48, g49, g50, g51, g52, g53, Nat.add_assoc, Nat.left_eq_add, Nat.add_eq_left, Nat.add_left_cancel_iff]; first | done | trivial) ?_
        rintro L' n' ⟨rfl, rfl⟩
        refine ⟨_, _, by unfold resH; simp only [RN, ↓reduceIte, ↓get8, reduceCtorEq, Nat.reduceLT, Nat.reduceEqDiff, Nat.reduceAdd, Nat.reduceMul, Nat.reduceLeDiff, Nat.reduceSub, Int.reduceToNat, Int.reduceNeg, Nat.reduceBEq, TY, keepFr, rK, rK2, g0, g1, g2, g3, g4, g5, g6, g7, g8, g9, g10, g11, g12, g13, g14, g15, g16, g17, g18, g19, g20, g21, g22, g23, g24, g25, g26, g27, g28, g29, g30, g31, g32, g33, g34, g35, g36, g37, g38, g39, g40, g41, g42, g43, g44, g45, g46, g47, g48, g49, g50, g51, g52, g53, Nat.add_assoc, Nat.left_eq_add, Nat.add_eq_left, Nat.add_left_cancel_iff]; rfl, by first | trivial | omega, [(q, ⟨bys bs, 5, 1, ro, loose⟩)], leL_look (by unfold resH; simp only [RN, ↓reduceIte, ↓get8, reduceCtorEq, Nat.reduceLT, Nat.reduceEqDiff, Nat.reduceAdd, Nat.reduceMul, Nat.reduceLeDiff, Nat.reduceSub, Int.reduceToNat, Int.reduceNeg, Nat.reduceBEq, rK, rK2, g0, g1, g2, g3, g4, g5, g6, g7, g8, g9, g10, g11, g12, g13, g14, g15, g16, g17, g18, g19, g20, g21, g22, g23, g24, g25, g26, g27, g28, g29, g30, g31, g32, g33, g34, g35, g36, g37, g38, g39, g40, g41, g42, g43, g44, g45, g46, g47, g48, g49, g50, g51, g52, g53, Nat.add_assoc, Nat.left_eq_add, Nat.add_eq_left, Nat.add_left_cancel_iff]; first | done | trivial), dec_err d0 (by show nx ≤ n2 + 2 + 1; omega)⟩
      have hK := rweapon_c bs ln cp at_ r q n2 ro loose (by omega) hl (by omega) (by omega) (by omega) u hu (by omega) (wS bs at_) rfl
      have hwE : wE bs at_ = ((wS bs at_).2, ((at_ + 6 : Nat) : Int)) := by unfold wE; rw [show wU bs at_ = u from hu, if_neg hu1]
      obtain ⟨k, hk⟩ : ∃ k, wX bs at_ = k := ⟨_, rfl⟩
      rw [show wpAt bs at_ u (wS bs at_) = k from by rw [← hk, ← hu]; rfl, ha2] at hK
      unfold rdH at hK
      refine at_dcallG hK (by simp only [RN, ↓reduceIte, ↓get8, reduceCtorEq, Nat.reduceLT, Nat.reduceEqDiff, Nat.reduceAdd, Nat.reduceMul, Nat.reduceLeDiff, Nat.reduceSub, Int.reduceToNat, Int.reduceNeg, Nat.reduceBEq, g0, g1, g2, g3, g4, g5, g6, g7, g8, g9, g10, g11, g12, g13, g14, g15, g16, g17, g18, g19, g20, g21, g22, g23, g24, g25, g26, g27, g28, g29, g30, g31, g32, g33, g34, g35, g36, g37, g38, g39, g40, g41, g42, g43, g44, g45, g46, g47, g48, g49, g50, g51, g52, g53, Nat.add_assoc, Nat.left_eq_add, Nat.add_eq_left, Nat.add_left_cancel_iff]; first | done | trivial) ?_
      rintro o2 L' n4 ⟨rfl, rfl, rfl⟩
      unfold okOr
      by_cases hc : (wS bs at_).2 = 0
      · simp only [if_pos hc]
        have v1 : (wcells (wsF bs i j)).length = j * 6 := by rw [wcells_len]; simp [wsF]
        have v2 : wcells (wsF bs i j) ++ k.cells = wcells (wsF bs i (j + 1)) := by rw [← hk, ← hat]; simp [wsF, List.range_succ, wcells]
        have v3 : ¬ j + 1 ≤ j := by omega
        unfold Wp.cells at v2
        refine JS_go (tbOk _) 99 fun x hx => ?_
        simp only [RN, ↓reduceIte, ↓get8, reduceCtorEq, Nat.reduceLT, Nat.reduceEqDiff, Nat.reduceAdd, Nat.reduceMul, Nat.reduceLeDiff, Nat.reduceSub, Int.reduceToNat, Int.reduceNeg, Nat.reduceBEq, TY, Wp.cells, v1, v2, v3, dK, hw3, rK, g0, g1, g2, g3, g4, g5, g6, g7, g8, g9, g10, g11, g12, g13, g14, g15, g16, g17, g18, g19, g20, g21, g22, g23, g24, g25, g26, g27, g28, g29, g30, g31, g32, g33, g34, g35, g36, g37, g38, g39, g40, g41, g42, g43, g44, g45, g46, g47, g48, g49, g50, g51, g52, g53, Nat.add_assoc, Nat.left_eq_add, Nat.add_eq_left, Nat.add_left_cancel_iff] at hx
        subst hx
        refine ⟨_, _, rfl, by first | trivial | omega | (simp only [and_true, true_and]; omega), ?_⟩
        refine at_done (in_nextI (j + 1, some (n2 + 3), n2 + 4) ⟨hlt3, by show n ≤ n2 + 4; omega, nofun, fun c hc => ?_, fun x hx => ?_⟩ (by show w - (j + 1) < w - j; omega) ?_)
        · cases hc; exact ⟨by omega, by show n2 + 3 < n2 + 4; omega⟩
        · rcases Nat.lt_or_ge x j with h | h
          · exact hgw x h
          · obtain rfl : x = j := by have : x < j + 1 := hx; omega
            rw [hat, hwE]; exact hc
        · dsimp only
          rw [ha3]
          refine ⟨rfl, leL_look (by simp only [RN, ↓reduceIte, ↓get8, reduceCtorEq, Nat.reduceLT, Nat.reduceEqDiff, Nat.reduceAdd, Nat.reduceMul, Nat.reduceLeDiff, Nat.reduceSub, Int.reduceToNat, Int.reduceNeg, Nat.reduceBEq]; first | done | trivial), ?_, Nat.le_refl _, rfl⟩
          simp only [slv, wpblk]
          refine leT (X := [_, _, _, _, _, _]) ?_ ?_
          · simp only [RN, ↓reduceIte, ↓get8, reduceCtorEq, Nat.reduceLT, Nat.reduceEqDiff, Nat.reduceAdd, Nat.reduceMul, Nat.reduceLeDiff, Nat.reduceSub, Int.reduceToNat, Int.reduceNeg, Nat.reduceBEq, v2, rK, g0, g1, g2, g3, g4, g5, g6, g7, g8, g9, g10, g11, g12, g13, g14, g15, g16, g17, g18, g19, g20, g21, g22, g23, g24, g25, g26, g27, g28, g29, g30, g31, g32, g33, g34, g35, g36, g37, g38, g39, g40, g41, g42, g43, g44, g45, g46, g47, g48, g49, g50, g51, g52, g53, Nat.add_assoc, Nat.left_eq_add, Nat.add_eq_left, Nat.add_left_cancel_iff]; first | done | trivial
          · intro id c h
            have u0 := kbl id c h
            have w0 : ¬ id = nx := by omega
            have w1 : ¬ id = B1 := by omega
            have w2 : ¬ id = B2 := by omega
            have w3 : ¬ id = r := by omega
            have w4 : ¬ id = q := by omega
            have w5 : ¬ id = n2 := by omega
            have w6 : ¬ id = n2 + 2 := by omega
            have w7 : ¬ id = n2 + 3 := by omega
            have w8 : ¬ id = b := by omega
            simp only [RN, ↓reduceIte, ↓get8, reduceCtorEq, Nat.reduceLT, Nat.reduceEqDiff, Nat.reduceAdd, Nat.reduceMul, Nat.reduceLeDiff, Nat.reduceSub, Int.reduceToNat, Int.reduceNeg, Nat.reduceBEq, rK, w0, w1, w2, w3, w4, w5, w6, w7, w8, g0, g1, g2, g3, g4, g5, g6, g7, g8, g9, g10, g11, g12, g13, g14, g15, g16, g17, g18, g19, g20, g21, g22, g23, g24, g25, g26, g27, g28, g29, g30, g31, g32, g33, g34, g35, g36, g37, g38, g39, g40, g41, g42, g43, g44, g45, g46, g47, g48, g49, g50, g51, g52, g53, Nat.add_assoc, Nat.left_eq_add, Nat.add_eq_left, Nat.add_left_cancel_iff, h]
      · simp only [if_neg hc]
        have hfd : (List.range w).find? (fun x => decide ((wE bs (2 + 35 * i + 14 * x)).1 ≠ 0)) = some j := by
          rw [List.find?_range_eq_some]
          refine ⟨?_, by simpa using hlt3, fun x hx => by simpa using hgw x hx⟩
          rw [hat, hwE]; simpa using hc
        have d0 : decB bs ln = ([], [], (wS bs at_).2, ((at_ + 6 : Nat) : Int)) := by
          unfold decB
          rw [hm, hw, hal, if_neg (by omega), if_neg (by omega), if_neg (by omega), hf1]
          dsimp only
          rw [hfd]
          dsimp only
          rw [hat, hwE]
        refine in_panI ?_
        refine deferQ_of (f := 29) (L := resH nx B1 B2 (KV) (.slice (some ⟨b, 0, none⟩) j j) (.int .i64 0) (.int .i64 0)) rfl (catch_no nx B1 B2 (n2 + 2) (KV) (.slice (some ⟨b, 0, none⟩) j j) (.int .i64 0) (.int .i64 0) (wS bs at_).2 ((at_ + 6 : Nat) : Int) (by omega) (by omega) (by omega)) (by unfold resH; simp only [RN, ↓reduceIte, ↓get8, reduceCtorEq, Nat.reduceLT, Nat.reduceEqDiff, Nat.reduceAdd, Nat.reduceMul, Nat.reduceLeDiff, Nat.reduceSub, Int.reduceToNat, Int.reduceNeg, Nat.reduceBEq, rK, rK2, g0, g1, g2, g3, g4, g5, g6, g7, g8, g9, g10, g11, g12, g13, g14, g15, g16, g17, g18, g19, g20, g21, g22, g23, g24, g25, g26, g27, g28, g29, g30, g31, g32, g33, g34, g35, g36, g37, g38, g39, g40, g41, g42, g43, g44, g45, g46, g47, g48, g49, g50, g51, g52, g53, Nat.add_assoc, Nat.left_eq_add, Nat.add_eq_left, Nat.add_left_cancel_iff]; first | done | trivial) ?_
        rintro L' n' ⟨rfl, rfl⟩
        refine ⟨_, _, by unfold resH; simp only [RN, ↓reduceIte, ↓get8, reduceCtorEq, Nat.reduceLT, Nat.reduceEqDiff, Nat.reduceAdd, Nat.reduceMul, Nat.reduceLeDiff, Nat.reduceSub, Int.reduceToNat, Int.reduceNeg, Nat.reduceBEq, TY, keepFr, rK, rK2, g0, g1, g2, g3, g4, g5, g6, g7, g8, g9, g10, g11, g12, g13, g14, g15, g16, g17, g18, g19, g20, g21, g22, g23, g24, g25, g26, g27, g28, g29, g30, g31, g32, g33, g34, g35, g36, g37, g38, g39, g40, g41, g42, g43, g44, g45, g46, g47, g48, g49, g50, g51, g52, g53, Nat.add_assoc, Nat.left_eq_add, Nat.add_eq_left, Nat.add_left_cancel_iff]; rfl, by first | trivial | omega, [(q, ⟨bys bs, 5, 1, ro, loose⟩)], leL_look (by unfold resH; simp only [RN, ↓reduceIte, ↓get8, reduceCtorEq, Nat.reduceLT, Nat.reduceEqDiff, Nat.reduceAdd, Nat.reduceMul, Nat.reduceLeDiff, Nat.reduceSub, Int.reduceToNat, Int.reduceNeg, Nat.reduceBEq, rK, rK2, g0, g1, g2, g3, g4, g5, g6, g7, g8, g9, g10, g11, g12, g13, g14, g15, g16, g17, g18, g19, g20, g21, g22, g23, g24, g25, g26, g27, g28, g29, g30, g31, g32, g33, g34, g35, g36, g37, g38, g39, g40, g41, g42, g43, g44, g45, g46, g47, g48, g49, g50, g51, g52, g53, Nat.add_assoc, Nat.left_eq_add, Nat.add_eq_left, Nat.add_left_cancel_iff]; first | done | trivial), dec_err d0 (by show nx ≤ n2 + 2 + 1; omega)⟩
  have hj2 : j = w := by simp at hge; omega
  subst hj2
  clear hge hj
  have hf2 : (List.range j).find? (fun x => decide ((wE bs (2 + 35 * i + 14 * x)).1 ≠ 0)) = none := by
    rw [List.find?_eq_none]
    intro x hx
    simpa using hgw x (by simpa using hx)
  obtain ⟨WS, hWS⟩ : ∃ WS, wsF bs i j = WS := ⟨_, rfl⟩
  have hWl : WS.length = j := by rw [← hWS]; simp [wsF]
  obtain ⟨B0, hB0⟩ : ∃ B0 : Bk, B0 = ⟨KS, [], WS, [], o, i, ow, j, false, true⟩ := ⟨_, rfl⟩
  have g0 : B0.Good n2 := by
    rw [hB0]
    refine ⟨fun h => ?_, fun h => ?_, by show KS.length ≤ 1000; omega, by show WS.length ≤ 1000; omega, fun b h => ?_, fun b h => (hsw b h).2, fun b c h1 h2 => ?_⟩
    · have := hno h; show KS = []; exact List.eq_nil_of_length_eq_zero (by omega)
    · have := hnw h; show WS = []; exact List.eq_nil_of_length_eq_zero (by omega)
    · have := (hso b h).2; omega
    · have := (hso b h1).2; have := (hsw c h2).1; omega
  have hC := check_c B0 n2 g0
  obtain ⟨TB, hTB⟩ : ∃ TB, wpblk ow WS false true ++ KB = TB := ⟨_, rfl⟩
  have tbn : ∀ e ∈ TB, nx + 4 ≤ e.1 := by
    intro e he
    rw [← hTB] at he
    rcases List.mem_append.1 he with he | he
    · cases ow with
      | none => simp [wpblk] at he
      | some b => simp [wpblk] at he; subst he; have := (hsw b rfl).1; show nx + 4 ≤ b; omega
    · exact (kbn e he).1
  have tbr : ∀ ids : List Nat, (∀ i ∈ ids, i < nx + 4) → remN ids TB = TB := fun ids h => remN_not ids fun e he i hi e2 => by have := tbn e he; have := h i hi; omega
  have tbl : ∀ id c, look id B0.H = some c → look id TB = some c := by
    intro id c h
    rw [hB0] at h
    unfold Bk.H at h
    dsimp only at h
    rw [List.append_nil, List.append_nil, look_append, hKB] at h
    rw [← hTB, look_append]
    cases hk : look id KB with
    | none => rw [hk] at h; dsimp only at h; rw [h]
    | some x =>
      rw [hk] at h
      dsimp only at h
      have : look id (wpblk ow WS false true) = none := by
        cases ow with
        | none => rfl
        | some b =>
          have h1 := kbl id x hk
          have h2 := (hsw b rfl).1
          simp only [wpblk]
          rw [look_cons, if_neg (by omega)]
          rfl
      rw [this]
      exact h
  have tbg : ∀ id c, look id B0.H = some c → nx + 4 ≤ id := by
    intro id c h
    obtain ⟨e, he, rfl⟩ := List.mem_map.1 (look_mem (tbl id c h))
    exact tbn e he
  obtain ⟨WV, hWV⟩ : ∃ WV, slv ow j j = WV := ⟨_, rfl⟩
  have hBv : B0.val = .agg #[KV, WV] := by rw [hB0]; unfold Bk.val; dsimp only; rw [hKl, hWl, hKV, hWV]
  have hBk : B0.ks = KS := by rw [hB0]
  have hBw : B0.ws = WS := by rw [hB0]
  rw [hBv, hBk, hBw] at hC
  rw [hWS, hTB, hWV]
  refine JS_go (tbOk _) 99 fun x hx => ?_
  simp only [RN, ↓reduceIte, ↓get8, reduceCtorEq, Nat.reduceLT, Nat.reduceEqDiff, Nat.reduceAdd, Nat.reduceMul, Nat.reduceLeDiff, Nat.reduceSub, Int.reduceToNat, Int.reduceNeg, Nat.reduceBEq, TY] at hx
  subst hx
  refine ⟨_, _, rfl, by first | trivial | omega | (simp only [and_true, true_and]; omega), ?_⟩
  refine at_exit (in_exitI (by simp only [RN, ↓reduceIte, ↓get8, reduceCtorEq, Nat.reduceLT, Nat.reduceEqDiff, Nat.reduceAdd, Nat.reduceMul, Nat.reduceLeDiff, Nat.reduceSub, Int.reduceToNat, Int.reduceNeg, Nat.reduceBEq]; rfl) ?_)
  have m0 : ¬ nx = B1 := by omega
  have m1 : ¬ nx = B2 := by omega
  have m2 : ¬ nx = r := by omega
  have m3 : ¬ nx = q := by omega
  have m4 : ¬ nx = n2 := by omega
  have m5 : ∀ i, ¬ nx = n2 + i := by intro i; omega
  have m6 : ¬ n2 = nx := by omega
  have m7 : ∀ i, ¬ n2 + i = nx := by intro i; omega
  have m8 : ¬ B1 = nx := by omega
  have m9 : ¬ B1 = B2 := by omega
  have m10 : ¬ B1 = r := by omega
  have m11 : ¬ B1 = q := by omega
  have m12 : ¬ B1 = n2 := by omega
  have m13 : ∀ i, ¬ B1 = n2 + i := by intro i; omega
  have m14 : ¬ n2 = B1 := by omega
  have m15 : ∀ i, ¬ n2 + i = B1 := by intro i; omega
  have m16 : ¬ B2 = nx := by omega
  have m17 : ¬ B2 = B1 := by omega
  have m18 : ¬ B2 = r := by omega
  have m19 : ¬ B2 = q := by omega
  have m20 : ¬ B2 = n2 := by omega
  have m21 : ∀ i, ¬ B2 = n2 + i := by intro i; omega
  have m22 : ¬ n2 = B2 := by omega
  have m23 : ∀ i, ¬ n2 + i = B2 := by intro i; omega
  have m24 : ¬ r = nx := by omega
  have m25 : ¬ r = B1 := by omega
  have m26 : ¬ r = B2 := by omega
  have m27 : ¬ r = q := by omega
  have m28 : ¬ r = n2 := by omega
  have m29 : ∀ i, ¬ r = n2 + i := by intro i; omega
  have m30 : ¬ n2 = r := by omega
  have m31 : ∀ i, ¬ n2 + i = r := by intro i; omega
  have m32 : ¬ q = nx := by omega
  have m33 : ¬ q = B1 := by omega
  have m34 : ¬ q = B2 := by omega
  have m35 : ¬ q = r := by omega
  have m36 : ¬ q = n2 := by omega
  have m37 : ∀ i, ¬ q = n2 + i := by intro i; omega
  have m38 : ¬ n2 = q := by omega
  have m39 : ∀ i, ¬ n2 + i = q := by intro i; omega
  refine JS_go (tbOk _) 99 fun x hx => ?_
  simp only [RN, ↓reduceIte, ↓get8, reduceCtorEq, Nat.reduceLT, Nat.reduceEqDiff, Nat.reduceAdd, Nat.reduceMul, Nat.reduceLeDiff, Nat.reduceSub, Int.reduceToNat, Int.reduceNeg, Nat.reduceBEq, TY, m0, m1, m2, m3, m4, m5, m6, m7, m8, m9, m10, m11, m12, m13, m14, m15, m16, m17, m18, m19, m20, m21, m22, m23, m24, m25, m26, m27, m28, m29, m30, m31, m32, m33, m34, m35, m36, m37, m38, m39, Nat.add_assoc, Nat.left_eq_add, Nat.add_eq_left, Nat.add_left_cancel_iff] at hx
  subst hx
  refine ⟨_, _, rfl, by first | trivial | omega | (simp only [and_true, true_and]; omega), ?_⟩
  refine at_quiet (K := fun o n => o = .ret (.tuple #[.int .i64 (checkB KS WS).1, .int .i64 (checkB KS WS).2]) ∧ n2 ≤ n) (hC.mono fun o F' n h => ⟨⟨h.1, h.2.2⟩, h.2.1⟩) (fun id c h => ?_) ?_
  · have u0 := tbg id c h
    have u1 := tbl id c h
    have w0 : ¬ id = nx := by omega
    have w1 : ¬ id = B1 := by omega
    have w2 : ¬ id = B2 := by omega
    have w3 : ¬ id = r := by omega
    have w4 : ¬ id = q := by omega
    simp only [RN, ↓reduceIte, ↓get8, reduceCtorEq, Nat.reduceLT, Nat.reduceEqDiff, Nat.reduceAdd, Nat.reduceMul, Nat.reduceLeDiff, Nat.reduceSub, Int.reduceToNat, Int.reduceNeg, Nat.reduceBEq, w0, w1, w2, w3, w4, u1]
  rintro o3 n3 ⟨rfl, hn3⟩
  refine ⟨_, by simp only [RN, ↓reduceIte, ↓get8, reduceCtorEq, Nat.reduceLT, Nat.reduceEqDiff, Nat.reduceAdd, Nat.reduceMul, Nat.reduceLeDiff, Nat.reduceSub, Int.reduceToNat, Int.reduceNeg, Nat.reduceBEq]; rfl, ?_⟩
  have rT := tbr [nx, B1, B2] (by simp; omega)
  have k0 : ¬ nx = B1 := by omega
  have k1 : ¬ nx = B2 := by omega
  have k2 : ¬ nx = r := by omega
  have k3 : ¬ nx = q := by omega
  have k4 : ¬ nx = n3 := by omega
  have k5 : ∀ i, ¬ nx = n3 + i := by intro i; omega
  have k6 : ¬ n3 = nx := by omega
  have k7 : ∀ i, ¬ n3 + i = nx := by intro i; omega
  have k8 : ¬ B1 = nx := by omega
  have k9 : ¬ B1 = B2 := by omega
  have k10 : ¬ B1 = r := by omega
  have k11 : ¬ B1 = q := by omega
  have k12 : ¬ B1 = n3 := by omega
  have k13 : ∀ i, ¬ B1 = n3 + i := by intro i; omega
  have k14 : ¬ n3 = B1 := by omega
  have k15 : ∀ i, ¬ n3 + i = B1 := by intro i; omega
  have k16 : ¬ B2 = nx := by omega
  have k17 : ¬ B2 = B1 := by omega
  have k18 : ¬ B2 = r := by omega
  have k19 : ¬ B2 = q := by omega
  have k20 : ¬ B2 = n3 := by omega
  have k21 : ∀ i, ¬ B2 = n3 + i := by intro i; omega
  have k22 : ¬ n3 = B2 := by omega
  have k23 : ∀ i, ¬ n3 + i = B2 := by intro i; omega
  have k24 : ¬ r = nx := by omega
  have k25 : ¬ r = B1 := by omega
  have k26 : ¬ r = B2 := by omega
  have k27 : ¬ r = q := by omega
  have k28 : ¬ r = n3 := by omega
  have k29 : ∀ i, ¬ r = n3 + i := by intro i; omega
  have k30 : ¬ n3 = r := by omega
  have k31 : ∀ i, ¬ n3 + i = r := by intro i; omega
  have k32 : ¬ q = nx := by omega
  have k33 : ¬ q = B1 := by omega
  have k34 : ¬ q = B2 := by omega
  have k35 : ¬ q = r := by omega
  have k36 : ¬ q = n3 := by omega
  have k37 : ∀ i, ¬ q = n3 + i := by intro i; omega
  have k38 : ¬ n3 = q := by omega
  have k39 : ∀ i, ¬ n3 + i = q := by intro i; omega
  refine JS_go (tbOk _) 99 fun x hx => ?_
  simp only [RN, ↓reduceIte, ↓get8, reduceCtorEq, Nat.reduceLT, Nat.reduceEqDiff, Nat.reduceAdd, Nat.reduceMul, Nat.reduceLeDiff, Nat.reduceSub, Int.reduceToNat, Int.reduceNeg, Nat.reduceBEq, TY, k0, k1, k2, k3, k4, k5, k6, k7, k8, k9, k10, k11, k12, k13, k14, k15, k16, k17, k18, k19, k20, k21, k22, k23, k24, k25, k26, k27, k28, k29, k30, k31, k32, k33, k34, k35, k36, k37, k38, k39, Nat.add_assoc, Nat.left_eq_add, Nat.add_eq_left, Nat.add_left_cancel_iff] at hx
  subst hx
  refine ⟨_, _, rfl, by first | trivial | omega | (simp only [and_true, true_and]; omega), ?_⟩
  refine at_cond (fun h => ?_) (fun h => ?_)
  · have h0 : ¬ (checkB KS WS).1 = 0 := by simpa using h
    have d0 : decB bs ln = ([], [], (checkB KS WS).1, (checkB KS WS).2) := by
      unfold decB
      rw [hm, hw, hal, if_neg (by omega), if_neg (by omega), if_neg (by omega), hf1]
      dsimp only
      rw [hf2]
      dsimp only
      rw [hKS, hWS, if_neg h0]
    refine JS_go (tbOk _) 99 fun x hx => ?_
    simp only [RN, ↓reduceIte, ↓get8, reduceCtorEq, Nat.reduceLT, Nat.reduceEqDiff, Nat.reduceAdd, Nat.reduceMul, Nat.reduceLeDiff, Nat.reduceSub, Int.reduceToNat, Int.reduceNeg, Nat.reduceBEq, TY] at hx
    subst hx
    refine ⟨_, _, rfl, by first | trivial | omega | (simp only [and_true, true_and]; omega), ?_⟩
    rw [CRJ]
    refine JS_draw (tbOk _) { wr := [(73, 0), (74, 1), (75, 2)], anc := [[], [], [], [0], [0, 1, 3], [0, 1, 2, 3, 4]], ch := [(3, []), (4, []), (5, [])], ac := [[0, 1, 2], [1, 2], [2], []], nw := [[0, 1, 2], [], [], []], fl := [[], [1, 2], [2], []] } (by kernel_rfl) (by kernel_rfl) (by kernel_rfl) ?_
    refine JS_go (tbOk _) 99 fun x hx => ?_
    simp only [RN, ↓reduceIte, ↓get8, reduceCtorEq, Nat.reduceLT, Nat.reduceEqDiff, Nat.reduceAdd, Nat.reduceMul, Nat.reduceLeDiff, Nat.reduceSub, Int.reduceToNat, Int.reduceNeg, Nat.reduceBEq, TY, k0, k1, k2, k3, k4, k5, k6, k7, k8, k9, k10, k11, k12, k13, k14, k15, k16, k17, k18, k19, k20, k21, k22, k23, k24, k25, k26, k27, k28, k29, k30, k31, k32, k33, k34, k35, k36, k37, k38, k39, Nat.add_assoc, Nat.left_eq_add, Nat.add_eq_left, Nat.add_left_cancel_iff] at hx
    subst hx
    refine ⟨_, _, rfl, by first | trivial | omega | (simp only [and_true, true_and]; omega), ?_⟩
    refine at_ret ?_
    refine deferQ_of (f := 29) (L := resH nx B1 B2 (.slice none 0 0) (.slice none 0 0) (.int .i64 (checkB KS WS).1) (.int .i64 (checkB KS WS).2)) rfl (catch_nil nx B1 B2 n3 (.slice none 0 0) (.slice none 0 0) (.int .i64 (checkB KS WS).1) (.int .i64 (checkB KS WS).2) (by omega) (by omega) (by omega)) (by unfold resH; simp only [RN, ↓reduceIte, ↓get8, reduceCtorEq, Nat.reduceLT, Nat.reduceEqDiff, Nat.reduceAdd, Nat.reduceMul, Nat.reduceLeDiff, Nat.reduceSub, Int.reduceToNat, Int.reduceNeg, Nat.reduceBEq, rT, k0, k1, k2, k3, k4, k5, k6, k7, k8, k9, k10, k11, k12, k13, k14, k15, k16, k17, k18, k19, k20, k21, k22, k23, k24, k25, k26, k27, k28, k29, k30, k31, k32, k33, k34, k35, k36, k37, k38, k39, Nat.add_assoc, Nat.left_eq_add, Nat.add_eq_left, Nat.add_left_cancel_iff]; first | done | trivial) ?_
    rintro L' n' ⟨rfl, rfl⟩
    refine ⟨_, _, by unfold resH; simp only [RN, ↓reduceIte, ↓get8, reduceCtorEq, Nat.reduceLT, Nat.reduceEqDiff, Nat.reduceAdd, Nat.reduceMul, Nat.reduceLeDiff, Nat.reduceSub, Int.reduceToNat, Int.reduceNeg, Nat.reduceBEq, TY, keepFr, rT, k0, k1, k2, k3, k4, k5, k6, k7, k8, k9, k10, k11, k12, k13, k14, k15, k16, k17, k18, k19, k20, k21, k22, k23, k24, k25, k26, k27, k28, k29, k30, k31, k32, k33, k34, k35, k36, k37, k38, k39, Nat.add_assoc, Nat.left_eq_add, Nat.add_eq_left, Nat.add_left_cancel_iff]; rfl, by first | trivial | omega, [(q, ⟨bys bs, 5, 1, ro, loose⟩)], leL_look (by unfold resH; simp only [RN, ↓reduceIte, ↓get8, reduceCtorEq, Nat.reduceLT, Nat.reduceEqDiff, Nat.reduceAdd, Nat.reduceMul, Nat.reduceLeDiff, Nat.reduceSub, Int.reduceToNat, Int.reduceNeg, Nat.reduceBEq, rT, k0, k1, k2, k3, k4, k5, k6, k7, k8, k9, k10, k11, k12, k13, k14, k15, k16, k17, k18, k19, k20, k21, k22, k23, k24, k25, k26, k27, k28, k29, k30, k31, k32, k33, k34, k35, k36, k37, k38, k39, Nat.add_assoc, Nat.left_eq_add, Nat.add_eq_left, Nat.add_left_cancel_iff]; first | done | trivial), dec_err d0 (by show nx ≤ _; omega)⟩
  · have h0 : (checkB KS WS).1 = 0 := by simpa using h
    have d0 : decB bs ln = (KS, WS, 0, 0) := by
      unfold decB
      rw [hm, hw, hal, if_neg (by omega), if_neg (by omega), if_neg (by omega), hf1]
      dsimp only
      rw [hf2]
      dsimp only
      rw [hKS, hWS, if_pos h0]
    refine JS_go (tbOk _) 99 fun x hx => ?_
    simp only [RN, ↓reduceIte, ↓get8, reduceCtorEq, Nat.reduceLT, Nat.reduceEqDiff, Nat.reduceAdd, Nat.reduceMul, Nat.reduceLeDiff, Nat.reduceSub, Int.reduceToNat, Int.reduceNeg, Nat.reduceBEq, TY, k0, k1, k2, k3, k4, k5, k6, k7, k8, k9, k10, k11, k12, k13, k14, k15, k16, k17, k18, k19, k20, k21, k22, k23, k24, k25, k26, k27, k28, k29, k30, k31, k32, k33, k34, k35, k36, k37, k38, k39, Nat.add_assoc, Nat.left_eq_add, Nat.add_eq_left, Nat.add_left_cancel_iff] at hx
    subst hx
    refine ⟨_, _, rfl, by first | trivial | omega | (simp only [and_true, true_and]; omega), ?_⟩
    refine at_ret ?_
    refine deferQ_of (f := 29) (L := resH nx B1 B2 KV WV (.int .i64 0) (.int .i64 0)) rfl (catch_nil nx B1 B2 n3 KV WV (.int .i64 0) (.int .i64 0) (by omega) (by omega) (by omega)) (by unfold resH; simp only [RN, ↓reduceIte, ↓get8, reduceCtorEq, Nat.reduceLT, Nat.reduceEqDiff, Nat.reduceAdd, Nat.reduceMul, Nat.reduceLeDiff, Nat.reduceSub, Int.reduceToNat, Int.reduceNeg, Nat.reduceBEq, k0, k1, k2, k3, k4, k5, k6, k7, k8, k9, k10, k11, k12, k13, k14, k15, k16, k17, k18, k19, k20, k21, k22, k23, k24, k25, k26, k27, k28, k29, k30, k31, k32, k33, k34, k35, k36, k37, k38, k39, Nat.add_assoc, Nat.left_eq_add, Nat.add_eq_left, Nat.add_left_cancel_iff]; first | done | trivial) ?_
    rintro L' n' ⟨rfl, rfl⟩
    refine ⟨_, _, by unfold resH; simp only [RN, ↓reduceIte, ↓get8, reduceCtorEq, Nat.reduceLT, Nat.reduceEqDiff, Nat.reduceAdd, Nat.reduceMul, Nat.reduceLeDiff, Nat.reduceSub, Int.reduceToNat, Int.reduceNeg, Nat.reduceBEq, TY, k0, k1, k2, k3, k4, k5, k6, k7, k8, k9, k10, k11, k12, k13, k14, k15, k16, k17, k18, k19, k20, k21, k22, k23, k24, k25, k26, k27, k28, k29, k30, k31, k32, k33, k34, k35, k36, k37, k38, k39, Nat.add_assoc, Nat.left_eq_add, Nat.add_eq_left, Nat.add_left_cancel_iff]; rfl, by first | trivial | omega, [(q, ⟨bys bs, 5, 1, ro, loose⟩)] ++ B0.H, ?_, ?_⟩
    · refine leT (X := [_]) (by unfold resH; simp only [RN, ↓reduceIte, ↓get8, reduceCtorEq, Nat.reduceLT, Nat.reduceEqDiff, Nat.reduceAdd, Nat.reduceMul, Nat.reduceLeDiff, Nat.reduceSub, Int.reduceToNat, Int.reduceNeg, Nat.reduceBEq, rT, k0, k1, k2, k3, k4, k5, k6, k7, k8, k9, k10, k11, k12, k13, k14, k15, k16, k17, k18, k19, k20, k21, k22, k23, k24, k25, k26, k27, k28, k29, k30, k31, k32, k33, k34, k35, k36, k37, k38, k39, Nat.add_assoc, Nat.left_eq_add, Nat.add_eq_left, Nat.add_left_cancel_iff]; first | done | trivial) ?_
      intro id c h
      have u0 := tbg id c h
      have u1 := tbl id c h
      have w0 : ¬ id = nx := by omega
      have w1 : ¬ id = B1 := by omega
      have w2 : ¬ id = B2 := by omega
      have w3 : ¬ id = r := by omega
      have w4 : ¬ id = q := by omega
      unfold resH
      simp only [RN, ↓reduceIte, ↓get8, reduceCtorEq, Nat.reduceLT, Nat.reduceEqDiff, Nat.reduceAdd, Nat.reduceMul, Nat.reduceLeDiff, Nat.reduceSub, Int.reduceToNat, Int.reduceNeg, Nat.reduceBEq, rT, w0, w1, w2, w3, w4, k0, k1, k2, k3, k4, k5, k6, k7, k8, k9, k10, k11, k12, k13, k14, k15, k16, k17, k18, k19, k20, k21, k22, k23, k24, k25, k26, k27, k28, k29, k30, k31, k32, k33, k34, k35, k36, k37, k38, k39, Nat.add_assoc, Nat.left_eq_add, Nat.add_eq_left, Nat.add_left_cancel_iff, u1]
    · unfold decK
      rw [d0]
      refine ⟨B0, hBk, hBw, g0.mono hn3, by rw [hB0]; exact ⟨rfl, rfl, rfl, rfl⟩, ?_, ?_, by show nx ≤ _; omega, by rw [hBv], rfl⟩
      · intro b hb; rw [hB0] at hb; have := (hso b hb).1; omega
      · intro b hb; rw [hB0] at hb; have := (hsw b hb).1; omega
end Go.Proofs.Ytoihmanhldcjhaa.Id
namespace Go.Proofs.Ytoihmanhldcjhaa.Rl
open Ieee
theorem toS_zero : toS 0 = 0 := by
  unfold toS
  rw [show decide ((0 : Int) < 0) = false from rfl, show (0 : Int).natAbs = 0 from rfl, by_one_zero]; rfl
end Go.Proofs.Ytoihmanhldcjhaa.Rl
namespace Go.Proofs.Ytoihmanhldcjhaa.Id
open Go
theorem look_mem2 {α : Type} {k : Nat} {v : α} : ∀ {l : List (Nat × α)}, look k l = some v → (k, v) ∈ l
  | [], h => by cases h
  | (j, u) :: l, h => by
    rw [look_cons] at h
    split at h
    · rename_i e; subst e; cases h; simp
    · exact List.mem_cons_of_mem _ (look_mem2 h)
theorem look_some_of {α : Type} {k : Nat} : ∀ {l : List (Nat × α)}, (∃ e ∈ l, e.1 = k) → ∃ v, look k l = some v
  | [], ⟨e, h, _⟩ => by cases h
  | (j, u) :: l, ⟨e, h, hk⟩ => by
    rw [look_cons]
    by_cases hj : k = j
    · exact ⟨u, by rw [if_pos hj]⟩
    · rw [if_neg hj]
      rcases List.mem_cons.1 h with rfl | h
      · exact absurd hk.symm hj
      · exact look_some_of ⟨e, h, hk⟩
theorem CallW.new {P : Program} {f : FuncId} {args : List Value} {L F : Hp} {nx : Nat} {K : Out → Hp → Nat → Prop} (h : CallW P f args L nx fun o F' n => ∃ X, K o X n ∧ F' = L ++ X ∧ ∀ e ∈ X, nx ≤ e.1) (hL : ∀ id b, look id L = some b → look id F = some b) :
    CallW P f args F nx fun o F' n => ∃ X, K o X n ∧ F' = F ++ X ∧ ∀ e ∈ X, nx ≤ e.1 := by
  refine ⟨fun m w args' hh hv => ((h.frame hL).run m w args' hh hv).mono ?_⟩
  rintro e w' ⟨o, F', nx', m', ⟨L', ⟨X, hk, rfl, hX⟩, rfl⟩, a, b, c⟩
  have hincl : ∀ id bk, look id (F ++ X) = some bk → look id ((L ++ X) ++ rem (L.map (·.1)) F) = some bk := by
    intro id bk hb
    rw [look_append] at hb
    rw [look_append, look_append]
    cases hF : look id F with
    | none =>
      rw [hF] at hb
      dsimp only at hb
      have hl : look id L = none := by
        cases hl : look id L with
        | none => rfl
        | some y => have := hL id y hl; rw [hF] at this; cases this
      rw [hl, hb]
    | some y =>
      rw [hF] at hb
      cases hb
      have hlt := hh.lt hF
      have hx : look id X = none := by
        cases hx : look id X with
        | none => rfl
        | some z => have := hX _ (look_mem2 hx); dsimp only at this; omega
      cases hl : look id L with
      | some z => have := hL id z hl; rw [hF] at this; cases this; rfl
      | none =>
        rw [hx]
        dsimp only
        rw [look_rem, if_neg, hF]
        intro hc
        rw [List.contains_iff_mem] at hc
        obtain ⟨e, he, hek⟩ := List.mem_map.1 hc
        obtain ⟨v, hv⟩ := look_some_of ⟨e, he, hek⟩
        rw [hl] at hv; cases hv
  exact ⟨o, F ++ X, nx', m', ⟨X, hk, rfl, hX⟩, a.drop hincl, b.drop hincl, c⟩
section
variable {P : Program} {Q : IExit → St → Prop} {st : St}
theorem at_new {f : FuncId} {args : List Value} {dst : Option Nat} {k : List Kt} {L : Hp} {K : Out → Hp → Nat → Prop} (h : CallW P f args L st.nx fun o F' n => ∃ X, K o X n ∧ F' = L ++ X ∧ ∀ e ∈ X, st.nx ≤ e.1) (hL : ∀ id b, look id L = some b → look id st.F = some b)
    (hj : ∀ o X n, K o X n → (∀ e ∈ X, st.nx ≤ e.1) → match o with
      | .ret v => ∃ st', St.put { st with F := st.F ++ X, nx := n } dst v = some st' ∧ JS P k Q st'
      | .pan v => Q (.pan v) { st with F := st.F ++ X, nx := n }) : CRJ P Q (.call f args dst k st) := by
  refine at_call (CallW.mono (h.new hL) ?_)
  rintro o F' nx' ⟨X, hk, rfl, hX⟩
  have := hj o X nx' hk hX
  cases o with
  | ret v => exact this
  | pan v => exact this
end
end Go.Proofs.Ytoihmanhldcjhaa.Id
namespace Go.Proofs.Ytoihmanhldcjhaa.Id
open Go Go.Proofs.Ytoihmanhldcjhaa.Rl
set_option linter.unusedSimpArgs false
set_option linter.unusedVariables false
def leastK : Kd := ⟨0, 1, 0, 0, 0, 0, 0, 0, 0, 0, 1, 0, 0, 0, 0, 0, 0, 0, 255, 0⟩
def leastBk (b : Nat) : Bk := ⟨[leastK], [], [], [], some b, 1, none, 0, false, false⟩
theorem leastBk_good {b nx : Nat} (h : b < nx) : (leastBk b).Good nx :=
  ⟨nofun, fun _ => rfl, by simp [leastBk], by simp [leastBk], fun c e => (by cases e; exact h), nofun, nofun⟩
set_option maxRecDepth 100000 in
theorem least_c (nx : Nat) : CallW Try.prog 18 [] [] nx fun o F' n => ∃ X, (o = .ret (leastBk (nx + 1)).val ∧ X = (leastBk (nx + 1)).H ∧ n = nx + 2) ∧ F' = [] ++ X ∧ ∀ e ∈ X, nx ≤ e.1 := by
  refine CallW_go (tbOk _) 4 [.cell 0 26] Try.func18 rfl (by decide) rfl rfl (by simp) fun hlt => ?_
  simp only [params, Nat.zero_add, Nat.reduceAdd]
  refine JS_go (tbOk _) 99 fun x hx => ?_
  simp only [RN, ↓reduceIte, ↓get8, reduceCtorEq, Nat.reduceLT, Nat.reduceEqDiff, Nat.reduceAdd, Nat.reduceMul, Nat.reduceLeDiff, Nat.reduceSub, Int.reduceToNat, Int.reduceNeg, Nat.reduceBEq, TY, Nat.add_assoc, Nat.left_eq_add, Nat.add_eq_left, Nat.add_left_cancel_iff] at hx
  subst hx
  refine ⟨_, _, rfl, by first | trivial | omega | (simp only [and_true, true_and]; omega), ?_⟩
  refine at_ret ?_
  refine ret_endK (by simp only [RN, ↓reduceIte, ↓get8, reduceCtorEq, Nat.reduceLT, Nat.reduceEqDiff, Nat.reduceAdd, Nat.reduceMul, Nat.reduceLeDiff, Nat.reduceSub, Int.reduceToNat, Int.reduceNeg, Nat.reduceBEq, TY, Nat.add_assoc, Nat.left_eq_add, Nat.add_eq_left, Nat.add_left_cancel_iff]; rfl) rfl (by first | trivial | omega) ⟨(leastBk (nx + 1)).H, ?_, (leastBk (nx + 1)).H, ⟨rfl, rfl, rfl⟩, rfl, ?_⟩
  · exact leL_look (by simp only [Bk.H, leastBk, kblk, wpblk, kcells, leastK, Kd.cells, List.flatMap_cons, List.flatMap_nil, RN, ↓reduceIte, ↓get8, reduceCtorEq, Nat.reduceLT, Nat.reduceEqDiff, Nat.reduceAdd, Nat.reduceMul, Nat.reduceLeDiff, Nat.reduceSub, Int.reduceToNat, Int.reduceNeg, Nat.reduceBEq, Nat.add_assoc, Nat.left_eq_add, Nat.add_eq_left, Nat.add_left_cancel_iff]; first | done | trivial)
  · intro e he
    simp [Bk.H, leastBk, kblk, wpblk] at he
    subst he
    show nx ≤ nx + 1
    omega
theorem decode_n (R : Rd) (nx : Nat) (g : R.Good nx) : CallW Try.prog 15 [R.val] R.H nx fun o F' nx' => ∃ X, (∃ B : Bk, B.ks = (decB R.bs R.ln).1 ∧ B.ws = (decB R.bs R.ln).2.1 ∧ B.Good nx' ∧ nx ≤ nx' ∧
    o = .ret (.tuple #[B.val, .int .i64 (decB R.bs R.ln).2.2.1, .int .i64 (decB R.bs R.ln).2.2.2]) ∧ X = B.H) ∧ F' = R.H ++ X ∧ ∀ e ∈ X, nx ≤ e.1 := by
  refine (decode_c R nx g).mono ?_
  rintro o F' n ⟨B, h1, h2, h3, h4, h5, h6, h7, rfl, rfl⟩
  refine ⟨B.H, ⟨B, h1, h2, h3, h7, rfl, rfl⟩, rfl, fun e he => ?_⟩
  rcases B with ⟨ks, kx, ws, wx, ok, kc, ow, wc, ro, loose⟩
  unfold Bk.H at he
  rcases List.mem_append.1 he with he | he
  · cases ok with
    | none => simp [kblk] at he
    | some b => simp [kblk] at he; subst he; exact h5 b rfl
  · cases ow with
    | none => simp [wpblk] at he
    | some b => simp [wpblk] at he; subst he; exact h6 b rfl
def leastB : List UInt8 := [1, 0, 0, 1, 0, 0, 0, 0, 0, 0, 0, 1, 0, 0, 0, 0, 0, 0, 0, 0, 0, 0, 0, 0, 0, 0, 0, 0, 255, 0, 0, 0, 0, 0, 0, 0, 0]
def leastN : List UInt8 := [1, 0, 0, 1, 0, 0, 0, 0, 0, 0, 0, 1, 0, 0, 0, 0, 0, 0, 0, 0, 0, 0, 0, 0, 0, 0, 0, 0, 255, 0, 0, 0, 0, 0, 0, 248, 127]
theorem least_enc : encB [leastK] [] = leastB := by
  have h0 : toS leastK.c2 = 0 := toS_zero
  unfold encB
  simp only [List.flatMap_cons, List.flatMap_nil, List.append_nil, kdBytes, h0]
  decide
theorem least_ok : checkB [leastK] [] = (0, 0) := by decide
theorem dec36 : decB leastB 36 = ([], [], 2, 36) := by
  unfold decB
  rw [if_neg (by decide), if_pos (by decide)]
  rfl
theorem dec37 : decB leastN 37 = ([], [], 14, 29) := by
  unfold decB
  have hm : le ((leastN.drop 0).take 1) = 1 := by decide
  have hw : le ((leastN.drop 1).take 1) = 0 := by decide
  rw [hm, hw, if_neg (by decide), if_neg (by decide), if_neg (by decide)]
  have hk : kE leastN 0 = (0, 14) := by
    unfold kE
    rw [show le ((leastN.drop (2 + 35 * 0 + 27)).take 8) = 0x7FF8000000000000 by decide]
    unfold ofS
    rw [show Ieee.double.read 0x7FF8000000000000 = .nan false 2251799813685248 by decide]
  have hf : (List.range 1).find? (fun i => decide ((kE leastN i).2 ≠ 0)) = some 0 := by
    rw [List.find?_range_eq_some]
    exact ⟨by rw [hk]; decide, by simp, fun j hj => absurd hj (Nat.not_lt_zero j)⟩
  rw [hf]
  dsimp only
  rw [hk]
  rfl
end Go.Proofs.Ytoihmanhldcjhaa.Id
namespace Go.Proofs.Ytoihmanhldcjhaa.Id
open Go Go.Proofs.Ytoihmanhldcjhaa.Rl
set_option linter.unusedSimpArgs false
set_option linter.unusedVariables false
theorem leastH (b : Nat) : (leastBk b).H = [(b, ⟨kcells [leastK], 46, 20, false, false⟩)] := rfl
set_option maxRecDepth 100000 in
set_option maxHeartbeats 4000000 in
theorem awake_c (nx : Nat) : CallW Try.prog 9 [] [] nx fun o F' n => (o = .ret (.bool true) ∧ nx ≤ n) ∧ F' = [] := by
  refine CallW_go (tbOk _) 62 [.tmp 0] Try.func9 rfl (by decide) rfl rfl (by simp) fun hlt => ?_
  simp only [params, Nat.zero_add, Nat.reduceAdd]
  refine JS_go (tbOk _) 99 fun x hx => ?_
  simp only [RN, ↓reduceIte, ↓get8, reduceCtorEq, Nat.reduceLT, Nat.reduceEqDiff, Nat.reduceAdd, Nat.reduceMul, Nat.reduceLeDiff, Nat.reduceSub, Int.reduceToNat, Int.reduceNeg, Nat.reduceBEq, TY] at hx
  subst hx
  refine ⟨_, _, rfl, by first | trivial | omega | (simp only [and_true, true_and]; omega), ?_⟩
  refine at_new (least_c nx) (fun _ _ h => by cases h) ?_
  rintro o X n ⟨rfl, rfl, rfl⟩ -
  refine ⟨_, by simp only [RN, ↓reduceIte, ↓get8, reduceCtorEq, Nat.reduceLT, Nat.reduceEqDiff, Nat.reduceAdd, Nat.reduceMul, Nat.reduceLeDiff, Nat.reduceSub, Int.reduceToNat, Int.reduceNeg, Nat.reduceBEq]; rfl, ?_⟩
  rw [leastH]
  refine JS_go (tbOk _) 99 fun x hx => ?_
  simp only [RN, ↓reduceIte, ↓get8, reduceCtorEq, Nat.reduceLT, Nat.reduceEqDiff, Nat.reduceAdd, Nat.reduceMul, Nat.reduceLeDiff, Nat.reduceSub, Int.reduceToNat, Int.reduceNeg, Nat.reduceBEq, TY] at hx
  subst hx
  refine ⟨_, _, rfl, by first | trivial | omega | (simp only [and_true, true_and]; omega), ?_⟩
  have hE := encode_c (leastBk (nx + 1)) (nx + 2) (leastBk_good (by omega))
  rw [leastH] at hE
  refine at_callG hE (by simp only [RN, ↓reduceIte, ↓get8, reduceCtorEq, Nat.reduceLT, Nat.reduceEqDiff, Nat.reduceAdd, Nat.reduceMul, Nat.reduceLeDiff, Nat.reduceSub, Int.reduceToNat, Int.reduceNeg, Nat.reduceBEq]; first | done | trivial) ?_
  rintro o L' n ⟨h1, h2⟩
  rw [if_pos (show (checkB (leastBk (nx + 1)).ks (leastBk (nx + 1)).ws).1 = 0 from congrArg Prod.fst least_ok), show encB (leastBk (nx + 1)).ks (leastBk (nx + 1)).ws = leastB from least_enc, show leastB.length = 37 from rfl] at h2
  obtain ⟨b, hb1, hb2, rfl, rfl⟩ := h2
  refine ⟨_, by simp only [RN, ↓reduceIte, ↓get8, reduceCtorEq, Nat.reduceLT, Nat.reduceEqDiff, Nat.reduceAdd, Nat.reduceMul, Nat.reduceLeDiff, Nat.reduceSub, Int.reduceToNat, Int.reduceNeg, Nat.reduceBEq]; rfl, ?_⟩
  have g0 : ¬ b = nx + 1 := by omega
  have g1 : ¬ nx + 1 = b := by omega
  refine JS_go (tbOk _) 99 fun x hx => ?_
  simp only [RN, ↓reduceIte, ↓get8, reduceCtorEq, Nat.reduceLT, Nat.reduceEqDiff, Nat.reduceAdd, Nat.reduceMul, Nat.reduceLeDiff, Nat.reduceSub, Int.reduceToNat, Int.reduceNeg, Nat.reduceBEq, TY, g0, g1, Nat.add_assoc, Nat.left_eq_add, Nat.add_eq_left, Nat.add_left_cancel_iff] at hx
  subst hx
  refine ⟨_, _, rfl, by first | trivial | omega | (simp only [and_true, true_and]; omega), ?_⟩
  refine at_cond (fun h => nomatch h) (fun _ => ?_)
  refine JS_go (tbOk _) 99 fun x hx => ?_
  simp only [RN, ↓reduceIte, ↓get8, reduceCtorEq, Nat.reduceLT, Nat.reduceEqDiff, Nat.reduceAdd, Nat.reduceMul, Nat.reduceLeDiff, Nat.reduceSub, Int.reduceToNat, Int.reduceNeg, Nat.reduceBEq, TY, g0, g1, Nat.add_assoc, Nat.left_eq_add, Nat.add_eq_left, Nat.add_left_cancel_iff] at hx
  subst hx
  refine ⟨_, _, rfl, by first | trivial | omega | (simp only [and_true, true_and]; omega), ?_⟩
  have hD := decode_n ⟨leastB, 36, some b, 37, false, true⟩ n ⟨(by decide : 36 ≤ leastB.length ∧ 36 ≤ 1000000), nofun, fun q e => (by cases e; exact hb2), (by decide : 36 ≤ 37)⟩
  rw [show decB leastB 36 = _ from dec36] at hD
  refine at_new hD (leL_look (by simp only [Rd.H, RN, ↓reduceIte, ↓get8, reduceCtorEq, Nat.reduceLT, Nat.reduceEqDiff, Nat.reduceAdd, Nat.reduceMul, Nat.reduceLeDiff, Nat.reduceSub, Int.reduceToNat, Int.reduceNeg, Nat.reduceBEq]; first | done | trivial)) ?_
  rintro o X n2 ⟨B, -, -, -, hn2, rfl, rfl⟩ hX
  refine ⟨_, by simp only [RN, ↓reduceIte, ↓get8, reduceCtorEq, Nat.reduceLT, Nat.reduceEqDiff, Nat.reduceAdd, Nat.reduceMul, Nat.reduceLeDiff, Nat.reduceSub, Int.reduceToNat, Int.reduceNeg, Nat.reduceBEq]; rfl, ?_⟩
  unfold Bk.val
  clear hX hD hE
  obtain ⟨X, hX⟩ : ∃ X, B.H = X := ⟨_, rfl⟩
  rw [hX]
  have f0 : ¬ b = n2 := by omega
  have f1 : ∀ i, ¬ b = n2 + i := by intro i; omega
  have f2 : ¬ n2 = b := by omega
  have f3 : ¬ n2 = nx + 1 := by omega
  have f4 : ¬ nx + 1 = n2 := by omega
  have s1 : (bys leastB).length = 37 := rfl
  have s2 : ((bys leastB).set 35 (.int .u8 248)).length = 37 := rfl
  have s3 : ((bys leastB).set 35 (.int .u8 248)).set 36 (.int .u8 127) = bys leastN := rfl
  have s4 : (bys leastN).length = 37 := rfl
  refine JS_go (tbOk _) 99 fun x hx => ?_
  simp only [RN, ↓reduceIte, ↓get8, reduceCtorEq, Nat.reduceLT, Nat.reduceEqDiff, Nat.reduceAdd, Nat.reduceMul, Nat.reduceLeDiff, Nat.reduceSub, Int.reduceToNat, Int.reduceNeg, Nat.reduceBEq, TY, g0, g1, f0, f1, f2, f3, f4, s1, s2, s3, s4, Nat.add_assoc, Nat.left_eq_add, Nat.add_eq_left, Nat.add_left_cancel_iff] at hx
  subst hx
  refine ⟨_, _, rfl, by first | trivial | omega | (simp only [and_true, true_and]; omega), ?_⟩
  have hD := decode_n ⟨leastN, 37, some b, 37, false, true⟩ (n2 + 1) ⟨(by decide : 37 ≤ leastN.length ∧ 37 ≤ 1000000), nofun, fun q e => (by cases e; exact Nat.lt_of_lt_of_le hb2 (Nat.le_succ_of_le hn2)), (by decide : 37 ≤ 37)⟩
  rw [show decB leastN 37 = _ from dec37] at hD
  refine at_new hD (leL_look (by simp only [Rd.H, RN, ↓reduceIte, ↓get8, reduceCtorEq, Nat.reduceLT, Nat.reduceEqDiff, Nat.reduceAdd, Nat.reduceMul, Nat.reduceLeDiff, Nat.reduceSub, Int.reduceToNat, Int.reduceNeg, Nat.reduceBEq]; first | done | trivial)) ?_
  rintro o Y n3 ⟨C, -, -, -, hn3, rfl, rfl⟩ hY
  refine ⟨_, by simp only [RN, ↓reduceIte, ↓get8, reduceCtorEq, Nat.reduceLT, Nat.reduceEqDiff, Nat.reduceAdd, Nat.reduceMul, Nat.reduceLeDiff, Nat.reduceSub, Int.reduceToNat, Int.reduceNeg, Nat.reduceBEq]; rfl, ?_⟩
  unfold Bk.val
  clear hY hD
  obtain ⟨Y, hY⟩ : ∃ Y, C.H = Y := ⟨_, rfl⟩
  rw [hY]
  have e0 : ¬ b = n3 := by omega
  have e1 : ¬ n3 = b := by omega
  have e2 : ∀ i, ¬ b = n3 + i := by intro i; omega
  have s5 : (bys leastN)[0]? = some (.int .u8 1) := rfl
  have s6 : (bys leastN)[1]? = some (.int .u8 0) := rfl
  have s7 : (bys leastN)[3]? = some (.int .u8 1) := rfl
  refine JS_go (tbOk _) 99 fun x hx => ?_
  simp only [RN, ↓reduceIte, ↓get8, reduceCtorEq, Nat.reduceLT, Nat.reduceEqDiff, Nat.reduceAdd, Nat.reduceMul, Nat.reduceLeDiff, Nat.reduceSub, Int.reduceToNat, Int.reduceNeg, Nat.reduceBEq, TY, g0, g1, f0, f1, f2, f3, f4, e0, e1, e2, s4, s5, s6, s7, Nat.add_assoc, Nat.left_eq_add, Nat.add_eq_left, Nat.add_left_cancel_iff] at hx
  subst hx
  refine ⟨_, _, rfl, by first | trivial | omega | (simp only [and_true, true_and]; omega), ?_⟩
  refine at_ret (ret_endK (by simp only [RN, ↓reduceIte, ↓get8, reduceCtorEq, Nat.reduceLT, Nat.reduceEqDiff, Nat.reduceAdd, Nat.reduceMul, Nat.reduceLeDiff, Nat.reduceSub, Int.reduceToNat, Int.reduceNeg, Nat.reduceBEq]; first | done | rfl) rfl trivial ⟨[], fun _ _ h => (by cases h), ⟨rfl, by show nx ≤ n3 + 1; omega⟩, rfl⟩)
end Go.Proofs.Ytoihmanhldcjhaa.Id
namespace Go.Proofs.Ytoihmanhldcjhaa.Id
open Go Go.Proofs.Ytoihmanhldcjhaa.Rl
set_option linter.unusedSimpArgs false
set_option linter.unusedVariables false
theorem le_out (b : Nat) : ∀ k, le (outB b k) = b % 256 ^ k
  | 0 => by simp [outB, le, Nat.mod_one]
  | k + 1 => by
    rw [outB_succ, le_snoc, outB_len, le_out b k, Nat.mod_pow_succ]
    have e : (toB ((b : Int).fdiv (2 ^ (8 * k)))).toNat = b / 256 ^ k % 256 := by
      have h1 : (b : Int).fdiv (2 ^ (8 * k)) = ((b / 256 ^ k : Nat) : Int) := by
        rw [Int.fdiv_eq_ediv_of_nonneg _ (Int.pow_nonneg (by omega))]
        have : (256 : Nat) ^ k = 2 ^ (8 * k) := by rw [Nat.pow_mul]
        rw [this]
        simp
      rw [h1]
      obtain ⟨n, hn⟩ : ∃ n, b / 256 ^ k = n := ⟨_, rfl⟩
      rw [hn]
      have h2 := toB_wrap (n : Int)
      simp [IntKind.wrap, IntKind.bits, IntKind.signed] at h2
      omega
    rw [e, Nat.mul_comm]
theorem dec_no {bs : List UInt8} {ln : Nat} (h : (decB bs ln).2.2.1 ≠ 0) : (decB bs ln).1 = [] ∧ (decB bs ln).2.1 = [] := by
  unfold decB at h ⊢
  split
  · exact ⟨rfl, rfl⟩
  · rename_i c1
    rw [if_neg c1] at h
    split
    · exact ⟨rfl, rfl⟩
    · rename_i c2
      rw [if_neg c2] at h
      split
      · exact ⟨rfl, rfl⟩
      · rename_i c3
        rw [if_neg c3] at h
        split
        · exact ⟨rfl, rfl⟩
        · rename_i hi
          rw [hi] at h
          dsimp only at h
          split
          · exact ⟨rfl, rfl⟩
          · rename_i hj
            rw [hj] at h
            dsimp only at h ⊢
            split
            · rename_i c4
              rw [if_pos c4] at h
              exact absurd rfl h
            · exact ⟨rfl, rfl⟩
end Go.Proofs.Ytoihmanhldcjhaa.Id
namespace Go.Proofs.Ytoihmanhldcjhaa.Id
open Go Go.Proofs.Ytoihmanhldcjhaa.Rl
set_option linter.unusedSimpArgs false
set_option linter.unusedVariables false
def spI (x j : Nat) : List UInt8 := leastB.take 29 ++ outB x j ++ leastB.drop (29 + j)
theorem ofS_err (x : Nat) : (ofS x).2 = 0 ∨ (ofS x).2 = 14 ∨ (ofS x).2 = 8 := by
  unfold ofS
  split
  · exact .inr (.inl rfl)
  · exact .inr (.inr rfl)
  · split
    · exact .inl rfl
    · exact .inr (.inr rfl)
theorem speeds_law (x : Nat) (hx : x < 18446744073709551616) :
    ((decB (spI x 8) 37).2.2.1 = 0 → ∃ k, (decB (spI x 8) 37).1 = [k] ∧ 0 ≤ k.c2 ∧ k.c2 ≤ 65536) ∧
    ((decB (spI x 8) 37).2.2.1 ≠ 0 → ((decB (spI x 8) 37).2.2.1 = 1 ∧ (decB (spI x 8) 37).2.2.2 = 0) ∨ (((decB (spI x 8) 37).2.2.1 = 14 ∨ (decB (spI x 8) 37).2.2.1 = 8) ∧ (decB (spI x 8) 37).2.2.2 = 29)) := by
  have hm : le (((spI x 8).drop 0).take 1) = 1 := rfl
  have hw : le (((spI x 8).drop 1).take 1) = 0 := rfl
  have hE : kE (spI x 8) 0 = ofS x := by
    unfold kE
    have e1 : ((spI x 8).drop (2 + 35 * 0 + 27)).take 8 = outB x 8 := rfl
    rw [e1, le_out, Nat.mod_eq_of_lt (by omega)]
  have hW : (List.range 0).find? (fun i => decide ((wE (spI x 8) (2 + 35 * 1 + 14 * i)).1 ≠ 0)) = none := rfl
  have hws : wsF (spI x 8) 1 0 = [] := rfl
  rcases ofS_err x with h0 | h1
  · have hf : (List.range 1).find? (fun i => decide ((kE (spI x 8) i).2 ≠ 0)) = none := by
      rw [List.find?_eq_none]
      intro i hi
      have : i = 0 := by simpa using hi
      subst this
      rw [hE, h0]
      simp
    have hks : (List.range 1).map (kX (spI x 8)) = [kX (spI x 8) 0] := rfl
    obtain ⟨k, hk⟩ : ∃ k, kX (spI x 8) 0 = k := ⟨_, rfl⟩
    have hd : decB (spI x 8) 37 = if (checkB [k] []).1 = 0 then ([k], [], 0, 0) else ([], [], checkB [k] []) := by
      unfold decB
      rw [hm, hw, if_neg (by decide), if_neg (by decide), if_neg (by decide), hf]
      dsimp only
      rw [hW]
      dsimp only
      rw [hks, hws, hk]
    have hc : checkB [k] [] = if kindB k 0 = true then (0, 0) else (1, 0) := by
      unfold checkB
      cases hkb : kindB k 0 <;> simp [btw, hkb]
    rw [hd, hc]
    cases hkb : kindB k 0 with
    | true =>
      rw [if_pos rfl, if_pos rfl]
      have := hkb
      simp only [kindB, Bool.and_eq_true, decide_eq_true_eq] at this
      exact ⟨fun _ => ⟨k, rfl, by omega, by omega⟩, fun h => absurd rfl h⟩
    | false =>
      rw [if_neg (by decide), if_neg (by decide)]
      exact ⟨fun h => absurd h (by decide), fun _ => .inl ⟨rfl, rfl⟩⟩
  · have hne : (ofS x).2 ≠ 0 := by rcases h1 with h1 | h1 <;> rw [h1] <;> decide
    have hf : (List.range 1).find? (fun i => decide ((kE (spI x 8) i).2 ≠ 0)) = some 0 := by
      rw [List.find?_range_eq_some]
      exact ⟨by rw [hE]; simpa using hne, by simp, fun j hj => absurd hj (Nat.not_lt_zero j)⟩
    have hd : decB (spI x 8) 37 = ([], [], (ofS x).2, 29) := by
      unfold decB
      rw [hm, hw, if_neg (by decide), if_neg (by decide), if_neg (by decide), hf]
      dsimp only
      rw [hE]
      rfl
    rw [hd]
    exact ⟨fun h => absurd h hne, fun _ => .inr ⟨h1, rfl⟩⟩
set_option maxRecDepth 100000 in
set_option maxHeartbeats 4000000 in
theorem speeds_c (x : Nat) (nx : Nat) (hx : x < 18446744073709551616) : CallW Try.prog 8 [.int .u64 (x : Int)] [] nx fun o F' n => (o = .ret (.bool true) ∧ nx ≤ n) ∧ F' = [] := by
  refine CallW_go (tbOk _) 84 [.tmp 2] Try.func8 rfl (by decide) rfl rfl (by simp) fun hlt => ?_
  simp only [params, Nat.zero_add, Nat.reduceAdd]
  refine JS_go (tbOk _) 99 fun x hx => ?_
  simp only [RN, ↓reduceIte, ↓get8, reduceCtorEq, Nat.reduceLT, Nat.reduceEqDiff, Nat.reduceAdd, Nat.reduceMul, Nat.reduceLeDiff, Nat.reduceSub, Int.reduceToNat, Int.reduceNeg, Nat.reduceBEq, TY] at hx
  subst hx
  refine ⟨_, _, rfl, by first | trivial | omega | (simp only [and_true, true_and]; omega), ?_⟩
  refine at_new (least_c nx) (fun _ _ h => by cases h) ?_
  rintro o X n ⟨rfl, rfl, rfl⟩ -
  refine ⟨_, by simp only [RN, ↓reduceIte, ↓get8, reduceCtorEq, Nat.reduceLT, Nat.reduceEqDiff, Nat.reduceAdd, Nat.reduceMul, Nat.reduceLeDiff, Nat.reduceSub, Int.reduceToNat, Int.reduceNeg, Nat.reduceBEq]; rfl, ?_⟩
  rw [leastH]
  refine JS_go (tbOk _) 99 fun x hx => ?_
  simp only [RN, ↓reduceIte, ↓get8, reduceCtorEq, Nat.reduceLT, Nat.reduceEqDiff, Nat.reduceAdd, Nat.reduceMul, Nat.reduceLeDiff, Nat.reduceSub, Int.reduceToNat, Int.reduceNeg, Nat.reduceBEq, TY] at hx
  subst hx
  refine ⟨_, _, rfl, by first | trivial | omega | (simp only [and_true, true_and]; omega), ?_⟩
  have hE := encode_c (leastBk (nx + 1)) (nx + 2) (leastBk_good (by omega))
  rw [leastH] at hE
  refine at_callG hE (by simp only [RN, ↓reduceIte, ↓get8, reduceCtorEq, Nat.reduceLT, Nat.reduceEqDiff, Nat.reduceAdd, Nat.reduceMul, Nat.reduceLeDiff, Nat.reduceSub, Int.reduceToNat, Int.reduceNeg, Nat.reduceBEq]; first | done | trivial) ?_
  rintro o L' n ⟨h1, h2⟩
  rw [if_pos (show (checkB (leastBk (nx + 1)).ks (leastBk (nx + 1)).ws).1 = 0 from congrArg Prod.fst least_ok), show encB (leastBk (nx + 1)).ks (leastBk (nx + 1)).ws = leastB from least_enc, show leastB.length = 37 from rfl] at h2
  obtain ⟨b, hb1, hb2, rfl, rfl⟩ := h2
  refine ⟨_, by simp only [RN, ↓reduceIte, ↓get8, reduceCtorEq, Nat.reduceLT, Nat.reduceEqDiff, Nat.reduceAdd, Nat.reduceMul, Nat.reduceLeDiff, Nat.reduceSub, Int.reduceToNat, Int.reduceNeg, Nat.reduceBEq]; rfl, ?_⟩
  have g0 : ¬ b = nx + 1 := by omega
  have g1 : ¬ nx + 1 = b := by omega
  refine JS_go (tbOk _) 99 fun x hx => ?_
  simp only [RN, ↓reduceIte, ↓get8, reduceCtorEq, Nat.reduceLT, Nat.reduceEqDiff, Nat.reduceAdd, Nat.reduceMul, Nat.reduceLeDiff, Nat.reduceSub, Int.reduceToNat, Int.reduceNeg, Nat.reduceBEq, TY, g0, g1, Nat.add_assoc, Nat.left_eq_add, Nat.add_eq_left, Nat.add_left_cancel_iff] at hx
  subst hx
  refine ⟨_, _, rfl, by first | trivial | omega | (simp only [and_true, true_and]; omega), ?_⟩
  refine at_cond (fun h => nomatch h) (fun _ => ?_)
  refine JS_go (tbOk _) 99 fun x hx => ?_
  simp only [RN, ↓reduceIte, ↓get8, reduceCtorEq, Nat.reduceLT, Nat.reduceEqDiff, Nat.reduceAdd, Nat.reduceMul, Nat.reduceLeDiff, Nat.reduceSub, Int.reduceToNat, Int.reduceNeg, Nat.reduceBEq, TY, g0, g1, Nat.add_assoc, Nat.left_eq_add, Nat.add_eq_left, Nat.add_left_cancel_iff] at hx
  subst hx
  refine ⟨_, _, rfl, by first | trivial | omega | (simp only [and_true, true_and]; omega), ?_⟩
  refine at_loop ?_
  refine JS_loopI (S := fun j : Nat => { n := 84, fr := [(4, .int .i64 (j : Int)), (3, .slice (some ⟨b, 0, none⟩) 37 37), (0, .int .u64 (x : Int))], F := [(b, ⟨bys (spI x j), 5, 1, false, true⟩)], nx := n, ds := [] })
    (fun j => j ≤ 8) (fun j => 8 - j) 0 (by omega) ?_ ?_
  · have e0 : spI x 0 = leastB := rfl
    exact le_of rfl (by simp only [RN, ↓reduceIte, ↓get8, reduceCtorEq, Nat.reduceLT, Nat.reduceEqDiff, Nat.reduceAdd, Nat.reduceMul, Nat.reduceLeDiff, Nat.reduceSub, Int.reduceToNat, Int.reduceNeg, Nat.reduceBEq]; first | done | trivial) (by simp only [RN, ↓reduceIte, ↓get8, reduceCtorEq, Nat.reduceLT, Nat.reduceEqDiff, Nat.reduceAdd, Nat.reduceMul, Nat.reduceLeDiff, Nat.reduceSub, Int.reduceToNat, Int.reduceNeg, Nat.reduceBEq, e0, g0, g1, Nat.add_assoc, Nat.left_eq_add, Nat.add_eq_left, Nat.add_left_cancel_iff]; first | done | trivial) (Nat.le_refl _) rfl
  intro j hj
  have hj9 : j = 0 ∨ j = 1 ∨ j = 2 ∨ j = 3 ∨ j = 4 ∨ j = 5 ∨ j = 6 ∨ j = 7 ∨ j = 8 := by omega
  rcases hj9 with rfl | rfl | rfl | rfl | rfl | rfl | rfl | rfl | rfl
  · skip
    have w1 : IntKind.i64.wrap (8 * ((0 : Nat) : Int)) = ((0 : Nat) : Int) := by decide
    have w2 : IntKind.i64.wrap (29 + ((0 : Nat) : Int)) = ((29 : Nat) : Int) := by decide
    have w4 : IntKind.i64.wrap (((0 : Nat) : Int) + 1) = ((1 : Nat) : Int) := by decide
    have w5 : (x : Int).fdiv (2 ^ (min 0 IntKind.u64.bits)) = (x : Int).fdiv (2 ^ (8 * 0)) := rfl
    have w6 := toB_wrap ((x : Int).fdiv (2 ^ (8 * 0)))
    have w7 : (bys (spI x 0)).set 29 (.int .u8 ((toB ((x : Int).fdiv (2 ^ (8 * 0)))).toNat : Int)) = bys (spI x 1) := rfl
    have w8 : (bys (spI x 0)).length = 37 := rfl
    obtain ⟨y, hy⟩ : ∃ y, (x : Int).fdiv (2 ^ (8 * 0)) = y := ⟨_, rfl⟩
    rw [hy] at w5 w6 w7
    refine JS_go (tbOk _) 99 fun x hx => ?_
    simp only [RN, ↓reduceIte, ↓get8, reduceCtorEq, Nat.reduceLT, Nat.reduceEqDiff, Nat.reduceAdd, Nat.reduceMul, Nat.reduceLeDiff, Nat.reduceSub, Int.reduceToNat, Int.reduceNeg, Nat.reduceBEq, TY] at hx
    subst hx
    refine ⟨_, _, rfl, by first | trivial | omega | (simp only [and_true, true_and]; omega), ?_⟩
    refine at_cond (fun _ => ?_) (fun h => nomatch h)
    refine JS_go (tbOk _) 99 fun x hx => ?_
    simp only [RN, ↓reduceIte, ↓get8, reduceCtorEq, Nat.reduceLT, Nat.reduceEqDiff, Nat.reduceAdd, Nat.reduceMul, Nat.reduceLeDiff, Nat.reduceSub, Int.reduceToNat, Int.reduceNeg, Nat.reduceBEq, TY, w1, w2, w4, w5, w6, w7, w8] at hx
    subst hx
    refine ⟨_, _, rfl, by first | trivial | omega | (simp only [and_true, true_and]; omega), ?_⟩
    exact at_done (in_nextI 1 (by omega) (by omega) (le_of rfl (by simp only [RN, ↓reduceIte, ↓get8, reduceCtorEq, Nat.reduceLT, Nat.reduceEqDiff, Nat.reduceAdd, Nat.reduceMul, Nat.reduceLeDiff, Nat.reduceSub, Int.reduceToNat, Int.reduceNeg, Nat.reduceBEq]; first | done | trivial) (by simp only [RN, ↓reduceIte, ↓get8, reduceCtorEq, Nat.reduceLT, Nat.reduceEqDiff, Nat.reduceAdd, Nat.reduceMul, Nat.reduceLeDiff, Nat.reduceSub, Int.reduceToNat, Int.reduceNeg, Nat.reduceBEq]; first | done | trivial) (Nat.le_refl _) rfl))
  · skip
    have w1 : IntKind.i64.wrap (8 * ((1 : Nat) : Int)) = ((8 : Nat) : Int) := by decide
    have w2 : IntKind.i64.wrap (29 + ((1 : Nat) : Int)) = ((30 : Nat) : Int) := by decide
    have w4 : IntKind.i64.wrap (((1 : Nat) : Int) + 1) = ((2 : Nat) : Int) := by decide
    have w5 : (x : Int).fdiv (2 ^ (min 8 IntKind.u64.bits)) = (x : Int).fdiv (2 ^ (8 * 1)) := rfl
    have w6 := toB_wrap ((x : Int).fdiv (2 ^ (8 * 1)))
    have w7 : (bys (spI x 1)).set 30 (.int .u8 ((toB ((x : Int).fdiv (2 ^ (8 * 1)))).toNat : Int)) = bys (spI x 2) := rfl
    have w8 : (bys (spI x 1)).length = 37 := rfl
    obtain ⟨y, hy⟩ : ∃ y, (x : Int).fdiv (2 ^ (8 * 1)) = y := ⟨_, rfl⟩
    rw [hy] at w5 w6 w7
    refine JS_go (tbOk _) 99 fun x hx => ?_
    simp only [RN, ↓reduceIte, ↓get8, reduceCtorEq, Nat.reduceLT, Nat.reduceEqDiff, Nat.reduceAdd, Nat.reduceMul, Nat.reduceLeDiff, Nat.reduceSub, Int.reduceToNat, Int.reduceNeg, Nat.reduceBEq, TY] at hx
    subst hx
    refine ⟨_, _, rfl, by first | trivial | omega | (simp only [and_true, true_and]; omega), ?_⟩
    refine at_cond (fun _ => ?_) (fun h => nomatch h)
    refine JS_go (tbOk _) 99 fun x hx => ?_
    simp only [RN, ↓reduceIte, ↓get8, reduceCtorEq, Nat.reduceLT, Nat.reduceEqDiff, Nat.reduceAdd, Nat.reduceMul, Nat.reduceLeDiff, Nat.reduceSub, Int.reduceToNat, Int.reduceNeg, Nat.reduceBEq, TY, w1, w2, w4, w5, w6, w7, w8] at hx
    subst hx
    refine ⟨_, _, rfl, by first | trivial | omega | (simp only [and_true, true_and]; omega), ?_⟩
    exact at_done (in_nextI 2 (by omega) (by omega) (le_of rfl (by simp only [RN, ↓reduceIte, ↓get8, reduceCtorEq, Nat.reduceLT, Nat.reduceEqDiff, Nat.reduceAdd, Nat.reduceMul, Nat.reduceLeDiff, Nat.reduceSub, Int.reduceToNat, Int.reduceNeg, Nat.reduceBEq]; first | done | trivial) (by simp only [RN, ↓reduceIte, ↓get8, reduceCtorEq, Nat.reduceLT, Nat.reduceEqDiff, Nat.reduceAdd, Nat.reduceMul, Nat.reduceLeDiff, Nat.reduceSub, Int.reduceToNat, Int.reduceNeg, Nat.reduceBEq]; first | done | trivial) (Nat.le_refl _) rfl))
  · skip
    have w1 : IntKind.i64.wrap (8 * ((2 : Nat) : Int)) = ((16 : Nat) : Int) := by decide
    have w2 : IntKind.i64.wrap (29 + ((2 : Nat) : Int)) = ((31 : Nat) : Int) := by decide
    have w4 : IntKind.i64.wrap (((2 : Nat) : Int) + 1) = ((3 : Nat) : Int) := by decide
    have w5 : (x : Int).fdiv (2 ^ (min 16 IntKind.u64.bits)) = (x : Int).fdiv (2 ^ (8 * 2)) := rfl
    have w6 := toB_wrap ((x : Int).fdiv (2 ^ (8 * 2)))
    have w7 : (bys (spI x 2)).set 31 (.int .u8 ((toB ((x : Int).fdiv (2 ^ (8 * 2)))).toNat : Int)) = bys (spI x 3) := rfl
    have w8 : (bys (spI x 2)).length = 37 := rfl
    obtain ⟨y, hy⟩ : ∃ y, (x : Int).fdiv (2 ^ (8 * 2)) = y := ⟨_, rfl⟩
    rw [hy] at w5 w6 w7
    refine JS_go (tbOk _) 99 fun x hx => ?_
    simp only [RN, ↓reduceIte, ↓get8, reduceCtorEq, Nat.reduceLT, Nat.reduceEqDiff, Nat.reduceAdd, Nat.reduceMul, Nat.reduceLeDiff, Nat.reduceSub, Int.reduceToNat, Int.reduceNeg, Nat.reduceBEq, TY] at hx
    subst hx
    refine ⟨_, _, rfl, by first | trivial | omega | (simp only [and_true, true_and]; omega), ?_⟩
    refine at_cond (fun _ => ?_) (fun h => nomatch h)
    refine JS_go (tbOk _) 99 fun x hx => ?_
    simp only [RN, ↓reduceIte, ↓get8, reduceCtorEq, Nat.reduceLT, Nat.reduceEqDiff, Nat.reduceAdd, Nat.reduceMul, Nat.reduceLeDiff, Nat.reduceSub, Int.reduceToNat, Int.reduceNeg, Nat.reduceBEq, TY, w1, w2, w4, w5, w6, w7, w8] at hx
    subst hx
    refine ⟨_, _, rfl, by first | trivial | omega | (simp only [and_true, true_and]; omega), ?_⟩
    exact at_done (in_nextI 3 (by omega) (by omega) (le_of rfl (by simp only [RN, ↓reduceIte, ↓get8, reduceCtorEq, Nat.reduceLT, Nat.reduceEqDiff, Nat.reduceAdd, Nat.reduceMul, Nat.reduceLeDiff, Nat.reduceSub, Int.reduceToNat, Int.reduceNeg, Nat.reduceBEq]; first | done | trivial) (by simp only [RN, ↓reduceIte, ↓get8, reduceCtorEq, Nat.reduceLT, Nat.reduceEqDiff, Nat.reduceAdd, Nat.reduceMul, Nat.reduceLeDiff, Nat.reduceSub, Int.reduceToNat, Int.reduceNeg, Nat.reduceBEq]; first | done | trivial) (Nat.le_refl _) rfl))
  · skip
    have w1 : IntKind.i64.wrap (8 * ((3 : Nat) : Int)) = ((24 : Nat) : Int) := by decide
    have w2 : IntKind.i64.wrap (29 + ((3 : Nat) : Int)) = ((32 : Nat) : Int) := by decide
    have w4 : IntKind.i64.wrap (((3 : Nat) : Int) + 1) = ((4 : Nat) : Int) := by decide
    have w5 : (x : Int).fdiv (2 ^ (min 24 IntKind.u64.bits)) = (x : Int).fdiv (2 ^ (8 * 3)) := rfl
    have w6 := toB_wrap ((x : Int).fdiv (2 ^ (8 * 3)))
    have w7 : (bys (spI x 3)).set 32 (.int .u8 ((toB ((x : Int).fdiv (2 ^ (8 * 3)))).toNat : Int)) = bys (spI x 4) := rfl
    have w8 : (bys (spI x 3)).length = 37 := rfl
    obtain ⟨y, hy⟩ : ∃ y, (x : Int).fdiv (2 ^ (8 * 3)) = y := ⟨_, rfl⟩
    rw [hy] at w5 w6 w7
    refine JS_go (tbOk _) 99 fun x hx => ?_
    simp only [RN, ↓reduceIte, ↓get8, reduceCtorEq, Nat.reduceLT, Nat.reduceEqDiff, Nat.reduceAdd, Nat.reduceMul, Nat.reduceLeDiff, Nat.reduceSub, Int.reduceToNat, Int.reduceNeg, Nat.reduceBEq, TY] at hx
    subst hx
    refine ⟨_, _, rfl, by first | trivial | omega | (simp only [and_true, true_and]; omega), ?_⟩
    refine at_cond (fun _ => ?_) (fun h => nomatch h)
    refine JS_go (tbOk _) 99 fun x hx => ?_
    simp only [RN, ↓reduceIte, ↓get8, reduceCtorEq, Nat.reduceLT, Nat.reduceEqDiff, Nat.reduceAdd, Nat.reduceMul, Nat.reduceLeDiff, Nat.reduceSub, Int.reduceToNat, Int.reduceNeg, Nat.reduceBEq, TY, w1, w2, w4, w5, w6, w7, w8] at hx
    subst hx
    refine ⟨_, _, rfl, by first | trivial | omega | (simp only [and_true, true_and]; omega), ?_⟩
    exact at_done (in_nextI 4 (by omega) (by omega) (le_of rfl (by simp only [RN, ↓reduceIte, ↓get8, reduceCtorEq, Nat.reduceLT, Nat.reduceEqDiff, Nat.reduceAdd, Nat.reduceMul, Nat.reduceLeDiff, Nat.reduceSub, Int.reduceToNat, Int.reduceNeg, Nat.reduceBEq]; first | done | trivial) (by simp only [RN, ↓reduceIte, ↓get8, reduceCtorEq, Nat.reduceLT, Nat.reduceEqDiff, Nat.reduceAdd, Nat.reduceMul, Nat.reduceLeDiff, Nat.reduceSub, Int.reduceToNat, Int.reduceNeg, Nat.reduceBEq]; first | done | trivial) (Nat.le_refl _) rfl))
  · skip
    have w1 : IntKind.i64.wrap (8 * ((4 : Nat) : Int)) = ((32 : Nat) : Int) := by decide
    have w2 : IntKind.i64.wrap (29 + ((4 : Nat) : Int)) = ((33 : Nat) : Int) := by decide
    have w4 : IntKind.i64.wrap (((4 : Nat) : Int) + 1) = ((5 : Nat) : Int) := by decide
    have w5 : (x : Int).fdiv (2 ^ (min 32 IntKind.u64.bits)) = (x : Int).fdiv (2 ^ (8 * 4)) := rfl
    have w6 := toB_wrap ((x : Int).fdiv (2 ^ (8 * 4)))
    have w7 : (bys (spI x 4)).set 33 (.int .u8 ((toB ((x : Int).fdiv (2 ^ (8 * 4)))).toNat : Int)) = bys (spI x 5) := rfl
    have w8 : (bys (spI x 4)).length = 37 := rfl
    obtain ⟨y, hy⟩ : ∃ y, (x : Int).fdiv (2 ^ (8 * 4)) = y := ⟨_, rfl⟩
    rw [hy] at w5 w6 w7
    refine JS_go (tbOk _) 99 fun x hx => ?_
    simp only [RN, ↓reduceIte, ↓get8, reduceCtorEq, Nat.reduceLT, Nat.reduceEqDiff, Nat.reduceAdd, Nat.reduceMul, Nat.reduceLeDiff, Nat.reduceSub, Int.reduceToNat, Int.reduceNeg, Nat.reduceBEq, TY] at hx
    subst hx
    refine ⟨_, _, rfl, by first | trivial | omega | (simp only [and_true, true_and]; omega), ?_⟩
    refine at_cond (fun _ => ?_) (fun h => nomatch h)
    refine JS_go (tbOk _) 99 fun x hx => ?_
    simp only [RN, ↓reduceIte, ↓get8, reduceCtorEq, Nat.reduceLT, Nat.reduceEqDiff, Nat.reduceAdd, Nat.reduceMul, Nat.reduceLeDiff, Nat.reduceSub, Int.reduceToNat, Int.reduceNeg, Nat.reduceBEq, TY, w1, w2, w4, w5, w6, w7, w8] at hx
    subst hx
    refine ⟨_, _, rfl, by first | trivial | omega | (simp only [and_true, true_and]; omega), ?_⟩
    exact at_done (in_nextI 5 (by omega) (by omega) (le_of rfl (by simp only [RN, ↓reduceIte, ↓get8, reduceCtorEq, Nat.reduceLT, Nat.reduceEqDiff, Nat.reduceAdd, Nat.reduceMul, Nat.reduceLeDiff, Nat.reduceSub, Int.reduceToNat, Int.reduceNeg, Nat.reduceBEq]; first | done | trivial) (by simp only [RN, ↓reduceIte, ↓get8, reduceCtorEq, Nat.reduceLT, Nat.reduceEqDiff, Nat.reduceAdd, Nat.reduceMul, Nat.reduceLeDiff, Nat.reduceSub, Int.reduceToNat, Int.reduceNeg, Nat.reduceBEq]; first | done | trivial) (Nat.le_refl _) rfl))
  · skip
    have w1 : IntKind.i64.wrap (8 * ((5 : Nat) : Int)) = ((40 : Nat) : Int) := by decide
    have w2 : IntKind.i64.wrap (29 + ((5 : Nat) : Int)) = ((34 : Nat) : Int) := by decide
    have w4 : IntKind.i64.wrap (((5 : Nat) : Int) + 1) = ((6 : Nat) : Int) := by decide
    have w5 : (x : Int).fdiv (2 ^ (min 40 IntKind.u64.bits)) = (x : Int).fdiv (2 ^ (8 * 5)) := rfl
    have w6 := toB_wrap ((x : Int).fdiv (2 ^ (8 * 5)))
    have w7 : (bys (spI x 5)).set 34 (.int .u8 ((toB ((x : Int).fdiv (2 ^ (8 * 5)))).toNat : Int)) = bys (spI x 6) := rfl
    have w8 : (bys (spI x 5)).length = 37 := rfl
    obtain ⟨y, hy⟩ : ∃ y, (x : Int).fdiv (2 ^ (8 * 5)) = y := ⟨_, rfl⟩
    rw [hy] at w5 w6 w7
    refine JS_go (tbOk _) 99 fun x hx => ?_
    simp only [RN, ↓reduceIte, ↓get8, reduceCtorEq, Nat.reduceLT, Nat.reduceEqDiff, Nat.reduceAdd, Nat.reduceMul, Nat.reduceLeDiff, Nat.reduceSub, Int.reduceToNat, Int.reduceNeg, Nat.reduceBEq, TY] at hx
    subst hx
    refine ⟨_, _, rfl, by first | trivial | omega | (simp only [and_true, true_and]; omega), ?_⟩
    refine at_cond (fun _ => ?_) (fun h => nomatch h)
    refine JS_go (tbOk _) 99 fun x hx => ?_
    simp only [RN, ↓reduceIte, ↓get8, reduceCtorEq, Nat.reduceLT, Nat.reduceEqDiff, Nat.reduceAdd, Nat.reduceMul, Nat.reduceLeDiff, Nat.reduceSub, Int.reduceToNat, Int.reduceNeg, Nat.reduceBEq, TY, w1, w2, w4, w5, w6, w7, w8] at hx
    subst hx
    refine ⟨_, _, rfl, by first | trivial | omega | (simp only [and_true, true_and]; omega), ?_⟩
    exact at_done (in_nextI 6 (by omega) (by omega) (le_of rfl (by simp only [RN, ↓reduceIte, ↓get8, reduceCtorEq, Nat.reduceLT, Nat.reduceEqDiff, Nat.reduceAdd, Nat.reduceMul, Nat.reduceLeDiff, Nat.reduceSub, Int.reduceToNat, Int.reduceNeg, Nat.reduceBEq]; first | done | trivial) (by simp only [RN, ↓reduceIte, ↓get8, reduceCtorEq, Nat.reduceLT, Nat.reduceEqDiff, Nat.reduceAdd, Nat.reduceMul, Nat.reduceLeDiff, Nat.reduceSub, Int.reduceToNat, Int.reduceNeg, Nat.reduceBEq]; first | done | trivial) (Nat.le_refl _) rfl))
  · skip
    have w1 : IntKind.i64.wrap (8 * ((6 : Nat) : Int)) = ((48 : Nat) : Int) := by decide
    have w2 : IntKind.i64.wrap (29 + ((6 : Nat) : Int)) = ((35 : Nat) : Int) := by decide
    have w4 : IntKind.i64.wrap (((6 : Nat) : Int) + 1) = ((7 : Nat) : Int) := by decide
    have w5 : (x : Int).fdiv (2 ^ (min 48 IntKind.u64.bits)) = (x : Int).fdiv (2 ^ (8 * 6)) := rfl
    have w6 := toB_wrap ((x : Int).fdiv (2 ^ (8 * 6)))
    have w7 : (bys (spI x 6)).set 35 (.int .u8 ((toB ((x : Int).fdiv (2 ^ (8 * 6)))).toNat : Int)) = bys (spI x 7) := rfl
    have w8 : (bys (spI x 6)).length = 37 := rfl
    obtain ⟨y, hy⟩ : ∃ y, (x : Int).fdiv (2 ^ (8 * 6)) = y := ⟨_, rfl⟩
    rw [hy] at w5 w6 w7
    refine JS_go (tbOk _) 99 fun x hx => ?_
    simp only [RN, ↓reduceIte, ↓get8, reduceCtorEq, Nat.reduceLT, Nat.reduceEqDiff, Nat.reduceAdd, Nat.reduceMul, Nat.reduceLeDiff, Nat.reduceSub, Int.reduceToNat, Int.reduceNeg, Nat.reduceBEq, TY] at hx
    subst hx
    refine ⟨_, _, rfl, by first | trivial | omega | (simp only [and_true, true_and]; omega), ?_⟩
    refine at_cond (fun _ => ?_) (fun h => nomatch h)
    refine JS_go (tbOk _) 99 fun x hx => ?_
    simp only [RN, ↓reduceIte, ↓get8, reduceCtorEq, Nat.reduceLT, Nat.reduceEqDiff, Nat.reduceAdd, Nat.reduceMul, Nat.reduceLeDiff, Nat.reduceSub, Int.reduceToNat, Int.reduceNeg, Nat.reduceBEq, TY, w1, w2, w4, w5, w6, w7, w8] at hx
    subst hx
    refine ⟨_, _, rfl, by first | trivial | omega | (simp only [and_true, true_and]; omega), ?_⟩
    exact at_done (in_nextI 7 (by omega) (by omega) (le_of rfl (by simp only [RN, ↓reduceIte, ↓get8, reduceCtorEq, Nat.reduceLT, Nat.reduceEqDiff, Nat.reduceAdd, Nat.reduceMul, Nat.reduceLeDiff, Nat.reduceSub, Int.reduceToNat, Int.reduceNeg, Nat.reduceBEq]; first | done | trivial) (by simp only [RN, ↓reduceIte, ↓get8, reduceCtorEq, Nat.reduceLT, Nat.reduceEqDiff, Nat.reduceAdd, Nat.reduceMul, Nat.reduceLeDiff, Nat.reduceSub, Int.reduceToNat, Int.reduceNeg, Nat.reduceBEq]; first | done | trivial) (Nat.le_refl _) rfl))
  · skip
    have w1 : IntKind.i64.wrap (8 * ((7 : Nat) : Int)) = ((56 : Nat) : Int) := by decide
    have w2 : IntKind.i64.wrap (29 + ((7 : Nat) : Int)) = ((36 : Nat) : Int) := by decide
    have w4 : IntKind.i64.wrap (((7 : Nat) : Int) + 1) = ((8 : Nat) : Int) := by decide
    have w5 : (x : Int).fdiv (2 ^ (min 56 IntKind.u64.bits)) = (x : Int).fdiv (2 ^ (8 * 7)) := rfl
    have w6 := toB_wrap ((x : Int).fdiv (2 ^ (8 * 7)))
    have w7 : (bys (spI x 7)).set 36 (.int .u8 ((toB ((x : Int).fdiv (2 ^ (8 * 7)))).toNat : Int)) = bys (spI x 8) := rfl
    have w8 : (bys (spI x 7)).length = 37 := rfl
    obtain ⟨y, hy⟩ : ∃ y, (x : Int).fdiv (2 ^ (8 * 7)) = y := ⟨_, rfl⟩
    rw [hy] at w5 w6 w7
    refine JS_go (tbOk _) 99 fun x hx => ?_
    simp only [RN, ↓reduceIte, ↓get8, reduceCtorEq, Nat.reduceLT, Nat.reduceEqDiff, Nat.reduceAdd, Nat.reduceMul, Nat.reduceLeDiff, Nat.reduceSub, Int.reduceToNat, Int.reduceNeg, Nat.reduceBEq, TY] at hx
    subst hx
    refine ⟨_, _, rfl, by first | trivial | omega | (simp only [and_true, true_and]; omega), ?_⟩
    refine at_cond (fun _ => ?_) (fun h => nomatch h)
    refine JS_go (tbOk _) 99 fun x hx => ?_
    simp only [RN, ↓reduceIte, ↓get8, reduceCtorEq, Nat.reduceLT, Nat.reduceEqDiff, Nat.reduceAdd, Nat.reduceMul, Nat.reduceLeDiff, Nat.reduceSub, Int.reduceToNat, Int.reduceNeg, Nat.reduceBEq, TY, w1, w2, w4, w5, w6, w7, w8] at hx
    subst hx
    refine ⟨_, _, rfl, by first | trivial | omega | (simp only [and_true, true_and]; omega), ?_⟩
    exact at_done (in_nextI 8 (by omega) (by omega) (le_of rfl (by simp only [RN, ↓reduceIte, ↓get8, reduceCtorEq, Nat.reduceLT, Nat.reduceEqDiff, Nat.reduceAdd, Nat.reduceMul, Nat.reduceLeDiff, Nat.reduceSub, Int.reduceToNat, Int.reduceNeg, Nat.reduceBEq]; first | done | trivial) (by simp only [RN, ↓reduceIte, ↓get8, reduceCtorEq, Nat.reduceLT, Nat.reduceEqDiff, Nat.reduceAdd, Nat.reduceMul, Nat.reduceLeDiff, Nat.reduceSub, Int.reduceToNat, Int.reduceNeg, Nat.reduceBEq]; first | done | trivial) (Nat.le_refl _) rfl))
  · skip
    refine JS_go (tbOk _) 99 fun x hx => ?_
    simp only [RN, ↓reduceIte, ↓get8, reduceCtorEq, Nat.reduceLT, Nat.reduceEqDiff, Nat.reduceAdd, Nat.reduceMul, Nat.reduceLeDiff, Nat.reduceSub, Int.reduceToNat, Int.reduceNeg, Nat.reduceBEq, TY] at hx
    subst hx
    refine ⟨_, _, rfl, by first | trivial | omega | (simp only [and_true, true_and]; omega), ?_⟩
    refine at_cond (fun h => nomatch h) (fun _ => ?_)
    refine JS_go (tbOk _) 99 fun x hx => ?_
    simp only [RN, ↓reduceIte, ↓get8, reduceCtorEq, Nat.reduceLT, Nat.reduceEqDiff, Nat.reduceAdd, Nat.reduceMul, Nat.reduceLeDiff, Nat.reduceSub, Int.reduceToNat, Int.reduceNeg, Nat.reduceBEq, TY] at hx
    subst hx
    refine ⟨_, _, rfl, by first | trivial | omega | (simp only [and_true, true_and]; omega), ?_⟩
    refine at_exit (in_exitI (by simp only [RN, ↓reduceIte, ↓get8, reduceCtorEq, Nat.reduceLT, Nat.reduceEqDiff, Nat.reduceAdd, Nat.reduceMul, Nat.reduceLeDiff, Nat.reduceSub, Int.reduceToNat, Int.reduceNeg, Nat.reduceBEq]; rfl) ?_)
    have hD := decode_n ⟨spI x 8, 37, some b, 37, false, true⟩ n ⟨⟨(show 37 ≤ (spI x 8).length from Nat.le_refl 37), (by decide : 37 ≤ 1000000)⟩, nofun, fun q e => (by cases e; exact hb2), (by decide : 37 ≤ 37)⟩
    obtain ⟨p1, p2⟩ := speeds_law x hx
    have p3 := dec_no (bs := spI x 8) (ln := 37)
    obtain ⟨⟨dk, dw, de, da⟩, hd⟩ : ∃ d, decB (spI x 8) 37 = d := ⟨_, rfl⟩
    dsimp only at hD
    rw [hd] at hD p1 p2 p3
    dsimp only at hD p1 p2 p3
    refine JS_go (tbOk _) 99 fun x hx => ?_
    simp only [RN, ↓reduceIte, ↓get8, reduceCtorEq, Nat.reduceLT, Nat.reduceEqDiff, Nat.reduceAdd, Nat.reduceMul, Nat.reduceLeDiff, Nat.reduceSub, Int.reduceToNat, Int.reduceNeg, Nat.reduceBEq, TY] at hx
    subst hx
    refine ⟨_, _, rfl, by first | trivial | omega | (simp only [and_true, true_and]; omega), ?_⟩
    refine at_new hD (leL_look (by simp only [Rd.H, RN, ↓reduceIte, ↓get8, reduceCtorEq, Nat.reduceLT, Nat.reduceEqDiff, Nat.reduceAdd, Nat.reduceMul, Nat.reduceLeDiff, Nat.reduceSub, Int.reduceToNat, Int.reduceNeg, Nat.reduceBEq]; first | done | trivial)) ?_
    rintro o X n2 ⟨D, hDk, hDw, gD, hn2, rfl, rfl⟩ hX
    refine ⟨_, by simp only [RN, ↓reduceIte, ↓get8, reduceCtorEq, Nat.reduceLT, Nat.reduceEqDiff, Nat.reduceAdd, Nat.reduceMul, Nat.reduceLeDiff, Nat.reduceSub, Int.reduceToNat, Int.reduceNeg, Nat.reduceBEq]; rfl, ?_⟩
    have l1 := gD.l1
    have t2 := gD.t2
    have t5 := gD.t5
    unfold Bk.val
    refine JS_go (tbOk _) 99 fun x hx => ?_
    simp only [RN, ↓reduceIte, ↓get8, reduceCtorEq, Nat.reduceLT, Nat.reduceEqDiff, Nat.reduceAdd, Nat.reduceMul, Nat.reduceLeDiff, Nat.reduceSub, Int.reduceToNat, Int.reduceNeg, Nat.reduceBEq, TY, Nat.add_assoc, Nat.left_eq_add, Nat.add_eq_left, Nat.add_left_cancel_iff] at hx
    subst hx
    refine ⟨_, _, rfl, by first | trivial | omega | (simp only [and_true, true_and]; omega), ?_⟩
    refine at_cond (fun h => ?_) (fun h => ?_)
    · have h0 : de = 0 := by simpa using h
      obtain ⟨k, rfl, s1, s2⟩ := p1 h0
      rw [hDk] at l1 t2
      obtain ⟨q, hq⟩ : ∃ q, D.ok = some q := by
        cases hq : D.ok with
        | none => have := gD.hk hq; rw [hDk] at this; cases this
        | some q => exact ⟨q, rfl⟩
      have lq := t2 q hq
      have hqX := hX _ (look_mem2 lq)
      dsimp only at hqX
      have hqn := t5 q _ lq
      have e1 : ¬ q = n2 := by omega
      have e2 : ∀ i, ¬ q = n2 + i := by intro i; omega
      have e3 : ¬ q = b := by omega
      have kc : (kcells ([k] ++ D.kx))[2]? = some (.int .i64 k.c2) := rfl
      obtain ⟨KC, hKC⟩ : ∃ KC, kcells ([k] ++ D.kx) = KC := ⟨_, rfl⟩
      rw [hKC] at lq kc
      have hs : slv D.ok 1 D.kc = .slice (some ⟨q, 0, none⟩) 1 D.kc := by rw [hq]; rfl
      have hl1 : (((([k] : List Kd).length : Nat) : Int) == 1) = true := rfl
      have hl2 : (((1 : Nat) : Int) == 1) = true := rfl
      have hc1 : decide (k.c2 ≥ 0) = true := decide_eq_true s1
      have hc2 : decide (k.c2 ≤ 65536) = true := decide_eq_true s2
      rw [hDk, show ([k] : List Kd).length = 1 from rfl]
      refine JS_go (tbOk _) 99 fun x hx => ?_
      simp only [RN, ↓reduceIte, ↓get8, reduceCtorEq, Nat.reduceLT, Nat.reduceEqDiff, Nat.reduceAdd, Nat.reduceMul, Nat.reduceLeDiff, Nat.reduceSub, Int.reduceToNat, Int.reduceNeg, Nat.reduceBEq, TY, hl2, hs, lq, kc, hc1, hc2, e1, e2, e3, Nat.add_assoc, Nat.left_eq_add, Nat.add_eq_left, Nat.add_left_cancel_iff] at hx
      subst hx
      refine ⟨_, _, rfl, ?_, ?_⟩
      · omega
      refine at_quiet (awake_c _) (fun _ _ h => by cases h) ?_
      rintro o n3 ⟨rfl, hn3⟩
      refine ⟨_, by simp only [RN, ↓reduceIte, ↓get8, reduceCtorEq, Nat.reduceLT, Nat.reduceEqDiff, Nat.reduceAdd, Nat.reduceMul, Nat.reduceLeDiff, Nat.reduceSub, Int.reduceToNat, Int.reduceNeg, Nat.reduceBEq]; rfl, ?_⟩
      refine JS_go (tbOk _) 99 fun x hx => ?_
      simp only [RN, ↓reduceIte, ↓get8, reduceCtorEq, Nat.reduceLT, Nat.reduceEqDiff, Nat.reduceAdd, Nat.reduceMul, Nat.reduceLeDiff, Nat.reduceSub, Int.reduceToNat, Int.reduceNeg, Nat.reduceBEq, TY] at hx
      subst hx
      refine ⟨_, _, rfl, by first | trivial | omega | (simp only [and_true, true_and]; omega), ?_⟩
      refine at_ret (ret_endK (by simp only [RN, ↓reduceIte, ↓get8, reduceCtorEq, Nat.reduceLT, Nat.reduceEqDiff, Nat.reduceAdd, Nat.reduceMul, Nat.reduceLeDiff, Nat.reduceSub, Int.reduceToNat, Int.reduceNeg, Nat.reduceBEq]; first | done | rfl) rfl trivial ⟨[], fun _ _ h => (by cases h), ⟨rfl, by show nx ≤ n3; dsimp only at hn3; omega⟩, rfl⟩)
    · have h0 : ¬ de = 0 := by simpa using h
      obtain ⟨rfl, rfl⟩ := p3 h0
      rw [hDk] at l1
      have hl1 : (((([] : List Kd).length : Nat) : Int) == 0) = true := rfl
      have hl2 : (((0 : Nat) : Int) == 0) = true := rfl
      have c1 : ((14 : Int) == 1) = false := rfl
      have c2 : ((8 : Int) == 1) = false := rfl
      have c3 : ((8 : Int) == 14) = false := rfl
      have e1 : ¬ b = n2 := by omega
      have l1' : ilen (tbOf Try.prog) 23 (slv D.ok 0 D.kc) = some (.int .i64 ((0 : Nat) : Int)) := l1
      rw [hDk, show ([] : List Kd).length = 0 from rfl]
      rcases p2 h0 with ⟨rfl, rfl⟩ | ⟨rfl | rfl, rfl⟩
      all_goals
        skip
        refine JS_go (tbOk _) 99 fun x hx => ?_
        simp only [RN, ↓reduceIte, ↓get8, reduceCtorEq, Nat.reduceLT, Nat.reduceEqDiff, Nat.reduceAdd, Nat.reduceMul, Nat.reduceLeDiff, Nat.reduceSub, Int.reduceToNat, Int.reduceNeg, Nat.reduceBEq, TY, ↓l1', hl2, c1, c2, c3, e1, Nat.add_assoc, Nat.left_eq_add, Nat.add_eq_left, Nat.add_left_cancel_iff] at hx
        subst hx
        refine ⟨_, _, rfl, by first | trivial | omega | (simp only [and_true, true_and]; omega), ?_⟩
        refine at_quiet (awake_c _) (fun _ _ h => by cases h) ?_
        rintro o n3 ⟨rfl, hn3⟩
        refine ⟨_, by simp only [RN, ↓reduceIte, ↓get8, reduceCtorEq, Nat.reduceLT, Nat.reduceEqDiff, Nat.reduceAdd, Nat.reduceMul, Nat.reduceLeDiff, Nat.reduceSub, Int.reduceToNat, Int.reduceNeg, Nat.reduceBEq]; rfl, ?_⟩
        refine JS_go (tbOk _) 99 fun x hx => ?_
        simp only [RN, ↓reduceIte, ↓get8, reduceCtorEq, Nat.reduceLT, Nat.reduceEqDiff, Nat.reduceAdd, Nat.reduceMul, Nat.reduceLeDiff, Nat.reduceSub, Int.reduceToNat, Int.reduceNeg, Nat.reduceBEq, TY] at hx
        subst hx
        refine ⟨_, _, rfl, by first | trivial | omega | (simp only [and_true, true_and]; omega), ?_⟩
        refine at_ret (ret_endK (by simp only [RN, ↓reduceIte, ↓get8, reduceCtorEq, Nat.reduceLT, Nat.reduceEqDiff, Nat.reduceAdd, Nat.reduceMul, Nat.reduceLeDiff, Nat.reduceSub, Int.reduceToNat, Int.reduceNeg, Nat.reduceBEq]; first | done | rfl) rfl trivial ⟨[], fun _ _ h => (by cases h), ⟨rfl, by show nx ≤ n3; dsimp only at hn3; omega⟩, rfl⟩)
end Go.Proofs.Ytoihmanhldcjhaa.Id
namespace Go.Proofs.Ytoihmanhldcjhaa.KindsSpeeds
open Go Go.RowKit Go.ChangeShapes Go.WideShapes Go.ChangeAt Go.Proofs.Ytoihmanhldcjhaa.Id
set_option linter.unusedVariables false
set_option linter.unusedSimpArgs false
theorem own : ownKnob Try.prog.godebug = none := by kernel_rfl
theorem walk (a0 : Int) (w0 : (Lit.int .u64 a0).wf = true) (W : World) : Calls Try.prog 8 #[.int .u64 a0] W fun e W' => e = .returned (.bool true) ∧ Below W.heap.size W W' := by
  have hb := bounds_u64 w0
  obtain ⟨x, rfl⟩ : ∃ x : Nat, a0 = x := ⟨a0.toNat, by omega⟩
  exact law_calls (args := [.int .u64 (x : Int)]) (speeds_c x 0 (by omega)) Try.func8 (by decide) rfl (fun _ _ h => by cases h) (HR_nil W) (.cons (.int _ _) .nil)
theorem laidOut : laidOutB Try.prog = true := by kernel_rfl
set_option maxRecDepth 100000 in
theorem lifted (os : Os) (started : os.Started) (H : Type) (enc : TypeId × Value → H) :
    ReturnsInHanded {} Try.checked os 8 .any (Rows.kindsSpeedsSpec.pre6 enc Try.prog Try.f8 Rows.kindsSpeedsRow.domain false) (Rows.kindsSpeedsSpec.post enc Try.prog Try.f8 false true false false) := by
  refine returnsInHanded_of_change_sized (C := Try.checked) own started (by kernel_rfl) Try.func8
    (ChangeSpec.witness6 (enc := enc) (C := Try.checked) false ⟨#[], #[.int .u64 0], []⟩ 8 (by kernel_rfl) (by kernel_rfl) (by kernel_rfl) (by kernel_rfl)) ?_
  intro W base args ds gs before hval0 hW hcnd hsz0 _
  have hval : ∀ (j : Nat) t v, Try.f8.params[j]? = some t → args[j]? = some v → Value.okWide Try.prog W .any base t v := hval0
  have hW' := hW
  obtain ⟨p, q, hA0, hV, rfl, hfz, hnd⟩ := hW
  have hA : DataW.TrodAll enc Try.prog W 0 (fun _ => true) true Try.f8.params.toList args.toList ds p := hA0
  rw [Try.params8] at hA hval
  obtain ⟨v0, vs0, d0, ds0, p0, q0, hargs, rfl, rfl, h0, r0⟩ := trodAll_cons hA
  obtain ⟨rfl, rfl, rfl⟩ := trodAll_nil r0
  obtain rfl : args = #[v0] := by cases args; simp_all
  obtain ⟨rfl, rfl⟩ := trodVars_none hV
  obtain ⟨a0, rfl, rfl, rfl, w0⟩ := open_int Try.underlying43 (hval 0 43 v0 rfl rfl) h0
  clear hA0 hval0
  refine (walk a0 w0 W ).mono fun e W' ⟨he, hb⟩ => ?_
  subst he
  exact ⟨_, rfl, _, _, _, [], _, [], hW', trodAll_cons_mk (shut_bool Try.underlying4 _) trodAll_mk0, (trodAll_cons_mk (shut_int Try.underlying43 w0) trodAll_mk0), rfl, hb.frame _, fun h => by cases h⟩
theorem proved : Rows.KindsSpeedsSaid :=
  OpenClaim.holds_of_wide 8 Try.f8 rfl rfl rfl rfl rfl rfl rfl ⟨rfl, rfl, rfl, rfl, rfl⟩ rfl rfl rfl rfl rfl (by kernel_rfl) Try.func8 (by kernel_rfl)
    (of_decide_eq_true (by kernel_rfl)) (by unfold Func.isWrapper; first | (rw [if_pos (by decide +kernel)]; kernel_rfl) | (rw [if_neg (by decide +kernel)]; exact ⟨rfl, rfl⟩))
    (fun os started H enc _ => lifted os started H enc)
end Go.Proofs.Ytoihmanhldcjhaa.KindsSpeeds
