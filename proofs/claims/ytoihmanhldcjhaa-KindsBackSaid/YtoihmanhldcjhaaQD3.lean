/- What the claim's proof leans on: texts of this claim, laid together. -/
import Derived.Test.YtoihmanhldcjhaaQD2
import Derived.Deep.Slices
import Derived.Test.YtoihmanhldcjhaaRows
import Derived.SevenTiedAt
import Derived.SizedLaws
import Derived.OpenShut
namespace Go.Proofs.Ytoihmanhldcjhaa.Id
open Go Go.Proofs.Ytoihmanhldcjhaa.Rl
set_option linter.unusedSimpArgs false
set_option linter.unusedVariables false
def kdAt (bs : List UInt8) (at_ : Nat) (x : Int × Int) : Kd := ⟨le ((bs.drop (at_ + 0)).take 1), le ((bs.drop (at_ + 1)).take 2), x.1, le ((bs.drop (at_ + 3)).take 2), le ((bs.drop (at_ + 17)).take 1), le ((bs.drop (at_ + 18)).take 1), le ((bs.drop (at_ + 19)).take 1), le ((bs.drop (at_ + 20)).take 1), le ((bs.drop (at_ + 5)).take 2), le ((bs.drop (at_ + 7)).take 2), le ((bs.drop (at_ + 9)).take 2), le ((bs.drop (at_ + 21)).take 1), le ((bs.drop (at_ + 22)).take 1), le ((bs.drop (at_ + 23)).take 1), le ((bs.drop (at_ + 11)).take 2), le ((bs.drop (at_ + 13)).take 2), le ((bs.drop (at_ + 24)).take 1), le ((bs.drop (at_ + 25)).take 1), le ((bs.drop (at_ + 26)).take 1), le ((bs.drop (at_ + 15)).take 2)⟩
set_option maxRecDepth 100000 in
set_option maxHeartbeats 4000000 in
theorem rkind_c (bs : List UInt8) (ln cp : Nat) (at_ : Nat) (r b : Nat) (nx : Nat) (ro loose : Bool) (ha : at_ + 35 ≤ ln) (hl : ln ≤ bs.length ∧ ln ≤ 1000000) (hbr : ¬ b = r) (hrn : r < nx) (hbn : b < nx) (x : Int × Int) (hx : ofS (le ((bs.drop (at_ + 27)).take 8)) = x) :
    CallW Try.prog 31 [.pointer (some ⟨r, 0, none⟩)] (rdH bs ln cp at_ r b ro loose) nx fun o F' nx' => o = okOr x.2 ((at_ + 27 : Nat) : Int) (.agg (kdAt bs at_ x).cells.toArray) ∧ F' = rdH bs ln cp (at_ + 35) r b ro loose ∧ nx' = nx + 2 := by
  have hrb : ¬ r = b := fun e => hbr e.symm
  have hr0 : ¬ r = nx := by omega
  have hr1 : ∀ i, ¬ r = nx + i := by intro i; omega
  have hb0 : ¬ b = nx := by omega
  have hb1 : ∀ i, ¬ b = nx + i := by intro i; omega
  have hr2 : ¬ nx = r := by omega
  have hr3 : ∀ i, ¬ nx + i = r := by intro i; omega
  have hb2 : ¬ nx = b := by omega
  have hb3 : ∀ i, ¬ nx + i = b := by intro i; omega
  unfold rdH
  refine CallW_go (tbOk _) 65 [.cell 2 46] Try.func31 rfl (by decide) rfl rfl (by simp) fun hlt => ?_
  simp only [params, Nat.zero_add, Nat.reduceAdd]
  have h0 := one_c bs ln cp (at_ + 0) r b (nx + 1) ro loose (by omega) hl hbr
  unfold rdH at h0
  refine JS_go (tbOk _) 99 fun x hx => ?_
  simp only [RN, ↓reduceIte, ↓get8, reduceCtorEq, Nat.reduceLT, Nat.reduceEqDiff, Nat.reduceAdd, Nat.reduceMul, Nat.reduceLeDiff, Nat.reduceSub, Int.reduceToNat, Int.reduceNeg, Nat.reduceBEq, TY, hbr, hr0, hr1, hb0, hb1, hr2, hr3, hb2, hb3, hrb, Nat.add_assoc, Nat.left_eq_add, Nat.add_eq_left, Nat.add_left_cancel_iff] at hx
  subst hx
  refine ⟨_, _, rfl, by first | trivial | omega | (simp only [and_true, true_and]; omega), ?_⟩
  refine at_callK (h0) (by simp only [RN, ↓reduceIte, ↓get8, reduceCtorEq, Nat.reduceLT, Nat.reduceEqDiff, Nat.reduceAdd, Nat.reduceMul, Nat.reduceLeDiff, Nat.reduceSub, Int.reduceToNat, Int.reduceNeg, Nat.reduceBEq, hbr, hr0, hr1, hb0, hb1, hr2, hr3, hb2, hb3, hrb, Nat.add_assoc, Nat.left_eq_add, Nat.add_eq_left, Nat.add_left_cancel_iff]; first | done | trivial) (by simp only [RN, ↓reduceIte, ↓get8, reduceCtorEq, Nat.reduceLT, Nat.reduceEqDiff, Nat.reduceAdd, Nat.reduceMul, Nat.reduceLeDiff, Nat.reduceSub, Int.reduceToNat, Int.reduceNeg, Nat.reduceBEq, hbr, hr0, hr1, hb0, hb1, hr2, hr3, hb2, hb3, hrb, Nat.add_assoc, Nat.left_eq_add, Nat.add_eq_left, Nat.add_left_cancel_iff]; rfl) ?_
  have h1 := two_c bs ln cp (at_ + 1) r b (nx + 2) ro loose (by omega) hl hbr
  unfold rdH at h1
  refine JS_go (tbOk _) 99 fun x hx => ?_
  simp only [RN, ↓reduceIte, ↓get8, reduceCtorEq, Nat.reduceLT, Nat.reduceEqDiff, Nat.reduceAdd, Nat.reduceMul, Nat.reduceLeDiff, Nat.reduceSub, Int.reduceToNat, Int.reduceNeg, Nat.reduceBEq, TY, hbr, hr0, hr1, hb0, hb1, hr2, hr3, hb2, hb3, hrb, Nat.add_assoc, Nat.left_eq_add, Nat.add_eq_left, Nat.add_left_cancel_iff] at hx
  subst hx
  refine ⟨_, _, rfl, by first | trivial | omega | (simp only [and_true, true_and]; omega), ?_⟩
  refine at_callK (h1) (by simp only [RN, ↓reduceIte, ↓get8, reduceCtorEq, Nat.reduceLT, Nat.reduceEqDiff, Nat.reduceAdd, Nat.reduceMul, Nat.reduceLeDiff, Nat.reduceSub, Int.reduceToNat, Int.reduceNeg, Nat.reduceBEq, hbr, hr0, hr1, hb0, hb1, hr2, hr3, hb2, hb3, hrb, Nat.add_assoc, Nat.left_eq_add, Nat.add_eq_left, Nat.add_left_cancel_iff]; first | done | trivial) (by simp only [RN, ↓reduceIte, ↓get8, reduceCtorEq, Nat.reduceLT, Nat.reduceEqDiff, Nat.reduceAdd, Nat.reduceMul, Nat.reduceLeDiff, Nat.reduceSub, Int.reduceToNat, Int.reduceNeg, Nat.reduceBEq, hbr, hr0, hr1, hb0, hb1, hr2, hr3, hb2, hb3, hrb, Nat.add_assoc, Nat.left_eq_add, Nat.add_eq_left, Nat.add_left_cancel_iff]; rfl) ?_
  have h2 := two_c bs ln cp (at_ + 3) r b (nx + 2) ro loose (by omega) hl hbr
  unfold rdH at h2
  refine JS_go (tbOk _) 99 fun x hx => ?_
  simp only [RN, ↓reduceIte, ↓get8, reduceCtorEq, Nat.reduceLT, Nat.reduceEqDiff, Nat.reduceAdd, Nat.reduceMul, Nat.reduceLeDiff, Nat.reduceSub, Int.reduceToNat, Int.reduceNeg, Nat.reduceBEq, TY, hbr, hr0, hr1, hb0, hb1, hr2, hr3, hb2, hb3, hrb, Nat.add_assoc, Nat.left_eq_add, Nat.add_eq_left, Nat.add_left_cancel_iff] at hx
  subst hx
  refine ⟨_, _, rfl, by first | trivial | omega | (simp only [and_true, true_and]; omega), ?_⟩
  refine at_callK (h2) (by simp only [RN, ↓reduceIte, ↓get8, reduceCtorEq, Nat.reduceLT, Nat.reduceEqDiff, Nat.reduceAdd, Nat.reduceMul, Nat.reduceLeDiff, Nat.reduceSub, Int.reduceToNat, Int.reduceNeg, Nat.reduceBEq, hbr, hr0, hr1, hb0, hb1, hr2, hr3, hb2, hb3, hrb, Nat.add_assoc, Nat.left_eq_add, Nat.add_eq_left, Nat.add_left_cancel_iff]; first | done | trivial) (by simp only [RN, ↓reduceIte, ↓get8, reduceCtorEq, Nat.reduceLT, Nat.reduceEqDiff, Nat.reduceAdd, Nat.reduceMul, Nat.reduceLeDiff, Nat.reduceSub, Int.reduceToNat, Int.reduceNeg, Nat.reduceBEq, hbr, hr0, hr1, hb0, hb1, hr2, hr3, hb2, hb3, hrb, Nat.add_assoc, Nat.left_eq_add, Nat.add_eq_left, Nat.add_left_cancel_iff]; rfl) ?_
  have h3 := two_c bs ln cp (at_ + 5) r b (nx + 2) ro loose (by omega) hl hbr
  unfold rdH at h3
  refine JS_go (tbOk _) 99 fun x hx => ?_
  simp only [RN, ↓reduceIte, ↓get8, reduceCtorEq, Nat.reduceLT, Nat.reduceEqDiff, Nat.reduceAdd, Nat.reduceMul, Nat.reduceLeDiff, Nat.reduceSub, Int.reduceToNat, Int.reduceNeg, Nat.reduceBEq, TY, hbr, hr0, hr1, hb0, hb1, hr2, hr3, hb2, hb3, hrb, Nat.add_assoc, Nat.left_eq_add, Nat.add_eq_left, Nat.add_left_cancel_iff] at hx
  subst hx
  refine ⟨_, _, rfl, by first | trivial | omega | (simp only [and_true, true_and]; omega), ?_⟩
  refine at_callK (h3) (by simp only [RN, ↓reduceIte, ↓get8, reduceCtorEq, Nat.reduceLT, Nat.reduceEqDiff, Nat.reduceAdd, Nat.reduceMul, Nat.reduceLeDiff, Nat.reduceSub, Int.reduceToNat, Int.reduceNeg, Nat.reduceBEq, hbr, hr0, hr1, hb0, hb1, hr2, hr3, hb2, hb3, hrb, Nat.add_assoc, Nat.left_eq_add, Nat.add_eq_left, Nat.add_left_cancel_iff]; first | done | trivial) (by simp only [RN, ↓reduceIte, ↓get8, reduceCtorEq, Nat.reduceLT, Nat.reduceEqDiff, Nat.reduceAdd, Nat.reduceMul, Nat.reduceLeDiff, Nat.reduceSub, Int.reduceToNat, Int.reduceNeg, Nat.reduceBEq, hbr, hr0, hr1, hb0, hb1, hr2, hr3, hb2, hb3, hrb, Nat.add_assoc, Nat.left_eq_add, Nat.add_eq_left, Nat.add_left_cancel_iff]; rfl) ?_
  have h4 := two_c bs ln cp (at_ + 7) r b (nx + 2) ro loose (by omega) hl hbr
  unfold rdH at h4
  refine JS_go (tbOk _) 99 fun x hx => ?_
  simp only [RN, ↓reduceIte, ↓get8, reduceCtorEq, Nat.reduceLT, Nat.reduceEqDiff, Nat.reduceAdd, Nat.reduceMul, Nat.reduceLeDiff, Nat.reduceSub, Int.reduceToNat, Int.reduceNeg, Nat.reduceBEq, TY, hbr, hr0, hr1, hb0, hb1, hr2, hr3, hb2, hb3, hrb, Nat.add_assoc, Nat.left_eq_add, Nat.add_eq_left, Nat.add_left_cancel_iff] at hx
  subst hx
  refine ⟨_, _, rfl, by first | trivial | omega | (simp only [and_true, true_and]; omega), ?_⟩
  refine at_callK (h4) (by simp only [RN, ↓reduceIte, ↓get8, reduceCtorEq, Nat.reduceLT, Nat.reduceEqDiff, Nat.reduceAdd, Nat.reduceMul, Nat.reduceLeDiff, Nat.reduceSub, Int.reduceToNat, Int.reduceNeg, Nat.reduceBEq, hbr, hr0, hr1, hb0, hb1, hr2, hr3, hb2, hb3, hrb, Nat.add_assoc, Nat.left_eq_add, Nat.add_eq_left, Nat.add_left_cancel_iff]; first | done | trivial) (by simp only [RN, ↓reduceIte, ↓get8, reduceCtorEq, Nat.reduceLT, Nat.reduceEqDiff, Nat.reduceAdd, Nat.reduceMul, Nat.reduceLeDiff, Nat.reduceSub, Int.reduceToNat, Int.reduceNeg, Nat.reduceBEq, hbr, hr0, hr1, hb0, hb1, hr2, hr3, hb2, hb3, hrb, Nat.add_assoc, Nat.left_eq_add, Nat.add_eq_left, Nat.add_left_cancel_iff]; rfl) ?_
  have h5 := two_c bs ln cp (at_ + 9) r b (nx + 2) ro loose (by omega) hl hbr
  unfold rdH at h5
  refine JS_go (tbOk _) 99 fun x hx => ?_
  simp only [RN, ↓reduceIte, ↓get8, reduceCtorEq, Nat.reduceLT, Nat.reduceEqDiff, Nat.reduceAdd, Nat.reduceMul, Nat.reduceLeDiff, Nat.reduceSub, Int.reduceToNat, Int.reduceNeg, Nat.reduceBEq, TY, hbr, hr0, hr1, hb0, hb1, hr2, hr3, hb2, hb3, hrb, Nat.add_assoc, Nat.left_eq_add, Nat.add_eq_left, Nat.add_left_cancel_iff] at hx
  subst hx
  refine ⟨_, _, rfl, by first | trivial | omega | (simp only [and_true, true_and]; omega), ?_⟩
  refine at_callK (h5) (by simp only [RN, ↓reduceIte, ↓get8, reduceCtorEq, Nat.reduceLT, Nat.reduceEqDiff, Nat.reduceAdd, Nat.reduceMul, Nat.reduceLeDiff, Nat.reduceSub, Int.reduceToNat, Int.reduceNeg, Nat.reduceBEq, hbr, hr0, hr1, hb0, hb1, hr2, hr3, hb2, hb3, hrb, Nat.add_assoc, Nat.left_eq_add, Nat.add_eq_left, Nat.add_left_cancel_iff]; first | done | trivial) (by simp only [RN, ↓reduceIte, ↓get8, reduceCtorEq, Nat.reduceLT, Nat.reduceEqDiff, Nat.reduceAdd, Nat.reduceMul, Nat.reduceLeDiff, Nat.reduceSub, Int.reduceToNat, Int.reduceNeg, Nat.reduceBEq, hbr, hr0, hr1, hb0, hb1, hr2, hr3, hb2, hb3, hrb, Nat.add_assoc, Nat.left_eq_add, Nat.add_eq_left, Nat.add_left_cancel_iff]; rfl) ?_
  have h6 := two_c bs ln cp (at_ + 11) r b (nx + 2) ro loose (by omega) hl hbr
  unfold rdH at h6
  refine JS_go (tbOk _) 99 fun x hx => ?_
  simp only [RN, ↓reduceIte, ↓get8, reduceCtorEq, Nat.reduceLT, Nat.reduceEqDiff, Nat.reduceAdd, Nat.reduceMul, Nat.reduceLeDiff, Nat.reduceSub, Int.reduceToNat, Int.reduceNeg, Nat.reduceBEq, TY, hbr, hr0, hr1, hb0, hb1, hr2, hr3, hb2, hb3, hrb, Nat.add_assoc, Nat.left_eq_add, Nat.add_eq_left, Nat.add_left_cancel_iff] at hx
  subst hx
  refine ⟨_, _, rfl, by first | trivial | omega | (simp only [and_true, true_and]; omega), ?_⟩
  refine at_callK (h6) (by simp only [RN, ↓reduceIte, ↓get8, reduceCtorEq, Nat.reduceLT, Nat.reduceEqDiff, Nat.reduceAdd, Nat.reduceMul, Nat.reduceLeDiff, Nat.reduceSub, Int.reduceToNat, Int.reduceNeg, Nat.reduceBEq, hbr, hr0, hr1, hb0, hb1, hr2, hr3, hb2, hb3, hrb, Nat.add_assoc, Nat.left_eq_add, Nat.add_eq_left, Nat.add_left_cancel_iff]; first | done | trivial) (by simp only [RN, ↓reduceIte, ↓get8, reduceCtorEq, Nat.reduceLT, Nat.reduceEqDiff, Nat.reduceAdd, Nat.reduceMul, Nat.reduceLeDiff, Nat.reduceSub, Int.reduceToNat, Int.reduceNeg, Nat.reduceBEq, hbr, hr0, hr1, hb0, hb1, hr2, hr3, hb2, hb3, hrb, Nat.add_assoc, Nat.left_eq_add, Nat.add_eq_left, Nat.add_left_cancel_iff]; rfl) ?_
  have h7 := two_c bs ln cp (at_ + 13) r b (nx + 2) ro loose (by omega) hl hbr
  unfold rdH at h7
  refine JS_go (tbOk _) 99 fun x hx => ?_
  simp only [RN, ↓reduceIte, ↓get8, reduceCtorEq, Nat.reduceLT, Nat.reduceEqDiff, Nat.reduceAdd, Nat.reduceMul, Nat.reduceLeDiff, Nat.reduceSub, Int.reduceToNat, Int.reduceNeg, Nat.reduceBEq, TY, hbr, hr0, hr1, hb0, hb1, hr2, hr3, hb2, hb3, hrb, Nat.add_assoc, Nat.left_eq_add, Nat.add_eq_left, Nat.add_left_cancel_iff] at hx
  subst hx
  refine ⟨_, _, rfl, by first | trivial | omega | (simp only [and_true, true_and]; omega), ?_⟩
  refine at_callK (h7) (by simp only [RN, ↓reduceIte, ↓get8, reduceCtorEq, Nat.reduceLT, Nat.reduceEqDiff, Nat.reduceAdd, Nat.reduceMul, Nat.reduceLeDiff, Nat.reduceSub, Int.reduceToNat, Int.reduceNeg, Nat.reduceBEq, hbr, hr0, hr1, hb0, hb1, hr2, hr3, hb2, hb3, hrb, Nat.add_assoc, Nat.left_eq_add, Nat.add_eq_left, Nat.add_left_cancel_iff]; first | done | trivial) (by simp only [RN, ↓reduceIte, ↓get8, reduceCtorEq, Nat.reduceLT, Nat.reduceEqDiff, Nat.reduceAdd, Nat.reduceMul, Nat.reduceLeDiff, Nat.reduceSub, Int.reduceToNat, Int.reduceNeg, Nat.reduceBEq, hbr, hr0, hr1, hb0, hb1, hr2, hr3, hb2, hb3, hrb, Nat.add_assoc, Nat.left_eq_add, Nat.add_eq_left, Nat.add_left_cancel_iff]; rfl) ?_
  have h8 := two_c bs ln cp (at_ + 15) r b (nx + 2) ro loose (by omega) hl hbr
  unfold rdH at h8
  refine JS_go (tbOk _) 99 fun x hx => ?_
  simp only [RN, ↓reduceIte, ↓get8, reduceCtorEq, Nat.reduceLT, Nat.reduceEqDiff, Nat.reduceAdd, Nat.reduceMul, Nat.reduceLeDiff, Nat.reduceSub, Int.reduceToNat, Int.reduceNeg, Nat.reduceBEq, TY, hbr, hr0, hr1, hb0, hb1, hr2, hr3, hb2, hb3, hrb, Nat.add_assoc, Nat.left_eq_add, Nat.add_eq_left, Nat.add_left_cancel_iff] at hx
  subst hx
  refine ⟨_, _, rfl, by first | trivial | omega | (simp only [and_true, true_and]; omega), ?_⟩
  refine at_callK (h8) (by simp only [RN, ↓reduceIte, ↓get8, reduceCtorEq, Nat.reduceLT, Nat.reduceEqDiff, Nat.reduceAdd, Nat.reduceMul, Nat.reduceLeDiff, Nat.reduceSub, Int.reduceToNat, Int.reduceNeg, Nat.reduceBEq, hbr, hr0, hr1, hb0, hb1, hr2, hr3, hb2, hb3, hrb, Nat.add_assoc, Nat.left_eq_add, Nat.add_eq_left, Nat.add_left_cancel_iff]; first | done | trivial) (by simp only [RN, ↓reduceIte, ↓get8, reduceCtorEq, Nat.reduceLT, Nat.reduceEqDiff, Nat.reduceAdd, Nat.reduceMul, Nat.reduceLeDiff, Nat.reduceSub, Int.reduceToNat, Int.reduceNeg, Nat.reduceBEq, hbr, hr0, hr1, hb0, hb1, hr2, hr3, hb2, hb3, hrb, Nat.add_assoc, Nat.left_eq_add, Nat.add_eq_left, Nat.add_left_cancel_iff]; rfl) ?_
  have h9 := one_c bs ln cp (at_ + 17) r b (nx + 2) ro loose (by omega) hl hbr
  unfold rdH at h9
  refine JS_go (tbOk _) 99 fun x hx => ?_
  simp only [RN, ↓reduceIte, ↓get8, reduceCtorEq, Nat.reduceLT, Nat.reduceEqDiff, Nat.reduceAdd, Nat.reduceMul, Nat.reduceLeDiff, Nat.reduceSub, Int.reduceToNat, Int.reduceNeg, Nat.reduceBEq, TY, hbr, hr0, hr1, hb0, hb1, hr2, hr3, hb2, hb3, hrb, Nat.add_assoc, Nat.left_eq_add, Nat.add_eq_left, Nat.add_left_cancel_iff] at hx
  subst hx
  refine ⟨_, _, rfl, by first | trivial | omega | (simp only [and_true, true_and]; omega), ?_⟩
  refine at_callK (h9) (by simp only [RN, ↓reduceIte, ↓get8, reduceCtorEq, Nat.reduceLT, Nat.reduceEqDiff, Nat.reduceAdd, Nat.reduceMul, Nat.reduceLeDiff, Nat.reduceSub, Int.reduceToNat, Int.reduceNeg, Nat.reduceBEq, hbr, hr0, hr1, hb0, hb1, hr2, hr3, hb2, hb3, hrb, Nat.add_assoc, Nat.left_eq_add, Nat.add_eq_left, Nat.add_left_cancel_iff]; first | done | trivial) (by simp only [RN, ↓reduceIte, ↓get8, reduceCtorEq, Nat.reduceLT, Nat.reduceEqDiff, Nat.reduceAdd, Nat.reduceMul, Nat.reduceLeDiff, Nat.reduceSub, Int.reduceToNat, Int.reduceNeg, Nat.reduceBEq, hbr, hr0, hr1, hb0, hb1, hr2, hr3, hb2, hb3, hrb, Nat.add_assoc, Nat.left_eq_add, Nat.add_eq_left, Nat.add_left_cancel_iff]; rfl) ?_
  have h10 := one_c bs ln cp (at_ + 18) r b (nx + 2) ro loose (by omega) hl hbr
  unfold rdH at h10
  refine JS_go (tbOk _) 99 fun x hx => ?_
  simp only [RN, ↓reduceIte, ↓get8, reduceCtorEq, Nat.reduceLT, Nat.reduceEqDiff, Nat.reduceAdd, Nat.reduceMul, Nat.reduceLeDiff, Nat.reduceSub, Int.reduceToNat, Int.reduceNeg, Nat.reduceBEq, TY, hbr, hr0, hr1, hb0, hb1, hr2, hr3, hb2, hb3, hrb, Nat.add_assoc, Nat.left_eq_add, Nat.add_eq_left, Nat.add_left_cancel_iff] at hx
  subst hx
  refine ⟨_, _, rfl, by first | trivial | omega | (simp only [and_true, true_and]; omega), ?_⟩
  refine at_callK (h10) (by simp only [RN, ↓reduceIte, ↓get8, reduceCtorEq, Nat.reduceLT, Nat.reduceEqDiff, Nat.reduceAdd, Nat.reduceMul, Nat.reduceLeDiff, Nat.reduceSub, Int.reduceToNat, Int.reduceNeg, Nat.reduceBEq, hbr, hr0, hr1, hb0, hb1, hr2, hr3, hb2, hb3, hrb, Nat.add_assoc, Nat.left_eq_add, Nat.add_eq_left, Nat.add_left_cancel_iff]; first | done | trivial) (by simp only [RN, ↓reduceIte, ↓get8, reduceCtorEq, Nat.reduceLT, Nat.reduceEqDiff, Nat.reduceAdd, Nat.reduceMul, Nat.reduceLeDiff, Nat.reduceSub, Int.reduceToNat, Int.reduceNeg, Nat.reduceBEq, hbr, hr0, hr1, hb0, hb1, hr2, hr3, hb2, hb3, hrb, Nat.add_assoc, Nat.left_eq_add, Nat.add_eq_left, Nat.add_left_cancel_iff]; rfl) ?_
  have h11 := one_c bs ln cp (at_ + 19) r b (nx + 2) ro loose (by omega) hl hbr
  unfold rdH at h11
  refine JS_go (tbOk _) 99 fun x hx => ?_
  simp only [RN, ↓reduceIte, ↓get8, reduceCtorEq, Nat.reduceLT, Nat.reduceEqDiff, Nat.reduceAdd, Nat.reduceMul, Nat.reduceLeDiff, Nat.reduceSub, Int.reduceToNat, Int.reduceNeg, Nat.reduceBEq, TY, hbr, hr0, hr1, hb0, hb1, hr2, hr3, hb2, hb3, hrb, Nat.add_assoc, Nat.left_eq_add, Nat.add_eq_left, Nat.add_left_cancel_iff] at hx
  subst hx
  refine ⟨_, _, rfl, by first | trivial | omega | (simp only [and_true, true_and]; omega), ?_⟩
  refine at_callK (h11) (by simp only [RN, ↓reduceIte, ↓get8, reduceCtorEq, Nat.reduceLT, Nat.reduceEqDiff, Nat.reduceAdd, Nat.reduceMul, Nat.reduceLeDiff, Nat.reduceSub, Int.reduceToNat, Int.reduceNeg, Nat.reduceBEq, hbr, hr0, hr1, hb0, hb1, hr2, hr3, hb2, hb3, hrb, Nat.add_assoc, Nat.left_eq_add, Nat.add_eq_left, Nat.add_left_cancel_iff]; first | done | trivial) (by simp only [RN, ↓reduceIte, ↓get8, reduceCtorEq, Nat.reduceLT, Nat.reduceEqDiff, Nat.reduceAdd, Nat.reduceMul, Nat.reduceLeDiff, Nat.reduceSub, Int.reduceToNat, Int.reduceNeg, Nat.reduceBEq, hbr, hr0, hr1, hb0, hb1, hr2, hr3, hb2, hb3, hrb, Nat.add_assoc, Nat.left_eq_add, Nat.add_eq_left, Nat.add_left_cancel_iff]; rfl) ?_
  have h12 := one_c bs ln cp (at_ + 20) r b (nx + 2) ro loose (by omega) hl hbr
  unfold rdH at h12
  refine JS_go (tbOk _) 99 fun x hx => ?_
  simp only [RN, ↓reduceIte, ↓get8, reduceCtorEq, Nat.reduceLT, Nat.reduceEqDiff, Nat.reduceAdd, Nat.reduceMul, Nat.reduceLeDiff, Nat.reduceSub, Int.reduceToNat, Int.reduceNeg, Nat.reduceBEq, TY, hbr, hr0, hr1, hb0, hb1, hr2, hr3, hb2, hb3, hrb, Nat.add_assoc, Nat.left_eq_add, Nat.add_eq_left, Nat.add_left_cancel_iff] at hx
  subst hx
  refine ⟨_, _, rfl, by first | trivial | omega | (simp only [and_true, true_and]; omega), ?_⟩
  refine at_callK (h12) (by simp only [RN, ↓reduceIte, ↓get8, reduceCtorEq, Nat.reduceLT, Nat.reduceEqDiff, Nat.reduceAdd, Nat.reduceMul, Nat.reduceLeDiff, Nat.reduceSub, Int.reduceToNat, Int.reduceNeg, Nat.reduceBEq, hbr, hr0, hr1, hb0, hb1, hr2, hr3, hb2, hb3, hrb, Nat.add_assoc, Nat.left_eq_add, Nat.add_eq_left, Nat.add_left_cancel_iff]; first | done | trivial) (by simp only [RN, ↓reduceIte, ↓get8, reduceCtorEq, Nat.reduceLT, Nat.reduceEqDiff, Nat.reduceAdd, Nat.reduceMul, Nat.reduceLeDiff, Nat.reduceSub, Int.reduceToNat, Int.reduceNeg, Nat.reduceBEq, hbr, hr0, hr1, hb0, hb1, hr2, hr3, hb2, hb3, hrb, Nat.add_assoc, Nat.left_eq_add, Nat.add_eq_left, Nat.add_left_cancel_iff]; rfl) ?_
  have h13 := one_c bs ln cp (at_ + 21) r b (nx + 2) ro loose (by omega) hl hbr
  unfold rdH at h13
  refine JS_go (tbOk _) 99 fun x hx => ?_
  simp only [RN, ↓reduceIte, ↓get8, reduceCtorEq, Nat.reduceLT, Nat.reduceEqDiff, Nat.reduceAdd, Nat.reduceMul, Nat.reduceLeDiff, Nat.reduceSub, Int.reduceToNat, Int.reduceNeg, Nat.reduceBEq, TY, hbr, hr0, hr1, hb0, hb1, hr2, hr3, hb2, hb3, hrb, Nat.add_assoc, Nat.left_eq_add, Nat.add_eq_left, Nat.add_left_cancel_iff] at hx
  subst hx
  refine ⟨_, _, rfl, by first | trivial | omega | (simp only [and_true, true_and]; omega), ?_⟩
  refine at_callK (h13) (by simp only [RN, ↓reduceIte, ↓get8, reduceCtorEq, Nat.reduceLT, Nat.reduceEqDiff, Nat.reduceAdd, Nat.reduceMul, Nat.reduceLeDiff, Nat.reduceSub, Int.reduceToNat, Int.reduceNeg, Nat.reduceBEq, hbr, hr0, hr1, hb0, hb1, hr2, hr3, hb2, hb3, hrb, Nat.add_assoc, Nat.left_eq_add, Nat.add_eq_left, Nat.add_left_cancel_iff]; first | done | trivial) (by simp only [RN, ↓reduceIte, ↓get8, reduceCtorEq, Nat.reduceLT, Nat.reduceEqDiff, Nat.reduceAdd, Nat.reduceMul, Nat.reduceLeDiff, Nat.reduceSub, Int.reduceToNat, Int.reduceNeg, Nat.reduceBEq, hbr, hr0, hr1, hb0, hb1, hr2, hr3, hb2, hb3, hrb, Nat.add_assoc, Nat.left_eq_add, Nat.add_eq_left, Nat.add_left_cancel_iff]; rfl) ?_
  have h14 := one_c bs ln cp (at_ + 22) r b (nx + 2) ro loose (by omega) hl hbr
  unfold rdH at h14
  refine JS_go (tbOk _) 99 fun x hx => ?_
  simp only [RN, ↓reduceIte, ↓get8, reduceCtorEq, Nat.reduceLT, Nat.reduceEqDiff, Nat.reduceAdd, Nat.reduceMul, Nat.reduceLeDiff, Nat.reduceSub, Int.reduceToNat, Int.reduceNeg, Nat.reduceBEq, TY, hbr, hr0, hr1, hb0, hb1, hr2, hr3, hb2, hb3, hrb, Nat.add_assoc, Nat.left_eq_add, Nat.add_eq_left, Nat.add_left_cancel_iff] at hx
  subst hx
  refine ⟨_, _, rfl, by first | trivial | omega | (simp only [and_true, true_and]; omega), ?_⟩
  refine at_callK (h14) (by simp only [RN, ↓reduceIte, ↓get8, reduceCtorEq, Nat.reduceLT, Nat.reduceEqDiff, Nat.reduceAdd, Nat.reduceMul, Nat.reduceLeDiff, Nat.reduceSub, Int.reduceToNat, Int.reduceNeg, Nat.reduceBEq, hbr, hr0, hr1, hb0, hb1, hr2, hr3, hb2, hb3, hrb, Nat.add_assoc, Nat.left_eq_add, Nat.add_eq_left, Nat.add_left_cancel_iff]; first | done | trivial) (by simp only [RN, ↓reduceIte, ↓get8, reduceCtorEq, Nat.reduceLT, Nat.reduceEqDiff, Nat.reduceAdd, Nat.reduceMul, Nat.reduceLeDiff, Nat.reduceSub, Int.reduceToNat, Int.reduceNeg, Nat.reduceBEq, hbr, hr0, hr1, hb0, hb1, hr2, hr3, hb2, hb3, hrb, Nat.add_assoc, Nat.left_eq_add, Nat.add_eq_left, Nat.add_left_cancel_iff]; rfl) ?_
  have h15 := one_c bs ln cp (at_ + 23) r b (nx + 2) ro loose (by omega) hl hbr
  unfold rdH at h15
  refine JS_go (tbOk _) 99 fun x hx => ?_
  simp only [RN, ↓reduceIte, ↓get8, reduceCtorEq, Nat.reduceLT, Nat.reduceEqDiff, Nat.reduceAdd, Nat.reduceMul, Nat.reduceLeDiff, Nat.reduceSub, Int.reduceToNat, Int.reduceNeg, Nat.reduceBEq, TY, hbr, hr0, hr1, hb0, hb1, hr2, hr3, hb2, hb3, hrb, Nat.add_assoc, Nat.left_eq_add, Nat.add_eq_left, Nat.add_left_cancel_iff] at hx
  subst hx
  refine ⟨_, _, rfl, by first | trivial | omega | (simp only [and_true, true_and]; omega), ?_⟩
  refine at_callK (h15) (by simp only [RN, ↓reduceIte, ↓get8, reduceCtorEq, Nat.reduceLT, Nat.reduceEqDiff, Nat.reduceAdd, Nat.reduceMul, Nat.reduceLeDiff, Nat.reduceSub, Int.reduceToNat, Int.reduceNeg, Nat.reduceBEq, hbr, hr0, hr1, hb0, hb1, hr2, hr3, hb2, hb3, hrb, Nat.add_assoc, Nat.left_eq_add, Nat.add_eq_left, Nat.add_left_cancel_iff]; first | done | trivial) (by simp only [RN, ↓reduceIte, ↓get8, reduceCtorEq, Nat.reduceLT, Nat.reduceEqDiff, Nat.reduceAdd, Nat.reduceMul, Nat.reduceLeDiff, Nat.reduceSub, Int.reduceToNat, Int.reduceNeg, Nat.reduceBEq, hbr, hr0, hr1, hb0, hb1, hr2, hr3, hb2, hb3, hrb, Nat.add_assoc, Nat.left_eq_add, Nat.add_eq_left, Nat.add_left_cancel_iff]; rfl) ?_
  have h16 := one_c bs ln cp (at_ + 24) r b (nx + 2) ro loose (by omega) hl hbr
  unfold rdH at h16
  refine JS_go (tbOk _) 99 fun x hx => ?_
  simp only [RN, ↓reduceIte, ↓get8, reduceCtorEq, Nat.reduceLT, Nat.reduceEqDiff, Nat.reduceAdd, Nat.reduceMul, Nat.reduceLeDiff, Nat.reduceSub, Int.reduceToNat, Int.reduceNeg, Nat.reduceBEq, TY, hbr, hr0, hr1, hb0, hb1, hr2, hr3, hb2, hb3, hrb, Nat.add_assoc, Nat.left_eq_add, Nat.add_eq_left, Nat.add_left_cancel_iff] at hx
  subst hx
  refine ⟨_, _, rfl, by first | trivial | omega | (simp only [and_true, true_and]; omega), ?_⟩
  refine at_callK (h16) (by simp only [RN, ↓reduceIte, ↓get8, reduceCtorEq, Nat.reduceLT, Nat.reduceEqDiff, Nat.reduceAdd, Nat.reduceMul, Nat.reduceLeDiff, Nat.reduceSub, Int.reduceToNat, Int.reduceNeg, Nat.reduceBEq, hbr, hr0, hr1, hb0, hb1, hr2, hr3, hb2, hb3, hrb, Nat.add_assoc, Nat.left_eq_add, Nat.add_eq_left, Nat.add_left_cancel_iff]; first | done | trivial) (by simp only [RN, ↓reduceIte, ↓get8, reduceCtorEq, Nat.reduceLT, Nat.reduceEqDiff, Nat.reduceAdd, Nat.reduceMul, Nat.reduceLeDiff, Nat.reduceSub, Int.reduceToNat, Int.reduceNeg, Nat.reduceBEq, hbr, hr0, hr1, hb0, hb1, hr2, hr3, hb2, hb3, hrb, Nat.add_assoc, Nat.left_eq_add, Nat.add_eq_left, Nat.add_left_cancel_iff]; rfl) ?_
  have h17 := one_c bs ln cp (at_ + 25) r b (nx + 2) ro loose (by omega) hl hbr
  unfold rdH at h17
  refine JS_go (tbOk _) 99 fun x hx => ?_
  simp only [RN, ↓reduceIte, ↓get8, reduceCtorEq, Nat.reduceLT, Nat.reduceEqDiff, Nat.reduceAdd, Nat.reduceMul, Nat.reduceLeDiff, Nat.reduceSub, Int.reduceToNat, Int.reduceNeg, Nat.reduceBEq, TY, hbr, hr0, hr1, hb0, hb1, hr2, hr3, hb2, hb3, hrb, Nat.add_assoc, Nat.left_eq_add, Nat.add_eq_left, Nat.add_left_cancel_iff] at hx
  subst hx
  refine ⟨_, _, rfl, by first | trivial | omega | (simp only [and_true, true_and]; omega), ?_⟩
  refine at_callK (h17) (by simp only [RN, ↓reduceIte, ↓get8, reduceCtorEq, Nat.reduceLT, Nat.reduceEqDiff, Nat.reduceAdd, Nat.reduceMul, Nat.reduceLeDiff, Nat.reduceSub, Int.reduceToNat, Int.reduceNeg, Nat.reduceBEq, hbr, hr0, hr1, hb0, hb1, hr2, hr3, hb2, hb3, hrb, Nat.add_assoc, Nat.left_eq_add, Nat.add_eq_left, Nat.add_left_cancel_iff]; first | done | trivial) (by simp only [RN, ↓reduceIte, ↓get8, reduceCtorEq, Nat.reduceLT, Nat.reduceEqDiff, Nat.reduceAdd, Nat.reduceMul, Nat.reduceLeDiff, Nat.reduceSub, Int.reduceToNat, Int.reduceNeg, Nat.reduceBEq, hbr, hr0, hr1, hb0, hb1, hr2, hr3, hb2, hb3, hrb, Nat.add_assoc, Nat.left_eq_add, Nat.add_eq_left, Nat.add_left_cancel_iff]; rfl) ?_
  have h18 := one_c bs ln cp (at_ + 26) r b (nx + 2) ro loose (by omega) hl hbr
  unfold rdH at h18
  refine JS_go (tbOk _) 99 fun x hx => ?_
  simp only [RN, ↓reduceIte, ↓get8, reduceCtorEq, Nat.reduceLT, Nat.reduceEqDiff, Nat.reduceAdd, Nat.reduceMul, Nat.reduceLeDiff, Nat.reduceSub, Int.reduceToNat, Int.reduceNeg, Nat.reduceBEq, TY, hbr, hr0, hr1, hb0, hb1, hr2, hr3, hb2, hb3, hrb, Nat.add_assoc, Nat.left_eq_add, Nat.add_eq_left, Nat.add_left_cancel_iff] at hx
  subst hx
  refine ⟨_, _, rfl, by first | trivial | omega | (simp only [and_true, true_and]; omega), ?_⟩
  refine at_callK (h18) (by simp only [RN, ↓reduceIte, ↓get8, reduceCtorEq, Nat.reduceLT, Nat.reduceEqDiff, Nat.reduceAdd, Nat.reduceMul, Nat.reduceLeDiff, Nat.reduceSub, Int.reduceToNat, Int.reduceNeg, Nat.reduceBEq, hbr, hr0, hr1, hb0, hb1, hr2, hr3, hb2, hb3, hrb, Nat.add_assoc, Nat.left_eq_add, Nat.add_eq_left, Nat.add_left_cancel_iff]; first | done | trivial) (by simp only [RN, ↓reduceIte, ↓get8, reduceCtorEq, Nat.reduceLT, Nat.reduceEqDiff, Nat.reduceAdd, Nat.reduceMul, Nat.reduceLeDiff, Nat.reduceSub, Int.reduceToNat, Int.reduceNeg, Nat.reduceBEq, hbr, hr0, hr1, hb0, hb1, hr2, hr3, hb2, hb3, hrb, Nat.add_assoc, Nat.left_eq_add, Nat.add_eq_left, Nat.add_left_cancel_iff]; rfl) ?_
  have hs := speed_c bs ln cp (at_ + 27) r b (nx + 2) ro loose (by omega) hl hbr x hx
  unfold rdH at hs
  refine JS_go (tbOk _) 99 fun x hx => ?_
  simp only [RN, ↓reduceIte, ↓get8, reduceCtorEq, Nat.reduceLT, Nat.reduceEqDiff, Nat.reduceAdd, Nat.reduceMul, Nat.reduceLeDiff, Nat.reduceSub, Int.reduceToNat, Int.reduceNeg, Nat.reduceBEq, TY, hbr, hr0, hr1, hb0, hb1, hr2, hr3, hb2, hb3, hrb, Nat.add_assoc, Nat.left_eq_add, Nat.add_eq_left, Nat.add_left_cancel_iff] at hx
  subst hx
  refine ⟨_, _, rfl, by first | trivial | omega | (simp only [and_true, true_and]; omega), ?_⟩
  refine at_callG hs (by simp only [RN, ↓reduceIte, ↓get8, reduceCtorEq, Nat.reduceLT, Nat.reduceEqDiff, Nat.reduceAdd, Nat.reduceMul, Nat.reduceLeDiff, Nat.reduceSub, Int.reduceToNat, Int.reduceNeg, Nat.reduceBEq, hbr, hr0, hr1, hb0, hb1, hr2, hr3, hb2, hb3, hrb, Nat.add_assoc, Nat.left_eq_add, Nat.add_eq_left, Nat.add_left_cancel_iff]; first | done | trivial) ?_
  rintro o L' n ⟨rfl, rfl, rfl⟩
  unfold okOr
  by_cases hc : x.2 = 0
  · simp only [if_pos hc]
    refine ⟨_, by simp only [RN, ↓reduceIte, ↓get8, reduceCtorEq, Nat.reduceLT, Nat.reduceEqDiff, Nat.reduceAdd, Nat.reduceMul, Nat.reduceLeDiff, Nat.reduceSub, Int.reduceToNat, Int.reduceNeg, Nat.reduceBEq, hbr, hr0, hr1, hb0, hb1, hr2, hr3, hb2, hb3, hrb, Nat.add_assoc, Nat.left_eq_add, Nat.add_eq_left, Nat.add_left_cancel_iff]; rfl, ?_⟩
    refine JS_go (tbOk _) 99 fun x hx => ?_
    simp only [RN, ↓reduceIte, ↓get8, reduceCtorEq, Nat.reduceLT, Nat.reduceEqDiff, Nat.reduceAdd, Nat.reduceMul, Nat.reduceLeDiff, Nat.reduceSub, Int.reduceToNat, Int.reduceNeg, Nat.reduceBEq, TY, hbr, hr0, hr1, hb0, hb1, hr2, hr3, hb2, hb3, hrb, Nat.add_assoc, Nat.left_eq_add, Nat.add_eq_left, Nat.add_left_cancel_iff] at hx
    subst hx
    refine ⟨_, _, rfl, by first | trivial | omega | (simp only [and_true, true_and]; omega), ?_⟩
    first | refine at_ret ?_ | refine at_done ?_
    repeat (first | refine in_ret ?_ | refine in_retI ?_)
    first | refine ret_endK (by simp only [RN, ↓reduceIte, ↓get8, reduceCtorEq, Nat.reduceLT, Nat.reduceEqDiff, Nat.reduceAdd, Nat.reduceMul, Nat.reduceLeDiff, Nat.reduceSub, Int.reduceToNat, Int.reduceNeg, Nat.reduceBEq]; rfl) rfl trivial ?_ | refine nrm_endK (by simp only [RN, ↓reduceIte, ↓get8, reduceCtorEq, Nat.reduceLT, Nat.reduceEqDiff, Nat.reduceAdd, Nat.reduceMul, Nat.reduceLeDiff, Nat.reduceSub, Int.reduceToNat, Int.reduceNeg, Nat.reduceBEq]; rfl) rfl trivial ?_ | refine ret_endK (by simp only [RN, ↓reduceIte, ↓get8, reduceCtorEq, Nat.reduceLT, Nat.reduceEqDiff, Nat.reduceAdd, Nat.reduceMul, Nat.reduceLeDiff, Nat.reduceSub, Int.reduceToNat, Int.reduceNeg, Nat.reduceBEq, TY, hbr, hr0, hr1, hb0, hb1, hr2, hr3, hb2, hb3, hrb, Nat.add_assoc, Nat.left_eq_add, Nat.add_eq_left, Nat.add_left_cancel_iff]; rfl) rfl (by first | trivial | omega) ?_
    refine ⟨_, ?_, rfl, rfl, rfl⟩
    exact leL_look (by simp only [RN, ↓reduceIte, ↓get8, reduceCtorEq, Nat.reduceLT, Nat.reduceEqDiff, Nat.reduceAdd, Nat.reduceMul, Nat.reduceLeDiff, Nat.reduceSub, Int.reduceToNat, Int.reduceNeg, Nat.reduceBEq, hbr, hr0, hr1, hb0, hb1, hr2, hr3, hb2, hb3, hrb, Nat.add_assoc, Nat.left_eq_add, Nat.add_eq_left, Nat.add_left_cancel_iff]; first | done | trivial)
  · simp only [if_neg hc]
    refine pan_endK rfl ⟨_, ?_, rfl, rfl, rfl⟩
    exact leL_look (by simp only [RN, ↓reduceIte, ↓get8, reduceCtorEq, Nat.reduceLT, Nat.reduceEqDiff, Nat.reduceAdd, Nat.reduceMul, Nat.reduceLeDiff, Nat.reduceSub, Int.reduceToNat, Int.reduceNeg, Nat.reduceBEq, hbr, hr0, hr1, hb0, hb1, hr2, hr3, hb2, hb3, hrb, Nat.add_assoc, Nat.left_eq_add, Nat.add_eq_left, Nat.add_left_cancel_iff]; first | done | trivial)
end Go.Proofs.Ytoihmanhldcjhaa.Id
namespace Go.Proofs.Ytoihmanhldcjhaa.Id
open Go Go.Proofs.Ytoihmanhldcjhaa.Rl
set_option linter.unusedSimpArgs false
set_option linter.unusedVariables false
def wpAt (bs : List UInt8) (at_ : Nat) (u : Nat) (x : Int × Int) : Wp := ⟨le ((bs.drop (at_ + 2)).take 1), le ((bs.drop (at_ + 0)).take 2), x.1, le ((bs.drop (at_ + 3)).take 1), le ((bs.drop (at_ + 4)).take 1), (u : Int) == 1⟩
set_option maxRecDepth 100000 in
set_option maxHeartbeats 4000000 in
theorem rweapon_no (bs : List UInt8) (ln cp : Nat) (at_ : Nat) (r b : Nat) (nx : Nat) (ro loose : Bool) (ha : at_ + 14 ≤ ln) (hl : ln ≤ bs.length ∧ ln ≤ 1000000) (hbr : ¬ b = r) (hrn : r < nx) (hbn : b < nx) (u : Nat) (hu : le ((bs.drop (at_ + 5)).take 1) = u) (h1 : 1 < u) :
    CallW Try.prog 32 [.pointer (some ⟨r, 0, none⟩)] (rdH bs ln cp at_ r b ro loose) nx fun o F' nx' => o = .pan (.iface 60 (.agg #[.int .i64 3, .int .i64 ((at_ + 5 : Nat) : Int)])) ∧ F' = rdH bs ln cp (at_ + 6) r b ro loose ∧ nx' = nx + 2 := by
  have hrb : ¬ r = b := fun e => hbr e.symm
  have hr0 : ¬ r = nx := by omega
  have hr1 : ∀ i, ¬ r = nx + i := by intro i; omega
  have hb0 : ¬ b = nx := by omega
  have hb1 : ∀ i, ¬ b = nx + i := by intro i; omega
  have hr2 : ¬ nx = r := by omega
  have hr3 : ∀ i, ¬ nx + i = r := by intro i; omega
  have hb2 : ¬ nx = b := by omega
  have hb3 : ∀ i, ¬ nx + i = b := by intro i; omega
  unfold rdH
  refine CallW_go (tbOk _) 36 [.cell 2 51] Try.func32 rfl (by decide) rfl rfl (by simp) fun hlt => ?_
  simp only [params, Nat.zero_add, Nat.reduceAdd]
  have h0 := two_c bs ln cp (at_ + 0) r b (nx + 1) ro loose (by omega) hl hbr
  unfold rdH at h0
  refine JS_go (tbOk _) 99 fun x hx => ?_
  simp only [RN, ↓reduceIte, ↓get8, reduceCtorEq, Nat.reduceLT, Nat.reduceEqDiff, Nat.reduceAdd, Nat.reduceMul, Nat.reduceLeDiff, Nat.reduceSub, Int.reduceToNat, Int.reduceNeg, Nat.reduceBEq, TY, hbr, hr0, hr1, hb0, hb1, hr2, hr3, hb2, hb3, hrb, Nat.add_assoc, Nat.left_eq_add, Nat.add_eq_left, Nat.add_left_cancel_iff] at hx
  subst hx
  refine ⟨_, _, rfl, by first | trivial | omega | (simp only [and_true, true_and]; omega), ?_⟩
  refine at_callK (h0) (by simp only [RN, ↓reduceIte, ↓get8, reduceCtorEq, Nat.reduceLT, Nat.reduceEqDiff, Nat.reduceAdd, Nat.reduceMul, Nat.reduceLeDiff, Nat.reduceSub, Int.reduceToNat, Int.reduceNeg, Nat.reduceBEq, hbr, hr0, hr1, hb0, hb1, hr2, hr3, hb2, hb3, hrb, Nat.add_assoc, Nat.left_eq_add, Nat.add_eq_left, Nat.add_left_cancel_iff]; first | done | trivial) (by simp only [RN, ↓reduceIte, ↓get8, reduceCtorEq, Nat.reduceLT, Nat.reduceEqDiff, Nat.reduceAdd, Nat.reduceMul, Nat.reduceLeDiff, Nat.reduceSub, Int.reduceToNat, Int.reduceNeg, Nat.reduceBEq, hbr, hr0, hr1, hb0, hb1, hr2, hr3, hb2, hb3, hrb, Nat.add_assoc, Nat.left_eq_add, Nat.add_eq_left, Nat.add_left_cancel_iff]; rfl) ?_
  have h1 := one_c bs ln cp (at_ + 2) r b (nx + 2) ro loose (by omega) hl hbr
  unfold rdH at h1
  refine JS_go (tbOk _) 99 fun x hx => ?_
  simp only [RN, ↓reduceIte, ↓get8, reduceCtorEq, Nat.reduceLT, Nat.reduceEqDiff, Nat.reduceAdd, Nat.reduceMul, Nat.reduceLeDiff, Nat.reduceSub, Int.reduceToNat, Int.reduceNeg, Nat.reduceBEq, TY, hbr, hr0, hr1, hb0, hb1, hr2, hr3, hb2, hb3, hrb, Nat.add_assoc, Nat.left_eq_add, Nat.add_eq_left, Nat.add_left_cancel_iff] at hx
  subst hx
  refine ⟨_, _, rfl, by first | trivial | omega | (simp only [and_true, true_and]; omega), ?_⟩
  refine at_callK (h1) (by simp only [RN, ↓reduceIte, ↓get8, reduceCtorEq, Nat.reduceLT, Nat.reduceEqDiff, Nat.reduceAdd, Nat.reduceMul, Nat.reduceLeDiff, Nat.reduceSub, Int.reduceToNat, Int.reduceNeg, Nat.reduceBEq, hbr, hr0, hr1, hb0, hb1, hr2, hr3, hb2, hb3, hrb, Nat.add_assoc, Nat.left_eq_add, Nat.add_eq_left, Nat.add_left_cancel_iff]; first | done | trivial) (by simp only [RN, ↓reduceIte, ↓get8, reduceCtorEq, Nat.reduceLT, Nat.reduceEqDiff, Nat.reduceAdd, Nat.reduceMul, Nat.reduceLeDiff, Nat.reduceSub, Int.reduceToNat, Int.reduceNeg, Nat.reduceBEq, hbr, hr0, hr1, hb0, hb1, hr2, hr3, hb2, hb3, hrb, Nat.add_assoc, Nat.left_eq_add, Nat.add_eq_left, Nat.add_left_cancel_iff]; rfl) ?_
  have h2 := one_c bs ln cp (at_ + 3) r b (nx + 2) ro loose (by omega) hl hbr
  unfold rdH at h2
  refine JS_go (tbOk _) 99 fun x hx => ?_
  simp only [RN, ↓reduceIte, ↓get8, reduceCtorEq, Nat.reduceLT, Nat.reduceEqDiff, Nat.reduceAdd, Nat.reduceMul, Nat.reduceLeDiff, Nat.reduceSub, Int.reduceToNat, Int.reduceNeg, Nat.reduceBEq, TY, hbr, hr0, hr1, hb0, hb1, hr2, hr3, hb2, hb3, hrb, Nat.add_assoc, Nat.left_eq_add, Nat.add_eq_left, Nat.add_left_cancel_iff] at hx
  subst hx
  refine ⟨_, _, rfl, by first | trivial | omega | (simp only [and_true, true_and]; omega), ?_⟩
  refine at_callK (h2) (by simp only [RN, ↓reduceIte, ↓get8, reduceCtorEq, Nat.reduceLT, Nat.reduceEqDiff, Nat.reduceAdd, Nat.reduceMul, Nat.reduceLeDiff, Nat.reduceSub, Int.reduceToNat, Int.reduceNeg, Nat.reduceBEq, hbr, hr0, hr1, hb0, hb1, hr2, hr3, hb2, hb3, hrb, Nat.add_assoc, Nat.left_eq_add, Nat.add_eq_left, Nat.add_left_cancel_iff]; first | done | trivial) (by simp only [RN, ↓reduceIte, ↓get8, reduceCtorEq, Nat.reduceLT, Nat.reduceEqDiff, Nat.reduceAdd, Nat.reduceMul, Nat.reduceLeDiff, Nat.reduceSub, Int.reduceToNat, Int.reduceNeg, Nat.reduceBEq, hbr, hr0, hr1, hb0, hb1, hr2, hr3, hb2, hb3, hrb, Nat.add_assoc, Nat.left_eq_add, Nat.add_eq_left, Nat.add_left_cancel_iff]; rfl) ?_
  have h3 := one_c bs ln cp (at_ + 4) r b (nx + 2) ro loose (by omega) hl hbr
  unfold rdH at h3
  refine JS_go (tbOk _) 99 fun x hx => ?_
  simp only [RN, ↓reduceIte, ↓get8, reduceCtorEq, Nat.reduceLT, Nat.reduceEqDiff, Nat.reduceAdd, Nat.reduceMul, Nat.reduceLeDiff, Nat.reduceSub, Int.reduceToNat, Int.reduceNeg, Nat.reduceBEq, TY, hbr, hr0, hr1, hb0, hb1, hr2, hr3, hb2, hb3, hrb, Nat.add_assoc, Nat.left_eq_add, Nat.add_eq_left, Nat.add_left_cancel_iff] at hx
  subst hx
  refine ⟨_, _, rfl, by first | trivial | omega | (simp only [and_true, true_and]; omega), ?_⟩
  refine at_callK (h3) (by simp only [RN, ↓reduceIte, ↓get8, reduceCtorEq, Nat.reduceLT, Nat.reduceEqDiff, Nat.reduceAdd, Nat.reduceMul, Nat.reduceLeDiff, Nat.reduceSub, Int.reduceToNat, Int.reduceNeg, Nat.reduceBEq, hbr, hr0, hr1, hb0, hb1, hr2, hr3, hb2, hb3, hrb, Nat.add_assoc, Nat.left_eq_add, Nat.add_eq_left, Nat.add_left_cancel_iff]; first | done | trivial) (by simp only [RN, ↓reduceIte, ↓get8, reduceCtorEq, Nat.reduceLT, Nat.reduceEqDiff, Nat.reduceAdd, Nat.reduceMul, Nat.reduceLeDiff, Nat.reduceSub, Int.reduceToNat, Int.reduceNeg, Nat.reduceBEq, hbr, hr0, hr1, hb0, hb1, hr2, hr3, hb2, hb3, hrb, Nat.add_assoc, Nat.left_eq_add, Nat.add_eq_left, Nat.add_left_cancel_iff]; rfl) ?_
  have h4 := one_c bs ln cp (at_ + 5) r b (nx + 2) ro loose (by omega) hl hbr
  rw [hu] at h4
  unfold rdH at h4
  refine JS_go (tbOk _) 99 fun x hx => ?_
  simp only [RN, ↓reduceIte, ↓get8, reduceCtorEq, Nat.reduceLT, Nat.reduceEqDiff, Nat.reduceAdd, Nat.reduceMul, Nat.reduceLeDiff, Nat.reduceSub, Int.reduceToNat, Int.reduceNeg, Nat.reduceBEq, TY, hbr, hr0, hr1, hb0, hb1, hr2, hr3, hb2, hb3, hrb, Nat.add_assoc, Nat.left_eq_add, Nat.add_eq_left, Nat.add_left_cancel_iff] at hx
  subst hx
  refine ⟨_, _, rfl, by first | trivial | omega | (simp only [and_true, true_and]; omega), ?_⟩
  refine at_callK (h4) (by simp only [RN, ↓reduceIte, ↓get8, reduceCtorEq, Nat.reduceLT, Nat.reduceEqDiff, Nat.reduceAdd, Nat.reduceMul, Nat.reduceLeDiff, Nat.reduceSub, Int.reduceToNat, Int.reduceNeg, Nat.reduceBEq, hbr, hr0, hr1, hb0, hb1, hr2, hr3, hb2, hb3, hrb, Nat.add_assoc, Nat.left_eq_add, Nat.add_eq_left, Nat.add_left_cancel_iff]; first | done | trivial) (by simp only [RN, ↓reduceIte, ↓get8, reduceCtorEq, Nat.reduceLT, Nat.reduceEqDiff, Nat.reduceAdd, Nat.reduceMul, Nat.reduceLeDiff, Nat.reduceSub, Int.reduceToNat, Int.reduceNeg, Nat.reduceBEq, hbr, hr0, hr1, hb0, hb1, hr2, hr3, hb2, hb3, hrb, Nat.add_assoc, Nat.left_eq_add, Nat.add_eq_left, Nat.add_left_cancel_iff]; rfl) ?_
  refine JS_go (tbOk _) 99 fun x hx => ?_
  simp only [RN, ↓reduceIte, ↓get8, reduceCtorEq, Nat.reduceLT, Nat.reduceEqDiff, Nat.reduceAdd, Nat.reduceMul, Nat.reduceLeDiff, Nat.reduceSub, Int.reduceToNat, Int.reduceNeg, Nat.reduceBEq, TY, hbr, hr0, hr1, hb0, hb1, hr2, hr3, hb2, hb3, hrb, Nat.add_assoc, Nat.left_eq_add, Nat.add_eq_left, Nat.add_left_cancel_iff] at hx
  subst hx
  refine ⟨_, _, rfl, by first | trivial | omega | (simp only [and_true, true_and]; omega), ?_⟩
  refine at_cond (fun h => ?_) (fun h => (by simp at h; omega))
  refine JS_go (tbOk _) 99 fun x hx => ?_
  simp only [RN, ↓reduceIte, ↓get8, reduceCtorEq, Nat.reduceLT, Nat.reduceEqDiff, Nat.reduceAdd, Nat.reduceMul, Nat.reduceLeDiff, Nat.reduceSub, Int.reduceToNat, Int.reduceNeg, Nat.reduceBEq, TY, hbr, hr0, hr1, hb0, hb1, hr2, hr3, hb2, hb3, hrb, Nat.add_assoc, Nat.left_eq_add, Nat.add_eq_left, Nat.add_left_cancel_iff] at hx
  subst hx
  refine ⟨_, _, rfl, by first | trivial | omega | (simp only [and_true, true_and]; omega), ?_⟩
  refine at_pan ?_
  repeat (first | refine in_pan ?_ | refine in_panI ?_)
  refine pan_endK rfl ⟨_, ?_, rfl, rfl, rfl⟩
  exact leL_look (by simp only [RN, ↓reduceIte, ↓get8, reduceCtorEq, Nat.reduceLT, Nat.reduceEqDiff, Nat.reduceAdd, Nat.reduceMul, Nat.reduceLeDiff, Nat.reduceSub, Int.reduceToNat, Int.reduceNeg, Nat.reduceBEq, hbr, hr0, hr1, hb0, hb1, hr2, hr3, hb2, hb3, hrb, Nat.add_assoc, Nat.left_eq_add, Nat.add_eq_left, Nat.add_left_cancel_iff]; first | done | trivial)
set_option maxRecDepth 100000 in
set_option maxHeartbeats 4000000 in
theorem rweapon_c (bs : List UInt8) (ln cp : Nat) (at_ : Nat) (r b : Nat) (nx : Nat) (ro loose : Bool) (ha : at_ + 14 ≤ ln) (hl : ln ≤ bs.length ∧ ln ≤ 1000000) (hbr : ¬ b = r) (hrn : r < nx) (hbn : b < nx) (u : Nat) (hu : le ((bs.drop (at_ + 5)).take 1) = u) (h1 : u ≤ 1) (x : Int × Int) (hx : ofS (le ((bs.drop (at_ + 6)).take 8)) = x) :
    CallW Try.prog 32 [.pointer (some ⟨r, 0, none⟩)] (rdH bs ln cp at_ r b ro loose) nx fun o F' nx' => o = okOr x.2 ((at_ + 6 : Nat) : Int) (.agg (wpAt bs at_ u x).cells.toArray) ∧ F' = rdH bs ln cp (at_ + 14) r b ro loose ∧ nx' = nx + 2 := by
  have hrb : ¬ r = b := fun e => hbr e.symm
  have hr0 : ¬ r = nx := by omega
  have hr1 : ∀ i, ¬ r = nx + i := by intro i; omega
  have hb0 : ¬ b = nx := by omega
  have hb1 : ∀ i, ¬ b = nx + i := by intro i; omega
  have hr2 : ¬ nx = r := by omega
  have hr3 : ∀ i, ¬ nx + i = r := by intro i; omega
  have hb2 : ¬ nx = b := by omega
  have hb3 : ∀ i, ¬ nx + i = b := by intro i; omega
  unfold rdH
  refine CallW_go (tbOk _) 36 [.cell 2 51] Try.func32 rfl (by decide) rfl rfl (by simp) fun hlt => ?_
  simp only [params, Nat.zero_add, Nat.reduceAdd]
  have h0 := two_c bs ln cp (at_ + 0) r b (nx + 1) ro loose (by omega) hl hbr
  unfold rdH at h0
  refine JS_go (tbOk _) 99 fun x hx => ?_
  simp only [RN, ↓reduceIte, ↓get8, reduceCtorEq, Nat.reduceLT, Nat.reduceEqDiff, Nat.reduceAdd, Nat.reduceMul, Nat.reduceLeDiff, Nat.reduceSub, Int.reduceToNat, Int.reduceNeg, Nat.reduceBEq, TY, hbr, hr0, hr1, hb0, hb1, hr2, hr3, hb2, hb3, hrb, Nat.add_assoc, Nat.left_eq_add, Nat.add_eq_left, Nat.add_left_cancel_iff] at hx
  subst hx
  refine ⟨_, _, rfl, by first | trivial | omega | (simp only [and_true, true_and]; omega), ?_⟩
  refine at_callK (h0) (by simp only [RN, ↓reduceIte, ↓get8, reduceCtorEq, Nat.reduceLT, Nat.reduceEqDiff, Nat.reduceAdd, Nat.reduceMul, Nat.reduceLeDiff, Nat.reduceSub, Int.reduceToNat, Int.reduceNeg, Nat.reduceBEq, hbr, hr0, hr1, hb0, hb1, hr2, hr3, hb2, hb3, hrb, Nat.add_assoc, Nat.left_eq_add, Nat.add_eq_left, Nat.add_left_cancel_iff]; first | done | trivial) (by simp only [RN, ↓reduceIte, ↓get8, reduceCtorEq, Nat.reduceLT, Nat.reduceEqDiff, Nat.reduceAdd, Nat.reduceMul, Nat.reduceLeDiff, Nat.reduceSub, Int.reduceToNat, Int.reduceNeg, Nat.reduceBEq, hbr, hr0, hr1, hb0, hb1, hr2, hr3, hb2, hb3, hrb, Nat.add_assoc, Nat.left_eq_add, Nat.add_eq_left, Nat.add_left_cancel_iff]; rfl) ?_
  have h1 := one_c bs ln cp (at_ + 2) r b (nx + 2) ro loose (by omega) hl hbr
  unfold rdH at h1
  refine JS_go (tbOk _) 99 fun x hx => ?_
  simp only [RN, ↓reduceIte, ↓get8, reduceCtorEq, Nat.reduceLT, Nat.reduceEqDiff, Nat.reduceAdd, Nat.reduceMul, Nat.reduceLeDiff, Nat.reduceSub, Int.reduceToNat, Int.reduceNeg, Nat.reduceBEq, TY, hbr, hr0, hr1, hb0, hb1, hr2, hr3, hb2, hb3, hrb, Nat.add_assoc, Nat.left_eq_add, Nat.add_eq_left, Nat.add_left_cancel_iff] at hx
  subst hx
  refine ⟨_, _, rfl, by first | trivial | omega | (simp only [and_true, true_and]; omega), ?_⟩
  refine at_callK (h1) (by simp only [RN, ↓reduceIte, ↓get8, reduceCtorEq, Nat.reduceLT, Nat.reduceEqDiff, Nat.reduceAdd, Nat.reduceMul, Nat.reduceLeDiff, Nat.reduceSub, Int.reduceToNat, Int.reduceNeg, Nat.reduceBEq, hbr, hr0, hr1, hb0, hb1, hr2, hr3, hb2, hb3, hrb, Nat.add_assoc, Nat.left_eq_add, Nat.add_eq_left, Nat.add_left_cancel_iff]; first | done | trivial) (by simp only [RN, ↓reduceIte, ↓get8, reduceCtorEq, Nat.reduceLT, Nat.reduceEqDiff, Nat.reduceAdd, Nat.reduceMul, Nat.reduceLeDiff, Nat.reduceSub, Int.reduceToNat, Int.reduceNeg, Nat.reduceBEq, hbr, hr0, hr1, hb0, hb1, hr2, hr3, hb2, hb3, hrb, Nat.add_assoc, Nat.left_eq_add, Nat.add_eq_left, Nat.add_left_cancel_iff]; rfl) ?_
  have h2 := one_c bs ln cp (at_ + 3) r b (nx + 2) ro loose (by omega) hl hbr
  unfold rdH at h2
  refine JS_go (tbOk _) 99 fun x hx => ?_
  simp only [RN, ↓reduceIte, ↓get8, reduceCtorEq, Nat.reduceLT, Nat.reduceEqDiff, Nat.reduceAdd, Nat.reduceMul, Nat.reduceLeDiff, Nat.reduceSub, Int.reduceToNat, Int.reduceNeg, Nat.reduceBEq, TY, hbr, hr0, hr1, hb0, hb1, hr2, hr3, hb2, hb3, hrb, Nat.add_assoc, Nat.left_eq_add, Nat.add_eq_left, Nat.add_left_cancel_iff] at hx
  subst hx
  refine ⟨_, _, rfl, by first | trivial | omega | (simp only [and_true, true_and]; omega), ?_⟩
  refine at_callK (h2) (by simp only [RN, ↓reduceIte, ↓get8, reduceCtorEq, Nat.reduceLT, Nat.reduceEqDiff, Nat.reduceAdd, Nat.reduceMul, Nat.reduceLeDiff, Nat.reduceSub, Int.reduceToNat, Int.reduceNeg, Nat.reduceBEq, hbr, hr0, hr1, hb0, hb1, hr2, hr3, hb2, hb3, hrb, Nat.add_assoc, Nat.left_eq_add, Nat.add_eq_left, Nat.add_left_cancel_iff]; first | done | trivial) (by simp only [RN, ↓reduceIte, ↓get8, reduceCtorEq, Nat.reduceLT, Nat.reduceEqDiff, Nat.reduceAdd, Nat.reduceMul, Nat.reduceLeDiff, Nat.reduceSub, Int.reduceToNat, Int.reduceNeg, Nat.reduceBEq, hbr, hr0, hr1, hb0, hb1, hr2, hr3, hb2, hb3, hrb, Nat.add_assoc, Nat.left_eq_add, Nat.add_eq_left, Nat.add_left_cancel_iff]; rfl) ?_
  have h3 := one_c bs ln cp (at_ + 4) r b (nx + 2) ro loose (by omega) hl hbr
  unfold rdH at h3
  refine JS_go (tbOk _) 99 fun x hx => ?_
  simp only [RN, ↓reduceIte, ↓get8, reduceCtorEq, Nat.reduceLT, Nat.reduceEqDiff, Nat.reduceAdd, Nat.reduceMul, Nat.reduceLeDiff, Nat.reduceSub, Int.reduceToNat, Int.reduceNeg, Nat.reduceBEq, TY, hbr, hr0, hr1, hb0, hb1, hr2, hr3, hb2, hb3, hrb, Nat.add_assoc, Nat.left_eq_add, Nat.add_eq_left, Nat.add_left_cancel_iff] at hx
  subst hx
  refine ⟨_, _, rfl, by first | trivial | omega | (simp only [and_true, true_and]; omega), ?_⟩
  refine at_callK (h3) (by simp only [RN, ↓reduceIte, ↓get8, reduceCtorEq, Nat.reduceLT, Nat.reduceEqDiff, Nat.reduceAdd, Nat.reduceMul, Nat.reduceLeDiff, Nat.reduceSub, Int.reduceToNat, Int.reduceNeg, Nat.reduceBEq, hbr, hr0, hr1, hb0, hb1, hr2, hr3, hb2, hb3, hrb, Nat.add_assoc, Nat.left_eq_add, Nat.add_eq_left, Nat.add_left_cancel_iff]; first | done | trivial) (by simp only [RN, ↓reduceIte, ↓get8, reduceCtorEq, Nat.reduceLT, Nat.reduceEqDiff, Nat.reduceAdd, Nat.reduceMul, Nat.reduceLeDiff, Nat.reduceSub, Int.reduceToNat, Int.reduceNeg, Nat.reduceBEq, hbr, hr0, hr1, hb0, hb1, hr2, hr3, hb2, hb3, hrb, Nat.add_assoc, Nat.left_eq_add, Nat.add_eq_left, Nat.add_left_cancel_iff]; rfl) ?_
  have h4 := one_c bs ln cp (at_ + 5) r b (nx + 2) ro loose (by omega) hl hbr
  rw [hu] at h4
  unfold rdH at h4
  refine JS_go (tbOk _) 99 fun x hx => ?_
  simp only [RN, ↓reduceIte, ↓get8, reduceCtorEq, Nat.reduceLT, Nat.reduceEqDiff, Nat.reduceAdd, Nat.reduceMul, Nat.reduceLeDiff, Nat.reduceSub, Int.reduceToNat, Int.reduceNeg, Nat.reduceBEq, TY, hbr, hr0, hr1, hb0, hb1, hr2, hr3, hb2, hb3, hrb, Nat.add_assoc, Nat.left_eq_add, Nat.add_eq_left, Nat.add_left_cancel_iff] at hx
  subst hx
  refine ⟨_, _, rfl, by first | trivial | omega | (simp only [and_true, true_and]; omega), ?_⟩
  refine at_callK (h4) (by simp only [RN, ↓reduceIte, ↓get8, reduceCtorEq, Nat.reduceLT, Nat.reduceEqDiff, Nat.reduceAdd, Nat.reduceMul, Nat.reduceLeDiff, Nat.reduceSub, Int.reduceToNat, Int.reduceNeg, Nat.reduceBEq, hbr, hr0, hr1, hb0, hb1, hr2, hr3, hb2, hb3, hrb, Nat.add_assoc, Nat.left_eq_add, Nat.add_eq_left, Nat.add_left_cancel_iff]; first | done | trivial) (by simp only [RN, ↓reduceIte, ↓get8, reduceCtorEq, Nat.reduceLT, Nat.reduceEqDiff, Nat.reduceAdd, Nat.reduceMul, Nat.reduceLeDiff, Nat.reduceSub, Int.reduceToNat, Int.reduceNeg, Nat.reduceBEq, hbr, hr0, hr1, hb0, hb1, hr2, hr3, hb2, hb3, hrb, Nat.add_assoc, Nat.left_eq_add, Nat.add_eq_left, Nat.add_left_cancel_iff]; rfl) ?_
  refine JS_go (tbOk _) 99 fun x hx => ?_
  simp only [RN, ↓reduceIte, ↓get8, reduceCtorEq, Nat.reduceLT, Nat.reduceEqDiff, Nat.reduceAdd, Nat.reduceMul, Nat.reduceLeDiff, Nat.reduceSub, Int.reduceToNat, Int.reduceNeg, Nat.reduceBEq, TY, hbr, hr0, hr1, hb0, hb1, hr2, hr3, hb2, hb3, hrb, Nat.add_assoc, Nat.left_eq_add, Nat.add_eq_left, Nat.add_left_cancel_iff] at hx
  subst hx
  refine ⟨_, _, rfl, by first | trivial | omega | (simp only [and_true, true_and]; omega), ?_⟩
  refine at_cond (fun h => (by simp at h; omega)) (fun h => ?_)
  have hs := speed_c bs ln cp (at_ + 6) r b (nx + 2) ro loose (by omega) hl hbr x hx
  unfold rdH at hs
  refine JS_go (tbOk _) 99 fun x hx => ?_
  simp only [RN, ↓reduceIte, ↓get8, reduceCtorEq, Nat.reduceLT, Nat.reduceEqDiff, Nat.reduceAdd, Nat.reduceMul, Nat.reduceLeDiff, Nat.reduceSub, Int.reduceToNat, Int.reduceNeg, Nat.reduceBEq, TY, hbr, hr0, hr1, hb0, hb1, hr2, hr3, hb2, hb3, hrb, Nat.add_assoc, Nat.left_eq_add, Nat.add_eq_left, Nat.add_left_cancel_iff] at hx
  subst hx
  refine ⟨_, _, rfl, by first | trivial | omega | (simp only [and_true, true_and]; omega), ?_⟩
  refine at_callG hs (by simp only [RN, ↓reduceIte, ↓get8, reduceCtorEq, Nat.reduceLT, Nat.reduceEqDiff, Nat.reduceAdd, Nat.reduceMul, Nat.reduceLeDiff, Nat.reduceSub, Int.reduceToNat, Int.reduceNeg, Nat.reduceBEq, hbr, hr0, hr1, hb0, hb1, hr2, hr3, hb2, hb3, hrb, Nat.add_assoc, Nat.left_eq_add, Nat.add_eq_left, Nat.add_left_cancel_iff]; first | done | trivial) ?_
  rintro o L' n ⟨rfl, rfl, rfl⟩
  unfold okOr
  by_cases hc : x.2 = 0
  · simp only [if_pos hc]
    refine ⟨_, by simp only [RN, ↓reduceIte, ↓get8, reduceCtorEq, Nat.reduceLT, Nat.reduceEqDiff, Nat.reduceAdd, Nat.reduceMul, Nat.reduceLeDiff, Nat.reduceSub, Int.reduceToNat, Int.reduceNeg, Nat.reduceBEq, hbr, hr0, hr1, hb0, hb1, hr2, hr3, hb2, hb3, hrb, Nat.add_assoc, Nat.left_eq_add, Nat.add_eq_left, Nat.add_left_cancel_iff]; rfl, ?_⟩
    refine JS_go (tbOk _) 99 fun x hx => ?_
    simp only [RN, ↓reduceIte, ↓get8, reduceCtorEq, Nat.reduceLT, Nat.reduceEqDiff, Nat.reduceAdd, Nat.reduceMul, Nat.reduceLeDiff, Nat.reduceSub, Int.reduceToNat, Int.reduceNeg, Nat.reduceBEq, TY, hbr, hr0, hr1, hb0, hb1, hr2, hr3, hb2, hb3, hrb, Nat.add_assoc, Nat.left_eq_add, Nat.add_eq_left, Nat.add_left_cancel_iff] at hx
    subst hx
    refine ⟨_, _, rfl, by first | trivial | omega | (simp only [and_true, true_and]; omega), ?_⟩
    first | refine at_ret ?_ | refine at_done ?_
    repeat (first | refine in_ret ?_ | refine in_retI ?_)
    first | refine ret_endK (by simp only [RN, ↓reduceIte, ↓get8, reduceCtorEq, Nat.reduceLT, Nat.reduceEqDiff, Nat.reduceAdd, Nat.reduceMul, Nat.reduceLeDiff, Nat.reduceSub, Int.reduceToNat, Int.reduceNeg, Nat.reduceBEq]; rfl) rfl trivial ?_ | refine nrm_endK (by simp only [RN, ↓reduceIte, ↓get8, reduceCtorEq, Nat.reduceLT, Nat.reduceEqDiff, Nat.reduceAdd, Nat.reduceMul, Nat.reduceLeDiff, Nat.reduceSub, Int.reduceToNat, Int.reduceNeg, Nat.reduceBEq]; rfl) rfl trivial ?_ | refine ret_endK (by simp only [RN, ↓reduceIte, ↓get8, reduceCtorEq, Nat.reduceLT, Nat.reduceEqDiff, Nat.reduceAdd, Nat.reduceMul, Nat.reduceLeDiff, Nat.reduceSub, Int.reduceToNat, Int.reduceNeg, Nat.reduceBEq, TY, hbr, hr0, hr1, hb0, hb1, hr2, hr3, hb2, hb3, hrb, Nat.add_assoc, Nat.left_eq_add, Nat.add_eq_left, Nat.add_left_cancel_iff]; rfl) rfl (by first | trivial | omega) ?_
    refine ⟨_, ?_, rfl, rfl, rfl⟩
    exact leL_look (by simp only [RN, ↓reduceIte, ↓get8, reduceCtorEq, Nat.reduceLT, Nat.reduceEqDiff, Nat.reduceAdd, Nat.reduceMul, Nat.reduceLeDiff, Nat.reduceSub, Int.reduceToNat, Int.reduceNeg, Nat.reduceBEq, hbr, hr0, hr1, hb0, hb1, hr2, hr3, hb2, hb3, hrb, Nat.add_assoc, Nat.left_eq_add, Nat.add_eq_left, Nat.add_left_cancel_iff]; first | done | trivial)
  · simp only [if_neg hc]
    refine pan_endK rfl ⟨_, ?_, rfl, rfl, rfl⟩
    exact leL_look (by simp only [RN, ↓reduceIte, ↓get8, reduceCtorEq, Nat.reduceLT, Nat.reduceEqDiff, Nat.reduceAdd, Nat.reduceMul, Nat.reduceLeDiff, Nat.reduceSub, Int.reduceToNat, Int.reduceNeg, Nat.reduceBEq, hbr, hr0, hr1, hb0, hb1, hr2, hr3, hb2, hb3, hrb, Nat.add_assoc, Nat.left_eq_add, Nat.add_eq_left, Nat.add_left_cancel_iff]; first | done | trivial)
end Go.Proofs.Ytoihmanhldcjhaa.Id
namespace Go.Proofs.Ytoihmanhldcjhaa.Id
open Go Go.Proofs.Ytoihmanhldcjhaa.Rl
set_option linter.unusedSimpArgs false
set_option linter.unusedVariables false
def kE (bs : List UInt8) (i : Nat) : Int × Int := ofS (le ((bs.drop (2 + 35 * i + 27)).take 8))
def kX (bs : List UInt8) (i : Nat) : Kd := kdAt bs (2 + 35 * i) (kE bs i)
def wU (bs : List UInt8) (a : Nat) : Nat := le ((bs.drop (a + 5)).take 1)
def wS (bs : List UInt8) (a : Nat) : Int × Int := ofS (le ((bs.drop (a + 6)).take 8))
def wE (bs : List UInt8) (a : Nat) : Int × Int := if 1 < wU bs a then (3, ((a + 5 : Nat) : Int)) else ((wS bs a).2, ((a + 6 : Nat) : Int))
def wX (bs : List UInt8) (a : Nat) : Wp := wpAt bs a (wU bs a) (wS bs a)
def wsF (bs : List UInt8) (m j : Nat) : List Wp := (List.range j).map fun x => wX bs (2 + 35 * m + 14 * x)
def decB (bs : List UInt8) (ln : Nat) : List Kd × List Wp × Int × Int :=
  if ln < 2 then ([], [], 2, ln) else
  if ln < 2 + 35 * le ((bs.drop 0).take 1) + 14 * le ((bs.drop 1).take 1) then ([], [], 2, ln) else
  if 2 + 35 * le ((bs.drop 0).take 1) + 14 * le ((bs.drop 1).take 1) < ln then ([], [], 7, (2 + 35 * le ((bs.drop 0).take 1) + 14 * le ((bs.drop 1).take 1) : Nat)) else
  match (List.range (le ((bs.drop 0).take 1))).find? fun i => decide ((kE bs i).2 ≠ 0) with
  | some i => ([], [], (kE bs i).2, (2 + 35 * i + 27 : Nat))
  | none => match (List.range (le ((bs.drop 1).take 1))).find? fun i => decide ((wE bs (2 + 35 * le ((bs.drop 0).take 1) + 14 * i)).1 ≠ 0) with
    | some i => ([], [], wE bs (2 + 35 * le ((bs.drop 0).take 1) + 14 * i))
    | none =>
      let ks := (List.range (le ((bs.drop 0).take 1))).map (kX bs)
      let ws := wsF bs (le ((bs.drop 0).take 1)) (le ((bs.drop 1).take 1))
      if (checkB ks ws).1 = 0 then (ks, ws, 0, 0) else ([], [], checkB ks ws)
structure Rd where
  bs : List UInt8
  ln : Nat
  oq : Option Nat
  cp : Nat
  ro : Bool
  loose : Bool
def Rd.val (R : Rd) : Value := slv R.oq R.ln R.cp
def Rd.H (R : Rd) : Hp := match R.oq with
  | none => []
  | some q => [(q, ⟨bys R.bs, 5, 1, R.ro, R.loose⟩)]
structure Rd.Good (R : Rd) (nx : Nat) : Prop where
  hl : R.ln ≤ R.bs.length ∧ R.ln ≤ 1000000
  h0 : R.oq = none → R.ln = 0
  hq : ∀ q, R.oq = some q → q < nx
  hc : R.ln ≤ R.cp
def decK (bs : List UInt8) (ln : Nat) (H : Hp) (nx : Nat) : Out → Hp → Nat → Prop := fun o F' nx' =>
  ∃ B : Bk, B.ks = (decB bs ln).1 ∧ B.ws = (decB bs ln).2.1 ∧ B.Good nx' ∧ (B.kx = [] ∧ B.wx = [] ∧ B.ro = false ∧ B.loose = true) ∧ (∀ b, B.ok = some b → nx ≤ b) ∧ (∀ b, B.ow = some b → nx ≤ b) ∧ nx ≤ nx' ∧
    o = .ret (.tuple #[B.val, .int .i64 (decB bs ln).2.2.1, .int .i64 (decB bs ln).2.2.2]) ∧ F' = H ++ B.H
theorem dec_err {bs : List UInt8} {ln : Nat} {H : Hp} {nx nx' : Nat} {e a : Int} (h : decB bs ln = ([], [], e, a)) (hn : nx ≤ nx') : decK bs ln H nx (.ret (.tuple #[.agg #[.slice none 0 0, .slice none 0 0], .int .i64 e, .int .i64 a])) H nx' := by
  unfold decK
  rw [h]
  exact ⟨⟨[], [], [], [], none, 0, none, 0, false, true⟩, rfl, rfl, ⟨fun _ => rfl, fun _ => rfl, by simp, by simp, nofun, nofun, nofun⟩, ⟨rfl, rfl, rfl, rfl⟩, nofun, nofun, hn, rfl, by simp [Bk.H, kblk, wpblk]⟩
theorem remN_farR (nx : Nat) (ids : List Nat) (hi : ∀ i ∈ ids, nx ≤ i) {R : Rd} (hq : ∀ q, R.oq = some q → q < nx) : remN ids R.H = R.H := by
  refine remN_farL nx ids hi fun e he => ?_
  unfold Rd.H at he
  split at he
  · cases he
  · rename_i q hq2
    rw [List.mem_singleton] at he
    subst he
    exact hq q hq2
theorem Rd.lt {R : Rd} {nx : Nat} (g : R.Good nx) : ∀ id b, look id R.H = some b → id < nx := by
  intro id b h
  unfold Rd.H at h
  split at h
  · cases h
  · rename_i q hq2
    rw [look_cons] at h
    split at h
    · rename_i e; subst e; exact g.hq _ hq2
    · cases h
theorem le1 (l : List UInt8) : le (l.take 1) < 256 := by
  have h := le_lt (l.take 1)
  have h2 : (l.take 1).length ≤ 1 := by simp; omega
  have : (256 : Nat) ^ (l.take 1).length ≤ 256 ^ 1 := Nat.pow_le_pow_right (by omega) h2
  omega
theorem remN_not (ids : List Nat) : ∀ {T0 : Hp}, (∀ e ∈ T0, ∀ i ∈ ids, ¬ e.1 = i) → remN ids T0 = T0
  | [], _ => rfl
  | (k, b) :: T0, h => by
    have : ids.contains k = false := by
      rw [List.contains_eq_mem, decide_eq_false_iff_not]
      intro hm
      exact h (k, b) (by simp) k hm rfl
    rw [remN, remN_not ids fun e he => h e (by simp [he]), hasN_eq, this]
    rfl
theorem del_not (b : Nat) : ∀ {T0 : Hp}, (∀ e ∈ T0, ¬ e.1 = b) → del b T0 = T0
  | [], _ => rfl
  | (k, x) :: T0, h => by
    have : ¬ k = b := h (k, x) (by simp)
    rw [del_cons, if_neg this, del_not b fun e he => h e (by simp [he])]
set_option maxRecDepth 100000 in
set_option maxHeartbeats 4000000 in
theorem decode_c (R : Rd) (nx : Nat) (g : R.Good nx) : CallW Try.prog 15 [R.val] R.H nx (decK R.bs R.ln R.H nx) := by
  have tl := ilen_slv (tbOf Try.prog) 34 5 (by rw [und_eq, Try.underlying34]) R.oq R.ln R.cp g.h0
  have tR := fun ids h => remN_farR nx ids h g.hq
  have tlt := Rd.lt g
  rcases R with ⟨bs, ln, oq, cp, ro, loose⟩
  obtain ⟨hl, hq0, hq, hc⟩ := g
  unfold Rd.val
  obtain ⟨T1, hT1⟩ : ∃ T1, Rd.H ⟨bs, ln, oq, cp, ro, loose⟩ = T1 := ⟨_, rfl⟩
  rw [hT1] at tR tlt ⊢
  dsimp only at tl tR tlt hl hq0 hq ⊢
  refine CallW_goD (tbOk _) 77 [.cell 2 26, .cell 3 28, .cell 4 3] Try.func15 rfl (by decide) rfl rfl (by simp) fun hlt => ?_
  simp only [params, Nat.zero_add, Nat.reduceAdd]
  cases c0 : decide ((ln : Int) < 2)
  case true =>
    skip
    have d0 : decB bs ln = ([], [], 2, (ln : Int)) := by unfold decB; rw [if_pos (by have := of_decide_eq_true c0; omega)]
    refine JS_go (tbOk _) 99 fun x hx => ?_
    simp only [RN, ↓reduceIte, ↓get8, reduceCtorEq, Nat.reduceLT, Nat.reduceEqDiff, Nat.reduceAdd, Nat.reduceMul, Nat.reduceLeDiff, Nat.reduceSub, Int.reduceToNat, Int.reduceNeg, Nat.reduceBEq, TY, ↓tl, c0, Nat.add_assoc, Nat.left_eq_add, Nat.add_eq_left, Nat.add_left_cancel_iff] at hx
    subst hx
    refine ⟨_, _, rfl, by first | trivial | omega | (simp only [and_true, true_and]; omega), ?_⟩
    refine at_cond (fun _ => ?_) (fun h => nomatch h)
    refine JS_go (tbOk _) 99 fun x hx => ?_
    simp only [RN, ↓reduceIte, ↓get8, reduceCtorEq, Nat.reduceLT, Nat.reduceEqDiff, Nat.reduceAdd, Nat.reduceMul, Nat.reduceLeDiff, Nat.reduceSub, Int.reduceToNat, Int.reduceNeg, Nat.reduceBEq, TY, ↓tl, Nat.add_assoc, Nat.left_eq_add, Nat.add_eq_left, Nat.add_left_cancel_iff] at hx
    subst hx
    refine ⟨_, _, rfl, by first | trivial | omega | (simp only [and_true, true_and]; omega), ?_⟩
    refine at_ret ?_
    refine deferQ_of (f := 29) (L := resH nx (nx + 1) (nx + 2) (.slice none 0 0) (.slice none 0 0) (.int .i64 2) (.int .i64 ln)) rfl (catch_nil nx (nx + 1) (nx + 2) (nx + 3) (.slice none 0 0) (.slice none 0 0) (.int .i64 2) (.int .i64 ln) (by omega) (by omega) (by omega)) (by unfold resH; simp only [RN, ↓reduceIte, ↓get8, reduceCtorEq, Nat.reduceLT, Nat.reduceEqDiff, Nat.reduceAdd, Nat.reduceMul, Nat.reduceLeDiff, Nat.reduceSub, Int.reduceToNat, Int.reduceNeg, Nat.reduceBEq, Nat.add_assoc, Nat.left_eq_add, Nat.add_eq_left, Nat.add_left_cancel_iff]; first | done | trivial) ?_
    rintro L' n' ⟨rfl, rfl⟩
    have rT := tR [nx, nx + 1, nx + 2] (by simp)
    refine ⟨_, _, by unfold resH; simp only [RN, ↓reduceIte, ↓get8, reduceCtorEq, Nat.reduceLT, Nat.reduceEqDiff, Nat.reduceAdd, Nat.reduceMul, Nat.reduceLeDiff, Nat.reduceSub, Int.reduceToNat, Int.reduceNeg, Nat.reduceBEq, TY, Nat.add_assoc, Nat.left_eq_add, Nat.add_eq_left, Nat.add_left_cancel_iff]; rfl, by first | trivial | omega, T1, fun id b h => ?_, dec_err d0 (by show nx ≤ nx + 3; omega)⟩
    have u0 := tlt id b h
    have w0 : ¬ id = nx := by omega
    have w1 : ¬ id = nx + 1 := by omega
    have w2 : ¬ id = nx + 2 := by omega
    simp only [RN, ↓reduceIte, ↓get8, reduceCtorEq, Nat.reduceLT, Nat.reduceEqDiff, Nat.reduceAdd, Nat.reduceMul, Nat.reduceLeDiff, Nat.reduceSub, Int.reduceToNat, Int.reduceNeg, Nat.reduceBEq, resH, rT, w0, w1, w2, Nat.add_assoc, Nat.left_eq_add, Nat.add_eq_left, Nat.add_left_cancel_iff, h]
  have c0' : 2 ≤ ln := by have := of_decide_eq_false c0; omega
  obtain ⟨q, rfl⟩ : ∃ q, oq = some q := by
    cases oq with
    | none => have := hq0 rfl; omega
    | some q => exact ⟨q, rfl⟩
  have hqn := hq q rfl
  obtain rfl : [(q, ⟨bys bs, 5, 1, ro, loose⟩)] = T1 := hT1
  clear tR tlt hq0 hq
  unfold slv
  clear tl
  obtain ⟨m, hm⟩ : ∃ m, le ((bs.drop 0).take 1) = m := ⟨_, rfl⟩
  obtain ⟨w, hw⟩ : ∃ w, le ((bs.drop 1).take 1) = w := ⟨_, rfl⟩
  have hm1 : m < 256 := by rw [← hm]; exact le1 _
  have hw1 : w < 256 := by rw [← hw]; exact le1 _
  have e1 : IntKind.i64.wrap (35 * (m : Int)) = ((35 * m : Nat) : Int) := by rw [show 35 * (m : Int) = ((35 * m : Nat) : Int) by omega]; exact wrap_i64 _ (by omega)
  have e2 : IntKind.i64.wrap (2 + ((35 * m : Nat) : Int)) = ((2 + 35 * m : Nat) : Int) := by rw [show 2 + ((35 * m : Nat) : Int) = ((2 + 35 * m : Nat) : Int) by omega]; exact wrap_i64 _ (by omega)
  have e3 : IntKind.i64.wrap (14 * (w : Int)) = ((14 * w : Nat) : Int) := by rw [show 14 * (w : Int) = ((14 * w : Nat) : Int) by omega]; exact wrap_i64 _ (by omega)
  obtain ⟨al, hal⟩ : ∃ al, 2 + 35 * m + 14 * w = al := ⟨_, rfl⟩
  have e4 : IntKind.i64.wrap (((2 + 35 * m : Nat) : Int) + ((14 * w : Nat) : Int)) = (al : Int) := by rw [show ((2 + 35 * m : Nat) : Int) + ((14 * w : Nat) : Int) = (al : Int) by omega]; exact wrap_i64 _ (by omega)
  have o1 := one_c bs ln cp 0 (nx + 3) q (nx + 4) ro loose (by omega) hl (by omega)
  have o2 := one_c bs ln cp 1 (nx + 3) q (nx + 4) ro loose (by omega) hl (by omega)
  rw [hm] at o1
  rw [hw] at o2
  unfold rdH at o1 o2
  have a0 : ¬ q = nx := by omega
  have a1 : ∀ i, ¬ q = nx + i := by intro i; omega
  have a2 : ¬ nx = q := by omega
  have a3 : ∀ i, ¬ nx + i = q := by intro i; omega
  have aq1 : ¬ nx + 3 = q := by omega
  refine JS_go (tbOk _) 99 fun x hx => ?_
  simp only [RN, ↓reduceIte, ↓get8, reduceCtorEq, Nat.reduceLT, Nat.reduceEqDiff, Nat.reduceAdd, Nat.reduceMul, Nat.reduceLeDiff, Nat.reduceSub, Int.reduceToNat, Int.reduceNeg, Nat.reduceBEq, TY, c0, a0, a1, a2, a3, aq1, Nat.add_assoc, Nat.left_eq_add, Nat.add_eq_left, Nat.add_left_cancel_iff] at hx
  subst hx
  refine ⟨_, _, rfl, by first | trivial | omega | (simp only [and_true, true_and]; omega), ?_⟩
  refine at_cond (fun h => nomatch h) (fun _ => ?_)
  refine JS_go (tbOk _) 99 fun x hx => ?_
  simp only [RN, ↓reduceIte, ↓get8, reduceCtorEq, Nat.reduceLT, Nat.reduceEqDiff, Nat.reduceAdd, Nat.reduceMul, Nat.reduceLeDiff, Nat.reduceSub, Int.reduceToNat, Int.reduceNeg, Nat.reduceBEq, TY, a0, a1, a2, a3, aq1, Nat.add_assoc, Nat.left_eq_add, Nat.add_eq_left, Nat.add_left_cancel_iff] at hx
  subst hx
  refine ⟨_, _, rfl, by first | trivial | omega | (simp only [and_true, true_and]; omega), ?_⟩
  refine at_callK (o1) (by simp only [RN, ↓reduceIte, ↓get8, reduceCtorEq, Nat.reduceLT, Nat.reduceEqDiff, Nat.reduceAdd, Nat.reduceMul, Nat.reduceLeDiff, Nat.reduceSub, Int.reduceToNat, Int.reduceNeg, Nat.reduceBEq, a0, a1, a2, a3, aq1, Nat.add_assoc, Nat.left_eq_add, Nat.add_eq_left, Nat.add_left_cancel_iff]; first | done | trivial) (by simp only [RN, ↓reduceIte, ↓get8, reduceCtorEq, Nat.reduceLT, Nat.reduceEqDiff, Nat.reduceAdd, Nat.reduceMul, Nat.reduceLeDiff, Nat.reduceSub, Int.reduceToNat, Int.reduceNeg, Nat.reduceBEq, a0, a1, a2, a3, aq1, Nat.add_assoc, Nat.left_eq_add, Nat.add_eq_left, Nat.add_left_cancel_iff]; rfl) ?_
  refine JS_go (tbOk _) 99 fun x hx => ?_
  simp only [RN, ↓reduceIte, ↓get8, reduceCtorEq, Nat.reduceLT, Nat.reduceEqDiff, Nat.reduceAdd, Nat.reduceMul, Nat.reduceLeDiff, Nat.reduceSub, Int.reduceToNat, Int.reduceNeg, Nat.reduceBEq, TY, a0, a1, a2, a3, aq1, Nat.add_assoc, Nat.left_eq_add, Nat.add_eq_left, Nat.add_left_cancel_iff] at hx
  subst hx
  refine ⟨_, _, rfl, by first | trivial | omega | (simp only [and_true, true_and]; omega), ?_⟩
  refine at_callK (o2) (by simp only [RN, ↓reduceIte, ↓get8, reduceCtorEq, Nat.reduceLT, Nat.reduceEqDiff, Nat.reduceAdd, Nat.reduceMul, Nat.reduceLeDiff, Nat.reduceSub, Int.reduceToNat, Int.reduceNeg, Nat.reduceBEq, a0, a1, a2, a3, aq1, Nat.add_assoc, Nat.left_eq_add, Nat.add_eq_left, Nat.add_left_cancel_iff]; first | done | trivial) (by simp only [RN, ↓reduceIte, ↓get8, reduceCtorEq, Nat.reduceLT, Nat.reduceEqDiff, Nat.reduceAdd, Nat.reduceMul, Nat.reduceLeDiff, Nat.reduceSub, Int.reduceToNat, Int.reduceNeg, Nat.reduceBEq, a0, a1, a2, a3, aq1, Nat.add_assoc, Nat.left_eq_add, Nat.add_eq_left, Nat.add_left_cancel_iff]; rfl) ?_
  cases c1 : decide ((ln : Int) < (al : Int))
  case true =>
    skip
    have d0 : decB bs ln = ([], [], 2, (ln : Int)) := by unfold decB; rw [hm, hw, hal, if_neg (by omega), if_pos (by have := of_decide_eq_true c1; omega)]
    refine JS_go (tbOk _) 99 fun x hx => ?_
    simp only [RN, ↓reduceIte, ↓get8, reduceCtorEq, Nat.reduceLT, Nat.reduceEqDiff, Nat.reduceAdd, Nat.reduceMul, Nat.reduceLeDiff, Nat.reduceSub, Int.reduceToNat, Int.reduceNeg, Nat.reduceBEq, TY, c1, e1, e2, e3, e4, a0, a1, a2, a3, aq1, Nat.add_assoc, Nat.left_eq_add, Nat.add_eq_left, Nat.add_left_cancel_iff] at hx
    subst hx
    refine ⟨_, _, rfl, by first | trivial | omega | (simp only [and_true, true_and]; omega), ?_⟩
    refine at_cond (fun _ => ?_) (fun h => nomatch h)
    refine JS_go (tbOk _) 99 fun x hx => ?_
    simp only [RN, ↓reduceIte, ↓get8, reduceCtorEq, Nat.reduceLT, Nat.reduceEqDiff, Nat.reduceAdd, Nat.reduceMul, Nat.reduceLeDiff, Nat.reduceSub, Int.reduceToNat, Int.reduceNeg, Nat.reduceBEq, TY, a0, a1, a2, a3, aq1, Nat.add_assoc, Nat.left_eq_add, Nat.add_eq_left, Nat.add_left_cancel_iff] at hx
    subst hx
    refine ⟨_, _, rfl, by first | trivial | omega | (simp only [and_true, true_and]; omega), ?_⟩
    refine at_ret ?_
    refine deferQ_of (f := 29) (L := resH nx (nx + 1) (nx + 2) (.slice none 0 0) (.slice none 0 0) (.int .i64 2) (.int .i64 ln)) rfl (catch_nil nx (nx + 1) (nx + 2) (nx + 4) (.slice none 0 0) (.slice none 0 0) (.int .i64 2) (.int .i64 ln) (by omega) (by omega) (by omega)) (by unfold resH; simp only [RN, ↓reduceIte, ↓get8, reduceCtorEq, Nat.reduceLT, Nat.reduceEqDiff, Nat.reduceAdd, Nat.reduceMul, Nat.reduceLeDiff, Nat.reduceSub, Int.reduceToNat, Int.reduceNeg, Nat.reduceBEq, a0, a1, a2, a3, aq1, Nat.add_assoc, Nat.left_eq_add, Nat.add_eq_left, Nat.add_left_cancel_iff]; first | done | trivial) ?_
    rintro L' n' ⟨rfl, rfl⟩
    refine ⟨_, _, by unfold resH; simp only [RN, ↓reduceIte, ↓get8, reduceCtorEq, Nat.reduceLT, Nat.reduceEqDiff, Nat.reduceAdd, Nat.reduceMul, Nat.reduceLeDiff, Nat.reduceSub, Int.reduceToNat, Int.reduceNeg, Nat.reduceBEq, TY, keepFr, a0, a1, a2, a3, aq1, Nat.add_assoc, Nat.left_eq_add, Nat.add_eq_left, Nat.add_left_cancel_iff]; rfl, by first | trivial | omega, [(q, ⟨bys bs, 5, 1, ro, loose⟩)], leL_look (by unfold resH; simp only [RN, ↓reduceIte, ↓get8, reduceCtorEq, Nat.reduceLT, Nat.reduceEqDiff, Nat.reduceAdd, Nat.reduceMul, Nat.reduceLeDiff, Nat.reduceSub, Int.reduceToNat, Int.reduceNeg, Nat.reduceBEq, a0, a1, a2, a3, aq1, Nat.add_assoc, Nat.left_eq_add, Nat.add_eq_left, Nat.add_left_cancel_iff]; first | done | trivial), dec_err d0 (by show nx ≤ nx + 4; omega)⟩
  cases c2 : decide ((ln : Int) > (al : Int))
  case true =>
    skip
    have d0 : decB bs ln = ([], [], 7, (al : Int)) := by unfold decB; rw [hm, hw, hal, if_neg (by omega), if_neg (by have := of_decide_eq_false c1; omega), if_pos (by have := of_decide_eq_true c2; omega)]
    refine JS_go (tbOk _) 99 fun x hx => ?_
    simp only [RN, ↓reduceIte, ↓get8, reduceCtorEq, Nat.reduceLT, Nat.reduceEqDiff, Nat.reduceAdd, Nat.reduceMul, Nat.reduceLeDiff, Nat.reduceSub, Int.reduceToNat, Int.reduceNeg, Nat.reduceBEq, TY, c1, c2, e1, e2, e3, e4, a0, a1, a2, a3, aq1, Nat.add_assoc, Nat.left_eq_add, Nat.add_eq_left, Nat.add_left_cancel_iff] at hx
    subst hx
    refine ⟨_, _, rfl, by first | trivial | omega | (simp only [and_true, true_and]; omega), ?_⟩
    refine at_cond (fun h => nomatch h) (fun _ => ?_)
    refine JS_go (tbOk _) 99 fun x hx => ?_
    simp only [RN, ↓reduceIte, ↓get8, reduceCtorEq, Nat.reduceLT, Nat.reduceEqDiff, Nat.reduceAdd, Nat.reduceMul, Nat.reduceLeDiff, Nat.reduceSub, Int.reduceToNat, Int.reduceNeg, Nat.reduceBEq, TY, c1, c2, e1, e2, e3, e4, a0, a1, a2, a3, aq1, Nat.add_assoc, Nat.left_eq_add, Nat.add_eq_left, Nat.add_left_cancel_iff] at hx
    subst hx
    refine ⟨_, _, rfl, by first | trivial | omega | (simp only [and_true, true_and]; omega), ?_⟩
    refine at_cond (fun _ => ?_) (fun h => nomatch h)
    refine JS_go (tbOk _) 99 fun x hx => ?_
    simp only [RN, ↓reduceIte, ↓get8, reduceCtorEq, Nat.reduceLT, Nat.reduceEqDiff, Nat.reduceAdd, Nat.reduceMul, Nat.reduceLeDiff, Nat.reduceSub, Int.reduceToNat, Int.reduceNeg, Nat.reduceBEq, TY, a0, a1, a2, a3, aq1, Nat.add_assoc, Nat.left_eq_add, Nat.add_eq_left, Nat.add_left_cancel_iff] at hx
    subst hx
    refine ⟨_, _, rfl, by first | trivial | omega | (simp only [and_true, true_and]; omega), ?_⟩
    refine at_ret ?_
    refine deferQ_of (f := 29) (L := resH nx (nx + 1) (nx + 2) (.slice none 0 0) (.slice none 0 0) (.int .i64 7) (.int .i64 al)) rfl (catch_nil nx (nx + 1) (nx + 2) (nx + 4) (.slice none 0 0) (.slice none 0 0) (.int .i64 7) (.int .i64 al) (by omega) (by omega) (by omega)) (by unfold resH; simp only [RN, ↓reduceIte, ↓get8, reduceCtorEq, Nat.reduceLT, Nat.reduceEqDiff, Nat.reduceAdd, Nat.reduceMul, Nat.reduceLeDiff, Nat.reduceSub, Int.reduceToNat, Int.reduceNeg, Nat.reduceBEq, a0, a1, a2, a3, aq1, Nat.add_assoc, Nat.left_eq_add, Nat.add_eq_left, Nat.add_left_cancel_iff]; first | done | trivial) ?_
    rintro L' n' ⟨rfl, rfl⟩
    refine ⟨_, _, by unfold resH; simp only [RN, ↓reduceIte, ↓get8, reduceCtorEq, Nat.reduceLT, Nat.reduceEqDiff, Nat.reduceAdd, Nat.reduceMul, Nat.reduceLeDiff, Nat.reduceSub, Int.reduceToNat, Int.reduceNeg, Nat.reduceBEq, TY, keepFr, a0, a1, a2, a3, aq1, Nat.add_assoc, Nat.left_eq_add, Nat.add_eq_left, Nat.add_left_cancel_iff]; rfl, by first | trivial | omega, [(q, ⟨bys bs, 5, 1, ro, loose⟩)], leL_look (by unfold resH; simp only [RN, ↓reduceIte, ↓get8, reduceCtorEq, Nat.reduceLT, Nat.reduceEqDiff, Nat.reduceAdd, Nat.reduceMul, Nat.reduceLeDiff, Nat.reduceSub, Int.reduceToNat, Int.reduceNeg, Nat.reduceBEq, a0, a1, a2, a3, aq1, Nat.add_assoc, Nat.left_eq_add, Nat.add_eq_left, Nat.add_left_cancel_iff]; first | done | trivial), dec_err d0 (by show nx ≤ nx + 4; omega)⟩
  have hall : ln = al := by have := of_decide_eq_false c1; have := of_decide_eq_false c2; omega
  refine JS_go (tbOk _) 99 fun x hx => ?_
  simp only [RN, ↓reduceIte, ↓get8, reduceCtorEq, Nat.reduceLT, Nat.reduceEqDiff, Nat.reduceAdd, Nat.reduceMul, Nat.reduceLeDiff, Nat.reduceSub, Int.reduceToNat, Int.reduceNeg, Nat.reduceBEq, TY, c1, c2, e1, e2, e3, e4, a0, a1, a2, a3, aq1, Nat.add_assoc, Nat.left_eq_add, Nat.add_eq_left, Nat.add_left_cancel_iff] at hx
  subst hx
  refine ⟨_, _, rfl, by first | trivial | omega | (simp only [and_true, true_and]; omega), ?_⟩
  refine at_cond (fun h => nomatch h) (fun _ => ?_)
  refine JS_go (tbOk _) 99 fun x hx => ?_
  simp only [RN, ↓reduceIte, ↓get8, reduceCtorEq, Nat.reduceLT, Nat.reduceEqDiff, Nat.reduceAdd, Nat.reduceMul, Nat.reduceLeDiff, Nat.reduceSub, Int.reduceToNat, Int.reduceNeg, Nat.reduceBEq, TY, c1, c2, e1, e2, e3, e4, a0, a1, a2, a3, aq1, Nat.add_assoc, Nat.left_eq_add, Nat.add_eq_left, Nat.add_left_cancel_iff] at hx
  subst hx
  refine ⟨_, _, rfl, by first | trivial | omega | (simp only [and_true, true_and]; omega), ?_⟩
  refine at_cond (fun h => nomatch h) (fun _ => ?_)
  refine JS_go (tbOk _) 99 fun x hx => ?_
  simp only [RN, ↓reduceIte, ↓get8, reduceCtorEq, Nat.reduceLT, Nat.reduceEqDiff, Nat.reduceAdd, Nat.reduceMul, Nat.reduceLeDiff, Nat.reduceSub, Int.reduceToNat, Int.reduceNeg, Nat.reduceBEq, TY, a0, a1, a2, a3, aq1, Nat.add_assoc, Nat.left_eq_add, Nat.add_eq_left, Nat.add_left_cancel_iff] at hx
  subst hx
  refine ⟨_, _, rfl, by first | trivial | omega | (simp only [and_true, true_and]; omega), ?_⟩
  refine at_loop ?_
  obtain ⟨B1, hB1⟩ : ∃ B1, B1 = nx + 1 := ⟨_, rfl⟩
  obtain ⟨B2, hB2⟩ : ∃ B2, B2 = nx + 2 := ⟨_, rfl⟩
  obtain ⟨r, hr⟩ : ∃ r, r = nx + 3 := ⟨_, rfl⟩
  refine JS_loopI (S := fun x : Nat × Option Nat × Nat => { n := 77, fr := [(45, .int .i64 x.1), (44, .int .i64 m), (7, .int .i64 w), (5, .pointer (some ⟨r, 0, none⟩)), (4, .pointer (some ⟨B2, 0, none⟩)), (3, .pointer (some ⟨B1, 0, none⟩)), (2, .pointer (some ⟨nx, 0, none⟩))], F := [(nx, ⟨[slv x.2.1 x.1 x.1, .slice none 0 0], 26, 2, false, false⟩), (B1, ⟨[.int .i64 0], 28, 1, false, false⟩), (B2, ⟨[.int .i64 0], 3, 1, false, false⟩), (r, ⟨[.slice (some ⟨q, 0, none⟩) ln cp, .int .i64 ((2 + 35 * x.1 : Nat) : Int)], 63, 2, false, false⟩), (q, ⟨bys bs, 5, 1, ro, loose⟩)] ++ kblk x.2.1 ((List.range x.1).map (kX bs)) false true, nx := x.2.2, ds := [{ target := .fn (.func 29) #[.pointer (some ⟨nx, 0, none⟩), .pointer (some ⟨B1, 0, none⟩), .pointer (some ⟨B2, 0, none⟩)], args := #[] }] })
    (fun p => p.1 ≤ m ∧ nx + 4 ≤ p.2.2 ∧ (p.2.1 = none → p.1 = 0) ∧ (∀ b, p.2.1 = some b → nx + 4 ≤ b ∧ b < p.2.2) ∧ ∀ j, j < p.1 → (kE bs j).2 = 0) (fun x => m - x.1) (0, none, nx + 4) ⟨Nat.zero_le _, Nat.le_refl _, fun _ => rfl, nofun, fun j hj => absurd hj (Nat.not_lt_zero j)⟩ ?_ ?_
  · subst hB1 hB2 hr
    exact le_of rfl (by simp only [RN, ↓reduceIte, ↓get8, reduceCtorEq, Nat.reduceLT, Nat.reduceEqDiff, Nat.reduceAdd, Nat.reduceMul, Nat.reduceLeDiff, Nat.reduceSub, Int.reduceToNat, Int.reduceNeg, Nat.reduceBEq]; first | done | trivial) (by simp only [RN, ↓reduceIte, ↓get8, reduceCtorEq, Nat.reduceLT, Nat.reduceEqDiff, Nat.reduceAdd, Nat.reduceMul, Nat.reduceLeDiff, Nat.reduceSub, Int.reduceToNat, Int.reduceNeg, Nat.reduceBEq, slv, kblk, a0, a1, a2, a3, aq1, Nat.add_assoc, Nat.left_eq_add, Nat.add_eq_left, Nat.add_left_cancel_iff]; first | done | trivial) (Nat.le_refl _) rfl
  rintro ⟨i, o, n⟩ ⟨hi, hn, hno, hso, hgood⟩
  dsimp only at hi hn hno hso hgood ⊢
  have hw3 : IntKind.i64.wrap ((i : Int) + 1) = ((i + 1 : Nat) : Int) := wrap_i64 (i + 1) (by omega)
  refine JS_go (tbOk _) 99 fun x hx => ?_
  simp only [RN, ↓reduceIte, ↓get8, reduceCtorEq, Nat.reduceLT, Nat.reduceEqDiff, Nat.reduceAdd, Nat.reduceMul, Nat.reduceLeDiff, Nat.reduceSub, Int.reduceToNat, Int.reduceNeg, Nat.reduceBEq, TY] at hx
  subst hx
  refine ⟨_, _, rfl, by first | trivial | omega | (simp only [and_true, true_and]; omega), ?_⟩
  refine at_cond (fun hlt2 => ?_) (fun hge => ?_)
  · have hlt3 : i < m := by simpa using hlt2
    have hK := rkind_c bs ln cp (2 + 35 * i) r q n ro loose (by omega) hl (by omega) (by omega) (by omega) (kE bs i) rfl
    obtain ⟨k, hk⟩ : ∃ k, kX bs i = k := ⟨_, rfl⟩
    rw [show kdAt bs (2 + 35 * i) (kE bs i) = k from hk] at hK
    obtain ⟨at_, hat⟩ : ∃ at_, 2 + 35 * i = at_ := ⟨_, rfl⟩
    rw [hat] at hK ⊢
    have hat2 : at_ + 35 = 2 + 35 * (i + 1) := by omega
    rw [hat2] at hK
    obtain ⟨a2, ha2⟩ : ∃ a2, 2 + 35 * (i + 1) = a2 := ⟨_, rfl⟩
    rw [ha2] at hK
    unfold rdH at hK
    cases o with
    | none =>
      obtain rfl := hno rfl
      have g0 : ¬ nx = B1 := by omega
      have g1 : ¬ nx = B2 := by omega
      have g2 : ¬ nx = r := by omega
      have g3 : ¬ nx = q := by omega
      have g4 : ¬ nx = n := by omega
      have g5 : ∀ i, ¬ nx = n + i := by intro i; omega
      have g6 : ¬ n = nx := by omega
      have g7 : ∀ i, ¬ n + i = nx := by intro i; omega
      have g8 : ¬ B1 = nx := by omega
      have g9 : ¬ B1 = B2 := by omega
      have g10 : ¬ B1 = r := by omega
      have g11 : ¬ B1 = q := by omega
      have g12 : ¬ B1 = n := by omega
      have g13 : ∀ i, ¬ B1 = n + i := by intro i; omega
      have g14 : ¬ n = B1 := by omega
      have g15 : ∀ i, ¬ n + i = B1 := by intro i; omega
      have g16 : ¬ B2 = nx := by omega
      have g17 : ¬ B2 = B1 := by omega
      have g18 : ¬ B2 = r := by omega
      have g19 : ¬ B2 = q := by omega
      have g20 : ¬ B2 = n := by omega
      have g21 : ∀ i, ¬ B2 = n + i := by intro i; omega
      have g22 : ¬ n = B2 := by omega
      have g23 : ∀ i, ¬ n + i = B2 := by intro i; omega
      have g24 : ¬ r = nx := by omega
      have g25 : ¬ r = B1 := by omega
      have g26 : ¬ r = B2 := by omega
      have g27 : ¬ r = q := by omega
      have g28 : ¬ r = n := by omega
      have g29 : ∀ i, ¬ r = n + i := by intro i; omega
      have g30 : ¬ n = r := by omega
      have g31 : ∀ i, ¬ n + i = r := by intro i; omega
      have g32 : ¬ q = nx := by omega
      have g33 : ¬ q = B1 := by omega
      have g34 : ¬ q = B2 := by omega
      have g35 : ¬ q = r := by omega
      have g36 : ¬ q = n := by omega
      have g37 : ∀ i, ¬ q = n + i := by intro i; omega
      have g38 : ¬ n = q := by omega
      have g39 : ∀ i, ¬ n + i = q := by intro i; omega
      simp only [slv, kblk]
      refine JS_go (tbOk _) 99 fun x hx => ?_
      simp only [RN, ↓reduceIte, ↓get8, reduceCtorEq, Nat.reduceLT, Nat.reduceEqDiff, Nat.reduceAdd, Nat.reduceMul, Nat.reduceLeDiff, Nat.reduceSub, Int.reduceToNat, Int.reduceNeg, Nat.reduceBEq, TY, g0, g1, g2, g3, g4, g5, g6, g7, g8, g9, g10, g11, g12, g13, g14, g15, g16, g17, g18, g19, g20, g21, g22, g23, g24, g25, g26, g27, g28, g29, g30, g31, g32, g33, g34, g35, g36, g37, g38, g39, Nat.add_assoc, Nat.left_eq_add, Nat.add_eq_left, Nat.add_left_cancel_iff] at hx
      subst hx
      refine ⟨_, _, rfl, by first | trivial | omega | (simp only [and_true, true_and]; omega), ?_⟩
      rw [CRJ]
      refine JS_draw (tbOk _) { wr := [(47, 0), (48, 1), (49, 2), (50, 3), (51, 4), (52, 5), (53, 6)], anc := [[], [0], [], [2], [2, 3], [0, 1, 2, 3, 4], [0, 1, 2, 3, 4, 5], [0, 1, 2, 3, 4, 5, 6]], ch := [(3, []), (4, []), (5, []), (7, [])], ac := [[0, 1, 2], [0, 1], [0, 1], [6], []], nw := [[0, 1, 2], [], [], [6], []], fl := [[], [0, 1], [0, 1], [], []] } (by kernel_rfl) (by kernel_rfl) (by kernel_rfl) ?_
      refine JS_go (tbOk _) 99 fun x hx => ?_
      simp only [RN, ↓reduceIte, ↓get8, reduceCtorEq, Nat.reduceLT, Nat.reduceEqDiff, Nat.reduceAdd, Nat.reduceMul, Nat.reduceLeDiff, Nat.reduceSub, Int.reduceToNat, Int.reduceNeg, Nat.reduceBEq, TY, g0, g1, g2, g3, g4, g5, g6, g7, g8, g9, g10, g11, g12, g13, g14, g15, g16, g17, g18, g19, g20, g21, g22, g23, g24, g25, g26, g27, g28, g29, g30, g31, g32, g33, g34, g35, g36, g37, g38, g39, Nat.add_assoc, Nat.left_eq_add, Nat.add_eq_left, Nat.add_left_cancel_iff] at hx
      subst hx
      refine ⟨_, _, rfl, by first | trivial | omega | (simp only [and_true, true_and]; omega), ?_⟩
      refine at_dcallG hK (by simp only [RN, ↓reduceIte, ↓get8, reduceCtorEq, Nat.reduceLT, Nat.reduceEqDiff, Nat.reduceAdd, Nat.reduceMul, Nat.reduceLeDiff, Nat.reduceSub, Int.reduceToNat, Int.reduceNeg, Nat.reduceBEq, g0, g1, g2, g3, g4, g5, g6, g7, g8, g9, g10, g11, g12, g13, g14, g15, g16, g17, g18, g19, g20, g21, g22, g23, g24, g25, g26, g27, g28, g29, g30, g31, g32, g33, g34, g35, g36, g37, g38, g39, Nat.add_assoc, Nat.left_eq_add, Nat.add_eq_left, Nat.add_left_cancel_iff]; first | done | trivial) ?_
      rintro o2 L' n2 ⟨rfl, rfl, rfl⟩
      unfold okOr
      by_cases hc : (kE bs 0).2 = 0
      · simp only [if_pos hc]
        have v2 : k.cells = kcells ((List.range (0 + 1)).map (kX bs)) := by rw [← hk]; simp [kcells]
        unfold Kd.cells at v2
        refine JS_go (tbOk _) 99 fun x hx => ?_
        simp only [RN, ↓reduceIte, ↓get8, reduceCtorEq, Nat.reduceLT, Nat.reduceEqDiff, Nat.reduceAdd, Nat.reduceMul, Nat.reduceLeDiff, Nat.reduceSub, Int.reduceToNat, Int.reduceNeg, Nat.reduceBEq, TY, Kd.cells, hw3, g0, g1, g2, g3, g4, g5, g6, g7, g8, g9, g10, g11, g12, g13, g14, g15, g16, g17, g18, g19, g20, g21, g22, g23, g24, g25, g26, g27, g28, g29, g30, g31, g32, g33, g34, g35, g36, g37, g38, g39, Nat.add_assoc, Nat.left_eq_add, Nat.add_eq_left, Nat.add_left_cancel_iff] at hx
        subst hx
        refine ⟨_, _, rfl, by first | trivial | omega | (simp only [and_true, true_and]; omega), ?_⟩
        refine at_done (in_nextI (0 + 1, some (n + 3), n + 4) ⟨hlt3, by show nx + 4 ≤ n + 4; omega, nofun, fun c hc => ?_, fun j hj => ?_⟩ (by show m - (0 + 1) < m - 0; omega) ?_)
        · cases hc; exact ⟨by omega, by show n + 3 < n + 4; omega⟩
        · rcases Nat.lt_or_ge j 0 with h | h
          · exact hgood j h
          · obtain rfl : j = 0 := by have : j < 0 + 1 := hj; omega
            exact hc
        · dsimp only
          rw [ha2]
          exact le_of rfl (by simp only [RN, ↓reduceIte, ↓get8, reduceCtorEq, Nat.reduceLT, Nat.reduceEqDiff, Nat.reduceAdd, Nat.reduceMul, Nat.reduceLeDiff, Nat.reduceSub, Int.reduceToNat, Int.reduceNeg, Nat.reduceBEq]; first | done | trivial) (by simp only [RN, ↓reduceIte, ↓get8, reduceCtorEq, Nat.reduceLT, Nat.reduceEqDiff, Nat.reduceAdd, Nat.reduceMul, Nat.reduceLeDiff, Nat.reduceSub, Int.reduceToNat, Int.reduceNeg, Nat.reduceBEq, slv, kblk, v2, g0, g1, g2, g3, g4, g5, g6, g7, g8, g9, g10, g11, g12, g13, g14, g15, g16, g17, g18, g19, g20, g21, g22, g23, g24, g25, g26, g27, g28, g29, g30, g31, g32, g33, g34, g35, g36, g37, g38, g39, Nat.add_assoc, Nat.left_eq_add, Nat.add_eq_left, Nat.add_left_cancel_iff]; first | done | trivial) (Nat.le_refl _) rfl
      · simp only [if_neg hc]
        have hfd : (List.range m).find? (fun i => decide ((kE bs i).2 ≠ 0)) = some 0 := by
          rw [List.find?_range_eq_some]
          exact ⟨by simpa using hc, by simpa using hlt3, fun j hj => by simpa using hgood j hj⟩
        have d0 : decB bs ln = ([], [], (kE bs 0).2, ((at_ + 27 : Nat) : Int)) := by
          unfold decB
          rw [hm, hw, hal, if_neg (by omega), if_neg (by omega), if_neg (by omega), hfd, ← hat]
        refine in_panI ?_
        refine deferQ_of (f := 29) (L := resH nx B1 B2 (.slice none 0 0) (.slice none 0 0) (.int .i64 0) (.int .i64 0)) rfl (catch_no nx B1 B2 (n + 2) (.slice none 0 0) (.slice none 0 0) (.int .i64 0) (.int .i64 0) (kE bs 0).2 ((at_ + 27 : Nat) : Int) (by omega) (by omega) (by omega)) (by unfold resH; simp only [RN, ↓reduceIte, ↓get8, reduceCtorEq, Nat.reduceLT, Nat.reduceEqDiff, Nat.reduceAdd, Nat.reduceMul, Nat.reduceLeDiff, Nat.reduceSub, Int.reduceToNat, Int.reduceNeg, Nat.reduceBEq, g0, g1, g2, g3, g4, g5, g6, g7, g8, g9, g10, g11, g12, g13, g14, g15, g16, g17, g18, g19, g20, g21, g22, g23, g24, g25, g26, g27, g28, g29, g30, g31, g32, g33, g34, g35, g36, g37, g38, g39, Nat.add_assoc, Nat.left_eq_add, Nat.add_eq_left, Nat.add_left_cancel_iff]; first | done | trivial) ?_
        rintro L' n' ⟨rfl, rfl⟩
        refine ⟨_, _, by unfold resH; simp only [RN, ↓reduceIte, ↓get8, reduceCtorEq, Nat.reduceLT, Nat.reduceEqDiff, Nat.reduceAdd, Nat.reduceMul, Nat.reduceLeDiff, Nat.reduceSub, Int.reduceToNat, Int.reduceNeg, Nat.reduceBEq, TY, keepFr, g0, g1, g2, g3, g4, g5, g6, g7, g8, g9, g10, g11, g12, g13, g14, g15, g16, g17, g18, g19, g20, g21, g22, g23, g24, g25, g26, g27, g28, g29, g30, g31, g32, g33, g34, g35, g36, g37, g38, g39, Nat.add_assoc, Nat.left_eq_add, Nat.add_eq_left, Nat.add_left_cancel_iff]; rfl, by first | trivial | omega, [(q, ⟨bys bs, 5, 1, ro, loose⟩)], leL_look (by unfold resH; simp only [RN, ↓reduceIte, ↓get8, reduceCtorEq, Nat.reduceLT, Nat.reduceEqDiff, Nat.reduceAdd, Nat.reduceMul, Nat.reduceLeDiff, Nat.reduceSub, Int.reduceToNat, Int.reduceNeg, Nat.reduceBEq, g0, g1, g2, g3, g4, g5, g6, g7, g8, g9, g10, g11, g12, g13, g14, g15, g16, g17, g18, g19, g20, g21, g22, g23, g24, g25, g26, g27, g28, g29, g30, g31, g32, g33, g34, g35, g36, g37, g38, g39, Nat.add_assoc, Nat.left_eq_add, Nat.add_eq_left, Nat.add_left_cancel_iff]; first | done | trivial), dec_err d0 (by show nx ≤ n + 2 + 1; omega)⟩
    | some b =>
      obtain ⟨hb1, hb2⟩ := hso b rfl
      have g0 : ¬ nx = B1 := by omega
      have g1 : ¬ nx = B2 := by omega
      have g2 : ¬ nx = r := by omega
      have g3 : ¬ nx = q := by omega
      have g4 : ¬ nx = b := by omega
      have g5 : ¬ nx = n := by omega
      have g6 : ∀ i, ¬ nx = n + i := by intro i; omega
      have g7 : ¬ n = nx := by omega
      have g8 : ∀ i, ¬ n + i = nx := by intro i; omega
      have g9 : ¬ B1 = nx := by omega
      have g10 : ¬ B1 = B2 := by omega
      have g11 : ¬ B1 = r := by omega
      have g12 : ¬ B1 = q := by omega
      have g13 : ¬ B1 = b := by omega
      have g14 : ¬ B1 = n := by omega
      have g15 : ∀ i, ¬ B1 = n + i := by intro i; omega
      have g16 : ¬ n = B1 := by omega
      have g17 : ∀ i, ¬ n + i = B1 := by intro i; omega
      have g18 : ¬ B2 = nx := by omega
      have g19 : ¬ B2 = B1 := by omega
      have g20 : ¬ B2 = r := by omega
      have g21 : ¬ B2 = q := by omega
      have g22 : ¬ B2 = b := by omega
      have g23 : ¬ B2 = n := by omega
      have g24 : ∀ i, ¬ B2 = n + i := by intro i; omega
      have g25 : ¬ n = B2 := by omega
      have g26 : ∀ i, ¬ n + i = B2 := by intro i; omega
      have g27 : ¬ r = nx := by omega
      have g28 : ¬ r = B1 := by omega
      have g29 : ¬ r = B2 := by omega
      have g30 : ¬ r = q := by omega
      have g31 : ¬ r = b := by omega
      have g32 : ¬ r = n := by omega
      have g33 : ∀ i, ¬ r = n + i := by intro i; omega
      have g34 : ¬ n = r := by omega
      have g35 : ∀ i, ¬ n + i = r := by intro i; omega
      have g36 : ¬ q = nx := by omega
      have g37 : ¬ q = B1 := by omega
      have g38 : ¬ q = B2 := by omega
      have g39 : ¬ q = r := by omega
      have g40 : ¬ q = b := by omega
      have g41 : ¬ q = n := by omega
      have g42 : ∀ i, ¬ q = n + i := by intro i; omega
      have g43 : ¬ n = q := by omega
      have g44 : ∀ i, ¬ n + i = q := by intro i; omega
      have g45 : ¬ b = nx := by omega
      have g46 : ¬ b = B1 := by omega
      have g47 : ¬ b = B2 := by omega
      have g48 : ¬ b = r := by omega
      have g49 : ¬ b = q := by omega
      have g50 : ¬ b = n := by omega
      have g51 : ∀ i, ¬ b = n + i := by intro i; omega
      have g52 : ¬ n = b := by omega
      have g53 : ∀ i, ¬ n + i = b := by intro i; omega
      simp only [slv, kblk]
      refine JS_go (tbOk _) 99 fun x hx => ?_
      simp only [RN, ↓reduceIte, ↓get8, reduceCtorEq, Nat.reduceLT, Nat.reduceEqDiff, Nat.reduceAdd, Nat.reduceMul, Nat.reduceLeDiff, Nat.reduceSub, Int.reduceToNat, Int.reduceNeg, Nat.reduceBEq, TY, g0, g1, g2, g3, g4, g5, g6, g7, g8, g9, g10, g11, g12, g13, g14, g15, g16, g17, g18, g19, g20, g21, g22, g23, g24, g25, g26, g27, g28, g29, g30, g31, g32, g33, g34, g35, g36, g37, g38, g39, g40, g41, g42, g43, g44, g45, g46, g47, g48, g49, g50, g51, g52, g53, Nat.add_assoc, Nat.left_eq_add, Nat.add_eq_left, Nat.add_left_cancel_iff] at hx
      subst hx
      refine ⟨_, _, rfl, by first | trivial | omega | (simp only [and_true, true_and]; omega), ?_⟩
      rw [CRJ]
      refine JS_draw (tbOk _) { wr := [(47, 0), (48, 1), (49, 2), (50, 3), (51, 4), (52, 5), (53, 6)], anc := [[], [0], [], [2], [2, 3], [0, 1, 2, 3, 4], [0, 1, 2, 3, 4, 5], [0, 1, 2, 3, 4, 5, 6]], ch := [(3, []), (4, []), (5, []), (7, [])], ac := [[0, 1, 2], [0, 1], [0, 1], [6], []], nw := [[0, 1, 2], [], [], [6], []], fl := [[], [0, 1], [0, 1], [], []] } (by kernel_rfl) (by kernel_rfl) (by kernel_rfl) ?_
      refine JS_go (tbOk _) 99 fun x hx => ?_
      simp only [RN, ↓reduceIte, ↓get8, reduceCtorEq, Nat.reduceLT, Nat.reduceEqDiff, Nat.reduceAdd, Nat.reduceMul, Nat.reduceLeDiff, Nat.reduceSub, Int.reduceToNat, Int.reduceNeg, Nat.reduceBEq, TY, g0, g1, g2, g3, g4, g5, g6, g7, g8, g9, g10, g11, g12, g13, g14, g15, g16, g17, g18, g19, g20, g21, g22, g23, g24, g25, g26, g27, g28, g29, g30, g31, g32, g33, g34, g35, g36, g37, g38, g39, g40, g41, g42, g43, g44, g45, g46, g47, g48, g49, g50, g51, g52, g53, Nat.add_assoc, Nat.left_eq_add, Nat.add_eq_left, Nat.add_left_cancel_iff] at hx
      subst hx
      refine ⟨_, _, rfl, by first | trivial | omega | (simp only [and_true, true_and]; omega), ?_⟩
      refine at_dcallG hK (by simp only [RN, ↓reduceIte, ↓get8, reduceCtorEq, Nat.reduceLT, Nat.reduceEqDiff, Nat.reduceAdd, Nat.reduceMul, Nat.reduceLeDiff, Nat.reduceSub, Int.reduceToNat, Int.reduceNeg, Nat.reduceBEq, g0, g1, g2, g3, g4, g5, g6, g7, g8, g9, g10, g11, g12, g13, g14, g15, g16, g17, g18, g19, g20, g21, g22, g23, g24, g25, g26, g27, g28, g29, g30, g31, g32, g33, g34, g35, g36, g37, g38, g39, g40, g41, g42, g43, g44, g45, g46, g47, g48, g49, g50, g51, g52, g53, Nat.add_assoc, Nat.left_eq_add, Nat.add_eq_left, Nat.add_left_cancel_iff]; first | done | trivial) ?_
      rintro o2 L' n2 ⟨rfl, rfl, rfl⟩
      unfold okOr
      by_cases hc : (kE bs i).2 = 0
      · simp only [if_pos hc]
        have v1 : (kcells ((List.range i).map (kX bs))).length = i * 20 := by rw [kcells_len]; simp
        have v2 : kcells ((List.range i).map (kX bs)) ++ k.cells = kcells ((List.range (i + 1)).map (kX bs)) := by rw [← hk]; simp [List.range_succ, kcells]
        have v3 : ¬ i + 1 ≤ i := by omega
        unfold Kd.cells at v2
        refine JS_go (tbOk _) 99 fun x hx => ?_
        simp only [RN, ↓reduceIte, ↓get8, reduceCtorEq, Nat.reduceLT, Nat.reduceEqDiff, Nat.reduceAdd, Nat.reduceMul, Nat.reduceLeDiff, Nat.reduceSub, Int.reduceToNat, Int.reduceNeg, Nat.reduceBEq, TY, Kd.cells, v1, v2, v3, hw3, g0, g1, g2, g3, g4, g5, g6, g7, g8, g9, g10, g11, g12, g13, g14, g15, g16, g17, g18, g19, g20, g21, g22, g23, g24, g25, g26, g27, g28, g29, g30, g31, g32, g33, g34, g35, g36, g37, g38, g39, g40, g41, g42, g43, g44, g45, g46, g47, g48, g49, g50, g51, g52, g53, Nat.add_assoc, Nat.left_eq_add, Nat.add_eq_left, Nat.add_left_cancel_iff] at hx
        subst hx
        refine ⟨_, _, rfl, by first | trivial | omega | (simp only [and_true, true_and]; omega), ?_⟩
        refine at_done (in_nextI (i + 1, some (n + 3), n + 4) ⟨hlt3, by show nx + 4 ≤ n + 4; omega, nofun, fun c hc => ?_, fun j hj => ?_⟩ (by show m - (i + 1) < m - i; omega) ?_)
        · cases hc; exact ⟨by omega, by show n + 3 < n + 4; omega⟩
        · rcases Nat.lt_or_ge j i with h | h
          · exact hgood j h
          · obtain rfl : j = i := by have : j < i + 1 := hj; omega
            exact hc
        · dsimp only
          rw [ha2]
          exact le_of rfl (by simp only [RN, ↓reduceIte, ↓get8, reduceCtorEq, Nat.reduceLT, Nat.reduceEqDiff, Nat.reduceAdd, Nat.reduceMul, Nat.reduceLeDiff, Nat.reduceSub, Int.reduceToNat, Int.reduceNeg, Nat.reduceBEq]; first | done | trivial) (by simp only [RN, ↓reduceIte, ↓get8, reduceCtorEq, Nat.reduceLT, Nat.reduceEqDiff, Nat.reduceAdd, Nat.reduceMul, Nat.reduceLeDiff, Nat.reduceSub, Int.reduceToNat, Int.reduceNeg, Nat.reduceBEq, slv, kblk, v2, g0, g1, g2, g3, g4, g5, g6, g7, g8, g9, g10, g11, g12, g13, g14, g15, g16, g17, g18, g19, g20, g21, g22, g23, g24, g25, g26, g27, g28, g29, g30, g31, g32, g33, g34, g35, g36, g37, g38, g39, g40, g41, g42, g43, g44, g45, g46, g47, g48, g49, g50, g51, g52, g53, Nat.add_assoc, Nat.left_eq_add, Nat.add_eq_left, Nat.add_left_cancel_iff]; first | done | trivial) (Nat.le_refl _) rfl
      · simp only [if_neg hc]
        have hfd : (List.range m).find? (fun i => decide ((kE bs i).2 ≠ 0)) = some i := by
          rw [List.find?_range_eq_some]
          exact ⟨by simpa using hc, by simpa using hlt3, fun j hj => by simpa using hgood j hj⟩
        have d0 : decB bs ln = ([], [], (kE bs i).2, ((at_ + 27 : Nat) : Int)) := by
          unfold decB
          rw [hm, hw, hal, if_neg (by omega), if_neg (by omega), if_neg (by omega), hfd, ← hat]
        refine in_panI ?_
        refine deferQ_of (f := 29) (L := resH nx B1 B2 (.slice (some ⟨b, 0, none⟩) i i) (.slice none 0 0) (.int .i64 0) (.int .i64 0)) rfl (catch_no nx B1 B2 (n + 2) (.slice (some ⟨b, 0, none⟩) i i) (.slice none 0 0) (.int .i64 0) (.int .i64 0) (kE bs i).2 ((at_ + 27 : Nat) : Int) (by omega) (by omega) (by omega)) (by unfold resH; simp only [RN, ↓reduceIte, ↓get8, reduceCtorEq, Nat.reduceLT, Nat.reduceEqDiff, Nat.reduceAdd, Nat.reduceMul, Nat.reduceLeDiff, Nat.reduceSub, Int.reduceToNat, Int.reduceNeg, Nat.reduceBEq, g0, g1, g2, g3, g4, g5, g6, g7, g8, g9, g10, g11, g12, g13, g14, g15, g16, g17, g18, g19, g20, g21, g22, g23, g24, g25, g26, g27, g28, g29, g30, g31, g32, g33, g34, g35, g36, g37, g38, g39, g40, g41, g42, g43, g44, g45, g46, g47, g48, g49, g50, g51, g52, g53, Nat.add_assoc, Nat.left_eq_add, Nat.add_eq_left, Nat.add_left_cancel_iff]; first | done | trivial) ?_
        rintro L' n' ⟨rfl, rfl⟩
        refine ⟨_, _, by unfold resH; simp only [RN, ↓reduceIte, ↓get8, reduceCtorEq, Nat.reduceLT, Nat.reduceEqDiff, Nat.reduceAdd, Nat.reduceMul, Nat.reduceLeDiff, Nat.reduceSub, Int.reduceToNat, Int.reduceNeg, Nat.reduceBEq, TY, keepFr, g0, g1, g2, g3, g4, g5, g6, g7, g8, g9, g10, g11, g12, g13, g14, g15, g16, g17, g18, g19, g20, g21, g22, g23, g24, g25, g26, g27, g28, g29, g30, g31, g32, g33, g34, g35, g36, g37, g38, g39, g40, g41, g42, g43, g44, g45, g46, g47, g48, g49, g50, g51, g52, g53, Nat.add_assoc, Nat.left_eq_add, Nat.add_eq_left, Nat.add_left_cancel_iff]; rfl, by first | trivial | omega, [(q, ⟨bys bs, 5, 1, ro, loose⟩)], leL_look (by unfold resH; simp only [RN, ↓reduceIte, ↓get8, reduceCtorEq, Nat.reduceLT, Nat.reduceEqDiff, Nat.reduceAdd, Nat.reduceMul, Nat.reduceLeDiff, Nat.reduceSub, Int.reduceToNat, Int.reduceNeg, Nat.reduceBEq, g0, g1, g2, g3, g4, g5, g6, g7, g8, g9, g10, g11, g12, g13, g14, g15, g16, g17, g18, g19, g20, g21, g22, g23, g24, g25, g26, g27, g28, g29, g30, g31, g32, g33, g34, g35, g36, g37, g38, g39, g40, g41, g42, g43, g44, g45, g46, g47, g48, g49, g50, g51, g52, g53, Nat.add_assoc, Nat.left_eq_add, Nat.add_eq_left, Nat.add_left_cancel_iff]; first | done | trivial), dec_err d0 (by show nx ≤ n + 2 + 1; omega)⟩
  have hi2 : i = m := by simp at hge; omega
  subst hi2
  clear hge hi
  have hf1 : (List.range i).find? (fun i => decide ((kE bs i).2 ≠ 0)) = none := by
    rw [List.find?_eq_none]
    intro j hj
    simpa using hgood j (by simpa using hj)
  obtain ⟨KS, hKS⟩ : ∃ KS, (List.range i).map (kX bs) = KS := ⟨_, rfl⟩
  have hKl : KS.length = i := by rw [← hKS]; simp
  obtain ⟨KB, hKB⟩ : ∃ KB, kblk o KS false true = KB := ⟨_, rfl⟩
  have kbn : ∀ e ∈ KB, nx + 4 ≤ e.1 ∧ e.1 < n := by
    intro e he
    rw [← hKB] at he
    cases o with
    | none => simp [kblk] at he
    | some b => simp [kblk] at he; subst he; exact hso b rfl
  have kbl : ∀ id c, look id KB = some c → nx + 4 ≤ id ∧ id < n := by
    intro id c h
    obtain ⟨e, he, rfl⟩ := List.mem_map.1 (look_mem h)
    exact kbn e he
  have kbr : ∀ ids : List Nat, (∀ i ∈ ids, i < nx + 4 ∨ n ≤ i) → remN ids KB = KB := fun ids h => remN_not ids fun e he i hi e2 => by have := kbn e he; have := h i hi; omega
  have kbd : ∀ b, n ≤ b → del b KB = KB := fun b h => del_not b fun e he e2 => by have := kbn e he; omega
  obtain ⟨KV, hKV⟩ : ∃ KV, slv o i i = KV := ⟨_, rfl⟩
  rw [hKS, hKB, hKV]
  have h0 : ¬ nx = B1 := by omega
  have h1 : ¬ nx = B2 := by omega
  have h2 : ¬ nx = r := by omega
  have h3 : ¬ nx = q := by omega
  have h4 : ¬ nx = n := by omega
  have h5 : ∀ i, ¬ nx = n + i := by intro i; omega
  have h6 : ¬ n = nx := by omega
  have h7 : ∀ i, ¬ n + i = nx := by intro i; omega
  have h8 : ¬ B1 = nx := by omega
  have h9 : ¬ B1 = B2 := by omega
  have h10 : ¬ B1 = r := by omega
  have h11 : ¬ B1 = q := by omega
  have h12 : ¬ B1 = n := by omega
  have h13 : ∀ i, ¬ B1 = n + i := by intro i; omega
  have h14 : ¬ n = B1 := by omega
  have h15 : ∀ i, ¬ n + i = B1 := by intro i; omega
  have h16 : ¬ B2 = nx := by omega
  have h17 : ¬ B2 = B1 := by omega
  have h18 : ¬ B2 = r := by omega
  have h19 : ¬ B2 = q := by omega
  have h20 : ¬ B2 = n := by omega
  have h21 : ∀ i, ¬ B2 = n + i := by intro i; omega
  have h22 : ¬ n = B2 := by omega
  have h23 : ∀ i, ¬ n + i = B2 := by intro i; omega
  have h24 : ¬ r = nx := by omega
  have h25 : ¬ r = B1 := by omega
  have h26 : ¬ r = B2 := by omega
  have h27 : ¬ r = q := by omega
  have h28 : ¬ r = n := by omega
  have h29 : ∀ i, ¬ r = n + i := by intro i; omega
  have h30 : ¬ n = r := by omega
  have h31 : ∀ i, ¬ n + i = r := by intro i; omega
  have h32 : ¬ q = nx := by omega
  have h33 : ¬ q = B1 := by omega
  have h34 : ¬ q = B2 := by omega
  have h35 : ¬ q = r := by omega
  have h36 : ¬ q = n := by omega
  have h37 : ∀ i, ¬ q = n + i := by intro i; omega
  have h38 : ¬ n = q := by omega
  have h39 : ∀ i, ¬ n + i = q := by intro i; omega
  refine JS_go (tbOk _) 99 fun x hx => ?_
  simp only [RN, ↓reduceIte, ↓get8, reduceCtorEq, Nat.reduceLT, Nat.reduceEqDiff, Nat.reduceAdd, Nat.reduceMul, Nat.reduceLeDiff, Nat.reduceSub, Int.reduceToNat, Int.reduceNeg, Nat.reduceBEq, TY] at hx
  subst hx
  refine ⟨_, _, rfl, by first | trivial | omega | (simp only [and_true, true_and]; omega), ?_⟩
  refine at_exit (in_exitI (by simp only [RN, ↓reduceIte, ↓get8, reduceCtorEq, Nat.reduceLT, Nat.reduceEqDiff, Nat.reduceAdd, Nat.reduceMul, Nat.reduceLeDiff, Nat.reduceSub, Int.reduceToNat, Int.reduceNeg, Nat.reduceBEq]; rfl) ?_)
  refine JS_go (tbOk _) 99 fun x hx => ?_
  simp only [RN, ↓reduceIte, ↓get8, reduceCtorEq, Nat.reduceLT, Nat.reduceEqDiff, Nat.reduceAdd, Nat.reduceMul, Nat.reduceLeDiff, Nat.reduceSub, Int.reduceToNat, Int.reduceNeg, Nat.reduceBEq, TY, h0, h1, h2, h3, h4, h5, h6, h7, h8, h9, h10, h11, h12, h13, h14, h15, h16, h17, h18, h19, h20, h21, h22, h23, h24, h25, h26, h27, h28, h29, h30, h31, h32, h33, h34, h35, h36, h37, h38, h39, Nat.add_assoc, Nat.left_eq_add, Nat.add_eq_left, Nat.add_left_cancel_iff] at hx
  subst hx
  refine ⟨_, _, rfl, by first | trivial | omega | (simp only [and_true, true_and]; omega), ?_⟩
  refine at_loop ?_
  refine JS_loopI (S := fun x : Nat × Option Nat × Nat => { n := 77, fr := [(56, .int .i64 x.1), (55, .int .i64 w), (7, .int .i64 w), (5, .pointer (some ⟨r, 0, none⟩)), (4, .pointer (some ⟨B2, 0, none⟩)), (3, .pointer (some ⟨B1, 0, none⟩)), (2, .pointer (some ⟨nx, 0, none⟩))], F := [(nx, ⟨[KV, slv x.2.1 x.1 x.1], 26, 2, false, false⟩), (B1, ⟨[.int .i64 0], 28, 1, false, false⟩), (B2, ⟨[.int .i64 0], 3, 1, false, false⟩), (r, ⟨[.slice (some ⟨q, 0, none⟩) ln cp, .int .i64 ((2 + 35 * i + 14 * x.1 : Nat) : Int)], 63, 2, false, false⟩), (q, ⟨bys bs, 5, 1, ro, loose⟩)] ++ (wpblk x.2.1 (wsF bs i x.1) false true ++ KB), nx := x.2.2, ds := [{ target := .fn (.func 29) #[.pointer (some ⟨nx, 0, none⟩), .pointer (some ⟨B1, 0, none⟩), .pointer (some ⟨B2, 0, none⟩)], args := #[] }] })
    (fun p => p.1 ≤ w ∧ n ≤ p.2.2 ∧ (p.2.1 = none → p.1 = 0) ∧ (∀ b, p.2.1 = some b → n ≤ b ∧ b < p.2.2) ∧ ∀ j, j < p.1 → (wE bs (2 + 35 * i + 14 * j)).1 = 0) (fun x => w - x.1) (0, none, n) ⟨Nat.zero_le _, Nat.le_refl _, fun _ => rfl, nofun, fun j hj => absurd hj (Nat.not_lt_zero j)⟩ ?_ ?_
  · exact ⟨rfl, leL_look (by simp only [RN, ↓reduceIte, ↓get8, reduceCtorEq, Nat.reduceLT, Nat.reduceEqDiff, Nat.reduceAdd, Nat.reduceMul, Nat.reduceLeDiff, Nat.reduceSub, Int.reduceToNat, Int.reduceNeg, Nat.reduceBEq]; first | done | trivial), fun id c h => h, Nat.le_refl _, rfl⟩
  rintro ⟨j, ow, n2⟩ ⟨hj, hn2, hnw, hsw, hgw⟩
  dsimp only at hj hn2 hnw hsw hgw ⊢
  have hw3 : IntKind.i64.wrap ((j : Int) + 1) = ((j + 1 : Nat) : Int) := wrap_i64 (j + 1) (by omega)
  refine JS_go (tbOk _) 99 fun x hx => ?_
  simp only [RN, ↓reduceIte, ↓get8, reduceCtorEq, Nat.reduceLT, Nat.reduceEqDiff, Nat.reduceAdd, Nat.reduceMul, Nat.reduceLeDiff, Nat.reduceSub, Int.reduceToNat, Int.reduceNeg, Nat.reduceBEq, TY] at hx
  subst hx
  refine ⟨_, _, rfl, by first | trivial | omega | (simp only [and_true, true_and]; omega), ?_⟩
  refine at_cond (fun hlt2 => ?_) (fun hge => ?_)
  · have hlt3 : j < w := by simpa using hlt2
    obtain ⟨at_, hat⟩ : ∃ at_, 2 + 35 * i + 14 * j = at_ := ⟨_, rfl⟩
    have hat2 : at_ + 14 = 2 + 35 * i + 14 * (j + 1) := by omega
    obtain ⟨a2, ha2⟩ : ∃ a2, at_ + 14 = a2 := ⟨_, rfl⟩
    have ha3 : 2 + 35 * i + 14 * (j + 1) = a2 := by omega
    have rK := kbr [r, q] (by simp; omega)
    have rK2 := kbr [nx, B1, B2] (by simp; omega)
    rw [hat]
    cases ow with
    | none =>
      obtain rfl := hnw rfl
      have g0 : ¬ nx = B1 := by omega
      have g1 : ¬ nx = B2 := by omega
      have g2 : ¬ nx = r := by omega
      have g3 : ¬ nx = q := by omega
      have g4 : ¬ nx = n2 := by omega
      have g5 : ∀ i, ¬ nx = n2 + i := by intro i; omega
      have g6 : ¬ n2 = nx := by omega
      have g7 : ∀ i, ¬ n2 + i = nx := by intro i; omega
      have g8 : ¬ B1 = nx := by omega
      have g9 : ¬ B1 = B2 := by omega
      have g10 : ¬ B1 = r := by omega
      have g11 : ¬ B1 = q := by omega
      have g12 : ¬ B1 = n2 := by omega
      have g13 : ∀ i, ¬ B1 = n2 + i := by intro i; omega
      have g14 : ¬ n2 = B1 := by omega
      have g15 : ∀ i, ¬ n2 + i = B1 := by intro i; omega
      have g16 : ¬ B2 = nx := by omega
      have g17 : ¬ B2 = B1 := by omega
      have g18 : ¬ B2 = r := by omega
      have g19 : ¬ B2 = q := by omega
      have g20 : ¬ B2 = n2 := by omega
      have g21 : ∀ i, ¬ B2 = n2 + i := by intro i; omega
      have g22 : ¬ n2 = B2 := by omega
      have g23 : ∀ i, ¬ n2 + i = B2 := by intro i; omega
      have g24 : ¬ r = nx := by omega
      have g25 : ¬ r = B1 := by omega
      have g26 : ¬ r = B2 := by omega
      have g27 : ¬ r = q := by omega
      have g28 : ¬ r = n2 := by omega
      have g29 : ∀ i, ¬ r = n2 + i := by intro i; omega
      have g30 : ¬ n2 = r := by omega
      have g31 : ∀ i, ¬ n2 + i = r := by intro i; omega
      have g32 : ¬ q = nx := by omega
      have g33 : ¬ q = B1 := by omega
      have g34 : ¬ q = B2 := by omega
      have g35 : ¬ q = r := by omega
      have g36 : ¬ q = n2 := by omega
      have g37 : ∀ i, ¬ q = n2 + i := by intro i; omega
      have g38 : ¬ n2 = q := by omega
      have g39 : ∀ i, ¬ n2 + i = q := by intro i; omega
      simp only [slv, wpblk]
      refine JS_go (tbOk _) 99 fun x hx => ?_
      simp only [RN, ↓reduceIte, ↓get8, reduceCtorEq, Nat.reduceLT, Nat.reduceEqDiff, Nat.reduceAdd, Nat.reduceMul, Nat.reduceLeDiff, Nat.reduceSub, Int.reduceToNat, Int.reduceNeg, Nat.reduceBEq, TY, g0, g1, g2, g3, g4, g5, g6, g7, g8, g9, g10, g11, g12, g13, g14, g15, g16, g17, g18, g19, g20, g21, g22, g23, g24, g25, g26, g27, g28, g29, g30, g31, g32, g33, g34, g35, g36, g37, g38, g39, Nat.add_assoc, Nat.left_eq_add, Nat.add_eq_left, Nat.add_left_cancel_iff] at hx
      subst hx
      refine ⟨_, _, rfl, by first | trivial | omega | (simp only [and_true, true_and]; omega), ?_⟩
      rw [CRJ]
      refine JS_draw (tbOk _) { wr := [(58, 0), (59, 1), (60, 2), (61, 3), (62, 4), (63, 5), (64, 6)], anc := [[], [0], [], [2], [2, 3], [0, 1, 2, 3, 4], [0, 1, 2, 3, 4, 5], [0, 1, 2, 3, 4, 5, 6]], ch := [(3, []), (4, []), (5, []), (7, [])], ac := [[0, 1, 2], [0, 1], [0, 1], [6], []], nw := [[0, 1, 2], [], [], [6], []], fl := [[], [0, 1], [0, 1], [], []] } (by kernel_rfl) (by kernel_rfl) (by kernel_rfl) ?_
      refine JS_go (tbOk _) 99 fun x hx => ?_
      simp only [RN, ↓reduceIte, ↓get8, reduceCtorEq, Nat.reduceLT, Nat.reduceEqDiff, Nat.reduceAdd, Nat.reduceMul, Nat.reduceLeDiff, Nat.reduceSub, Int.reduceToNat, Int.reduceNeg, Nat.reduceBEq, TY, g0, g1, g2, g3, g4, g5, g6, g7, g8, g9, g10, g11, g12, g13, g14, g15, g16, g17, g18, g19, g20, g21, g22, g23, g24, g25, g26, g27, g28, g29, g30, g31, g32, g33, g34, g35, g36, g37, g38, g39, Nat.add_assoc, Nat.left_eq_add, Nat.add_eq_left, Nat.add_left_cancel_iff] at hx
      subst hx
      refine ⟨_, _, rfl, by first | trivial | omega | (simp only [and_true, true_and]; omega), ?_⟩
      obtain ⟨u, hu⟩ : ∃ u, le ((bs.drop (at_ + 5)).take 1) = u := ⟨_, rfl⟩
      by_cases hu1 : 1 < u
      · have hK := rweapon_no bs ln cp at_ r q n2 ro loose (by omega) hl (by omega) (by omega) (by omega) u hu hu1
        unfold rdH at hK
        refine at_dcallG hK (by simp only [RN, ↓reduceIte, ↓get8, reduceCtorEq, Nat.reduceLT, Nat.reduceEqDiff, Nat.reduceAdd, Nat.reduceMul, Nat.reduceLeDiff, Nat.reduceSub, Int.reduceToNat, Int.reduceNeg, Nat.reduceBEq, g0, g1, g2, g3, g4, g5, g6, g7, g8, g9, g10, g11, g12, g13, g14, g15, g16, g17, g18, g19, g20, g21, g22, g23, g24, g25, g26, g27, g28, g29, g30, g31, g32, g33, g34, g35, g36, g37, g38, g39, Nat.add_assoc, Nat.left_eq_add, Nat.add_eq_left, Nat.add_left_cancel_iff]; first | done | trivial) ?_
        rintro o2 L' n4 ⟨rfl, rfl, rfl⟩
        have hwE : wE bs at_ = (3, ((at_ + 5 : Nat) : Int)) := by unfold wE; rw [show wU bs at_ = u from hu, if_pos hu1]
        have hfd : (List.range w).find? (fun x => decide ((wE bs (2 + 35 * i + 14 * x)).1 ≠ 0)) = some 0 := by
          rw [List.find?_range_eq_some]
          refine ⟨?_, by simpa using hlt3, fun x hx => by simpa using hgw x hx⟩
          rw [hat, hwE]; rfl
        have d0 : decB bs ln = ([], [], 3, ((at_ + 5 : Nat) : Int)) := by
          unfold decB
          rw [hm, hw, hal, if_neg (by omega), if_neg (by omega), if_neg (by omega), hf1]
          dsimp only
          rw [hfd]
          dsimp only
          rw [hat, hwE]
        refine in_panI ?_
        refine deferQ_of (f := 29) (L := resH nx B1 B2 (KV) (.slice none 0 0) (.int .i64 0) (.int .i64 0)) rfl (catch_no nx B1 B2 (n2 + 2) (KV) (.slice none 0 0) (.int .i64 0) (.int .i64 0) 3 ((at_ + 5 : Nat) : Int) (by omega) (by omega) (by omega)) (by unfold resH; simp only [RN, ↓reduceIte, ↓get8, reduceCtorEq, Nat.reduceLT, Nat.reduceEqDiff, Nat.reduceAdd, Nat.reduceMul, Nat.reduceLeDiff, Nat.reduceSub, Int.reduceToNat, Int.reduceNeg, Nat.reduceBEq, rK, rK2, g0, g1, g2, g3, g4, g5, g6, g7, g8, g9, g10, g11, g12, g13, g14, g15, g16, g17, g18, g19, g20, g21, g22, g23, g24, g25, g26, g27, g28, g29, g30, g31, g32, g33, g34, g35, g36, g37, g38, g39, Nat.add_assoc, Nat.left_eq_add, Nat.add_eq_left, Nat.add_left_cancel_iff]; first | done | trivial) ?_
        rintro L' n' ⟨rfl, rfl⟩
        refine ⟨_, _, by unfold resH; simp only [RN, ↓reduceIte, ↓get8, reduceCtorEq, Nat.reduceLT, Nat.reduceEqDiff, Nat.reduceAdd, Nat.reduceMul, Nat.reduceLeDiff, Nat.reduceSub, Int.reduceToNat, Int.reduceNeg, Nat.reduceBEq, TY, keepFr, rK, rK2, g0, g1, g2, g3, g4, g5, g6, g7, g8, g9, g10, g11, g12, g13, g14, g15, g16, g17, g18, g19, g20, g21, g22, g23, g24, g25, g26, g27, g28, g29, g30, g31, g32, g33, g34, g35, g36, g37, g38, g39, Nat.add_assoc, Nat.left_eq_add, Nat.add_eq_left, Nat.add_left_cancel_iff]; rfl, by first | trivial | omega, [(q, ⟨bys bs, 5, 1, ro, loose⟩)], leL_look (by unfold resH; simp only [RN, ↓reduceIte, ↓get8, reduceCtorEq, Nat.reduceLT, Nat.reduceEqDiff, Nat.reduceAdd, Nat.reduceMul, Nat.reduceLeDiff, Nat.reduceSub, Int.reduceToNat, Int.reduceNeg, Nat.reduceBEq, rK, rK2, g0, g1, g2, g3, g4, g5, g6, g7, g8, g9, g10, g11, g12, g13, g14, g15, g16, g17, g18, g19, g20, g21, g22, g23, g24, g25, g26, g27, g28, g29, g30, g31, g32, g33, g34, g35, g36, g37, g38, g39, Nat.add_assoc, Nat.left_eq_add, Nat.add_eq_left, Nat.add_left_cancel_iff]; first | done | trivial), dec_err d0 (by show nx ≤ n2 + 2 + 1; omega)⟩
      have hK := rweapon_c bs ln cp at_ r q n2 ro loose (by omega) hl (by omega) (by omega) (by omega) u hu (by omega) (wS bs at_) rfl
      have hwE : wE bs at_ = ((wS bs at_).2, ((at_ + 6 : Nat) : Int)) := by unfold wE; rw [show wU bs at_ = u from hu, if_neg hu1]
      obtain ⟨k, hk⟩ : ∃ k, wX bs at_ = k := ⟨_, rfl⟩
      rw [show wpAt bs at_ u (wS bs at_) = k from by rw [← hk, ← hu]; rfl, ha2] at hK
      unfold rdH at hK
      refine at_dcallG hK (by simp only [RN, ↓reduceIte, ↓get8, reduceCtorEq, Nat.reduceLT, Nat.reduceEqDiff, Nat.reduceAdd, Nat.reduceMul, Nat.reduceLeDiff, Nat.reduceSub, Int.reduceToNat, Int.reduceNeg, Nat.reduceBEq, g0, g1, g2, g3, g4, g5, g6, g7, g8, g9, g10, g11, g12, g13, g14, g15, g16, g17, g18, g19, g20, g21, g22, g23, g24, g25, g26, g27, g28, g29, g30, g31, g32, g33, g34, g35, g36, g37, g38, g39, Nat.add_assoc, Nat.left_eq_add, Nat.add_eq_left, Nat.add_left_cancel_iff]; first | done | trivial) ?_
      rintro o2 L' n4 ⟨rfl, rfl, rfl⟩
      unfold okOr
      by_cases hc : (wS bs at_).2 = 0
      · simp only [if_pos hc]
        have v2 : k.cells = wcells (wsF bs i (0 + 1)) := by rw [← hk, ← hat]; simp [wsF, wcells]
        unfold Wp.cells at v2
        refine JS_go (tbOk _) 99 fun x hx => ?_
        simp only [RN, ↓reduceIte, ↓get8, reduceCtorEq, Nat.reduceLT, Nat.reduceEqDiff, Nat.reduceAdd, Nat.reduceMul, Nat.reduceLeDiff, Nat.reduceSub, Int.reduceToNat, Int.reduceNeg, Nat.reduceBEq, TY, Wp.cells, hw3, rK, g0, g1, g2, g3, g4, g5, g6, g7, g8, g9, g10, g11, g12, g13, g14, g15, g16, g17, g18, g19, g20, g21, g22, g23, g24, g25, g26, g27, g28, g29, g30, g31, g32, g33, g34, g35, g36, g37, g38, g39, Nat.add_assoc, Nat.left_eq_add, Nat.add_eq_left, Nat.add_left_cancel_iff] at hx
        subst hx
        refine ⟨_, _, rfl, by first | trivial | omega | (simp only [and_true, true_and]; omega), ?_⟩
        refine at_done (in_nextI (0 + 1, some (n2 + 3), n2 + 4) ⟨hlt3, by show n ≤ n2 + 4; omega, nofun, fun c hc => ?_, fun x hx => ?_⟩ (by show w - (0 + 1) < w - 0; omega) ?_)
        · cases hc; exact ⟨by omega, by show n2 + 3 < n2 + 4; omega⟩
        · rcases Nat.lt_or_ge x 0 with h | h
          · exact hgw x h
          · obtain rfl : x = 0 := by have : x < 0 + 1 := hx; omega
            rw [hat, hwE]; exact hc
        · dsimp only
          rw [ha3]
          refine ⟨rfl, leL_look (by simp only [RN, ↓reduceIte, ↓get8, reduceCtorEq, Nat.reduceLT, Nat.reduceEqDiff, Nat.reduceAdd, Nat.reduceMul, Nat.reduceLeDiff, Nat.reduceSub, Int.reduceToNat, Int.reduceNeg, Nat.reduceBEq]; first | done | trivial), ?_, Nat.le_refl _, rfl⟩
          simp only [slv, wpblk]
          refine leT (X := [_, _, _, _, _, _]) ?_ ?_
          · simp only [RN, ↓reduceIte, ↓get8, reduceCtorEq, Nat.reduceLT, Nat.reduceEqDiff, Nat.reduceAdd, Nat.reduceMul, Nat.reduceLeDiff, Nat.reduceSub, Int.reduceToNat, Int.reduceNeg, Nat.reduceBEq, v2, rK, g0, g1, g2, g3, g4, g5, g6, g7, g8, g9, g10, g11, g12, g13, g14, g15, g16, g17, g18, g19, g20, g21, g22, g23, g24, g25, g26, g27, g28, g29, g30, g31, g32, g33, g34, g35, g36, g37, g38, g39, Nat.add_assoc, Nat.left_eq_add, Nat.add_eq_left, Nat.add_left_cancel_iff]; first | done | trivial
          · intro id c h
            have u0 := kbl id c h
            have w0 : ¬ id = nx := by omega
            have w1 : ¬ id = B1 := by omega
            have w2 : ¬ id = B2 := by omega
            have w3 : ¬ id = r := by omega
            have w4 : ¬ id = q := by omega
            have w5 : ¬ id = n2 := by omega
            have w6 : ¬ id = n2 + 2 := by omega
            have w7 : ¬ id = n2 + 3 := by omega
            simp only [RN, ↓reduceIte, ↓get8, reduceCtorEq, Nat.reduceLT, Nat.reduceEqDiff, Nat.reduceAdd, Nat.reduceMul, Nat.reduceLeDiff, Nat.reduceSub, Int.reduceToNat, Int.reduceNeg, Nat.reduceBEq, rK, w0, w1, w2, w3, w4, w5, w6, w7, g0, g1, g2, g3, g4, g5, g6, g7, g8, g9, g10, g11, g12, g13, g14, g15, g16, g17, g18, g19, g20, g21, g22, g23, g24, g25, g26, g27, g28, g29, g30, g31, g32, g33, g34, g35, g36, g37, g38, g39, Nat.add_assoc, Nat.left_eq_add, Nat.add_eq_left, Nat.add_left_cancel_iff, h]
      · simp only [if_neg hc]
        have hfd : (List.range w).find? (fun x => decide ((wE bs (2 + 35 * i + 14 * x)).1 ≠ 0)) = some 0 := by
          rw [List.find?_range_eq_some]
          refine ⟨?_, by simpa using hlt3, fun x hx => by simpa using hgw x hx⟩
          rw [hat, hwE]; simpa using hc
        have d0 : decB bs ln = ([], [], (wS bs at_).2, ((at_ + 6 : Nat) : Int)) := by
          unfold decB
          rw [hm, hw, hal, if_neg (by omega), if_neg (by omega), if_neg (by omega), hf1]
          dsimp only
          rw [hfd]
          dsimp only
          rw [hat, hwE]
        refine in_panI ?_
        refine deferQ_of (f := 29) (L := resH nx B1 B2 (KV) (.slice none 0 0) (.int .i64 0) (.int .i64 0)) rfl (catch_no nx B1 B2 (n2 + 2) (KV) (.slice none 0 0) (.int .i64 0) (.int .i64 0) (wS bs at_).2 ((at_ + 6 : Nat) : Int) (by omega) (by omega) (by omega)) (by unfold resH; simp only [RN, ↓reduceIte, ↓get8, reduceCtorEq, Nat.reduceLT, Nat.reduceEqDiff, Nat.reduceAdd, Nat.reduceMul, Nat.reduceLeDiff, Nat.reduceSub, Int.reduceToNat, Int.reduceNeg, Nat.reduceBEq, rK, rK2, g0, g1, g2, g3, g4, g5, g6, g7, g8, g9, g10, g11, g12, g13, g14, g15, g16, g17, g18, g19, g20, g21, g22, g23, g24, g25, g26, g27, g28, g29, g30, g31, g32, g33, g34, g35, g36, g37, g38, g39, Nat.add_assoc, Nat.left_eq_add, Nat.add_eq_left, Nat.add_left_cancel_iff]; first | done | trivial) ?_
        rintro L' n' ⟨rfl, rfl⟩
        refine ⟨_, _, by unfold resH; simp only [RN, ↓reduceIte, ↓get8, reduceCtorEq, Nat.reduceLT, Nat.reduceEqDiff, Nat.reduceAdd, Nat.reduceMul, Nat.reduceLeDiff, Nat.reduceSub, Int.reduceToNat, Int.reduceNeg, Nat.reduceBEq, TY, keepFr, rK, rK2, g0, g1, g2, g3, g4, g5, g6, g7, g8, g9, g10, g11, g12, g13, g14, g15, g16, g17, g18, g19, g20, g21, g22, g23, g24, g25, g26, g27, g28, g29, g30, g31, g32, g33, g34, g35, g36, g37, g38, g39, Nat.add_assoc, Nat.left_eq_add, Nat.add_eq_left, Nat.add_left_cancel_iff]; rfl, by first | trivial | omega, [(q, ⟨bys bs, 5, 1, ro, loose⟩)], leL_look (by unfold resH; simp only [RN, ↓reduceIte, ↓get8, reduceCtorEq, Nat.reduceLT, Nat.reduceEqDiff, Nat.reduceAdd, Nat.reduceMul, Nat.reduceLeDiff, Nat.reduceSub, Int.reduceToNat, Int.reduceNeg, Nat.reduceBEq, rK, rK2, g0, g1, g2, g3, g4, g5, g6, g7, g8, g9, g10, g11, g12, g13, g14, g15, g16, g17, g18, g19, g20, g21, g22, g23, g24, g25, g26, g27, g28, g29, g30, g31, g32, g33, g34, g35, g36, g37, g38, g39, Nat.add_assoc, Nat.left_eq_add, Nat.add_eq_left, Nat.add_left_cancel_iff]; first | done | trivial), dec_err d0 (by show nx ≤ n2 + 2 + 1; omega)⟩
    | some b =>
      obtain ⟨hb1, hb2⟩ := hsw b rfl
      have dK := kbd b hb1
      have g0 : ¬ nx = B1 := by omega
      have g1 : ¬ nx = B2 := by omega
      have g2 : ¬ nx = r := by omega
      have g3 : ¬ nx = q := by omega
      have g4 : ¬ nx = b := by omega
      have g5 : ¬ nx = n2 := by omega
      have g6 : ∀ i, ¬ nx = n2 + i := by intro i; omega
      have g7 : ¬ n2 = nx := by omega
      have g8 : ∀ i, ¬ n2 + i = nx := by intro i; omega
      have g9 : ¬ B1 = nx := by omega
      have g10 : ¬ B1 = B2 := by omega
      have g11 : ¬ B1 = r := by omega
      have g12 : ¬ B1 = q := by omega
      have g13 : ¬ B1 = b := by omega
      have g14 : ¬ B1 = n2 := by omega
      have g15 : ∀ i, ¬ B1 = n2 + i := by intro i; omega
      have g16 : ¬ n2 = B1 := by omega
      have g17 : ∀ i, ¬ n2 + i = B1 := by intro i; omega
      have g18 : ¬ B2 = nx := by omega
      have g19 : ¬ B2 = B1 := by omega
      have g20 : ¬ B2 = r := by omega
      have g21 : ¬ B2 = q := by omega
      have g22 : ¬ B2 = b := by omega
      have g23 : ¬ B2 = n2 := by omega
      have g24 : ∀ i, ¬ B2 = n2 + i := by intro i; omega
      have g25 : ¬ n2 = B2 := by omega
      have g26 : ∀ i, ¬ n2 + i = B2 := by intro i; omega
      have g27 : ¬ r = nx := by omega
      have g28 : ¬ r = B1 := by omega
      have g29 : ¬ r = B2 := by omega
      have g30 : ¬ r = q := by omega
      have g31 : ¬ r = b := by omega
      have g32 : ¬ r = n2 := by omega
      have g33 : ∀ i, ¬ r = n2 + i := by intro i; omega
      have g34 : ¬ n2 = r := by omega
      have g35 : ∀ i, ¬ n2 + i = r := by intro i; omega
      have g36 : ¬ q = nx := by omega
      have g37 : ¬ q = B1 := by omega
      have g38 : ¬ q = B2 := by omega
      have g39 : ¬ q = r := by omega
      have g40 : ¬ q = b := by omega
      have g41 : ¬ q = n2 := by omega
      have g42 : ∀ i, ¬ q = n2 + i := by intro i; omega
      have g43 : ¬ n2 = q := by omega
      have g44 : ∀ i, ¬ n2 + i = q := by intro i; omega
      have g45 : ¬ b = nx := by omega
      have g46 : ¬ b = B1 := by omega
      have g47 : ¬ b = B2 := by omega
      have g48 : ¬ b = r := by omega
      have g49 : ¬ b = q := by omega
      have g50 : ¬ b = n2 := by omega
      have g51 : ∀ i, ¬ b = n2 + i := by intro i; omega
      have g52 : ¬ n2 = b := by omega
      have g53 : ∀ i, ¬ n2 + i = b := by intro i; omega
      simp only [slv, wpblk]
      refine JS_go (tbOk _) 99 fun x hx => ?_
      simp only [RN, ↓reduceIte, ↓get8, reduceCtorEq, Nat.reduceLT, Nat.reduceEqDiff, Nat.reduceAdd, Nat.reduceMul, Nat.reduceLeDiff, Nat.reduceSub, Int.reduceToNat, Int.reduceNeg, Nat.reduceBEq, TY, g0, g1, g2, g3, g4, g5, g6, g7, g8, g9, g10, g11, g12, g13, g14, g15, g16, g17, g18, g19, g20, g21, g22, g23, g24, g25, g26, g27, g28, g29, g30, g31, g32, g33, g34, g35, g36, g37, g38, g39, g40, g41, g42, g43, g44, g45, g46, g47, g48, g49, g50, g51, g52, g53, Nat.add_assoc, Nat.left_eq_add, Nat.add_eq_left, Nat.add_left_cancel_iff] at hx
      subst hx
      refine ⟨_, _, rfl, by first | trivial | omega | (simp only [and_true, true_and]; omega), ?_⟩
      rw [CRJ]
      refine JS_draw (tbOk _) { wr := [(58, 0), (59, 1), (60, 2), (61, 3), (62, 4), (63, 5), (64, 6)], anc := [[], [0], [], [2], [2, 3], [0, 1, 2, 3, 4], [0, 1, 2, 3, 4, 5], [0, 1, 2, 3, 4, 5, 6]], ch := [(3, []), (4, []), (5, []), (7, [])], ac := [[0, 1, 2], [0, 1], [0, 1], [6], []], nw := [[0, 1, 2], [], [], [6], []], fl := [[], [0, 1], [0, 1], [], []] } (by kernel_rfl) (by kernel_rfl) (by kernel_rfl) ?_
      refine JS_go (tbOk _) 99 fun x hx => ?_
      simp only [RN, ↓reduceIte, ↓get8, reduceCtorEq, Nat.reduceLT, Nat.reduceEqDiff, Nat.reduceAdd, Nat.reduceMul, Nat.reduceLeDiff, Nat.reduceSub, Int.reduceToNat, Int.reduceNeg, Nat.reduceBEq, TY, g0, g1, g2, g3, g4, g5, g6, g7, g8, g9, g10, g11, g12, g13, g14, g15, g16, g17, g18, g19, g20, g21, g22, g23, g24, g25, g26, g27, g28, g29, g30, g31, g32, g33, g34, g35, g36, g37, g38, g39, g40, g41, g42, g43, g44, g45, g46, g47, g48, g49, g50, g51, g52, g53, Nat.add_assoc, Nat.left_eq_add, Nat.add_eq_left, Nat.add_left_cancel_iff] at hx
      subst hx
      refine ⟨_, _, rfl, by first | trivial | omega | (simp only [and_true, true_and]; omega), ?_⟩
      obtain ⟨u, hu⟩ : ∃ u, le ((bs.drop (at_ + 5)).take 1) = u := ⟨_, rfl⟩
      by_cases hu1 : 1 < u
      · have hK := rweapon_no bs ln cp at_ r q n2 ro loose (by omega) hl (by omega) (by omega) (by omega) u hu hu1
        unfold rdH at hK
        refine at_dcallG hK (by simp only [RN, ↓reduceIte, ↓get8, reduceCtorEq, Nat.reduceLT, Nat.reduceEqDiff, Nat.reduceAdd, Nat.reduceMul, Nat.reduceLeDiff, Nat.reduceSub, Int.reduceToNat, Int.reduceNeg, Nat.reduceBEq, g0, g1, g2, g3, g4, g5, g6, g7, g8, g9, g10, g11, g12, g13, g14, g15, g16, g17, g18, g19, g20, g21, g22, g23, g24, g25, g26, g27, g28, g29, g30, g31, g32, g33, g34, g35, g36, g37, g38, g39, g40, g41, g42, g43, g44, g45, g46, g47, g48, g49, g50, g51, g52, g53, Nat.add_assoc, Nat.left_eq_add, Nat.add_eq_left, Nat.add_left_cancel_iff]; first | done | trivial) ?_
        rintro o2 L' n4 ⟨rfl, rfl, rfl⟩
        have hwE : wE bs at_ = (3, ((at_ + 5 : Nat) : Int)) := by unfold wE; rw [show wU bs at_ = u from hu, if_pos hu1]
        have hfd : (List.range w).find? (fun x => decide ((wE bs (2 + 35 * i + 14 * x)).1 ≠ 0)) = some j := by
          rw [List.find?_range_eq_some]
          refine ⟨?_, by simpa using hlt3, fun x hx => by simpa using hgw x hx⟩
          rw [hat, hwE]; rfl
        have d0 : decB bs ln = ([], [], 3, ((at_ + 5 : Nat) : Int)) := by
          unfold decB
          rw [hm, hw, hal, if_neg (by omega), if_neg (by omega), if_neg (by omega), hf1]
          dsimp only
          rw [hfd]
          dsimp only
          rw [hat, hwE]
        refine in_panI ?_
        refine deferQ_of (f := 29) (L := resH nx B1 B2 (KV) (.slice (some ⟨b, 0, none⟩) j j) (.int .i64 0) (.int .i64 0)) rfl (catch_no nx B1 B2 (n2 + 2) (KV) (.slice (some ⟨b, 0, none⟩) j j) (.int .i64 0) (.int .i64 0) 3 ((at_ + 5 : Nat) : Int) (by omega) (by omega) (by omega)) (by unfold resH; simp only [RN, ↓reduceIte, ↓get8, reduceCtorEq, Nat.reduceLT, Nat.reduceEqDiff, Nat.reduceAdd, Nat.reduceMul, Nat.reduceLeDiff, Nat.reduceSub, Int.reduceToNat, Int.reduceNeg, Nat.reduceBEq, rK, rK2, g0, g1, g2, g3, g4, g5, g6, g7, g8, g9, g10, g11, g12, g13, g14, g15, g16, g17, g18, g19, g20, g21, g22, g23, g24, g25, g26, g27, g28, g29, g30, g31, g32, g33, g34, g35, g36, g37, g38, g39, g40, g41, g42, g43, g44, g45, g46, g47, g48, g49, g50, g51, g52, g53, Nat.add_assoc, Nat.left_eq_add, Nat.add_eq_left, Nat.add_left_cancel_iff]; first | done | trivial) ?_
        rintro L' n' ⟨rfl, rfl⟩
        refine ⟨_, _, by unfold resH; simp only [RN, ↓reduceIte, ↓get8, reduceCtorEq, Nat.reduceLT, Nat.reduceEqDiff, Nat.reduceAdd, Nat.reduceMul, Nat.reduceLeDiff, Nat.reduceSub, Int.reduceToNat, Int.reduceNeg, Nat.reduceBEq, TY, keepFr, rK, rK2, g0, g1, g2, g3, g4, g5, g6, g7, g8, g9, g10, g11, g12, g13, g14, g15, g16, g17, g18, g19, g20, g21, g22, g23, g24, g25, g26, g27, g28, g29, g30, g31, g32, g33, g34, g35, g36, g37, g38, g39, g40, g41, g42, g43, g44, g45, g46, g47, g48, g49, g50, g51, g52, g53, Nat.add_assoc, Nat.left_eq_add, Nat.add_eq_left, Nat.add_left_cancel_iff]; rfl, by first | trivial | omega, [(q, ⟨bys bs, 5, 1, ro, loose⟩)], leL_look (by unfold resH; simp only [RN, ↓reduceIte, ↓get8, reduceCtorEq, Nat.reduceLT, Nat.reduceEqDiff, Nat.reduceAdd, Nat.reduceMul, Nat.reduceLeDiff, Nat.reduceSub, Int.reduceToNat, Int.reduceNeg, Nat.reduceBEq, rK, rK2, g0, g1, g2, g3, g4, g5, g6, g7, g8, g9, g10, g11, g12, g13, g14, g15, g16, g17, g18, g19, g20, g21, g22, g23, g24, g25, g26, g27, g28, g29, g30, g31, g32, g33, g34, g35, g36, g37, g38, g39, g40, g41, g42, g43, g44, g45, g46, g47, g48, g49, g50, g51, g52, g53, Nat.add_assoc, Nat.left_eq_add, Nat.add_eq_left, Nat.add_left_cancel_iff]; first | done | trivial), dec_err d0 (by show nx ≤ n2 + 2 + 1; omega)⟩
      have hK := rweapon_c bs ln cp at_ r q n2 ro loose (by omega) hl (by omega) (by omega) (by omega) u hu (by omega) (wS bs at_) rfl
      have hwE : wE bs at_ = ((wS bs at_).2, ((at_ + 6 : Nat) : Int)) := by unfold wE; rw [show wU bs at_ = u from hu, if_neg hu1]
      obtain ⟨k, hk⟩ : ∃ k, wX bs at_ = k := ⟨_, rfl⟩
      rw [show wpAt bs at_ u (wS bs at_) = k from by rw [← hk, ← hu]; rfl, ha2] at hK
      unfold rdH at hK
      refine at_dcallG hK (by simp only [RN, ↓reduceIte, ↓get8, reduceCtorEq, Nat.reduceLT, Nat.reduceEqDiff, Nat.reduceAdd, Nat.reduceMul, Nat.reduceLeDiff, Nat.reduceSub, Int.reduceToNat, Int.reduceNeg, Nat.reduceBEq, g0, g1, g2, g3, g4, g5, g6, g7, g8, g9, g10, g11, g12, g13, g14, g15, g16, g17, g18, g19, g20, g21, g22, g23, g24, g25, g26, g27, g28, g29, g30, g31, g32, g33, g34, g35, g36, g37, g38, g39, g40, g41, g42, g43, g44, g45, g46, g47, g48, g49, g50, g51, g52, g53, Nat.add_assoc, Nat.left_eq_add, Nat.add_eq_left, Nat.add_left_cancel_iff]; first | done | trivial) ?_
      rintro o2 L' n4 ⟨rfl, rfl, rfl⟩
      unfold okOr
      by_cases hc : (wS bs at_).2 = 0
      · simp only [if_pos hc]
        have v1 : (wcells (wsF bs i j)).length = j * 6 := by rw [wcells_len]; simp [wsF]
        have v2 : wcells (wsF bs i j) ++ k.cells = wcells (wsF bs i (j + 1)) := by rw [← hk, ← hat]; simp [wsF, List.range_succ, wcells]
        have v3 : ¬ j + 1 ≤ j := by omega
        unfold Wp.cells at v2
        refine JS_go (tbOk _) 99 fun x hx => ?_
        simp only [RN, ↓reduceIte, ↓get8, reduceCtorEq, Nat.reduceLT, Nat.reduceEqDiff, Nat.reduceAdd, Nat.reduceMul, Nat.reduceLeDiff, Nat.reduceSub, Int.reduceToNat, Int.reduceNeg, Nat.reduceBEq, TY, Wp.cells, v1, v2, v3, dK, hw3, rK, g0, g1, g2, g3, g4, g5, g6, g7, g8, g9, g10, g11, g12, g13, g14, g15, g16, g17, g18, g19, g20, g21, g22, g23, g24, g25, g26, g27, g28, g29, g30, g31, g32, g33, g34, g35, g36, g37, g38, g39, g40, g41, g42, g43, g44, g45, g46, g47, g48, g49, g50, g51, g52, g53, Nat.add_assoc, Nat.left_eq_add, Nat.add_eq_left, Nat.add_left_cancel_iff] at hx
        subst hx
        refine ⟨_, _, rfl, by first | trivial | omega | (simp only [and_true, true_and]; omega), ?_⟩
        refine at_done (in_nextI (j + 1, some (n2 + 3), n2 + 4) ⟨hlt3, by show n ≤ n2 + 4; omega, nofun, fun c hc => ?_, fun x hx => ?_⟩ (by show w - (j + 1) < w - j; omega) ?_)
        · cases hc; exact ⟨by omega, by show n2 + 3 < n2 + 4; omega⟩
        · rcases Nat.lt_or_ge x j with h | h
          · exact hgw x h
          · obtain rfl : x = j := by have : x < j + 1 := hx; omega
            rw [hat, hwE]; exact hc
        · dsimp only
          rw [ha3]
          refine ⟨rfl, leL_look (by simp only [RN, ↓reduceIte, ↓get8, reduceCtorEq, Nat.reduceLT, Nat.reduceEqDiff, Nat.reduceAdd, Nat.reduceMul, Nat.reduceLeDiff, Nat.reduceSub, Int.reduceToNat, Int.reduceNeg, Nat.reduceBEq]; first | done | trivial), ?_, Nat.le_refl _, rfl⟩
          simp only [slv, wpblk]
          refine leT (X := [_, _, _, _, _, _]) ?_ ?_
          · simp only [RN, ↓reduceIte, ↓get8, reduceCtorEq, Nat.reduceLT, Nat.reduceEqDiff, Nat.reduceAdd, Nat.reduceMul, Nat.reduceLeDiff, Nat.reduceSub, Int.reduceToNat, Int.reduceNeg, Nat.reduceBEq, v2, rK, g0, g1, g2, g3, g4, g5, g6, g7, g8, g9, g10, g11, g12, g13, g14, g15, g16, g17, g18, g19, g20, g21, g22, g23, g24, g25, g26, g27, g28, g29, g30, g31, g32, g33, g34, g35, g36, g37, g38, g39, g40, g41, g42, g43, g44, g45, g46, g47, g48, g49, g50, g51, g52, g53, Nat.add_assoc, Nat.left_eq_add, Nat.add_eq_left, Nat.add_left_cancel_iff]; first | done | trivial
          · intro id c h
            have u0 := kbl id c h
            have w0 : ¬ id = nx := by omega
            have w1 : ¬ id = B1 := by omega
            have w2 : ¬ id = B2 := by omega
            have w3 : ¬ id = r := by omega
            have w4 : ¬ id = q := by omega
            have w5 : ¬ id = n2 := by omega
            have w6 : ¬ id = n2 + 2 := by omega
            have w7 : ¬ id = n2 + 3 := by omega
            have w8 : ¬ id = b := by omega
            simp only [RN, ↓reduceIte, ↓get8, reduceCtorEq, Nat.reduceLT, Nat.reduceEqDiff, Nat.reduceAdd, Nat.reduceMul, Nat.reduceLeDiff, Nat.reduceSub, Int.reduceToNat, Int.reduceNeg, Nat.reduceBEq, rK, w0, w1, w2, w3, w4, w5, w6, w7, w8, g0, g1, g2, g3, g4, g5, g6, g7, g8, g9, g10, g11, g12, g13, g14, g15, g16, g17, g18, g19, g20, g21, g22, g23, g24, g25, g26, g27, g28, g29, g30, g31, g32, g33, g34, g35, g36, g37, g38, g39, g40, g41, g42, g43, g44, g45, g46, g47, g48, g49, g50, g51, g52, g53, Nat.add_assoc, Nat.left_eq_add, Nat.add_eq_left, Nat.add_left_cancel_iff, h]
      · simp only [if_neg hc]
        have hfd : (List.range w).find? (fun x => decide ((wE bs (2 + 35 * i + 14 * x)).1 ≠ 0)) = some j := by
          rw [List.find?_range_eq_some]
          refine ⟨?_, by simpa using hlt3, fun x hx => by simpa using hgw x hx⟩
          rw [hat, hwE]; simpa using hc
        have d0 : decB bs ln = ([], [], (wS bs at_).2, ((at_ + 6 : Nat) : Int)) := by
          unfold decB
          rw [hm, hw, hal, if_neg (by omega), if_neg (by omega), if_neg (by omega), hf1]
          dsimp only
          rw [hfd]
          dsimp only
          rw [hat, hwE]
        refine in_panI ?_
        refine deferQ_of (f := 29) (L := resH nx B1 B2 (KV) (.slice (some ⟨b, 0, none⟩) j j) (.int .i64 0) (.int .i64 0)) rfl (catch_no nx B1 B2 (n2 + 2) (KV) (.slice (some ⟨b, 0, none⟩) j j) (.int .i64 0) (.int .i64 0) (wS bs at_).2 ((at_ + 6 : Nat) : Int) (by omega) (by omega) (by omega)) (by unfold resH; simp only [RN, ↓reduceIte, ↓get8, reduceCtorEq, Nat.reduceLT, Nat.reduceEqDiff, Nat.reduceAdd, Nat.reduceMul, Nat.reduceLeDiff, Nat.reduceSub, Int.reduceToNat, Int.reduceNeg, Nat.reduceBEq, rK, rK2, g0, g1, g2, g3, g4, g5, g6, g7, g8, g9, g10, g11, g12, g13, g14, g15, g16, g17, g18, g19, g20, g21, g22, g23, g24, g25, g26, g27, g28, g29, g30, g31, g32, g33, g34, g35, g36, g37, g38, g39, g40, g41, g42, g43, g44, g45, g46, g47, g48, g49, g50, g51, g52, g53, Nat.add_assoc, Nat.left_eq_add, Nat.add_eq_left, Nat.add_left_cancel_iff]; first | done | trivial) ?_
        rintro L' n' ⟨rfl, rfl⟩
        refine ⟨_, _, by unfold resH; simp only [RN, ↓reduceIte, ↓get8, reduceCtorEq, Nat.reduceLT, Nat.reduceEqDiff, Nat.reduceAdd, Nat.reduceMul, Nat.reduceLeDiff, Nat.reduceSub, Int.reduceToNat, Int.reduceNeg, Nat.reduceBEq, TY, keepFr, rK, rK2, g0, g1, g2, g3, g4, g5, g6, g7, g8, g9, g10, g11, g12, g13, g14, g15, g16, g17, g18, g19, g20, g21, g22, g23, g24, g25, g26, g27, g28, g29, g30, g31, g32, g33, g34, g35, g36, g37, g38, g39, g40, g41, g42, g43, g44, g45, g46, g47, g48, g49, g50, g51, g52, g53, Nat.add_assoc, Nat.left_eq_add, Nat.add_eq_left, Nat.add_left_cancel_iff]; rfl, by first | trivial | omega, [(q, ⟨bys bs, 5, 1, ro, loose⟩)], leL_look (by unfold resH; simp only [RN, ↓reduceIte, ↓get8, reduceCtorEq, Nat.reduceLT, Nat.reduceEqDiff, Nat.reduceAdd, Nat.reduceMul, Nat.reduceLeDiff, Nat.reduceSub, Int.reduceToNat, Int.reduceNeg, Nat.reduceBEq, rK, rK2, g0, g1, g2, g3, g4, g5, g6, g7, g8, g9, g10, g11, g12, g13, g14, g15, g16, g17, g18, g19, g20, g21, g22, g23, g24, g25, g26, g27, g28, g29, g30, g31, g32, g33, g34, g35, g36, g37, g38, g39, g40, g41, g42, g43, g44, g45, g46, g47, g48, g49, g50, g51, g52, g53, Nat.add_assoc, Nat.left_eq_add, Nat.add_eq_left, Nat.add_left_cancel_iff]; first | done | trivial), dec_err d0 (by show nx ≤ n2 + 2 + 1; omega)⟩
  have hj2 : j = w := by simp at hge; omega
  subst hj2
  clear hge hj
  have hf2 : (List.range j).find? (fun x => decide ((wE bs (2 + 35 * i + 14 * x)).1 ≠ 0)) = none := by
    rw [List.find?_eq_none]
    intro x hx
    simpa using hgw x (by simpa using hx)
  obtain ⟨WS, hWS⟩ : ∃ WS, wsF bs i j = WS := ⟨_, rfl⟩
  have hWl : WS.length = j := by rw [← hWS]; simp [wsF]
  obtain ⟨B0, hB0⟩ : ∃ B0 : Bk, B0 = ⟨KS, [], WS, [], o, i, ow, j, false, true⟩ := ⟨_, rfl⟩
  have g0 : B0.Good n2 := by
    rw [hB0]
    refine ⟨fun h => ?_, fun h => ?_, by show KS.length ≤ 1000; omega, by show WS.length ≤ 1000; omega, fun b h => ?_, fun b h => (hsw b h).2, fun b c h1 h2 => ?_⟩
    · have := hno h; show KS = []; exact List.eq_nil_of_length_eq_zero (by omega)
    · have := hnw h; show WS = []; exact List.eq_nil_of_length_eq_zero (by omega)
    · have := (hso b h).2; omega
    · have := (hso b h1).2; have := (hsw c h2).1; omega
  have hC := check_c B0 n2 g0
  obtain ⟨TB, hTB⟩ : ∃ TB, wpblk ow WS false true ++ KB = TB := ⟨_, rfl⟩
  have tbn : ∀ e ∈ TB, nx + 4 ≤ e.1 := by
    intro e he
    rw [← hTB] at he
    rcases List.mem_append.1 he with he | he
    · cases ow with
      | none => simp [wpblk] at he
      | some b => simp [wpblk] at he; subst he; have := (hsw b rfl).1; show nx + 4 ≤ b; omega
    · exact (kbn e he).1
  have tbr : ∀ ids : List Nat, (∀ i ∈ ids, i < nx + 4) → remN ids TB = TB := fun ids h => remN_not ids fun e he i hi e2 => by have := tbn e he; have := h i hi; omega
  have tbl : ∀ id c, look id B0.H = some c → look id TB = some c := by
    intro id c h
    rw [hB0] at h
    unfold Bk.H at h
    dsimp only at h
    rw [List.append_nil, List.append_nil, look_append, hKB] at h
    rw [← hTB, look_append]
    cases hk : look id KB with
    | none => rw [hk] at h; dsimp only at h; rw [h]
    | some x =>
      rw [hk] at h
      dsimp only at h
      have : look id (wpblk ow WS false true) = none := by
        cases ow with
        | none => rfl
        | some b =>
          have h1 := kbl id x hk
          have h2 := (hsw b rfl).1
          simp only [wpblk]
          rw [look_cons, if_neg (by omega)]
          rfl
      rw [this]
      exact h
  have tbg : ∀ id c, look id B0.H = some c → nx + 4 ≤ id := by
    intro id c h
    obtain ⟨e, he, rfl⟩ := List.mem_map.1 (look_mem (tbl id c h))
    exact tbn e he
  obtain ⟨WV, hWV⟩ : ∃ WV, slv ow j j = WV := ⟨_, rfl⟩
  have hBv : B0.val = .agg #[KV, WV] := by rw [hB0]; unfold Bk.val; dsimp only; rw [hKl, hWl, hKV, hWV]
  have hBk : B0.ks = KS := by rw [hB0]
  have hBw : B0.ws = WS := by rw [hB0]
  rw [hBv, hBk, hBw] at hC
  rw [hWS, hTB, hWV]
  refine JS_go (tbOk _) 99 fun x hx => ?_
  simp only [RN, ↓reduceIte, ↓get8, reduceCtorEq, Nat.reduceLT, Nat.reduceEqDiff, Nat.reduceAdd, Nat.reduceMul, Nat.reduceLeDiff, Nat.reduceSub, Int.reduceToNat, Int.reduceNeg, Nat.reduceBEq, TY] at hx
  subst hx
  refine ⟨_, _, rfl, by first | trivial | omega | (simp only [and_true, true_and]; omega), ?_⟩
  refine at_exit (in_exitI (by simp only [RN, ↓reduceIte, ↓get8, reduceCtorEq, Nat.reduceLT, Nat.reduceEqDiff, Nat.reduceAdd, Nat.reduceMul, Nat.reduceLeDiff, Nat.reduceSub, Int.reduceToNat, Int.reduceNeg, Nat.reduceBEq]; rfl) ?_)
  have m0 : ¬ nx = B1 := by omega
  have m1 : ¬ nx = B2 := by omega
  have m2 : ¬ nx = r := by omega
  have m3 : ¬ nx = q := by omega
  have m4 : ¬ nx = n2 := by omega
  have m5 : ∀ i, ¬ nx = n2 + i := by intro i; omega
  have m6 : ¬ n2 = nx := by omega
  have m7 : ∀ i, ¬ n2 + i = nx := by intro i; omega
  have m8 : ¬ B1 = nx := by omega
  have m9 : ¬ B1 = B2 := by omega
  have m10 : ¬ B1 = r := by omega
  have m11 : ¬ B1 = q := by omega
  have m12 : ¬ B1 = n2 := by omega
  have m13 : ∀ i, ¬ B1 = n2 + i := by intro i; omega
  have m14 : ¬ n2 = B1 := by omega
  have m15 : ∀ i, ¬ n2 + i = B1 := by intro i; omega
  have m16 : ¬ B2 = nx := by omega
  have m17 : ¬ B2 = B1 := by omega
  have m18 : ¬ B2 = r := by omega
  have m19 : ¬ B2 = q := by omega
  have m20 : ¬ B2 = n2 := by omega
  have m21 : ∀ i, ¬ B2 = n2 + i := by intro i; omega
  have m22 : ¬ n2 = B2 := by omega
  have m23 : ∀ i, ¬ n2 + i = B2 := by intro i; omega
  have m24 : ¬ r = nx := by omega
  have m25 : ¬ r = B1 := by omega
  have m26 : ¬ r = B2 := by omega
  have m27 : ¬ r = q := by omega
  have m28 : ¬ r = n2 := by omega
  have m29 : ∀ i, ¬ r = n2 + i := by intro i; omega
  have m30 : ¬ n2 = r := by omega
  have m31 : ∀ i, ¬ n2 + i = r := by intro i; omega
  have m32 : ¬ q = nx := by omega
  have m33 : ¬ q = B1 := by omega
  have m34 : ¬ q = B2 := by omega
  have m35 : ¬ q = r := by omega
  have m36 : ¬ q = n2 := by omega
  have m37 : ∀ i, ¬ q = n2 + i := by intro i; omega
  have m38 : ¬ n2 = q := by omega
  have m39 : ∀ i, ¬ n2 + i = q := by intro i; omega
  refine JS_go (tbOk _) 99 fun x hx => ?_
  simp only [RN, ↓reduceIte, ↓get8, reduceCtorEq, Nat.reduceLT, Nat.reduceEqDiff, Nat.reduceAdd, Nat.reduceMul, Nat.reduceLeDiff, Nat.reduceSub, Int.reduceToNat, Int.reduceNeg, Nat.reduceBEq, TY, m0, m1, m2, m3, m4, m5, m6, m7, m8, m9, m10, m11, m12, m13, m14, m15, m16, m17, m18, m19, m20, m21, m22, m23, m24, m25, m26, m27, m28, m29, m30, m31, m32, m33, m34, m35, m36, m37, m38, m39, Nat.add_assoc, Nat.left_eq_add, Nat.add_eq_left, Nat.add_left_cancel_iff] at hx
  subst hx
  refine ⟨_, _, rfl, by first | trivial | omega | (simp only [and_true, true_and]; omega), ?_⟩
  refine at_quiet (K := fun o n => o = .ret (.tuple #[.int .i64 (checkB KS WS).1, .int .i64 (checkB KS WS).2]) ∧ n2 ≤ n) (hC.mono fun o F' n h => ⟨⟨h.1, h.2.2⟩, h.2.1⟩) (fun id c h => ?_) ?_
  · have u0 := tbg id c h
    have u1 := tbl id c h
    have w0 : ¬ id = nx := by omega
    have w1 : ¬ id = B1 := by omega
    have w2 : ¬ id = B2 := by omega
    have w3 : ¬ id = r := by omega
    have w4 : ¬ id = q := by omega
    simp only [RN, ↓reduceIte, ↓get8, reduceCtorEq, Nat.reduceLT, Nat.reduceEqDiff, Nat.reduceAdd, Nat.reduceMul, Nat.reduceLeDiff, Nat.reduceSub, Int.reduceToNat, Int.reduceNeg, Nat.reduceBEq, w0, w1, w2, w3, w4, u1]
  rintro o3 n3 ⟨rfl, hn3⟩
  refine ⟨_, by simp only [RN, ↓reduceIte, ↓get8, reduceCtorEq, Nat.reduceLT, Nat.reduceEqDiff, Nat.reduceAdd, Nat.reduceMul, Nat.reduceLeDiff, Nat.reduceSub, Int.reduceToNat, Int.reduceNeg, Nat.reduceBEq]; rfl, ?_⟩
  have rT := tbr [nx, B1, B2] (by simp; omega)
  have k0 : ¬ nx = B1 := by omega
  have k1 : ¬ nx = B2 := by omega
  have k2 : ¬ nx = r := by omega
  have k3 : ¬ nx = q := by omega
  have k4 : ¬ nx = n3 := by omega
  have k5 : ∀ i, ¬ nx = n3 + i := by intro i; omega
  have k6 : ¬ n3 = nx := by omega
  have k7 : ∀ i, ¬ n3 + i = nx := by intro i; omega
  have k8 : ¬ B1 = nx := by omega
  have k9 : ¬ B1 = B2 := by omega
  have k10 : ¬ B1 = r := by omega
  have k11 : ¬ B1 = q := by omega
  have k12 : ¬ B1 = n3 := by omega
  have k13 : ∀ i, ¬ B1 = n3 + i := by intro i; omega
  have k14 : ¬ n3 = B1 := by omega
  have k15 : ∀ i, ¬ n3 + i = B1 := by intro i; omega
  have k16 : ¬ B2 = nx := by omega
  have k17 : ¬ B2 = B1 := by omega
  have k18 : ¬ B2 = r := by omega
  have k19 : ¬ B2 = q := by omega
  have k20 : ¬ B2 = n3 := by omega
  have k21 : ∀ i, ¬ B2 = n3 + i := by intro i; omega
  have k22 : ¬ n3 = B2 := by omega
  have k23 : ∀ i, ¬ n3 + i = B2 := by intro i; omega
  have k24 : ¬ r = nx := by omega
  have k25 : ¬ r = B1 := by omega
  have k26 : ¬ r = B2 := by omega
  have k27 : ¬ r = q := by omega
  have k28 : ¬ r = n3 := by omega
  have k29 : ∀ i, ¬ r = n3 + i := by intro i; omega
  have k30 : ¬ n3 = r := by omega
  have k31 : ∀ i, ¬ n3 + i = r := by intro i; omega
  have k32 : ¬ q = nx := by omega
  have k33 : ¬ q = B1 := by omega
  have k34 : ¬ q = B2 := by omega
  have k35 : ¬ q = r := by omega
  have k36 : ¬ q = n3 := by omega
  have k37 : ∀ i, ¬ q = n3 + i := by intro i; omega
  have k38 : ¬ n3 = q := by omega
  have k39 : ∀ i, ¬ n3 + i = q := by intro i; omega
  refine JS_go (tbOk _) 99 fun x hx => ?_
  simp only [RN, ↓reduceIte, ↓get8, reduceCtorEq, Nat.reduceLT, Nat.reduceEqDiff, Nat.reduceAdd, Nat.reduceMul, Nat.reduceLeDiff, Nat.reduceSub, Int.reduceToNat, Int.reduceNeg, Nat.reduceBEq, TY, k0, k1, k2, k3, k4, k5, k6, k7, k8, k9, k10, k11, k12, k13, k14, k15, k16, k17, k18, k19, k20, k21, k22, k23, k24, k25, k26, k27, k28, k29, k30, k31, k32, k33, k34, k35, k36, k37, k38, k39, Nat.add_assoc, Nat.left_eq_add, Nat.add_eq_left, Nat.add_left_cancel_iff] at hx
  subst hx
  refine ⟨_, _, rfl, by first | trivial | omega | (simp only [and_true, true_and]; omega), ?_⟩
  refine at_cond (fun h => ?_) (fun h => ?_)
  · have h0 : ¬ (checkB KS WS).1 = 0 := by simpa using h
    have d0 : decB bs ln = ([], [], (checkB KS WS).1, (checkB KS WS).2) := by
      unfold decB
      rw [hm, hw, hal, if_neg (by omega), if_neg (by omega), if_neg (by omega), hf1]
      dsimp only
      rw [hf2]
      dsimp only
      rw [hKS, hWS, if_neg h0]
    refine JS_go (tbOk _) 99 fun x hx => ?_
    simp only [RN, ↓reduceIte, ↓get8, reduceCtorEq, Nat.reduceLT, Nat.reduceEqDiff, Nat.reduceAdd, Nat.reduceMul, Nat.reduceLeDiff, Nat.reduceSub, Int.reduceToNat, Int.reduceNeg, Nat.reduceBEq, TY] at hx
    subst hx
    refine ⟨_, _, rfl, by first | trivial | omega | (simp only [and_true, true_and]; omega), ?_⟩
    rw [CRJ]
    refine JS_draw (tbOk _) { wr := [(73, 0), (74, 1), (75, 2)], anc := [[], [], [], [0], [0, 1, 3], [0, 1, 2, 3, 4]], ch := [(3, []), (4, []), (5, [])], ac := [[0, 1, 2], [1, 2], [2], []], nw := [[0, 1, 2], [], [], []], fl := [[], [1, 2], [2], []] } (by kernel_rfl) (by kernel_rfl) (by kernel_rfl) ?_
    refine JS_go (tbOk _) 99 fun x hx => ?_
    simp only [RN, ↓reduceIte, ↓get8, reduceCtorEq, Nat.reduceLT, Nat.reduceEqDiff, Nat.reduceAdd, Nat.reduceMul, Nat.reduceLeDiff, Nat.reduceSub, Int.reduceToNat, Int.reduceNeg, Nat.reduceBEq, TY, k0, k1, k2, k3, k4, k5, k6, k7, k8, k9, k10, k11, k12, k13, k14, k15, k16, k17, k18, k19, k20, k21, k22, k23, k24, k25, k26, k27, k28, k29, k30, k31, k32, k33, k34, k35, k36, k37, k38, k39, Nat.add_assoc, Nat.left_eq_add, Nat.add_eq_left, Nat.add_left_cancel_iff] at hx
    subst hx
    refine ⟨_, _, rfl, by first | trivial | omega | (simp only [and_true, true_and]; omega), ?_⟩
    refine at_ret ?_
    refine deferQ_of (f := 29) (L := resH nx B1 B2 (.slice none 0 0) (.slice none 0 0) (.int .i64 (checkB KS WS).1) (.int .i64 (checkB KS WS).2)) rfl (catch_nil nx B1 B2 n3 (.slice none 0 0) (.slice none 0 0) (.int .i64 (checkB KS WS).1) (.int .i64 (checkB KS WS).2) (by omega) (by omega) (by omega)) (by unfold resH; simp only [RN, ↓reduceIte, ↓get8, reduceCtorEq, Nat.reduceLT, Nat.reduceEqDiff, Nat.reduceAdd, Nat.reduceMul, Nat.reduceLeDiff, Nat.reduceSub, Int.reduceToNat, Int.reduceNeg, Nat.reduceBEq, rT, k0, k1, k2, k3, k4, k5, k6, k7, k8, k9, k10, k11, k12, k13, k14, k15, k16, k17, k18, k19, k20, k21, k22, k23, k24, k25, k26, k27, k28, k29, k30, k31, k32, k33, k34, k35, k36, k37, k38, k39, Nat.add_assoc, Nat.left_eq_add, Nat.add_eq_left, Nat.add_left_cancel_iff]; first | done | trivial) ?_
    rintro L' n' ⟨rfl, rfl⟩
    refine ⟨_, _, by unfold resH; simp only [RN, ↓reduceIte, ↓get8, reduceCtorEq, Nat.reduceLT, Nat.reduceEqDiff, Nat.reduceAdd, Nat.reduceMul, Nat.reduceLeDiff, Nat.reduceSub, Int.reduceToNat, Int.reduceNeg, Nat.reduceBEq, TY, keepFr, rT, k0, k1, k2, k3, k4, k5, k6, k7, k8, k9, k10, k11, k12, k13, k14, k15, k16, k17, k18, k19, k20, k21, k22, k23, k24, k25, k26, k27, k28, k29, k30, k31, k32, k33, k34, k35, k36, k37, k38, k39, Nat.add_assoc, Nat.left_eq_add, Nat.add_eq_left, Nat.add_left_cancel_iff]; rfl, by first | trivial | omega, [(q, ⟨bys bs, 5, 1, ro, loose⟩)], leL_look (by unfold resH; simp only [RN, ↓reduceIte, ↓get8, reduceCtorEq, Nat.reduceLT, Nat.reduceEqDiff, Nat.reduceAdd, Nat.reduceMul, Nat.reduceLeDiff, Nat.reduceSub, Int.reduceToNat, Int.reduceNeg, Nat.reduceBEq, rT, k0, k1, k2, k3, k4, k5, k6, k7, k8, k9, k10, k11, k12, k13, k14, k15, k16, k17, k18, k19, k20, k21, k22, k23, k24, k25, k26, k27, k28, k29, k30, k31, k32, k33, k34, k35, k36, k37, k38, k39, Nat.add_assoc, Nat.left_eq_add, Nat.add_eq_left, Nat.add_left_cancel_iff]; first | done | trivial), dec_err d0 (by show nx ≤ _; omega)⟩
  · have h0 : (checkB KS WS).1 = 0 := by simpa using h
    have d0 : decB bs ln = (KS, WS, 0, 0) := by
      unfold decB
      rw [hm, hw, hal, if_neg (by omega), if_neg (by omega), if_neg (by omega), hf1]
      dsimp only
      rw [hf2]
      dsimp only
      rw [hKS, hWS, if_pos h0]
    refine JS_go (tbOk _) 99 fun x hx => ?_
    simp only [RN, ↓reduceIte, ↓get8, reduceCtorEq, Nat.reduceLT, Nat.reduceEqDiff, Nat.reduceAdd, Nat.reduceMul, Nat.reduceLeDiff, Nat.reduceSub, Int.reduceToNat, Int.reduceNeg, Nat.reduceBEq, TY, k0, k1, k2, k3, k4, k5, k6, k7, k8, k9, k10, k11, k12, k13, k14, k15, k16, k17, k18, k19, k20, k21, k22, k23, k24, k25, k26, k27, k28, k29, k30, k31, k32, k33, k34, k35, k36, k37, k38, k39, Nat.add_assoc, Nat.left_eq_add, Nat.add_eq_left, Nat.add_left_cancel_iff] at hx
    subst hx
    refine ⟨_, _, rfl, by first | trivial | omega | (simp only [and_true, true_and]; omega), ?_⟩
    refine at_ret ?_
    refine deferQ_of (f := 29) (L := resH nx B1 B2 KV WV (.int .i64 0) (.int .i64 0)) rfl (catch_nil nx B1 B2 n3 KV WV (.int .i64 0) (.int .i64 0) (by omega) (by omega) (by omega)) (by unfold resH; simp only [RN, ↓reduceIte, ↓get8, reduceCtorEq, Nat.reduceLT, Nat.reduceEqDiff, Nat.reduceAdd, Nat.reduceMul, Nat.reduceLeDiff, Nat.reduceSub, Int.reduceToNat, Int.reduceNeg, Nat.reduceBEq, k0, k1, k2, k3, k4, k5, k6, k7, k8, k9, k10, k11, k12, k13, k14, k15, k16, k17, k18, k19, k20, k21, k22, k23, k24, k25, k26, k27, k28, k29, k30, k31, k32, k33, k34, k35, k36, k37, k38, k39, Nat.add_assoc, Nat.left_eq_add, Nat.add_eq_left, Nat.add_left_cancel_iff]; first | done | trivial) ?_
    rintro L' n' ⟨rfl, rfl⟩
    refine ⟨_, _, by unfold resH; simp only [RN, ↓reduceIte, ↓get8, reduceCtorEq, Nat.reduceLT, Nat.reduceEqDiff, Nat.reduceAdd, Nat.reduceMul, Nat.reduceLeDiff, Nat.reduceSub, Int.reduceToNat, Int.reduceNeg, Nat.reduceBEq, TY, k0, k1, k2, k3, k4, k5, k6, k7, k8, k9, k10, k11, k12, k13, k14, k15, k16, k17, k18, k19, k20, k21, k22, k23, k24, k25, k26, k27, k28, k29, k30, k31, k32, k33, k34, k35, k36, k37, k38, k39, Nat.add_assoc, Nat.left_eq_add, Nat.add_eq_left, Nat.add_left_cancel_iff]; rfl, by first | trivial | omega, [(q, ⟨bys bs, 5, 1, ro, loose⟩)] ++ B0.H, ?_, ?_⟩
    · refine leT (X := [_]) (by unfold resH; simp only [RN, ↓reduceIte, ↓get8, reduceCtorEq, Nat.reduceLT, Nat.reduceEqDiff, Nat.reduceAdd, Nat.reduceMul, Nat.reduceLeDiff, Nat.reduceSub, Int.reduceToNat, Int.reduceNeg, Nat.reduceBEq, rT, k0, k1, k2, k3, k4, k5, k6, k7, k8, k9, k10, k11, k12, k13, k14, k15, k16, k17, k18, k19, k20, k21, k22, k23, k24, k25, k26, k27, k28, k29, k30, k31, k32, k33, k34, k35, k36, k37, k38, k39, Nat.add_assoc, Nat.left_eq_add, Nat.add_eq_left, Nat.add_left_cancel_iff]; first | done | trivial) ?_
      intro id c h
      have u0 := tbg id c h
      have u1 := tbl id c h
      have w0 : ¬ id = nx := by omega
      have w1 : ¬ id = B1 := by omega
      have w2 : ¬ id = B2 := by omega
      have w3 : ¬ id = r := by omega
      have w4 : ¬ id = q := by omega
      unfold resH
      simp only [RN, ↓reduceIte, ↓get8, reduceCtorEq, Nat.reduceLT, Nat.reduceEqDiff, Nat.reduceAdd, Nat.reduceMul, Nat.reduceLeDiff, Nat.reduceSub, Int.reduceToNat, Int.reduceNeg, Nat.reduceBEq, rT, w0, w1, w2, w3, w4, k0, k1, k2, k3, k4, k5, k6, k7, k8, k9, k10, k11, k12, k13, k14, k15, k16, k17, k18, k19, k20, k21, k22, k23, k24, k25, k26, k27, k28, k29, k30, k31, k32, k33, k34, k35, k36, k37, k38, k39, Nat.add_assoc, Nat.left_eq_add, Nat.add_eq_left, Nat.add_left_cancel_iff, u1]
    · unfold decK
      rw [d0]
      refine ⟨B0, hBk, hBw, g0.mono hn3, by rw [hB0]; exact ⟨rfl, rfl, rfl, rfl⟩, ?_, ?_, by show nx ≤ _; omega, by rw [hBv], rfl⟩
      · intro b hb; rw [hB0] at hb; have := (hso b hb).1; omega
      · intro b hb; rw [hB0] at hb; have := (hsw b hb).1; omega
end Go.Proofs.Ytoihmanhldcjhaa.Id
namespace Go.Proofs.Ytoihmanhldcjhaa.Rl
open Ieee
theorem nearest_lt (mag : Nat) (place : Int) : double.nearest false mag place < 2 ^ 63 := by
  have hinf : double.infRung = 2047 * 2 ^ 52 := by decide
  unfold Format.nearest
  split
  · decide
  · dsimp only
    unfold Format.word
    rw [if_neg (by decide), hinf]
    omega
theorem one_more (n : Nat) (hn : n < 2 ^ 53) (h0 : n ≠ 0) : ∃ mag place, double.div (double.nearest false n 0) 0x40F0000000000000 = some (double.nearest false mag place) := by
  obtain ⟨c, i, hr, ⟨a, hc, hi⟩, h1, h2, h3, h4⟩ := nearest_exact0 false n 0 0 h0 hn (by omega) (by omega)
  rw [Nat.pow_zero, Nat.mul_one] at hr
  unfold Format.div
  rw [hr, read_65536]
  have hc0 : c ≠ 0 := by rw [hc]; exact Nat.mul_ne_zero h0 (by have := Nat.two_pow_pos a; omega)
  rw [quotient_number _ _ _ _ _ _ _ (by decide)]
  exact ⟨_, _, rfl⟩
theorem toS_norm (v j : Nat) (h0 : v ≠ 0) (hv : v < 2 ^ 53) (h1 : 2 ^ 52 ≤ v * 2 ^ j) (h2 : v * 2 ^ j < 2 ^ 53) : toS v + 2 ^ 52 = (1059 - j) * 2 ^ 52 + v * 2 ^ j ∧ j ≤ 1058 := by
  obtain ⟨q, m, e, hq, hr, ⟨i, hm, he⟩, a1, a2, a3, a4⟩ := by_one false v hv h0
  have hs : toS v = q := by
    unfold toS
    rw [show decide ((v : Int) < 0) = false from decide_eq_false (by omega), Int.natAbs_natCast, hq]; rfl
  obtain ⟨mag, place, hx⟩ := one_more v hv h0
  rw [hx] at hq
  have hq63 : q < 2 ^ 63 := by have := nearest_lt mag place; cases hq; exact this
  have hij : i = j := by
    rcases Nat.lt_trichotomy i j with h | h | h
    · exfalso
      have : v * 2 ^ (i + 1) ≤ v * 2 ^ j := Nat.mul_le_mul_left _ (Nat.pow_le_pow_right (by omega) h)
      rw [Nat.pow_succ, ← Nat.mul_assoc] at this
      omega
    · exact h
    · exfalso
      have : v * 2 ^ (j + 1) ≤ v * 2 ^ i := Nat.mul_le_mul_left _ (Nat.pow_le_pow_right (by omega) h)
      rw [Nat.pow_succ, ← Nat.mul_assoc] at this
      omega
  subst hij
  rcases read_cases q (by omega) with ⟨s, m', e', hr', b1, b2, b3, b4, b5, b6, b7, b8⟩ | ⟨s, hr', _⟩ | ⟨s, t, hr', _⟩
  · rw [hr] at hr'
    cases hr'
    by_cases hz : q / 2 ^ 52 % 2048 = 0
    · obtain ⟨c1, c2⟩ := b7 hz; omega
    · obtain ⟨c1, c2⟩ := b8 hz
      rw [hs, ← hm]
      omega
  · rw [hr] at hr'; cases hr'
  · rw [hr] at hr'; cases hr'
theorem toS_zero : toS 0 = 0 := by
  unfold toS
  rw [show decide ((0 : Int) < 0) = false from rfl, show (0 : Int).natAbs = 0 from rfl, by_one_zero]; rfl
end Go.Proofs.Ytoihmanhldcjhaa.Rl
namespace Go.Proofs.Ytoihmanhldcjhaa.Id
open Go
theorem look_mem2 {α : Type} {k : Nat} {v : α} : ∀ {l : List (Nat × α)}, look k l = some v → (k, v) ∈ l
  | [], h => by cases h
  | (j, u) :: l, h => by
    rw [look_cons] at h
    split at h
    · rename_i e; subst e; cases h; simp
    · exact List.mem_cons_of_mem _ (look_mem2 h)
theorem look_some_of {α : Type} {k : Nat} : ∀ {l : List (Nat × α)}, (∃ e ∈ l, e.1 = k) → ∃ v, look k l = some v
  | [], ⟨e, h, _⟩ => by cases h
  | (j, u) :: l, ⟨e, h, hk⟩ => by
    rw [look_cons]
    by_cases hj : k = j
    · exact ⟨u, by rw [if_pos hj]⟩
    · rw [if_neg hj]
      rcases List.mem_cons.1 h with rfl | h
      · exact absurd hk.symm hj
      · exact look_some_of ⟨e, h, hk⟩
theorem CallW.new {P : Program} {f : FuncId} {args : List Value} {L F : Hp} {nx : Nat} {K : Out → Hp → Nat → Prop} (h : CallW P f args L nx fun o F' n => ∃ X, K o X n ∧ F' = L ++ X ∧ ∀ e ∈ X, nx ≤ e.1) (hL : ∀ id b, look id L = some b → look id F = some b) :
    CallW P f args F nx fun o F' n => ∃ X, K o X n ∧ F' = F ++ X ∧ ∀ e ∈ X, nx ≤ e.1 := by
  refine ⟨fun m w args' hh hv => ((h.frame hL).run m w args' hh hv).mono ?_⟩
  rintro e w' ⟨o, F', nx', m', ⟨L', ⟨X, hk, rfl, hX⟩, rfl⟩, a, b, c⟩
  have hincl : ∀ id bk, look id (F ++ X) = some bk → look id ((L ++ X) ++ rem (L.map (·.1)) F) = some bk := by
    intro id bk hb
    rw [look_append] at hb
    rw [look_append, look_append]
    cases hF : look id F with
    | none =>
      rw [hF] at hb
      dsimp only at hb
      have hl : look id L = none := by
        cases hl : look id L with
        | none => rfl
        | some y => have := hL id y hl; rw [hF] at this; cases this
      rw [hl, hb]
    | some y =>
      rw [hF] at hb
      cases hb
      have hlt := hh.lt hF
      have hx : look id X = none := by
        cases hx : look id X with
        | none => rfl
        | some z => have := hX _ (look_mem2 hx); dsimp only at this; omega
      cases hl : look id L with
      | some z => have := hL id z hl; rw [hF] at this; cases this; rfl
      | none =>
        rw [hx]
        dsimp only
        rw [look_rem, if_neg, hF]
        intro hc
        rw [List.contains_iff_mem] at hc
        obtain ⟨e, he, hek⟩ := List.mem_map.1 hc
        obtain ⟨v, hv⟩ := look_some_of ⟨e, he, hek⟩
        rw [hl] at hv; cases hv
  exact ⟨o, F ++ X, nx', m', ⟨X, hk, rfl, hX⟩, a.drop hincl, b.drop hincl, c⟩
section
variable {P : Program} {Q : IExit → St → Prop} {st : St}
theorem at_new {f : FuncId} {args : List Value} {dst : Option Nat} {k : List Kt} {L : Hp} {K : Out → Hp → Nat → Prop} (h : CallW P f args L st.nx fun o F' n => ∃ X, K o X n ∧ F' = L ++ X ∧ ∀ e ∈ X, st.nx ≤ e.1) (hL : ∀ id b, look id L = some b → look id st.F = some b)
    (hj : ∀ o X n, K o X n → (∀ e ∈ X, st.nx ≤ e.1) → match o with
      | .ret v => ∃ st', St.put { st with F := st.F ++ X, nx := n } dst v = some st' ∧ JS P k Q st'
      | .pan v => Q (.pan v) { st with F := st.F ++ X, nx := n }) : CRJ P Q (.call f args dst k st) := by
  refine at_call (CallW.mono (h.new hL) ?_)
  rintro o F' nx' ⟨X, hk, rfl, hX⟩
  have := hj o X nx' hk hX
  cases o with
  | ret v => exact this
  | pan v => exact this
end
end Go.Proofs.Ytoihmanhldcjhaa.Id
namespace Go.Proofs.Ytoihmanhldcjhaa.Id
open Go Go.Proofs.Ytoihmanhldcjhaa.Rl
set_option linter.unusedSimpArgs false
set_option linter.unusedVariables false
def leastK : Kd := ⟨0, 1, 0, 0, 0, 0, 0, 0, 0, 0, 1, 0, 0, 0, 0, 0, 0, 0, 255, 0⟩
def leastBk (b : Nat) : Bk := ⟨[leastK], [], [], [], some b, 1, none, 0, false, false⟩
theorem leastBk_good {b nx : Nat} (h : b < nx) : (leastBk b).Good nx :=
  ⟨nofun, fun _ => rfl, by simp [leastBk], by simp [leastBk], fun c e => (by cases e; exact h), nofun, nofun⟩
set_option maxRecDepth 100000 in
theorem least_c (nx : Nat) : CallW Try.prog 18 [] [] nx fun o F' n => ∃ X, (o = .ret (leastBk (nx + 1)).val ∧ X = (leastBk (nx + 1)).H ∧ n = nx + 2) ∧ F' = [] ++ X ∧ ∀ e ∈ X, nx ≤ e.1 := by
  refine CallW_go (tbOk _) 4 [.cell 0 26] Try.func18 rfl (by decide) rfl rfl (by simp) fun hlt => ?_
  simp only [params, Nat.zero_add, Nat.reduceAdd]
  refine JS_go (tbOk _) 99 fun x hx => ?_
  simp only [RN, ↓reduceIte, ↓get8, reduceCtorEq, Nat.reduceLT, Nat.reduceEqDiff, Nat.reduceAdd, Nat.reduceMul, Nat.reduceLeDiff, Nat.reduceSub, Int.reduceToNat, Int.reduceNeg, Nat.reduceBEq, TY, Nat.add_assoc, Nat.left_eq_add, Nat.add_eq_left, Nat.add_left_cancel_iff] at hx
  subst hx
  refine ⟨_, _, rfl, by first | trivial | omega | (simp only [and_true, true_and]; omega), ?_⟩
  refine at_ret ?_
  refine ret_endK (by simp only [RN, ↓reduceIte, ↓get8, reduceCtorEq, Nat.reduceLT, Nat.reduceEqDiff, Nat.reduceAdd, Nat.reduceMul, Nat.reduceLeDiff, Nat.reduceSub, Int.reduceToNat, Int.reduceNeg, Nat.reduceBEq, TY, Nat.add_assoc, Nat.left_eq_add, Nat.add_eq_left, Nat.add_left_cancel_iff]; rfl) rfl (by first | trivial | omega) ⟨(leastBk (nx + 1)).H, ?_, (leastBk (nx + 1)).H, ⟨rfl, rfl, rfl⟩, rfl, ?_⟩
  · exact leL_look (by simp only [Bk.H, leastBk, kblk, wpblk, kcells, leastK, Kd.cells, List.flatMap_cons, List.flatMap_nil, RN, ↓reduceIte, ↓get8, reduceCtorEq, Nat.reduceLT, Nat.reduceEqDiff, Nat.reduceAdd, Nat.reduceMul, Nat.reduceLeDiff, Nat.reduceSub, Int.reduceToNat, Int.reduceNeg, Nat.reduceBEq, Nat.add_assoc, Nat.left_eq_add, Nat.add_eq_left, Nat.add_left_cancel_iff]; first | done | trivial)
  · intro e he
    simp [Bk.H, leastBk, kblk, wpblk] at he
    subst he
    show nx ≤ nx + 1
    omega
theorem encode_n (B : Bk) (nx : Nat) (g : B.Good nx) :
    CallW Try.prog 13 [B.val] B.H nx fun o F' nx' => ∃ X, (nx ≤ nx' ∧
      if (checkB B.ks B.ws).1 = 0 then ∃ b, nx ≤ b ∧ b < nx' ∧ o = .ret (.slice (some ⟨b, 0, none⟩) (encB B.ks B.ws).length (encB B.ks B.ws).length) ∧ X = [(b, ⟨bys (encB B.ks B.ws), 5, 1, false, true⟩)]
      else o = .ret (.slice none 0 0) ∧ X = []) ∧ F' = B.H ++ X ∧ ∀ e ∈ X, nx ≤ e.1 := by
  refine (encode_c B nx g).drop ?_
  rintro o F' n ⟨h1, h2⟩
  split at h2
  · rename_i h0
    obtain ⟨b, h3, h4, rfl, rfl⟩ := h2
    refine ⟨B.H ++ [(b, ⟨bys (encB B.ks B.ws), 5, 1, false, true⟩)], ?_, _, ⟨h1, by rw [if_pos h0]; exact ⟨b, h3, h4, rfl, rfl⟩⟩, rfl, fun e he => by simp at he; subst he; exact h3⟩
    intro id bk hb
    rw [look_append] at hb
    rw [look_cons]
    cases hl : look id B.H with
    | some y =>
      rw [hl] at hb; cases hb
      have := g.t5 id _ hl
      rw [if_neg (by omega)]
    | none =>
      rw [hl] at hb
      dsimp only at hb
      rw [look_cons] at hb
      split at hb
      · rename_i e; rw [if_pos e]; exact hb
      · cases hb
  · rename_i h0
    obtain ⟨rfl, rfl⟩ := h2
    exact ⟨B.H, fun _ _ h => h, [], ⟨h1, by rw [if_neg h0]; exact ⟨rfl, rfl⟩⟩, by simp, by simp⟩
theorem decode_n (R : Rd) (nx : Nat) (g : R.Good nx) : CallW Try.prog 15 [R.val] R.H nx fun o F' nx' => ∃ X, (∃ B : Bk, B.ks = (decB R.bs R.ln).1 ∧ B.ws = (decB R.bs R.ln).2.1 ∧ B.Good nx' ∧ nx ≤ nx' ∧
    o = .ret (.tuple #[B.val, .int .i64 (decB R.bs R.ln).2.2.1, .int .i64 (decB R.bs R.ln).2.2.2]) ∧ X = B.H) ∧ F' = R.H ++ X ∧ ∀ e ∈ X, nx ≤ e.1 := by
  refine (decode_c R nx g).mono ?_
  rintro o F' n ⟨B, h1, h2, h3, h4, h5, h6, h7, rfl, rfl⟩
  refine ⟨B.H, ⟨B, h1, h2, h3, h7, rfl, rfl⟩, rfl, fun e he => ?_⟩
  rcases B with ⟨ks, kx, ws, wx, ok, kc, ow, wc, ro, loose⟩
  unfold Bk.H at he
  rcases List.mem_append.1 he with he | he
  · cases ok with
    | none => simp [kblk] at he
    | some b => simp [kblk] at he; subst he; exact h5 b rfl
  · cases ow with
    | none => simp [wpblk] at he
    | some b => simp [wpblk] at he; subst he; exact h6 b rfl
def leastB : List UInt8 := [1, 0, 0, 1, 0, 0, 0, 0, 0, 0, 0, 1, 0, 0, 0, 0, 0, 0, 0, 0, 0, 0, 0, 0, 0, 0, 0, 0, 255, 0, 0, 0, 0, 0, 0, 0, 0]
def leastN : List UInt8 := [1, 0, 0, 1, 0, 0, 0, 0, 0, 0, 0, 1, 0, 0, 0, 0, 0, 0, 0, 0, 0, 0, 0, 0, 0, 0, 0, 0, 255, 0, 0, 0, 0, 0, 0, 248, 127]
theorem least_enc : encB [leastK] [] = leastB := by
  have h0 : toS leastK.c2 = 0 := toS_zero
  unfold encB
  simp only [List.flatMap_cons, List.flatMap_nil, List.append_nil, kdBytes, h0]
  decide
theorem least_ok : checkB [leastK] [] = (0, 0) := by decide
theorem dec36 : decB leastB 36 = ([], [], 2, 36) := by
  unfold decB
  rw [if_neg (by decide), if_pos (by decide)]
  rfl
theorem dec37 : decB leastN 37 = ([], [], 14, 29) := by
  unfold decB
  have hm : le ((leastN.drop 0).take 1) = 1 := by decide
  have hw : le ((leastN.drop 1).take 1) = 0 := by decide
  rw [hm, hw, if_neg (by decide), if_neg (by decide), if_neg (by decide)]
  have hk : kE leastN 0 = (0, 14) := by
    unfold kE
    rw [show le ((leastN.drop (2 + 35 * 0 + 27)).take 8) = 0x7FF8000000000000 by decide]
    unfold ofS
    rw [show Ieee.double.read 0x7FF8000000000000 = .nan false 2251799813685248 by decide]
  have hf : (List.range 1).find? (fun i => decide ((kE leastN i).2 ≠ 0)) = some 0 := by
    rw [List.find?_range_eq_some]
    exact ⟨by rw [hk]; decide, by simp, fun j hj => absurd hj (Nat.not_lt_zero j)⟩
  rw [hf]
  dsimp only
  rw [hk]
  rfl
end Go.Proofs.Ytoihmanhldcjhaa.Id
namespace Go.Proofs.Ytoihmanhldcjhaa.Id
open Go Go.Proofs.Ytoihmanhldcjhaa.Rl
set_option linter.unusedSimpArgs false
set_option linter.unusedVariables false
theorem leastH (b : Nat) : (leastBk b).H = [(b, ⟨kcells [leastK], 46, 20, false, false⟩)] := rfl
set_option maxRecDepth 100000 in
set_option maxHeartbeats 4000000 in
theorem awake_c (nx : Nat) : CallW Try.prog 9 [] [] nx fun o F' n => (o = .ret (.bool true) ∧ nx ≤ n) ∧ F' = [] := by
  refine CallW_go (tbOk _) 62 [.tmp 0] Try.func9 rfl (by decide) rfl rfl (by simp) fun hlt => ?_
  simp only [params, Nat.zero_add, Nat.reduceAdd]
  refine JS_go (tbOk _) 99 fun x hx => ?_
  simp only [RN, ↓reduceIte, ↓get8, reduceCtorEq, Nat.reduceLT, Nat.reduceEqDiff, Nat.reduceAdd, Nat.reduceMul, Nat.reduceLeDiff, Nat.reduceSub, Int.reduceToNat, Int.reduceNeg, Nat.reduceBEq, TY] at hx
  subst hx
  refine ⟨_, _, rfl, by first | trivial | omega | (simp only [and_true, true_and]; omega), ?_⟩
  refine at_new (least_c nx) (fun _ _ h => by cases h) ?_
  rintro o X n ⟨rfl, rfl, rfl⟩ -
  refine ⟨_, by simp only [RN, ↓reduceIte, ↓get8, reduceCtorEq, Nat.reduceLT, Nat.reduceEqDiff, Nat.reduceAdd, Nat.reduceMul, Nat.reduceLeDiff, Nat.reduceSub, Int.reduceToNat, Int.reduceNeg, Nat.reduceBEq]; rfl, ?_⟩
  rw [leastH]
  refine JS_go (tbOk _) 99 fun x hx => ?_
  simp only [RN, ↓reduceIte, ↓get8, reduceCtorEq, Nat.reduceLT, Nat.reduceEqDiff, Nat.reduceAdd, Nat.reduceMul, Nat.reduceLeDiff, Nat.reduceSub, Int.reduceToNat, Int.reduceNeg, Nat.reduceBEq, TY] at hx
  subst hx
  refine ⟨_, _, rfl, by first | trivial | omega | (simp only [and_true, true_and]; omega), ?_⟩
  have hE := encode_c (leastBk (nx + 1)) (nx + 2) (leastBk_good (by omega))
  rw [leastH] at hE
  refine at_callG hE (by simp only [RN, ↓reduceIte, ↓get8, reduceCtorEq, Nat.reduceLT, Nat.reduceEqDiff, Nat.reduceAdd, Nat.reduceMul, Nat.reduceLeDiff, Nat.reduceSub, Int.reduceToNat, Int.reduceNeg, Nat.reduceBEq]; first | done | trivial) ?_
  rintro o L' n ⟨h1, h2⟩
  rw [if_pos (show (checkB (leastBk (nx + 1)).ks (leastBk (nx + 1)).ws).1 = 0 from congrArg Prod.fst least_ok), show encB (leastBk (nx + 1)).ks (leastBk (nx + 1)).ws = leastB from least_enc, show leastB.length = 37 from rfl] at h2
  obtain ⟨b, hb1, hb2, rfl, rfl⟩ := h2
  refine ⟨_, by simp only [RN, ↓reduceIte, ↓get8, reduceCtorEq, Nat.reduceLT, Nat.reduceEqDiff, Nat.reduceAdd, Nat.reduceMul, Nat.reduceLeDiff, Nat.reduceSub, Int.reduceToNat, Int.reduceNeg, Nat.reduceBEq]; rfl, ?_⟩
  have g0 : ¬ b = nx + 1 := by omega
  have g1 : ¬ nx + 1 = b := by omega
  refine JS_go (tbOk _) 99 fun x hx => ?_
  simp only [RN, ↓reduceIte, ↓get8, reduceCtorEq, Nat.reduceLT, Nat.reduceEqDiff, Nat.reduceAdd, Nat.reduceMul, Nat.reduceLeDiff, Nat.reduceSub, Int.reduceToNat, Int.reduceNeg, Nat.reduceBEq, TY, g0, g1, Nat.add_assoc, Nat.left_eq_add, Nat.add_eq_left, Nat.add_left_cancel_iff] at hx
  subst hx
  refine ⟨_, _, rfl, by first | trivial | omega | (simp only [and_true, true_and]; omega), ?_⟩
  refine at_cond (fun h => nomatch h) (fun _ => ?_)
  refine JS_go (tbOk _) 99 fun x hx => ?_
  simp only [RN, ↓reduceIte, ↓get8, reduceCtorEq, Nat.reduceLT, Nat.reduceEqDiff, Nat.reduceAdd, Nat.reduceMul, Nat.reduceLeDiff, Nat.reduceSub, Int.reduceToNat, Int.reduceNeg, Nat.reduceBEq, TY, g0, g1, Nat.add_assoc, Nat.left_eq_add, Nat.add_eq_left, Nat.add_left_cancel_iff] at hx
  subst hx
  refine ⟨_, _, rfl, by first | trivial | omega | (simp only [and_true, true_and]; omega), ?_⟩
  have hD := decode_n ⟨leastB, 36, some b, 37, false, true⟩ n ⟨(by decide : 36 ≤ leastB.length ∧ 36 ≤ 1000000), nofun, fun q e => (by cases e; exact hb2), (by decide : 36 ≤ 37)⟩
  rw [show decB leastB 36 = _ from dec36] at hD
  refine at_new hD (leL_look (by simp only [Rd.H, RN, ↓reduceIte, ↓get8, reduceCtorEq, Nat.reduceLT, Nat.reduceEqDiff, Nat.reduceAdd, Nat.reduceMul, Nat.reduceLeDiff, Nat.reduceSub, Int.reduceToNat, Int.reduceNeg, Nat.reduceBEq]; first | done | trivial)) ?_
  rintro o X n2 ⟨B, -, -, -, hn2, rfl, rfl⟩ hX
  refine ⟨_, by simp only [RN, ↓reduceIte, ↓get8, reduceCtorEq, Nat.reduceLT, Nat.reduceEqDiff, Nat.reduceAdd, Nat.reduceMul, Nat.reduceLeDiff, Nat.reduceSub, Int.reduceToNat, Int.reduceNeg, Nat.reduceBEq]; rfl, ?_⟩
  unfold Bk.val
  clear hX hD hE
  obtain ⟨X, hX⟩ : ∃ X, B.H = X := ⟨_, rfl⟩
  rw [hX]
  have f0 : ¬ b = n2 := by omega
  have f1 : ∀ i, ¬ b = n2 + i := by intro i; omega
  have f2 : ¬ n2 = b := by omega
  have f3 : ¬ n2 = nx + 1 := by omega
  have f4 : ¬ nx + 1 = n2 := by omega
  have s1 : (bys leastB).length = 37 := rfl
  have s2 : ((bys leastB).set 35 (.int .u8 248)).length = 37 := rfl
  have s3 : ((bys leastB).set 35 (.int .u8 248)).set 36 (.int .u8 127) = bys leastN := rfl
  have s4 : (bys leastN).length = 37 := rfl
  refine JS_go (tbOk _) 99 fun x hx => ?_
  simp only [RN, ↓reduceIte, ↓get8, reduceCtorEq, Nat.reduceLT, Nat.reduceEqDiff, Nat.reduceAdd, Nat.reduceMul, Nat.reduceLeDiff, Nat.reduceSub, Int.reduceToNat, Int.reduceNeg, Nat.reduceBEq, TY, g0, g1, f0, f1, f2, f3, f4, s1, s2, s3, s4, Nat.add_assoc, Nat.left_eq_add, Nat.add_eq_left, Nat.add_left_cancel_iff] at hx
  subst hx
  refine ⟨_, _, rfl, by first | trivial | omega | (simp only [and_true, true_and]; omega), ?_⟩
  have hD := decode_n ⟨leastN, 37, some b, 37, false, true⟩ (n2 + 1) ⟨(by decide : 37 ≤ leastN.length ∧ 37 ≤ 1000000), nofun, fun q e => (by cases e; exact Nat.lt_of_lt_of_le hb2 (Nat.le_succ_of_le hn2)), (by decide : 37 ≤ 37)⟩
  rw [show decB leastN 37 = _ from dec37] at hD
  refine at_new hD (leL_look (by simp only [Rd.H, RN, ↓reduceIte, ↓get8, reduceCtorEq, Nat.reduceLT, Nat.reduceEqDiff, Nat.reduceAdd, Nat.reduceMul, Nat.reduceLeDiff, Nat.reduceSub, Int.reduceToNat, Int.reduceNeg, Nat.reduceBEq]; first | done | trivial)) ?_
  rintro o Y n3 ⟨C, -, -, -, hn3, rfl, rfl⟩ hY
  refine ⟨_, by simp only [RN, ↓reduceIte, ↓get8, reduceCtorEq, Nat.reduceLT, Nat.reduceEqDiff, Nat.reduceAdd, Nat.reduceMul, Nat.reduceLeDiff, Nat.reduceSub, Int.reduceToNat, Int.reduceNeg, Nat.reduceBEq]; rfl, ?_⟩
  unfold Bk.val
  clear hY hD
  obtain ⟨Y, hY⟩ : ∃ Y, C.H = Y := ⟨_, rfl⟩
  rw [hY]
  have e0 : ¬ b = n3 := by omega
  have e1 : ¬ n3 = b := by omega
  have e2 : ∀ i, ¬ b = n3 + i := by intro i; omega
  have s5 : (bys leastN)[0]? = some (.int .u8 1) := rfl
  have s6 : (bys leastN)[1]? = some (.int .u8 0) := rfl
  have s7 : (bys leastN)[3]? = some (.int .u8 1) := rfl
  refine JS_go (tbOk _) 99 fun x hx => ?_
  simp only [RN, ↓reduceIte, ↓get8, reduceCtorEq, Nat.reduceLT, Nat.reduceEqDiff, Nat.reduceAdd, Nat.reduceMul, Nat.reduceLeDiff, Nat.reduceSub, Int.reduceToNat, Int.reduceNeg, Nat.reduceBEq, TY, g0, g1, f0, f1, f2, f3, f4, e0, e1, e2, s4, s5, s6, s7, Nat.add_assoc, Nat.left_eq_add, Nat.add_eq_left, Nat.add_left_cancel_iff] at hx
  subst hx
  refine ⟨_, _, rfl, by first | trivial | omega | (simp only [and_true, true_and]; omega), ?_⟩
  refine at_ret (ret_endK (by simp only [RN, ↓reduceIte, ↓get8, reduceCtorEq, Nat.reduceLT, Nat.reduceEqDiff, Nat.reduceAdd, Nat.reduceMul, Nat.reduceLeDiff, Nat.reduceSub, Int.reduceToNat, Int.reduceNeg, Nat.reduceBEq]; first | done | rfl) rfl trivial ⟨[], fun _ _ h => (by cases h), ⟨rfl, by show nx ≤ n3 + 1; omega⟩, rfl⟩)
end Go.Proofs.Ytoihmanhldcjhaa.Id
namespace Go.Proofs.Ytoihmanhldcjhaa.Id
open Go Go.Proofs.Ytoihmanhldcjhaa.Rl
set_option linter.unusedSimpArgs false
set_option linter.unusedVariables false
end Go.Proofs.Ytoihmanhldcjhaa.Id
namespace Go.Proofs.Ytoihmanhldcjhaa.Id
open Go Go.Proofs.Ytoihmanhldcjhaa.Rl
set_option linter.unusedSimpArgs false
set_option linter.unusedVariables false
end Go.Proofs.Ytoihmanhldcjhaa.Id
namespace Go.Proofs.Ytoihmanhldcjhaa.Id
open Go Go.Proofs.Ytoihmanhldcjhaa.Rl
set_option linter.unusedSimpArgs false
set_option linter.unusedVariables false
structure Bk.G0 (B : Bk) (nx : Nat) : Prop where
  hk : B.ok = none → B.ks = []
  hw : B.ow = none → B.ws = []
  hkn : ∀ b, B.ok = some b → b < nx
  hwn : ∀ b, B.ow = some b → b < nx
  hkw : ∀ b c, B.ok = some b → B.ow = some c → ¬ c = b
  hkc : B.ks.length ≤ B.kc
  hwc : B.ws.length ≤ B.wc
def fewB (B : Bk) : Bk := { B with ks := B.ks.take 18, kx := B.ks.drop 18 ++ B.kx, ws := B.ws.take 18, wx := B.ws.drop 18 ++ B.wx }
theorem fewB_H (B : Bk) : (fewB B).H = B.H := by
  unfold Bk.H fewB
  dsimp only
  rw [← List.append_assoc, List.take_append_drop, ← List.append_assoc, List.take_append_drop]
theorem fewB_good {B : Bk} {nx : Nat} (g : B.G0 nx) : (fewB B).Good nx :=
  ⟨fun h => by show B.ks.take 18 = []; rw [g.hk h]; rfl, fun h => by show B.ws.take 18 = []; rw [g.hw h]; rfl, by show (B.ks.take 18).length ≤ 1000; rw [List.length_take]; omega, by show (B.ws.take 18).length ≤ 1000; rw [List.length_take]; omega, g.hkn, g.hwn, g.hkw⟩
set_option maxRecDepth 100000 in
theorem few_c (B : Bk) (nx : Nat) (g : B.G0 nx) : CallW Try.prog 10 [B.val] B.H nx fun o F' n => (o = .ret (fewB B).val ∧ nx ≤ n) ∧ F' = B.H := by
  have l1 : ilen (tbOf Try.prog) 23 (slv B.ok B.ks.length B.kc) = some (.int .i64 B.ks.length) := ilen_slv (tbOf Try.prog) 23 46 (by rw [und_eq, Try.underlying23]) _ _ _ (fun h => by rw [g.hk h]; rfl)
  have l2 : ilen (tbOf Try.prog) 24 (slv B.ow B.ws.length B.wc) = some (.int .i64 B.ws.length) := ilen_slv (tbOf Try.prog) 24 51 (by rw [und_eq, Try.underlying24]) _ _ _ (fun h => by rw [g.hw h]; rfl)
  have t2 : ∀ b, B.ok = some b → look b B.H = some ⟨kcells (B.ks ++ B.kx), 46, 20, B.ro, B.loose⟩ := by
    rcases B with ⟨ks, kx, ws, wx, ok, kc, ow, wc, ro, loose⟩
    intro b h; dsimp only at h; subst h; simp [Bk.H, kblk, look_cons]
  have t3 : ∀ c, B.ow = some c → look c B.H = some ⟨wcells (B.ws ++ B.wx), 51, 6, B.ro, B.loose⟩ := by
    rcases B with ⟨ks, kx, ws, wx, ok, kc, ow, wc, ro, loose⟩
    intro c h; dsimp only at h; subst h
    cases ok with
    | none => simp [Bk.H, kblk, wpblk, look_cons]
    | some b => have := g.hkw b c rfl rfl; simp [Bk.H, kblk, wpblk, look_cons, this]
  unfold Bk.val fewB
  dsimp only
  rw [List.length_take, List.length_take]
  obtain ⟨T0, hT0⟩ : ∃ T0, B.H = T0 := ⟨_, rfl⟩
  rw [hT0] at t2 t3 ⊢
  rcases B with ⟨ks, kx, ws, wx, ok, kc, ow, wc, ro, loose⟩
  obtain ⟨hk, hw, hkn, hwn, hkw, hkc, hwc⟩ := g
  dsimp only at l1 l2 t2 t3 hk hw hkn hwn hkw hkc hwc ⊢
  refine CallW_go (tbOk _) 20 [.cell 2 26] Try.func10 rfl (by decide) rfl rfl (by simp) fun hlt => ?_
  simp only [params, Nat.zero_add, Nat.reduceAdd]
  refine JS_go (tbOk _) 99 fun x hx => ?_
  simp only [RN, ↓reduceIte, ↓get8, reduceCtorEq, Nat.reduceLT, Nat.reduceEqDiff, Nat.reduceAdd, Nat.reduceMul, Nat.reduceLeDiff, Nat.reduceSub, Int.reduceToNat, Int.reduceNeg, Nat.reduceBEq, TY, ↓l1, Nat.add_assoc, Nat.left_eq_add, Nat.add_eq_left, Nat.add_left_cancel_iff] at hx
  subst hx
  refine ⟨_, _, rfl, by first | trivial | omega | (simp only [and_true, true_and]; omega), ?_⟩
  refine at_condM ({ n := 20, fr := [(2, .pointer (some ⟨nx + 1, 0, none⟩)), (1, .pointer (some ⟨nx, 0, none⟩))], F := [(nx, ⟨[slv ok (min 18 ks.length) kc, slv ow ws.length wc], 26, 2, false, false⟩), (nx + 1, ⟨[.slice none 0 0, .slice none 0 0], 26, 2, false, false⟩)] ++ T0, nx := nx + 2, ds := [] }) (fun h => ?_) (fun h => ?_) ?_
  · have hl : 18 < ks.length := by have := of_decide_eq_true h; omega
    obtain ⟨b, hb⟩ : ∃ b, ok = some b := by
      cases ok with
      | none => rw [hk rfl] at hl; exact absurd hl (by simp)
      | some b => exact ⟨b, rfl⟩
    have hm : min 18 ks.length = 18 := by omega
    have lb := t2 b hb
    have hbn := hkn b hb
    have q0 : ¬ b = nx := by omega
    have q1 : ∀ i, ¬ b = nx + i := by intro i; omega
    have hs : slv ok ks.length kc = .slice (some ⟨b, 0, none⟩) ks.length kc := by rw [hb]; rfl
    have hs2 : slv ok (min 18 ks.length) kc = .slice (some ⟨b, 0, none⟩) 18 kc := by rw [hb, hm]; rfl
    rw [hs2]
    refine JS_go (tbOk _) 99 fun x hx => ?_
    simp only [RN, ↓reduceIte, ↓get8, reduceCtorEq, Nat.reduceLT, Nat.reduceEqDiff, Nat.reduceAdd, Nat.reduceMul, Nat.reduceLeDiff, Nat.reduceSub, Int.reduceToNat, Int.reduceNeg, Nat.reduceBEq, TY, hs, lb, q0, q1, Nat.sub_zero, Nat.add_assoc, Nat.left_eq_add, Nat.add_eq_left, Nat.add_left_cancel_iff] at hx
    subst hx
    refine ⟨_, _, rfl, ?_, ?_⟩
    · simp; omega
    refine at_done (in_cut ⟨rfl, leL_look (by simp only [RN, ↓reduceIte, ↓get8, reduceCtorEq, Nat.reduceLT, Nat.reduceEqDiff, Nat.reduceAdd, Nat.reduceMul, Nat.reduceLeDiff, Nat.reduceSub, Int.reduceToNat, Int.reduceNeg, Nat.reduceBEq]; first | done | trivial), ?_, Nat.le_refl _, rfl⟩)
    refine leT (X := [_, _]) (by simp only [RN, ↓reduceIte, ↓get8, reduceCtorEq, Nat.reduceLT, Nat.reduceEqDiff, Nat.reduceAdd, Nat.reduceMul, Nat.reduceLeDiff, Nat.reduceSub, Int.reduceToNat, Int.reduceNeg, Nat.reduceBEq, hs, Nat.add_assoc, Nat.left_eq_add, Nat.add_eq_left, Nat.add_left_cancel_iff]; first | done | trivial) ?_
    intro id c h
    have u0 := hlt id c h
    have u1 : ¬ id = nx := by omega
    have u2 : ∀ i, ¬ id = nx + i := by intro i; omega
    simp only [RN, ↓reduceIte, ↓get8, reduceCtorEq, Nat.reduceLT, Nat.reduceEqDiff, Nat.reduceAdd, Nat.reduceMul, Nat.reduceLeDiff, Nat.reduceSub, Int.reduceToNat, Int.reduceNeg, Nat.reduceBEq, u1, u2, h]
  · have hl : ¬ 18 < ks.length := by have := of_decide_eq_false h; omega
    have hm : min 18 ks.length = ks.length := by omega
    rw [hm]
    refine JS_go (tbOk _) 99 fun x hx => ?_
    simp only [RN, ↓reduceIte, ↓get8, reduceCtorEq, Nat.reduceLT, Nat.reduceEqDiff, Nat.reduceAdd, Nat.reduceMul, Nat.reduceLeDiff, Nat.reduceSub, Int.reduceToNat, Int.reduceNeg, Nat.reduceBEq, TY] at hx
    subst hx
    refine ⟨_, _, rfl, by first | trivial | omega | (simp only [and_true, true_and]; omega), ?_⟩
    refine at_done (in_cut ⟨rfl, leL_look (by simp only [RN, ↓reduceIte, ↓get8, reduceCtorEq, Nat.reduceLT, Nat.reduceEqDiff, Nat.reduceAdd, Nat.reduceMul, Nat.reduceLeDiff, Nat.reduceSub, Int.reduceToNat, Int.reduceNeg, Nat.reduceBEq]; first | done | trivial), ?_, Nat.le_refl _, rfl⟩)
    refine leT (X := [_, _]) (by simp only [RN, ↓reduceIte, ↓get8, reduceCtorEq, Nat.reduceLT, Nat.reduceEqDiff, Nat.reduceAdd, Nat.reduceMul, Nat.reduceLeDiff, Nat.reduceSub, Int.reduceToNat, Int.reduceNeg, Nat.reduceBEq, Nat.add_assoc, Nat.left_eq_add, Nat.add_eq_left, Nat.add_left_cancel_iff]; first | done | trivial) ?_
    intro id c h
    have u0 := hlt id c h
    have u1 : ¬ id = nx := by omega
    have u2 : ∀ i, ¬ id = nx + i := by intro i; omega
    simp only [RN, ↓reduceIte, ↓get8, reduceCtorEq, Nat.reduceLT, Nat.reduceEqDiff, Nat.reduceAdd, Nat.reduceMul, Nat.reduceLeDiff, Nat.reduceSub, Int.reduceToNat, Int.reduceNeg, Nat.reduceBEq, u1, u2, h]
  refine JS_go (tbOk _) 99 fun x hx => ?_
  simp only [RN, ↓reduceIte, ↓get8, reduceCtorEq, Nat.reduceLT, Nat.reduceEqDiff, Nat.reduceAdd, Nat.reduceMul, Nat.reduceLeDiff, Nat.reduceSub, Int.reduceToNat, Int.reduceNeg, Nat.reduceBEq, TY, ↓l2, Nat.add_assoc, Nat.left_eq_add, Nat.add_eq_left, Nat.add_left_cancel_iff] at hx
  subst hx
  refine ⟨_, _, rfl, by first | trivial | omega | (simp only [and_true, true_and]; omega), ?_⟩
  refine at_condM ({ n := 20, fr := [(2, .pointer (some ⟨nx + 1, 0, none⟩)), (1, .pointer (some ⟨nx, 0, none⟩))], F := [(nx, ⟨[slv ok (min 18 ks.length) kc, slv ow (min 18 ws.length) wc], 26, 2, false, false⟩), (nx + 1, ⟨[.slice none 0 0, .slice none 0 0], 26, 2, false, false⟩)] ++ T0, nx := nx + 2, ds := [] }) (fun h => ?_) (fun h => ?_) ?_
  · have hl : 18 < ws.length := by have := of_decide_eq_true h; omega
    obtain ⟨b, hb⟩ : ∃ b, ow = some b := by
      cases ow with
      | none => rw [hw rfl] at hl; exact absurd hl (by simp)
      | some b => exact ⟨b, rfl⟩
    have hm : min 18 ws.length = 18 := by omega
    have lb := t3 b hb
    have hbn := hwn b hb
    have q0 : ¬ b = nx := by omega
    have q1 : ∀ i, ¬ b = nx + i := by intro i; omega
    have hs : slv ow ws.length wc = .slice (some ⟨b, 0, none⟩) ws.length wc := by rw [hb]; rfl
    have hs2 : slv ow (min 18 ws.length) wc = .slice (some ⟨b, 0, none⟩) 18 wc := by rw [hb, hm]; rfl
    rw [hs2]
    refine JS_go (tbOk _) 99 fun x hx => ?_
    simp only [RN, ↓reduceIte, ↓get8, reduceCtorEq, Nat.reduceLT, Nat.reduceEqDiff, Nat.reduceAdd, Nat.reduceMul, Nat.reduceLeDiff, Nat.reduceSub, Int.reduceToNat, Int.reduceNeg, Nat.reduceBEq, TY, hs, lb, q0, q1, Nat.sub_zero, Nat.add_assoc, Nat.left_eq_add, Nat.add_eq_left, Nat.add_left_cancel_iff] at hx
    subst hx
    refine ⟨_, _, rfl, ?_, ?_⟩
    · simp; omega
    refine at_done (in_cut ⟨rfl, leL_look (by simp only [RN, ↓reduceIte, ↓get8, reduceCtorEq, Nat.reduceLT, Nat.reduceEqDiff, Nat.reduceAdd, Nat.reduceMul, Nat.reduceLeDiff, Nat.reduceSub, Int.reduceToNat, Int.reduceNeg, Nat.reduceBEq]; first | done | trivial), ?_, Nat.le_refl _, rfl⟩)
    refine leT (X := [_, _]) (by simp only [RN, ↓reduceIte, ↓get8, reduceCtorEq, Nat.reduceLT, Nat.reduceEqDiff, Nat.reduceAdd, Nat.reduceMul, Nat.reduceLeDiff, Nat.reduceSub, Int.reduceToNat, Int.reduceNeg, Nat.reduceBEq, hs, Nat.add_assoc, Nat.left_eq_add, Nat.add_eq_left, Nat.add_left_cancel_iff]; first | done | trivial) ?_
    intro id c h
    have u0 := hlt id c h
    have u1 : ¬ id = nx := by omega
    have u2 : ∀ i, ¬ id = nx + i := by intro i; omega
    simp only [RN, ↓reduceIte, ↓get8, reduceCtorEq, Nat.reduceLT, Nat.reduceEqDiff, Nat.reduceAdd, Nat.reduceMul, Nat.reduceLeDiff, Nat.reduceSub, Int.reduceToNat, Int.reduceNeg, Nat.reduceBEq, u1, u2, h]
  · have hl : ¬ 18 < ws.length := by have := of_decide_eq_false h; omega
    have hm : min 18 ws.length = ws.length := by omega
    rw [hm]
    refine JS_go (tbOk _) 99 fun x hx => ?_
    simp only [RN, ↓reduceIte, ↓get8, reduceCtorEq, Nat.reduceLT, Nat.reduceEqDiff, Nat.reduceAdd, Nat.reduceMul, Nat.reduceLeDiff, Nat.reduceSub, Int.reduceToNat, Int.reduceNeg, Nat.reduceBEq, TY] at hx
    subst hx
    refine ⟨_, _, rfl, by first | trivial | omega | (simp only [and_true, true_and]; omega), ?_⟩
    refine at_done (in_cut ⟨rfl, leL_look (by simp only [RN, ↓reduceIte, ↓get8, reduceCtorEq, Nat.reduceLT, Nat.reduceEqDiff, Nat.reduceAdd, Nat.reduceMul, Nat.reduceLeDiff, Nat.reduceSub, Int.reduceToNat, Int.reduceNeg, Nat.reduceBEq]; first | done | trivial), ?_, Nat.le_refl _, rfl⟩)
    refine leT (X := [_, _]) (by simp only [RN, ↓reduceIte, ↓get8, reduceCtorEq, Nat.reduceLT, Nat.reduceEqDiff, Nat.reduceAdd, Nat.reduceMul, Nat.reduceLeDiff, Nat.reduceSub, Int.reduceToNat, Int.reduceNeg, Nat.reduceBEq, Nat.add_assoc, Nat.left_eq_add, Nat.add_eq_left, Nat.add_left_cancel_iff]; first | done | trivial) ?_
    intro id c h
    have u0 := hlt id c h
    have u1 : ¬ id = nx := by omega
    have u2 : ∀ i, ¬ id = nx + i := by intro i; omega
    simp only [RN, ↓reduceIte, ↓get8, reduceCtorEq, Nat.reduceLT, Nat.reduceEqDiff, Nat.reduceAdd, Nat.reduceMul, Nat.reduceLeDiff, Nat.reduceSub, Int.reduceToNat, Int.reduceNeg, Nat.reduceBEq, u1, u2, h]
  refine JS_go (tbOk _) 99 fun x hx => ?_
  simp only [RN, ↓reduceIte, ↓get8, reduceCtorEq, Nat.reduceLT, Nat.reduceEqDiff, Nat.reduceAdd, Nat.reduceMul, Nat.reduceLeDiff, Nat.reduceSub, Int.reduceToNat, Int.reduceNeg, Nat.reduceBEq, TY, Nat.add_assoc, Nat.left_eq_add, Nat.add_eq_left, Nat.add_left_cancel_iff] at hx
  subst hx
  refine ⟨_, _, rfl, by first | trivial | omega | (simp only [and_true, true_and]; omega), ?_⟩
  refine at_ret ?_
  refine ret_endK (by simp only [RN, ↓reduceIte, ↓get8, reduceCtorEq, Nat.reduceLT, Nat.reduceEqDiff, Nat.reduceAdd, Nat.reduceMul, Nat.reduceLeDiff, Nat.reduceSub, Int.reduceToNat, Int.reduceNeg, Nat.reduceBEq, TY, Nat.add_assoc, Nat.left_eq_add, Nat.add_eq_left, Nat.add_left_cancel_iff]; rfl) rfl (by first | trivial | omega) ⟨T0, ?_, ⟨rfl, by show nx ≤ nx + 2; omega⟩, rfl⟩
  intro id c h
  have u0 := hlt id c h
  have u1 : ¬ id = nx := by omega
  have u2 : ∀ i, ¬ id = nx + i := by intro i; omega
  simp only [RN, ↓reduceIte, ↓get8, reduceCtorEq, Nat.reduceLT, Nat.reduceEqDiff, Nat.reduceAdd, Nat.reduceMul, Nat.reduceLeDiff, Nat.reduceSub, Int.reduceToNat, Int.reduceNeg, Nat.reduceBEq, u1, u2, h]
theorem Bk.G0.mono {B : Bk} {nx nx' : Nat} (g : B.G0 nx) (h : nx ≤ nx') : B.G0 nx' :=
  ⟨g.hk, g.hw, fun b e => Nat.lt_of_lt_of_le (g.hkn b e) h, fun b e => Nat.lt_of_lt_of_le (g.hwn b e) h, g.hkw, g.hkc, g.hwc⟩
theorem check_q (B : Bk) (nx : Nat) (g : B.Good nx) : CallW Try.prog 11 [B.val] B.H nx fun o F' n => (o = .ret (.tuple #[.int .i64 (checkB B.ks B.ws).1, .int .i64 (checkB B.ks B.ws).2]) ∧ nx ≤ n) ∧ F' = B.H :=
  (check_c B nx g).mono fun o F' n h => ⟨⟨h.1, h.2.2⟩, h.2.1⟩
end Go.Proofs.Ytoihmanhldcjhaa.Id
namespace Go.Proofs.Ytoihmanhldcjhaa.Id
open Go Go.RowKit Go.ChangeShapes Go.WideShapes
set_option linter.unusedSimpArgs false
set_option linter.unusedVariables false
section
variable {H : Type} {enc : TypeId × Value → H} {W : World}
theorem slice_open {t e : TypeId} {α : Type} (f : α → List Value) (m : Nat) (hm : 0 < m) (hf : ∀ x, (f x).length = m) (hfl : ∀ x, (f x).all flat1 = true) (hf1 : ∀ x, (f x).all (·.oneCell') = true) (leaves : List Leaf) (hg : gleaves Try.prog 6 e = some leaves) (hC : Try.prog.cellsOf e = m)
    (ht : Try.prog.underlying t = some (.slice e)) (hrow : ∀ cs : List Value, gflatOk enc Try.prog W 0 (fun _ => true) true leaves cs → ∃ x, f x = cs) {z : Value} {fuel : Nat} {x : DataW H × List MemPlace}
    {b0 : Nat} (hok : Cell.okWide Try.prog W .any b0 t z) (h : DataW.trod enc Try.prog W 0 (fun _ => true) true fuel t [z] = some x) :
    z = .slice none 0 0 ∨ ∃ (p : Place) (len cap : Nat) (l : List α), len ≤ cap ∧ l.length = cap ∧ (∀ (mm : Mp) id, mm id = some p → VR mm (.slice (some ⟨id, 0, none⟩) len cap) z) ∧ ∀ (mm : Mp) el, BR mm ⟨l.flatMap f, el, m, true, false⟩ p W := by
  rcases Go.Deep.open_slice ht h with ⟨h1, _⟩ | ⟨a, len, cap, m1, n, D, Pl, h1, hb, hl, hmx, hmm, hx, hi⟩
  · simp only [List.cons.injEq, and_true] at h1
    exact .inl h1
  · simp only [List.cons.injEq, and_true] at h1
    subst h1
    right
    rw [if_pos rfl] at hmm
    subst hmm
    have hk : len ≤ m1 ∧ (m1 : Int) ≤ IntKind.i64.max ∧ W.has Try.prog .any b0 a e m1 := by
      unfold Cell.okWide at hok
      rw [ht] at hok
      dsimp only at hok
      unfold Cell.ok at hok
      rw [ht] at hok
      exact hok
    obtain ⟨_, hsp, row, cells, hsh, _⟩ := hk.2.2
    obtain ⟨b, off, spot⟩ := a
    dsimp only at hsp hsh
    subst hsp
    obtain ⟨rc, el, fz, hW⟩ : ∃ rc el fz, W.heap[b]? = some (.cells rc el fz) := by
      unfold World.shape? at hsh
      split at hsh
      · rename_i c el fz hc; exact ⟨c, el, fz, hc⟩
      · cases hsh
    have hrows : ∀ i, i < m1 → ∃ x : α, ∀ j v, (f x)[j]? = some v → rc[off + (i * m + j)]? = some v := by
      intro i him
      obtain ⟨cs, hcs, htr⟩ := hi i him
      rw [hC] at hcs
      obtain ⟨_, hcl, hat⟩ := World.cells?_some hcs
      obtain ⟨x, hx⟩ := hrow cs (gflat_open 6 _ _ hg _ _ _ (by rw [hC]; exact hcl) htr)
      refine ⟨x, fun j v hv => ?_⟩
      rw [hx] at hv
      have hj : j < m := by
        have := (List.getElem?_eq_some_iff.1 hv).1
        omega
      have h2 := hat j hj
      rw [hv, Go.Deep.add_add] at h2
      unfold World.cell? at h2
      have hb2 : ((⟨b, off, none⟩ : Addr).add (i * m + j)).block = b := by unfold Addr.add; split <;> rfl
      have ho2 : ((⟨b, off, none⟩ : Addr).add (i * m + j)).off = off + (i * m + j) := by
        unfold Addr.add; split
        · rename_i h0; rw [h0]; rfl
        · rfl
      have hs2 : ((⟨b, off, none⟩ : Addr).add (i * m + j)).spot = none := by unfold Addr.add; split <;> rfl
      rw [hb2, hW] at h2
      dsimp only at h2
      rw [hs2, ho2] at h2
      simpa using h2
    obtain ⟨l, hll, hlp⟩ := choose_list m1 hrows
    have hcell : ∀ (n : Nat) (v : Value), (l.flatMap f)[n]? = some v → rc[off + n]? = some v := by
      intro n v hv
      obtain ⟨g1, g2⟩ := flat_idx f m hm hf l n v hv
      have := hlp (n / m) g1 (n % m) v g2
      rwa [Nat.mul_comm, Nat.div_add_mod] at this
    have hlen : (l.flatMap f).length = m1 * m := by rw [flat_len f m hf, hll]
    have hall : (l.flatMap f).all (·.oneCell') = true := by
      rw [List.all_eq_true]
      intro v hv
      obtain ⟨x, _, hx⟩ := List.mem_flatMap.1 hv
      exact (List.all_eq_true.1 (hf1 x)) v hx
    have hvr : ∀ (mm : Mp) (n : Nat) (v : Value), (l.flatMap f)[n]? = some v → VR mm v v := by
      intro mm n v hv
      obtain ⟨x, _, hx⟩ := List.mem_flatMap.1 (List.mem_of_getElem? hv)
      exact VR.of_flat1 ((List.all_eq_true.1 (hfl x)) v hx)
    by_cases hc0 : m1 = 0
    · subst hc0
      have hl0 : len = 0 := by omega
      subst hl0
      have hnil : l = [] := List.eq_nil_of_length_eq_zero hll
      subst hnil
      refine ⟨⟨b, 0, rc.size, 0, m, false⟩, 0, 0, [], Nat.le_refl _, rfl, fun mm id hmi => .se 0 off hmi, fun mm el2 => ⟨rfl, rfl, rfl, Nat.zero_le _, rfl, rc, el, fz, hW, (Nat.zero_add _).symm, nofun, fun i v hv => by simp at hv⟩⟩
    · have hsize : off + m1 * m ≤ rc.size := by
        have hlast : m1 * m - 1 < (l.flatMap f).length := by rw [hlen]; have := Nat.mul_pos (Nat.pos_of_ne_zero hc0) hm; omega
        have := hcell _ _ (List.getElem?_eq_getElem hlast)
        have := (Array.getElem?_eq_some_iff.1 this).1
        omega
      refine ⟨⟨b, off, rc.size - off, m1 * m, m, false⟩, len, m1, l, hk.1, hll, fun mm id hmi => ?_, fun mm el2 => ⟨hlen.symm, rfl, rfl, by show m1 * m ≤ rc.size - off; omega, hall, rc, el, fz, hW, by show rc.size = off + (rc.size - off); omega, nofun, fun i v hv => ⟨v, hcell i v hv, hvr mm i v hv⟩⟩⟩
      exact VR.sl (p := ⟨b, off, rc.size - off, m1 * m, m, false⟩) 0 len m1 m1 hmi (.inl rfl) (by show 0 + m1 * m ≤ rc.size - off; omega) hk.1
theorem kind_row (cs : List Value) (h : gflatOk enc Try.prog W 0 (fun _ => true) true [.int .i64, .int .i64, .int .i64, .int .i64, .int .i64, .int .i64, .int .i64, .int .i64, .int .i64, .int .i64, .int .i64, .int .i64, .int .i64, .int .i64, .int .i64, .int .i64, .int .i64, .int .i64, .int .i64, .int .i64] cs) : ∃ k, Kd.cells k = cs := by
  rcases cs with _ | ⟨u0, cs⟩
  · exact h.elim
  obtain ⟨⟨z0, rfl, _⟩, h⟩ := h
  rcases cs with _ | ⟨u1, cs⟩
  · exact h.elim
  obtain ⟨⟨z1, rfl, _⟩, h⟩ := h
  rcases cs with _ | ⟨u2, cs⟩
  · exact h.elim
  obtain ⟨⟨z2, rfl, _⟩, h⟩ := h
  rcases cs with _ | ⟨u3, cs⟩
  · exact h.elim
  obtain ⟨⟨z3, rfl, _⟩, h⟩ := h
  rcases cs with _ | ⟨u4, cs⟩
  · exact h.elim
  obtain ⟨⟨z4, rfl, _⟩, h⟩ := h
  rcases cs with _ | ⟨u5, cs⟩
  · exact h.elim
  obtain ⟨⟨z5, rfl, _⟩, h⟩ := h
  rcases cs with _ | ⟨u6, cs⟩
  · exact h.elim
  obtain ⟨⟨z6, rfl, _⟩, h⟩ := h
  rcases cs with _ | ⟨u7, cs⟩
  · exact h.elim
  obtain ⟨⟨z7, rfl, _⟩, h⟩ := h
  rcases cs with _ | ⟨u8, cs⟩
  · exact h.elim
  obtain ⟨⟨z8, rfl, _⟩, h⟩ := h
  rcases cs with _ | ⟨u9, cs⟩
  · exact h.elim
  obtain ⟨⟨z9, rfl, _⟩, h⟩ := h
  rcases cs with _ | ⟨u10, cs⟩
  · exact h.elim
  obtain ⟨⟨z10, rfl, _⟩, h⟩ := h
  rcases cs with _ | ⟨u11, cs⟩
  · exact h.elim
  obtain ⟨⟨z11, rfl, _⟩, h⟩ := h
  rcases cs with _ | ⟨u12, cs⟩
  · exact h.elim
  obtain ⟨⟨z12, rfl, _⟩, h⟩ := h
  rcases cs with _ | ⟨u13, cs⟩
  · exact h.elim
  obtain ⟨⟨z13, rfl, _⟩, h⟩ := h
  rcases cs with _ | ⟨u14, cs⟩
  · exact h.elim
  obtain ⟨⟨z14, rfl, _⟩, h⟩ := h
  rcases cs with _ | ⟨u15, cs⟩
  · exact h.elim
  obtain ⟨⟨z15, rfl, _⟩, h⟩ := h
  rcases cs with _ | ⟨u16, cs⟩
  · exact h.elim
  obtain ⟨⟨z16, rfl, _⟩, h⟩ := h
  rcases cs with _ | ⟨u17, cs⟩
  · exact h.elim
  obtain ⟨⟨z17, rfl, _⟩, h⟩ := h
  rcases cs with _ | ⟨u18, cs⟩
  · exact h.elim
  obtain ⟨⟨z18, rfl, _⟩, h⟩ := h
  rcases cs with _ | ⟨u19, cs⟩
  · exact h.elim
  obtain ⟨⟨z19, rfl, _⟩, h⟩ := h
  rcases cs with _ | ⟨v, cs⟩
  · exact ⟨⟨z0, z1, z2, z3, z4, z5, z6, z7, z8, z9, z10, z11, z12, z13, z14, z15, z16, z17, z18, z19⟩, rfl⟩
  · exact h.elim
theorem weapon_row (cs : List Value) (h : gflatOk enc Try.prog W 0 (fun _ => true) true [.int .i64, .int .i64, .int .i64, .int .i64, .int .i64, .bool] cs) : ∃ k, Wp.cells k = cs := by
  rcases cs with _ | ⟨u0, cs⟩
  · exact h.elim
  obtain ⟨⟨z0, rfl, _⟩, h⟩ := h
  rcases cs with _ | ⟨u1, cs⟩
  · exact h.elim
  obtain ⟨⟨z1, rfl, _⟩, h⟩ := h
  rcases cs with _ | ⟨u2, cs⟩
  · exact h.elim
  obtain ⟨⟨z2, rfl, _⟩, h⟩ := h
  rcases cs with _ | ⟨u3, cs⟩
  · exact h.elim
  obtain ⟨⟨z3, rfl, _⟩, h⟩ := h
  rcases cs with _ | ⟨u4, cs⟩
  · exact h.elim
  obtain ⟨⟨z4, rfl, _⟩, h⟩ := h
  rcases cs with _ | ⟨u5, cs⟩
  · exact h.elim
  obtain ⟨⟨z5, rfl⟩, h⟩ := h
  rcases cs with _ | ⟨v, cs⟩
  · exact ⟨⟨z0, z1, z2, z3, z4, z5⟩, rfl⟩
  · exact h.elim
theorem byte_row (cs : List Value) (h : gflatOk enc Try.prog W 0 (fun _ => true) true [.int .u8] cs) : ∃ b : UInt8, [Value.int .u8 b.toNat] = cs := by
  rcases cs with _ | ⟨u0, cs⟩
  · exact h.elim
  obtain ⟨⟨z0, rfl, w0⟩, h⟩ := h
  rcases cs with _ | ⟨v, cs⟩
  · have hb := bounds_u8 w0
    exact ⟨UInt8.ofNat z0.toNat, by
      have : ((UInt8.ofNat z0.toNat).toNat : Int) = z0 := by simp; omega
      rw [this]⟩
  · exact h.elim
end
end Go.Proofs.Ytoihmanhldcjhaa.Id
namespace Go.Proofs.Ytoihmanhldcjhaa.Id
open Go Go.RowKit Go.ChangeShapes Go.WideShapes
set_option linter.unusedSimpArgs false
set_option linter.unusedVariables false
structure Opened {α : Type} (f : α → List Value) (m : Nat) (W : World) (z : Value) (op : Option Place) (len cap : Nat) (l : List α) : Prop where
  hl : len ≤ cap
  no : op = none → len = 0 ∧ z = .slice none 0 0
  rows : ∀ p, op = some p → l.length = cap
  vr : ∀ p, op = some p → ∀ (mm : Mp) id, mm id = some p → VR mm (.slice (some ⟨id, 0, none⟩) len cap) z
  br : ∀ p, op = some p → ∀ (mm : Mp) el, BR mm ⟨l.flatMap f, el, m, true, false⟩ p W
section
variable {H : Type} {enc : TypeId × Value → H} {W : World}
theorem opened_of {α : Type} {f : α → List Value} {m : Nat} {z : Value} (h : z = .slice none 0 0 ∨ ∃ (p : Place) (len cap : Nat) (l : List α), len ≤ cap ∧ l.length = cap ∧ (∀ (mm : Mp) id, mm id = some p → VR mm (.slice (some ⟨id, 0, none⟩) len cap) z) ∧ ∀ (mm : Mp) el, BR mm ⟨l.flatMap f, el, m, true, false⟩ p W) :
    ∃ op len cap l, Opened f m W z op len cap l := by
  rcases h with h | ⟨p, len, cap, l, h1, h2, h3, h4⟩
  · exact ⟨none, 0, 0, [], Nat.le_refl _, fun _ => ⟨rfl, h⟩, nofun, nofun, nofun⟩
  · exact ⟨some p, len, cap, l, h1, nofun, fun q hq => h2, fun q hq => by cases hq; exact h3, fun q hq => by cases hq; exact h4⟩
theorem open_kinds {z : Value} {b0 fuel : Nat} {x : DataW H × List MemPlace} (hok : Cell.okWide Try.prog W .any b0 23 z) (h : DataW.trod enc Try.prog W 0 (fun _ => true) true fuel 23 [z] = some x) : ∃ op len cap l, Opened Kd.cells 20 W z op len cap l :=
  opened_of (slice_open Kd.cells 20 (by omega) (fun _ => rfl) (fun _ => rfl) (fun _ => rfl) _ (by kernel_rfl) (by kernel_rfl) Try.underlying23 kind_row hok h)
theorem open_weapons {z : Value} {b0 fuel : Nat} {x : DataW H × List MemPlace} (hok : Cell.okWide Try.prog W .any b0 24 z) (h : DataW.trod enc Try.prog W 0 (fun _ => true) true fuel 24 [z] = some x) : ∃ op len cap l, Opened Wp.cells 6 W z op len cap l :=
  opened_of (slice_open Wp.cells 6 (by omega) (fun _ => rfl) (fun _ => rfl) (fun _ => rfl) _ (by kernel_rfl) (by kernel_rfl) Try.underlying24 weapon_row hok h)
theorem open_bytes {z : Value} {b0 fuel : Nat} {x : DataW H × List MemPlace} (hok : Cell.okWide Try.prog W .any b0 34 z) (h : DataW.trod enc Try.prog W 0 (fun _ => true) true fuel 34 [z] = some x) : ∃ op len cap l, Opened (fun b : UInt8 => [Value.int .u8 b.toNat]) 1 W z op len cap l :=
  opened_of (slice_open (fun b : UInt8 => [Value.int .u8 b.toNat]) 1 (by omega) (fun _ => rfl) (fun _ => rfl) (fun _ => rfl) _ (by kernel_rfl) (by kernel_rfl) Try.underlying34 byte_row hok h)
end
theorem book_cells {W : World} {b0 : Nat} {z0 z1 : Value} (h : Value.okWide Try.prog W .any b0 26 (.agg #[z0, z1])) : Cell.okWide Try.prog W .any b0 23 z0 ∧ Cell.okWide Try.prog W .any b0 24 z1 := by
  unfold Value.okWide at h
  rw [Try.underlying26] at h
  obtain ⟨cs, e, _, ts, hts, _, hall⟩ := h
  cases e
  have e2 : Try.prog.cellTypes Try.prog.depth 26 = some [23, 24] := by kernel_rfl
  rw [e2] at hts
  cases hts
  obtain ⟨u0, g0, k0⟩ := hall 0 z0 rfl
  obtain ⟨u1, g1, k1⟩ := hall 1 z1 rfl
  cases g0; cases g1
  exact ⟨k0, k1⟩
def argBk (ok : Option Place) (lenk capk : Nat) (lk : List Kd) (ow : Option Place) (lenw capw : Nat) (lw : List Wp) : Bk := ⟨lk.take lenk, lk.drop lenk, lw.take lenw, lw.drop lenw, ok.map fun _ => 0, capk, ow.map fun _ => 1, capw, true, false⟩
section
variable {W : World} {z0 z1 : Value} {ok ow : Option Place} {lenk capk lenw capw : Nat} {lk : List Kd} {lw : List Wp} (hk : Opened Kd.cells 20 W z0 ok lenk capk lk) (hw : Opened Wp.cells 6 W z1 ow lenw capw lw)
include hk hw
theorem argBk_good {nx : Nat} (h2 : 2 ≤ nx) : (argBk ok lenk capk lk ow lenw capw lw).G0 nx := by
  refine ⟨fun h => ?_, fun h => ?_, fun b h => ?_, fun b h => ?_, fun b c h1 h2 => ?_, ?_, ?_⟩
  · cases ok with
    | none => show lk.take lenk = []; rw [(hk.no rfl).1]; rfl
    | some p => cases h
  · cases ow with
    | none => show lw.take lenw = []; rw [(hw.no rfl).1]; rfl
    | some p => cases h
  · cases ok with
    | none => cases h
    | some p => cases h; show 0 < nx; omega
  · cases ow with
    | none => cases h
    | some p => cases h; show 1 < nx; omega
  · cases ok with
    | none => cases h1
    | some p => cases ow with
      | none => cases h2
      | some q => cases h1; cases h2; show ¬ (1 : Nat) = 0; decide
  · show (lk.take lenk).length ≤ capk; rw [List.length_take]; have := hk.hl; omega
  · show (lw.take lenw).length ≤ capw; rw [List.length_take]; have := hw.hl; omega
theorem argBk_has {mm : Mp} (m0 : mm 0 = ok) (m1 : mm 1 = ow) : ∀ id blk, look id (argBk ok lenk capk lk ow lenw capw lw).H = some blk → blk.ro = true ∧ id < 2 ∧ ∃ p, mm id = some p ∧ BR mm blk p W := by
  intro id blk h
  unfold Bk.H argBk at h
  dsimp only at h
  rw [List.take_append_drop, List.take_append_drop, look_append] at h
  cases ok with
  | none =>
    cases ow with
    | none => cases h
    | some q =>
      simp only [Option.map, kblk, wpblk] at h
      rw [show look id ([] : Hp) = none from rfl] at h
      dsimp only at h
      rw [look_cons] at h
      split at h
      · rename_i e; subst e; cases h; exact ⟨rfl, by omega, q, m1, hw.br q rfl mm 51⟩
      · cases h
  | some p =>
    simp only [Option.map, kblk] at h
    rw [look_cons] at h
    by_cases h0 : id = 0
    · subst h0
      rw [if_pos rfl] at h
      cases h
      exact ⟨rfl, by omega, p, m0, hk.br p rfl mm 46⟩
    · rw [if_neg h0, show look id ([] : Hp) = none from rfl] at h
      dsimp only at h
      cases ow with
      | none => cases h
      | some q =>
        simp only [wpblk] at h
        rw [look_cons] at h
        split at h
        · rename_i e; subst e; cases h; exact ⟨rfl, by omega, q, m1, hw.br q rfl mm 51⟩
        · cases h
theorem argBk_vr {mm : Mp} (m0 : mm 0 = ok) (m1 : mm 1 = ow) : VR mm (argBk ok lenk capk lk ow lenw capw lw).val (.agg #[z0, z1]) := by
  unfold Bk.val argBk
  dsimp only
  have ek : ∀ p, ok = some p → (lk.take lenk).length = lenk := fun p h => by rw [List.length_take, hk.rows p h]; have := hk.hl; omega
  have ew : ∀ p, ow = some p → (lw.take lenw).length = lenw := fun p h => by rw [List.length_take, hw.rows p h]; have := hw.hl; omega
  refine .agg (.cons ?_ (.cons ?_ .nil)) (by cases ok <;> cases ow <;> rfl)
  · cases ok with
    | none => rw [(hk.no rfl).2]; exact .snil
    | some p => simp only [Option.map, slv]; rw [ek p rfl]; exact hk.vr p rfl mm 0 m0
  · cases ow with
    | none => rw [(hw.no rfl).2]; exact .snil
    | some p => simp only [Option.map, slv]; rw [ew p rfl]; exact hw.vr p rfl mm 1 m1
end
end Go.Proofs.Ytoihmanhldcjhaa.Id
namespace Go.Proofs.Ytoihmanhldcjhaa.Id
open Go Go.Proofs.Ytoihmanhldcjhaa.Rl
set_option linter.unusedSimpArgs false
set_option linter.unusedVariables false
end Go.Proofs.Ytoihmanhldcjhaa.Id
namespace Go.Proofs.Ytoihmanhldcjhaa.Id
open Go Go.Proofs.Ytoihmanhldcjhaa.Rl
set_option linter.unusedSimpArgs false
set_option linter.unusedVariables false
end Go.Proofs.Ytoihmanhldcjhaa.Id
namespace Go.Proofs.Ytoihmanhldcjhaa.Id
open Go Go.Proofs.Ytoihmanhldcjhaa.Rl
set_option linter.unusedSimpArgs false
set_option linter.unusedVariables false
theorem look_past {T0 : Hp} {b nx : Nat} (h : ∀ id x, look id T0 = some x → id < nx) (hb : nx ≤ b) (Y : Hp) : look b (T0 ++ Y) = look b Y := by
  rw [look_append]
  cases hl : look b T0 with
  | none => rfl
  | some x => have := h b x hl; omega
theorem look_in {T0 : Hp} {id : Nat} {x : Blk} (h : look id T0 = some x) (Y : Hp) : look id (T0 ++ Y) = some x := by rw [look_append, h]
end Go.Proofs.Ytoihmanhldcjhaa.Id
namespace Go.Proofs.Ytoihmanhldcjhaa.Id
open Go Go.Proofs.Ytoihmanhldcjhaa.Rl
set_option linter.unusedSimpArgs false
set_option linter.unusedVariables false
def q46 : List Bool := [true, true, true, true, true, true, true, true, true, true, true, true, true, true, true, true, true, true, true, true]
def q51 : List Bool := [true, true, true, true, true, false]
theorem eqs46 : (tbOf Try.prog).eqs 46 = some q46 := by kernel_rfl
theorem eqs51 : (tbOf Try.prog).eqs 51 = some q51 := by kernel_rfl
def kdEq (k l : Kd) : Bool := (ieqCells q46 k.cells l.cells).getD false
def wpEq (k l : Wp) : Bool := (ieqCells q51 k.cells l.cells).getD false
theorem kdEq_some (k l : Kd) : ieqCells q46 k.cells l.cells = some (kdEq k l) := by
  cases k; cases l; simp [kdEq, q46, Kd.cells, ieqCells]
theorem wpEq_some (k l : Wp) : ieqCells q51 k.cells l.cells = some (wpEq k l) := by
  cases k; cases l; simp [wpEq, q51, Wp.cells, ieqCells]
theorem kdEq_iff (k l : Kd) : kdEq k l = true ↔ k = l := by
  cases k; cases l; simp [kdEq, q46, Kd.cells, ieqCells]
theorem wpEq_iff (k l : Wp) : wpEq k l = true ↔ k = l := by
  cases k; cases l; simp [wpEq, q51, Wp.cells, ieqCells]
set_option maxRecDepth 100000 in
set_option maxHeartbeats 4000000 in
theorem same_c (A B : Bk) (T0 : Hp) (nx : Nat) (gA : A.Good nx) (gB : B.Good nx) (hA : ∀ id b, look id A.H = some b → look id T0 = some b) (hB : ∀ id b, look id B.H = some b → look id T0 = some b) (hT : ∀ id b, look id T0 = some b → id < nx) :
    CallW Try.prog 17 [A.val, B.val] T0 nx
      fun o F' nx' => (∃ r, o = .ret (.bool r) ∧ (r = true ↔ A.ks = B.ks ∧ A.ws = B.ws)) ∧ F' = T0 ∧ nx ≤ nx' := by
  have l1 := gA.l1
  have l2 := gA.l2
  have m1 := gB.l1
  have m2 := gB.l2
  have t2 : ∀ b, A.ok = some b → look b T0 = _ := fun b h => hA _ _ (gA.t2 b h)
  have t3 : ∀ b, A.ow = some b → look b T0 = _ := fun b h => hA _ _ (gA.t3 b h)
  have s2 : ∀ b, B.ok = some b → look b T0 = _ := fun b h => hB _ _ (gB.t2 b h)
  have s3 : ∀ b, B.ow = some b → look b T0 = _ := fun b h => hB _ _ (gB.t3 b h)
  clear hA hB
  rcases A with ⟨ks, kx, ws, wx, ok, kc, ow, wc, ro, loose⟩
  rcases B with ⟨ls, lx, vs, vx, ol, lc, ov, vc, ro2, loose2⟩
  obtain ⟨hk, hw, hkl, hwl, hkn, hwn, hkw⟩ := gA
  obtain ⟨jk, jw, jkl, jwl, jkn, jwn, jkw⟩ := gB
  unfold Bk.val
  dsimp only at l1 l2 m1 m2 t2 t3 s2 s3 hk hw hkl hwl hkn hwn jk jw jkl jwl jkn jwn ⊢
  have FIN : ∀ (X : Hp) (r : Bool) (n : Nat), nx ≤ n → (∀ id b, id < nx → look id T0 = some b → look id X = some b) → (r = true ↔ ks = ls ∧ ws = vs) →
      ∃ F', (∀ id b, look id F' = some b → look id X = some b) ∧ ((∃ r2, Out.ret (.bool r) = .ret (.bool r2) ∧ (r2 = true ↔ ks = ls ∧ ws = vs)) ∧ F' = T0 ∧ nx ≤ n) :=
    fun X r n h1 h2 h3 => ⟨T0, fun id b h => h2 id b (hT id b h) h, ⟨r, rfl, h3⟩, rfl, h1⟩
  refine CallW_go (tbOk _) 59 [.tmp 4] Try.func17 rfl (by decide) rfl rfl (by simp) fun hlt => ?_
  simp only [params, Nat.zero_add, Nat.reduceAdd]
  cases c0 : ((ks.length : Int) != ls.length)
  case true =>
    skip
    refine JS_go (tbOk _) 99 fun x hx => ?_
    simp only [RN, ↓reduceIte, ↓get8, reduceCtorEq, Nat.reduceLT, Nat.reduceEqDiff, Nat.reduceAdd, Nat.reduceMul, Nat.reduceLeDiff, Nat.reduceSub, Int.reduceToNat, Int.reduceNeg, Nat.reduceBEq, c0, TY, ↓l1, ↓l2, ↓m1, ↓m2, Nat.add_assoc, Nat.left_eq_add, Nat.add_eq_left, Nat.add_left_cancel_iff] at hx
    subst hx
    refine ⟨_, _, rfl, by first | trivial | omega | (simp only [and_true, true_and]; omega), ?_⟩
    refine at_cond (fun _ => ?_) (fun h => nomatch h)
    refine JS_go (tbOk _) 99 fun x hx => ?_
    simp only [RN, ↓reduceIte, ↓get8, reduceCtorEq, Nat.reduceLT, Nat.reduceEqDiff, Nat.reduceAdd, Nat.reduceMul, Nat.reduceLeDiff, Nat.reduceSub, Int.reduceToNat, Int.reduceNeg, Nat.reduceBEq, TY] at hx
    subst hx
    refine ⟨_, _, rfl, by first | trivial | omega | (simp only [and_true, true_and]; omega), ?_⟩
    refine at_ret (ret_endK (by simp only [RN, ↓reduceIte, ↓get8, reduceCtorEq, Nat.reduceLT, Nat.reduceEqDiff, Nat.reduceAdd, Nat.reduceMul, Nat.reduceLeDiff, Nat.reduceSub, Int.reduceToNat, Int.reduceNeg, Nat.reduceBEq]; first | done | rfl) rfl trivial (FIN _ false _ (by show nx ≤ nx + 2; omega) (fun id b u h => ?_) ?_))
    · have w0 : ¬ id = nx := by omega
      have w1 : ∀ i, ¬ id = nx + i := by intro i; omega
      simp only [RN, ↓reduceIte, ↓get8, reduceCtorEq, Nat.reduceLT, Nat.reduceEqDiff, Nat.reduceAdd, Nat.reduceMul, Nat.reduceLeDiff, Nat.reduceSub, Int.reduceToNat, Int.reduceNeg, Nat.reduceBEq, w0, w1, h]
    · simp only [Bool.false_eq_true, false_iff]; rintro ⟨rfl, _⟩; simp at c0
  cases c1 : ((ws.length : Int) != vs.length)
  case true =>
    skip
    refine JS_go (tbOk _) 99 fun x hx => ?_
    simp only [RN, ↓reduceIte, ↓get8, reduceCtorEq, Nat.reduceLT, Nat.reduceEqDiff, Nat.reduceAdd, Nat.reduceMul, Nat.reduceLeDiff, Nat.reduceSub, Int.reduceToNat, Int.reduceNeg, Nat.reduceBEq, c0, c1, TY, ↓l1, ↓l2, ↓m1, ↓m2, Nat.add_assoc, Nat.left_eq_add, Nat.add_eq_left, Nat.add_left_cancel_iff] at hx
    subst hx
    refine ⟨_, _, rfl, by first | trivial | omega | (simp only [and_true, true_and]; omega), ?_⟩
    refine at_cond (fun _ => ?_) (fun h => nomatch h)
    refine JS_go (tbOk _) 99 fun x hx => ?_
    simp only [RN, ↓reduceIte, ↓get8, reduceCtorEq, Nat.reduceLT, Nat.reduceEqDiff, Nat.reduceAdd, Nat.reduceMul, Nat.reduceLeDiff, Nat.reduceSub, Int.reduceToNat, Int.reduceNeg, Nat.reduceBEq, TY] at hx
    subst hx
    refine ⟨_, _, rfl, by first | trivial | omega | (simp only [and_true, true_and]; omega), ?_⟩
    refine at_ret (ret_endK (by simp only [RN, ↓reduceIte, ↓get8, reduceCtorEq, Nat.reduceLT, Nat.reduceEqDiff, Nat.reduceAdd, Nat.reduceMul, Nat.reduceLeDiff, Nat.reduceSub, Int.reduceToNat, Int.reduceNeg, Nat.reduceBEq]; first | done | rfl) rfl trivial (FIN _ false _ (by show nx ≤ nx + 2; omega) (fun id b u h => ?_) ?_))
    · have w0 : ¬ id = nx := by omega
      have w1 : ∀ i, ¬ id = nx + i := by intro i; omega
      simp only [RN, ↓reduceIte, ↓get8, reduceCtorEq, Nat.reduceLT, Nat.reduceEqDiff, Nat.reduceAdd, Nat.reduceMul, Nat.reduceLeDiff, Nat.reduceSub, Int.reduceToNat, Int.reduceNeg, Nat.reduceBEq, w0, w1, h]
    · simp only [Bool.false_eq_true, false_iff]; rintro ⟨_, rfl⟩; simp at c1
  have n0 : ks.length = ls.length := by simp at c0; omega
  have n1 : ws.length = vs.length := by simp at c1; omega
  refine JS_go (tbOk _) 99 fun x hx => ?_
  simp only [RN, ↓reduceIte, ↓get8, reduceCtorEq, Nat.reduceLT, Nat.reduceEqDiff, Nat.reduceAdd, Nat.reduceMul, Nat.reduceLeDiff, Nat.reduceSub, Int.reduceToNat, Int.reduceNeg, Nat.reduceBEq, c0, c1, TY, ↓l1, ↓l2, ↓m1, ↓m2, Nat.add_assoc, Nat.left_eq_add, Nat.add_eq_left, Nat.add_left_cancel_iff] at hx
  subst hx
  refine ⟨_, _, rfl, by first | trivial | omega | (simp only [and_true, true_and]; omega), ?_⟩
  refine at_cond (fun h => nomatch h) (fun _ => ?_)
  refine JS_go (tbOk _) 99 fun x hx => ?_
  simp only [RN, ↓reduceIte, ↓get8, reduceCtorEq, Nat.reduceLT, Nat.reduceEqDiff, Nat.reduceAdd, Nat.reduceMul, Nat.reduceLeDiff, Nat.reduceSub, Int.reduceToNat, Int.reduceNeg, Nat.reduceBEq, TY] at hx
  subst hx
  refine ⟨_, _, rfl, by first | trivial | omega | (simp only [and_true, true_and]; omega), ?_⟩
  refine at_loop ?_
  refine JS_loopI (S := fun j : Nat => { n := 59, fr := [(5, Value.int IntKind.i64 j), (3, .pointer (some ⟨nx + 1, 0, none⟩)), (2, .pointer (some ⟨nx, 0, none⟩))], F := (nx + 1, ⟨[slv ol ls.length lc, slv ov vs.length vc], 26, 2, false, false⟩) :: (nx, ⟨[slv ok ks.length kc, slv ow ws.length wc], 26, 2, false, false⟩) :: T0, nx := nx + 2, ds := [] })
    (fun j => j ≤ ks.length ∧ ∀ (i : Nat) (h1 : i < ks.length) (h2 : i < ls.length), i < j → ks[i] = ls[i]) (fun j => ks.length - j) 0 ⟨Nat.zero_le _, fun i _ _ h => absurd h (Nat.not_lt_zero i)⟩ ?_ ?_
  · exact ⟨rfl, leL_look (by simp only [RN, ↓reduceIte, ↓get8, reduceCtorEq, Nat.reduceLT, Nat.reduceEqDiff, Nat.reduceAdd, Nat.reduceMul, Nat.reduceLeDiff, Nat.reduceSub, Int.reduceToNat, Int.reduceNeg, Nat.reduceBEq]; first | done | trivial), fun id b h => h, Nat.le_refl _, rfl⟩
  rintro j ⟨hj, hall⟩
  refine JS_go (tbOk _) 99 fun x hx => ?_
  simp only [RN, ↓reduceIte, ↓get8, reduceCtorEq, Nat.reduceLT, Nat.reduceEqDiff, Nat.reduceAdd, Nat.reduceMul, Nat.reduceLeDiff, Nat.reduceSub, Int.reduceToNat, Int.reduceNeg, Nat.reduceBEq, TY, ↓l1, Nat.add_assoc, Nat.left_eq_add, Nat.add_eq_left, Nat.add_left_cancel_iff] at hx
  subst hx
  refine ⟨_, _, rfl, by first | trivial | omega | (simp only [and_true, true_and]; omega), ?_⟩
  refine at_cond (fun hlt2 => ?_) (fun hge => ?_)
  · have hlt3 : j < ks.length := by simpa using hlt2
    have hlt4 : j < ls.length := by omega
    obtain ⟨b, hb⟩ : ∃ b, ok = some b := by
      cases ok with
      | none => rw [hk rfl] at hlt3; exact absurd hlt3 (by simp)
      | some b => exact ⟨b, rfl⟩
    obtain ⟨c, hc⟩ : ∃ c, ol = some c := by
      cases ol with
      | none => rw [jk rfl] at hlt4; exact absurd hlt4 (by simp)
      | some b => exact ⟨b, rfl⟩
    have hbn := hkn b hb
    have hcn := jkn c hc
    have lb := t2 b hb
    have lc2 := s2 c hc
    have hs : slv ok ks.length kc = .slice (some ⟨b, 0, none⟩) ks.length kc := by rw [hb]; rfl
    have hs2 : slv ol ls.length lc = .slice (some ⟨c, 0, none⟩) ls.length lc := by rw [hc]; rfl
    have g0 : ¬ b = nx := by omega
    have g1 : ∀ i, ¬ b = nx + i := by intro i; omega
    have g2 : ¬ c = nx := by omega
    have g3 : ∀ i, ¬ c = nx + i := by intro i; omega
    have kg := kcells_get (ks := ks ++ kx) (j := j) (by simp; omega)
    rw [List.getElem_append_left hlt3] at kg
    have kl := kcells_len (ks ++ kx)
    rw [List.length_append] at kl
    have kg2 := kcells_get (ks := ls ++ lx) (j := j) (by simp; omega)
    rw [List.getElem_append_left hlt4] at kg2
    have kl2 := kcells_len (ls ++ lx)
    rw [List.length_append] at kl2
    have hq := kdEq_some ks[j] ls[j]
    refine JS_go (tbOk _) 99 fun x hx => ?_
    simp only [RN, ↓reduceIte, ↓get8, reduceCtorEq, Nat.reduceLT, Nat.reduceEqDiff, Nat.reduceAdd, Nat.reduceMul, Nat.reduceLeDiff, Nat.reduceSub, Int.reduceToNat, Int.reduceNeg, Nat.reduceBEq, TY] at hx
    subst hx
    refine ⟨_, _, rfl, by first | trivial | omega | (simp only [and_true, true_and]; omega), ?_⟩
    rw [CRJ]
    refine JS_draw (tbOk _) { wr := [(30, 0), (31, 1), (32, 2), (33, 3), (34, 4), (35, 5), (36, 6), (37, 7), (38, 8), (39, 9), (40, 10)], anc := [[], [0], [], [0, 1, 2], [0, 1, 2, 3], [], [5], [], [5, 6, 7], [5, 6, 7, 8], [0, 1, 2, 3, 4, 5, 6, 7, 8, 9]], ch := [], ac := [[0, 1, 2, 3, 4, 5, 6, 7, 8, 9, 10]], nw := [[0, 1, 2, 3, 4, 5, 6, 7, 8, 9, 10]], fl := [[]] } (by kernel_rfl) (by kernel_rfl) (by kernel_rfl) ?_
    cases hkb : kdEq ks[j] ls[j]
    case true =>
      skip
      have hw3 : IntKind.i64.wrap ((j : Int) + 1) = ((j + 1 : Nat) : Int) := wrap_i64 (j + 1) (by omega)
      refine JS_go (tbOk _) 99 fun x hx => ?_
      simp only [RN, ↓reduceIte, ↓get8, reduceCtorEq, Nat.reduceLT, Nat.reduceEqDiff, Nat.reduceAdd, Nat.reduceMul, Nat.reduceLeDiff, Nat.reduceSub, Int.reduceToNat, Int.reduceNeg, Nat.reduceBEq, TY, hs, hs2, lb, lc2, kg, kg2, kl, kl2, eqs46, hq, hkb, g0, g1, g2, g3, Nat.add_assoc, Nat.left_eq_add, Nat.add_eq_left, Nat.add_left_cancel_iff] at hx
      subst hx
      refine ⟨_, _, rfl, by first | trivial | omega | (simp only [and_true, true_and]; omega), ?_⟩
      refine at_cond (fun h => nomatch h) (fun _ => ?_)
      refine JS_go (tbOk _) 99 fun x hx => ?_
      simp only [RN, ↓reduceIte, ↓get8, reduceCtorEq, Nat.reduceLT, Nat.reduceEqDiff, Nat.reduceAdd, Nat.reduceMul, Nat.reduceLeDiff, Nat.reduceSub, Int.reduceToNat, Int.reduceNeg, Nat.reduceBEq, TY, hw3] at hx
      subst hx
      refine ⟨_, _, rfl, by first | trivial | omega | (simp only [and_true, true_and]; omega), ?_⟩
      refine at_done (in_nextI (j + 1) ⟨hlt3, fun i h1 h2 h => ?_⟩ (by show ks.length - (j + 1) < ks.length - j; omega) ?_)
      · rcases Nat.lt_or_ge i j with h3 | h3
        · exact hall i h1 h2 h3
        · obtain rfl : i = j := by have : i < j + 1 := h; omega
          exact (kdEq_iff _ _).1 hkb
      · exact ⟨rfl, leL_look (by simp only [RN, ↓reduceIte, ↓get8, reduceCtorEq, Nat.reduceLT, Nat.reduceEqDiff, Nat.reduceAdd, Nat.reduceMul, Nat.reduceLeDiff, Nat.reduceSub, Int.reduceToNat, Int.reduceNeg, Nat.reduceBEq]; first | done | trivial), fun id b h => by simpa only [RN, ↓reduceIte, ↓get8, reduceCtorEq, Nat.reduceLT, Nat.reduceEqDiff, Nat.reduceAdd, Nat.reduceMul, Nat.reduceLeDiff, Nat.reduceSub, Int.reduceToNat, Int.reduceNeg, Nat.reduceBEq, hs, hs2] using h, Nat.le_refl _, rfl⟩
    case false =>
      skip
      refine JS_go (tbOk _) 99 fun x hx => ?_
      simp only [RN, ↓reduceIte, ↓get8, reduceCtorEq, Nat.reduceLT, Nat.reduceEqDiff, Nat.reduceAdd, Nat.reduceMul, Nat.reduceLeDiff, Nat.reduceSub, Int.reduceToNat, Int.reduceNeg, Nat.reduceBEq, TY, hs, hs2, lb, lc2, kg, kg2, kl, kl2, eqs46, hq, hkb, g0, g1, g2, g3, Nat.add_assoc, Nat.left_eq_add, Nat.add_eq_left, Nat.add_left_cancel_iff] at hx
      subst hx
      refine ⟨_, _, rfl, by first | trivial | omega | (simp only [and_true, true_and]; omega), ?_⟩
      refine at_cond (fun _ => ?_) (fun h => nomatch h)
      refine JS_go (tbOk _) 99 fun x hx => ?_
      simp only [RN, ↓reduceIte, ↓get8, reduceCtorEq, Nat.reduceLT, Nat.reduceEqDiff, Nat.reduceAdd, Nat.reduceMul, Nat.reduceLeDiff, Nat.reduceSub, Int.reduceToNat, Int.reduceNeg, Nat.reduceBEq, TY] at hx
      subst hx
      refine ⟨_, _, rfl, by first | trivial | omega | (simp only [and_true, true_and]; omega), ?_⟩
      refine at_ret (in_retI (ret_endK (by simp only [RN, ↓reduceIte, ↓get8, reduceCtorEq, Nat.reduceLT, Nat.reduceEqDiff, Nat.reduceAdd, Nat.reduceMul, Nat.reduceLeDiff, Nat.reduceSub, Int.reduceToNat, Int.reduceNeg, Nat.reduceBEq]; first | done | rfl) rfl trivial (FIN _ false _ (by show nx ≤ nx + 2; omega) (fun id b u h => ?_) ?_)))
      · have w0 : ¬ id = nx := by omega
        have w1 : ∀ i, ¬ id = nx + i := by intro i; omega
        simp only [RN, ↓reduceIte, ↓get8, reduceCtorEq, Nat.reduceLT, Nat.reduceEqDiff, Nat.reduceAdd, Nat.reduceMul, Nat.reduceLeDiff, Nat.reduceSub, Int.reduceToNat, Int.reduceNeg, Nat.reduceBEq, w0, w1, h]
      · simp only [Bool.false_eq_true, false_iff]
        rintro ⟨rfl, _⟩
        rw [(kdEq_iff _ _).2 rfl] at hkb
        cases hkb
  have hj2 : j = ks.length := by simp at hge; omega
  subst hj2
  have hks : ks = ls := List.ext_getElem n0 fun i h1 h2 => hall i h1 h2 h1
  clear hall
  refine JS_go (tbOk _) 99 fun x hx => ?_
  simp only [RN, ↓reduceIte, ↓get8, reduceCtorEq, Nat.reduceLT, Nat.reduceEqDiff, Nat.reduceAdd, Nat.reduceMul, Nat.reduceLeDiff, Nat.reduceSub, Int.reduceToNat, Int.reduceNeg, Nat.reduceBEq, TY] at hx
  subst hx
  refine ⟨_, _, rfl, by first | trivial | omega | (simp only [and_true, true_and]; omega), ?_⟩
  refine at_exit (in_exitI (by simp only [RN, ↓reduceIte, ↓get8, reduceCtorEq, Nat.reduceLT, Nat.reduceEqDiff, Nat.reduceAdd, Nat.reduceMul, Nat.reduceLeDiff, Nat.reduceSub, Int.reduceToNat, Int.reduceNeg, Nat.reduceBEq]; rfl) ?_)
  refine JS_go (tbOk _) 99 fun x hx => ?_
  simp only [RN, ↓reduceIte, ↓get8, reduceCtorEq, Nat.reduceLT, Nat.reduceEqDiff, Nat.reduceAdd, Nat.reduceMul, Nat.reduceLeDiff, Nat.reduceSub, Int.reduceToNat, Int.reduceNeg, Nat.reduceBEq, TY] at hx
  subst hx
  refine ⟨_, _, rfl, by first | trivial | omega | (simp only [and_true, true_and]; omega), ?_⟩
  refine at_loop ?_
  refine JS_loopI (S := fun j : Nat => { n := 59, fr := [(6, Value.int IntKind.i64 j), (3, .pointer (some ⟨nx + 1, 0, none⟩)), (2, .pointer (some ⟨nx, 0, none⟩))], F := (nx + 1, ⟨[slv ol ls.length lc, slv ov vs.length vc], 26, 2, false, false⟩) :: (nx, ⟨[slv ok ks.length kc, slv ow ws.length wc], 26, 2, false, false⟩) :: T0, nx := nx + 2, ds := [] })
    (fun j => j ≤ ws.length ∧ ∀ (i : Nat) (h1 : i < ws.length) (h2 : i < vs.length), i < j → ws[i] = vs[i]) (fun j => ws.length - j) 0 ⟨Nat.zero_le _, fun i _ _ h => absurd h (Nat.not_lt_zero i)⟩ ?_ ?_
  · exact ⟨rfl, leL_look (by simp only [RN, ↓reduceIte, ↓get8, reduceCtorEq, Nat.reduceLT, Nat.reduceEqDiff, Nat.reduceAdd, Nat.reduceMul, Nat.reduceLeDiff, Nat.reduceSub, Int.reduceToNat, Int.reduceNeg, Nat.reduceBEq]; first | done | trivial), fun id b h => h, Nat.le_refl _, rfl⟩
  rintro j ⟨hj, hall⟩
  refine JS_go (tbOk _) 99 fun x hx => ?_
  simp only [RN, ↓reduceIte, ↓get8, reduceCtorEq, Nat.reduceLT, Nat.reduceEqDiff, Nat.reduceAdd, Nat.reduceMul, Nat.reduceLeDiff, Nat.reduceSub, Int.reduceToNat, Int.reduceNeg, Nat.reduceBEq, TY, ↓l2, Nat.add_assoc, Nat.left_eq_add, Nat.add_eq_left, Nat.add_left_cancel_iff] at hx
  subst hx
  refine ⟨_, _, rfl, by first | trivial | omega | (simp only [and_true, true_and]; omega), ?_⟩
  refine at_cond (fun hlt2 => ?_) (fun hge => ?_)
  · have hlt3 : j < ws.length := by simpa using hlt2
    have hlt4 : j < vs.length := by omega
    obtain ⟨b, hb⟩ : ∃ b, ow = some b := by
      cases ow with
      | none => rw [hw rfl] at hlt3; exact absurd hlt3 (by simp)
      | some b => exact ⟨b, rfl⟩
    obtain ⟨c, hc⟩ : ∃ c, ov = some c := by
      cases ov with
      | none => rw [jw rfl] at hlt4; exact absurd hlt4 (by simp)
      | some b => exact ⟨b, rfl⟩
    have hbn := hwn b hb
    have hcn := jwn c hc
    have lb := t3 b hb
    have lc2 := s3 c hc
    have hs : slv ow ws.length wc = .slice (some ⟨b, 0, none⟩) ws.length wc := by rw [hb]; rfl
    have hs2 : slv ov vs.length vc = .slice (some ⟨c, 0, none⟩) vs.length vc := by rw [hc]; rfl
    have g0 : ¬ b = nx := by omega
    have g1 : ∀ i, ¬ b = nx + i := by intro i; omega
    have g2 : ¬ c = nx := by omega
    have g3 : ∀ i, ¬ c = nx + i := by intro i; omega
    have kg := wcells_get (ws := ws ++ wx) (j := j) (by simp; omega)
    rw [List.getElem_append_left hlt3] at kg
    have kl := wcells_len (ws ++ wx)
    rw [List.length_append] at kl
    have kg2 := wcells_get (ws := vs ++ vx) (j := j) (by simp; omega)
    rw [List.getElem_append_left hlt4] at kg2
    have kl2 := wcells_len (vs ++ vx)
    rw [List.length_append] at kl2
    have hq := wpEq_some ws[j] vs[j]
    refine JS_go (tbOk _) 99 fun x hx => ?_
    simp only [RN, ↓reduceIte, ↓get8, reduceCtorEq, Nat.reduceLT, Nat.reduceEqDiff, Nat.reduceAdd, Nat.reduceMul, Nat.reduceLeDiff, Nat.reduceSub, Int.reduceToNat, Int.reduceNeg, Nat.reduceBEq, TY] at hx
    subst hx
    refine ⟨_, _, rfl, by first | trivial | omega | (simp only [and_true, true_and]; omega), ?_⟩
    rw [CRJ]
    refine JS_draw (tbOk _) { wr := [(48, 0), (49, 1), (50, 2), (51, 3), (52, 4), (53, 5), (54, 6), (55, 7), (56, 8), (57, 9), (58, 10)], anc := [[], [0], [], [0, 1, 2], [0, 1, 2, 3], [], [5], [], [5, 6, 7], [5, 6, 7, 8], [0, 1, 2, 3, 4, 5, 6, 7, 8, 9]], ch := [], ac := [[0, 1, 2, 3, 4, 5, 6, 7, 8, 9, 10]], nw := [[0, 1, 2, 3, 4, 5, 6, 7, 8, 9, 10]], fl := [[]] } (by kernel_rfl) (by kernel_rfl) (by kernel_rfl) ?_
    cases hkb : wpEq ws[j] vs[j]
    case true =>
      skip
      have hw3 : IntKind.i64.wrap ((j : Int) + 1) = ((j + 1 : Nat) : Int) := wrap_i64 (j + 1) (by omega)
      refine JS_go (tbOk _) 99 fun x hx => ?_
      simp only [RN, ↓reduceIte, ↓get8, reduceCtorEq, Nat.reduceLT, Nat.reduceEqDiff, Nat.reduceAdd, Nat.reduceMul, Nat.reduceLeDiff, Nat.reduceSub, Int.reduceToNat, Int.reduceNeg, Nat.reduceBEq, TY, hs, hs2, lb, lc2, kg, kg2, kl, kl2, eqs51, hq, hkb, g0, g1, g2, g3, Nat.add_assoc, Nat.left_eq_add, Nat.add_eq_left, Nat.add_left_cancel_iff] at hx
      subst hx
      refine ⟨_, _, rfl, by first | trivial | omega | (simp only [and_true, true_and]; omega), ?_⟩
      refine at_cond (fun h => nomatch h) (fun _ => ?_)
      refine JS_go (tbOk _) 99 fun x hx => ?_
      simp only [RN, ↓reduceIte, ↓get8, reduceCtorEq, Nat.reduceLT, Nat.reduceEqDiff, Nat.reduceAdd, Nat.reduceMul, Nat.reduceLeDiff, Nat.reduceSub, Int.reduceToNat, Int.reduceNeg, Nat.reduceBEq, TY, hw3] at hx
      subst hx
      refine ⟨_, _, rfl, by first | trivial | omega | (simp only [and_true, true_and]; omega), ?_⟩
      refine at_done (in_nextI (j + 1) ⟨hlt3, fun i h1 h2 h => ?_⟩ (by show ws.length - (j + 1) < ws.length - j; omega) ?_)
      · rcases Nat.lt_or_ge i j with h3 | h3
        · exact hall i h1 h2 h3
        · obtain rfl : i = j := by have : i < j + 1 := h; omega
          exact (wpEq_iff _ _).1 hkb
      · exact ⟨rfl, leL_look (by simp only [RN, ↓reduceIte, ↓get8, reduceCtorEq, Nat.reduceLT, Nat.reduceEqDiff, Nat.reduceAdd, Nat.reduceMul, Nat.reduceLeDiff, Nat.reduceSub, Int.reduceToNat, Int.reduceNeg, Nat.reduceBEq]; first | done | trivial), fun id b h => by simpa only [RN, ↓reduceIte, ↓get8, reduceCtorEq, Nat.reduceLT, Nat.reduceEqDiff, Nat.reduceAdd, Nat.reduceMul, Nat.reduceLeDiff, Nat.reduceSub, Int.reduceToNat, Int.reduceNeg, Nat.reduceBEq, hs, hs2] using h, Nat.le_refl _, rfl⟩
    case false =>
      skip
      refine JS_go (tbOk _) 99 fun x hx => ?_
      simp only [RN, ↓reduceIte, ↓get8, reduceCtorEq, Nat.reduceLT, Nat.reduceEqDiff, Nat.reduceAdd, Nat.reduceMul, Nat.reduceLeDiff, Nat.reduceSub, Int.reduceToNat, Int.reduceNeg, Nat.reduceBEq, TY, hs, hs2, lb, lc2, kg, kg2, kl, kl2, eqs51, hq, hkb, g0, g1, g2, g3, Nat.add_assoc, Nat.left_eq_add, Nat.add_eq_left, Nat.add_left_cancel_iff] at hx
      subst hx
      refine ⟨_, _, rfl, by first | trivial | omega | (simp only [and_true, true_and]; omega), ?_⟩
      refine at_cond (fun _ => ?_) (fun h => nomatch h)
      refine JS_go (tbOk _) 99 fun x hx => ?_
      simp only [RN, ↓reduceIte, ↓get8, reduceCtorEq, Nat.reduceLT, Nat.reduceEqDiff, Nat.reduceAdd, Nat.reduceMul, Nat.reduceLeDiff, Nat.reduceSub, Int.reduceToNat, Int.reduceNeg, Nat.reduceBEq, TY] at hx
      subst hx
      refine ⟨_, _, rfl, by first | trivial | omega | (simp only [and_true, true_and]; omega), ?_⟩
      refine at_ret (in_retI (ret_endK (by simp only [RN, ↓reduceIte, ↓get8, reduceCtorEq, Nat.reduceLT, Nat.reduceEqDiff, Nat.reduceAdd, Nat.reduceMul, Nat.reduceLeDiff, Nat.reduceSub, Int.reduceToNat, Int.reduceNeg, Nat.reduceBEq]; first | done | rfl) rfl trivial (FIN _ false _ (by show nx ≤ nx + 2; omega) (fun id b u h => ?_) ?_)))
      · have w0 : ¬ id = nx := by omega
        have w1 : ∀ i, ¬ id = nx + i := by intro i; omega
        simp only [RN, ↓reduceIte, ↓get8, reduceCtorEq, Nat.reduceLT, Nat.reduceEqDiff, Nat.reduceAdd, Nat.reduceMul, Nat.reduceLeDiff, Nat.reduceSub, Int.reduceToNat, Int.reduceNeg, Nat.reduceBEq, w0, w1, h]
      · simp only [Bool.false_eq_true, false_iff]
        rintro ⟨_, rfl⟩
        rw [(wpEq_iff _ _).2 rfl] at hkb
        cases hkb
  have hj2 : j = ws.length := by simp at hge; omega
  subst hj2
  have hws : ws = vs := List.ext_getElem n1 fun i h1 h2 => hall i h1 h2 h1
  refine JS_go (tbOk _) 99 fun x hx => ?_
  simp only [RN, ↓reduceIte, ↓get8, reduceCtorEq, Nat.reduceLT, Nat.reduceEqDiff, Nat.reduceAdd, Nat.reduceMul, Nat.reduceLeDiff, Nat.reduceSub, Int.reduceToNat, Int.reduceNeg, Nat.reduceBEq, TY] at hx
  subst hx
  refine ⟨_, _, rfl, by first | trivial | omega | (simp only [and_true, true_and]; omega), ?_⟩
  refine at_exit (in_exitI (by simp only [RN, ↓reduceIte, ↓get8, reduceCtorEq, Nat.reduceLT, Nat.reduceEqDiff, Nat.reduceAdd, Nat.reduceMul, Nat.reduceLeDiff, Nat.reduceSub, Int.reduceToNat, Int.reduceNeg, Nat.reduceBEq]; rfl) ?_)
  refine JS_go (tbOk _) 99 fun x hx => ?_
  simp only [RN, ↓reduceIte, ↓get8, reduceCtorEq, Nat.reduceLT, Nat.reduceEqDiff, Nat.reduceAdd, Nat.reduceMul, Nat.reduceLeDiff, Nat.reduceSub, Int.reduceToNat, Int.reduceNeg, Nat.reduceBEq, TY] at hx
  subst hx
  refine ⟨_, _, rfl, by first | trivial | omega | (simp only [and_true, true_and]; omega), ?_⟩
  refine at_ret (ret_endK (by simp only [RN, ↓reduceIte, ↓get8, reduceCtorEq, Nat.reduceLT, Nat.reduceEqDiff, Nat.reduceAdd, Nat.reduceMul, Nat.reduceLeDiff, Nat.reduceSub, Int.reduceToNat, Int.reduceNeg, Nat.reduceBEq]; first | done | rfl) rfl trivial (FIN _ true _ (by show nx ≤ nx + 2; omega) (fun id b u h => ?_) ?_))
  · have w0 : ¬ id = nx := by omega
    have w1 : ∀ i, ¬ id = nx + i := by intro i; omega
    simp only [RN, ↓reduceIte, ↓get8, reduceCtorEq, Nat.reduceLT, Nat.reduceEqDiff, Nat.reduceAdd, Nat.reduceMul, Nat.reduceLeDiff, Nat.reduceSub, Int.reduceToNat, Int.reduceNeg, Nat.reduceBEq, w0, w1, h]
  · simp [hks, hws]
end Go.Proofs.Ytoihmanhldcjhaa.Id
namespace Go.Proofs.Ytoihmanhldcjhaa.Id
open Go Go.Proofs.Ytoihmanhldcjhaa.Rl
set_option linter.unusedSimpArgs false
set_option linter.unusedVariables false
theorem sub_take {bs L : List UInt8} {a n : Nat} (h : (bs.drop a).take n = L) (d w : Nat) (hd : d + w ≤ n) : (bs.drop (a + d)).take w = (L.drop d).take w := by
  rw [← h, List.drop_take, List.take_take, List.drop_drop]
  congr 1
  omega
theorem toB_nat {v : Int} (h0 : 0 ≤ v) (h1 : v ≤ 255) : ((toB v).toNat : Int) = v := by
  rw [← toB_wrap]
  simp [IntKind.wrap, IntKind.bits, IntKind.signed]
  omega
theorem le_b {v : Int} (h0 : 0 ≤ v) (h1 : v ≤ 255) : ((le [toB v] : Nat) : Int) = v := by
  have := toB_nat h0 h1
  simp only [le]
  omega
theorem le_w {v : Int} (h0 : 0 ≤ v) (h1 : v ≤ 65535) : ((le (two v) : Nat) : Int) = v := by
  have hq : v.fdiv 256 = v / 256 := Int.fdiv_eq_ediv_of_nonneg _ (by omega)
  have e1 : ((toB v).toNat : Int) = v % 256 := by
    rw [← toB_wrap]; simp [IntKind.wrap, IntKind.bits, IntKind.signed]
  have e2 : ((toB (v.fdiv 256)).toNat : Int) = v / 256 := by
    rw [hq]; exact toB_nat (by omega) (by omega)
  simp only [two, le]
  omega
theorem le_out (b : Nat) : ∀ k, le (outB b k) = b % 256 ^ k
  | 0 => by simp [outB, le, Nat.mod_one]
  | k + 1 => by
    rw [outB_succ, le_snoc, outB_len, le_out b k, Nat.mod_pow_succ]
    have e : (toB ((b : Int).fdiv (2 ^ (8 * k)))).toNat = b / 256 ^ k % 256 := by
      have h1 : (b : Int).fdiv (2 ^ (8 * k)) = ((b / 256 ^ k : Nat) : Int) := by
        rw [Int.fdiv_eq_ediv_of_nonneg _ (Int.pow_nonneg (by omega))]
        have : (256 : Nat) ^ k = 2 ^ (8 * k) := by rw [Nat.pow_mul]
        rw [this]
        simp
      rw [h1]
      obtain ⟨n, hn⟩ : ∃ n, b / 256 ^ k = n := ⟨_, rfl⟩
      rw [hn]
      have h2 := toB_wrap (n : Int)
      simp [IntKind.wrap, IntKind.bits, IntKind.signed] at h2
      omega
    rw [e, Nat.mul_comm]
theorem toS_lt2 (v : Nat) (hv : v ≤ 262144) : toS (v : Int) < 18446744073709551616 := by
  by_cases h0 : v = 0
  · subst h0; rw [show toS ((0 : Nat) : Int) = 0 from toS_zero]; omega
  · obtain ⟨q, m, e, hq, hr, ⟨i, hm, he⟩, a1, a2, a3, a4⟩ := by_one false v (by omega) h0
    obtain ⟨t1, t2⟩ := toS_norm v i h0 (by omega) (by rw [← hm]; exact a4) (by rw [← hm]; exact a1)
    rw [← hm] at t1
    omega
theorem speed_back {v : Int} (h0 : 0 ≤ v) (h1 : v ≤ 262144) : ofS (le (outB (toS v) 8)) = (v, 0) := by
  obtain ⟨n, rfl⟩ : ∃ n : Nat, v = n := ⟨v.toNat, by omega⟩
  have := toS_lt2 n (by omega)
  rw [le_out, Nat.mod_eq_of_lt (by omega)]
  exact of_toS _ (by omega) (by omega)
theorem kind_ranges {k : Kd} {n : Int} (h : kindB k n = true) (hn : n ≤ 16) : (0 ≤ k.c0 ∧ k.c0 ≤ 255) ∧ (0 ≤ k.c1 ∧ k.c1 ≤ 65535) ∧ (0 ≤ k.c2 ∧ k.c2 ≤ 262144) ∧ (0 ≤ k.c3 ∧ k.c3 ≤ 65535) ∧ (0 ≤ k.c4 ∧ k.c4 ≤ 255) ∧ (0 ≤ k.c5 ∧ k.c5 ≤ 255) ∧ (0 ≤ k.c6 ∧ k.c6 ≤ 255) ∧ (0 ≤ k.c7 ∧ k.c7 ≤ 255) ∧ (0 ≤ k.c8 ∧ k.c8 ≤ 65535) ∧ (0 ≤ k.c9 ∧ k.c9 ≤ 65535) ∧ (0 ≤ k.c10 ∧ k.c10 ≤ 65535) ∧ (0 ≤ k.c11 ∧ k.c11 ≤ 255) ∧ (0 ≤ k.c12 ∧ k.c12 ≤ 255) ∧ (0 ≤ k.c13 ∧ k.c13 ≤ 255) ∧ (0 ≤ k.c14 ∧ k.c14 ≤ 65535) ∧ (0 ≤ k.c15 ∧ k.c15 ≤ 65535) ∧ (0 ≤ k.c16 ∧ k.c16 ≤ 255) ∧ (0 ≤ k.c17 ∧ k.c17 ≤ 255) ∧ (0 ≤ k.c18 ∧ k.c18 ≤ 255) ∧ (0 ≤ k.c19 ∧ k.c19 ≤ 65535) := by
  simp only [kindB, btw, List.all_cons, List.all_nil, Bool.and_true, Bool.and_eq_true, Bool.or_eq_true, decide_eq_true_eq, beq_iff_eq] at h
  omega
theorem weapon_ranges {k : Wp} (h : weaponB k = true) : (0 ≤ k.c0 ∧ k.c0 ≤ 255) ∧ (0 ≤ k.c1 ∧ k.c1 ≤ 65535) ∧ (0 ≤ k.c2 ∧ k.c2 ≤ 262144) ∧ (0 ≤ k.c3 ∧ k.c3 ≤ 255) ∧ (0 ≤ k.c4 ∧ k.c4 ≤ 255) := by
  simp only [weaponB, btw, List.all_cons, List.all_nil, Bool.and_true, Bool.and_eq_true, decide_eq_true_eq] at h
  omega
theorem kd_back {bs : List UInt8} {a : Nat} {k : Kd} {n : Int} (h : (bs.drop a).take 35 = kdBytes k) (hk : kindB k n = true) (hn : n ≤ 16) : ofS (le ((bs.drop (a + 27)).take 8)) = (k.c2, 0) ∧ kdAt bs a (k.c2, 0) = k := by
  obtain ⟨r0, r1, r2, r3, r4, r5, r6, r7, r8, r9, r10, r11, r12, r13, r14, r15, r16, r17, r18, r19⟩ := kind_ranges hk hn
  have s := fun d w hd => sub_take h d w hd
  refine ⟨?_, ?_⟩
  · rw [s 27 8 (by omega)]
    exact speed_back r2.1 r2.2
  · unfold kdAt
    rw [s 0 1 (by omega), s 1 2 (by omega), s 3 2 (by omega), s 17 1 (by omega), s 18 1 (by omega), s 19 1 (by omega), s 20 1 (by omega), s 5 2 (by omega), s 7 2 (by omega), s 9 2 (by omega), s 21 1 (by omega), s 22 1 (by omega), s 23 1 (by omega), s 11 2 (by omega), s 13 2 (by omega), s 24 1 (by omega), s 25 1 (by omega), s 26 1 (by omega), s 15 2 (by omega)]
    have g0 : ((kdBytes k).drop 0).take 1 = [toB k.c0] := rfl
    have g1 : ((kdBytes k).drop 1).take 2 = two k.c1 := rfl
    have g3 : ((kdBytes k).drop 3).take 2 = two k.c3 := rfl
    have g8 : ((kdBytes k).drop 5).take 2 = two k.c8 := rfl
    have g9 : ((kdBytes k).drop 7).take 2 = two k.c9 := rfl
    have g10 : ((kdBytes k).drop 9).take 2 = two k.c10 := rfl
    have g14 : ((kdBytes k).drop 11).take 2 = two k.c14 := rfl
    have g15 : ((kdBytes k).drop 13).take 2 = two k.c15 := rfl
    have g19 : ((kdBytes k).drop 15).take 2 = two k.c19 := rfl
    have g4 : ((kdBytes k).drop 17).take 1 = [toB k.c4] := rfl
    have g5 : ((kdBytes k).drop 18).take 1 = [toB k.c5] := rfl
    have g6 : ((kdBytes k).drop 19).take 1 = [toB k.c6] := rfl
    have g7 : ((kdBytes k).drop 20).take 1 = [toB k.c7] := rfl
    have g11 : ((kdBytes k).drop 21).take 1 = [toB k.c11] := rfl
    have g12 : ((kdBytes k).drop 22).take 1 = [toB k.c12] := rfl
    have g13 : ((kdBytes k).drop 23).take 1 = [toB k.c13] := rfl
    have g16 : ((kdBytes k).drop 24).take 1 = [toB k.c16] := rfl
    have g17 : ((kdBytes k).drop 25).take 1 = [toB k.c17] := rfl
    have g18 : ((kdBytes k).drop 26).take 1 = [toB k.c18] := rfl
    rw [g0, g1, g3, g8, g9, g10, g14, g15, g19, g4, g5, g6, g7, g11, g12, g13, g16, g17, g18]
    rw [le_b r0.1 r0.2, le_w r1.1 r1.2, le_w r3.1 r3.2, le_w r8.1 r8.2, le_w r9.1 r9.2, le_w r10.1 r10.2, le_w r14.1 r14.2, le_w r15.1 r15.2, le_w r19.1 r19.2, le_b r4.1 r4.2, le_b r5.1 r5.2, le_b r6.1 r6.2, le_b r7.1 r7.2, le_b r11.1 r11.2, le_b r12.1 r12.2, le_b r13.1 r13.2, le_b r16.1 r16.2, le_b r17.1 r17.2, le_b r18.1 r18.2]
theorem wp_back {bs : List UInt8} {a : Nat} {k : Wp} (h : (bs.drop a).take 14 = wpBytes k) (hk : weaponB k = true) : (wE bs a).1 = 0 ∧ wX bs a = k := by
  obtain ⟨r0, r1, r2, r3, r4⟩ := weapon_ranges hk
  have s := fun d w hd => sub_take h d w hd
  have g0 : ((wpBytes k).drop 0).take 2 = two k.c1 := rfl
  have g2 : ((wpBytes k).drop 2).take 1 = [toB k.c0] := rfl
  have g3 : ((wpBytes k).drop 3).take 1 = [toB k.c3] := rfl
  have g4 : ((wpBytes k).drop 4).take 1 = [toB k.c4] := rfl
  have g5 : ((wpBytes k).drop 5).take 1 = [toB (if k.under then 1 else 0)] := rfl
  have g6 : ((wpBytes k).drop 6).take 8 = outB (toS k.c2) 8 := rfl
  have hu : wU bs a = if k.under then 1 else 0 := by
    unfold wU
    rw [s 5 1 (by omega), g5]
    cases k.under <;> decide
  have hS : wS bs a = (k.c2, 0) := by
    unfold wS
    rw [s 6 8 (by omega), g6]
    exact speed_back r2.1 r2.2
  refine ⟨?_, ?_⟩
  · unfold wE
    rw [hu, hS, if_neg (by split <;> omega)]
  · unfold wX wpAt
    rw [hu, hS, s 0 2 (by omega), s 2 1 (by omega), s 3 1 (by omega), s 4 1 (by omega), g0, g2, g3, g4, le_b r0.1 r0.2, le_w r1.1 r1.2, le_b r3.1 r3.2, le_b r4.1 r4.2]
    obtain ⟨c0, c1, c2, c3, c4, u⟩ := k
    cases u <;> rfl
theorem dec_enc {ks : List Kd} {ws : List Wp} (h : (checkB ks ws).1 = 0) : decB (encB ks ws) (encB ks ws).length = (ks, ws, 0, 0) := by
  obtain ⟨⟨h1, h16⟩, w16, hk, hw, h0⟩ := check_ok h
  have hlen : (encB ks ws).length = 2 + 35 * ks.length + 14 * ws.length := by
    unfold encB
    rw [List.length_append, List.length_append, flat_len kdBytes 35 kdBytes_len, flat_len wpBytes 14 wpBytes_len]
    simp [headB]; omega
  obtain ⟨bs, hbs⟩ : ∃ bs, encB ks ws = bs := ⟨_, rfl⟩
  have hm : le ((bs.drop 0).take 1) = ks.length := by
    rw [← hbs]
    have : ((encB ks ws).drop 0).take 1 = [toB (ks.length : Int)] := rfl
    rw [this]
    have := le_b (v := (ks.length : Int)) (by omega) (by omega)
    omega
  have hwl : le ((bs.drop 1).take 1) = ws.length := by
    rw [← hbs]
    have : ((encB ks ws).drop 1).take 1 = [toB (ws.length : Int)] := rfl
    rw [this]
    have := le_b (v := (ws.length : Int)) (by omega) (by omega)
    omega
  have hhead : (headB ks ws).length = 2 := rfl
  have hKl := flat_len kdBytes 35 kdBytes_len ks
  have hWl := flat_len wpBytes 14 wpBytes_len ws
  have hki : ∀ (i : Nat) (hi : i < ks.length), (bs.drop (2 + 35 * i)).take 35 = kdBytes ks[i] := by
    intro i hi
    rw [← hbs]
    unfold encB
    rw [List.append_assoc, ← List.drop_drop, show (headB ks ws ++ (ks.flatMap kdBytes ++ ws.flatMap wpBytes)).drop 2 = ks.flatMap kdBytes ++ ws.flatMap wpBytes from rfl, List.drop_append_of_le_length (by rw [hKl]; omega), List.take_append_of_le_length (by rw [List.length_drop, hKl]; omega), Nat.mul_comm]
    exact flat_get kdBytes 35 kdBytes_len ks i hi
  have hwi : ∀ (i : Nat) (hi : i < ws.length), (bs.drop (2 + 35 * ks.length + 14 * i)).take 14 = wpBytes ws[i] := by
    intro i hi
    rw [← hbs]
    unfold encB
    rw [← List.drop_drop, show (2 + 35 * ks.length) = (headB ks ws ++ ks.flatMap kdBytes).length by rw [List.length_append, hhead, hKl]; omega, List.drop_left, Nat.mul_comm]
    exact flat_get wpBytes 14 wpBytes_len ws i hi
  rw [hbs] at hlen ⊢
  have hE : ∀ (i : Nat) (hi : i < ks.length), kE bs i = (ks[i].c2, 0) := fun i hi => (kd_back (hki i hi) (hk _ (List.getElem_mem hi)) (by omega)).1
  have hX : ∀ (i : Nat) (hi : i < ks.length), kX bs i = ks[i] := fun i hi => by
    unfold kX
    rw [hE i hi]
    exact (kd_back (hki i hi) (hk _ (List.getElem_mem hi)) (by omega)).2
  have f1 : (List.range ks.length).find? (fun i => decide ((kE bs i).2 ≠ 0)) = none := by
    rw [List.find?_eq_none]
    intro i hi
    have hi2 : i < ks.length := by simpa using hi
    rw [hE i hi2]
    simp
  have f2 : (List.range ws.length).find? (fun i => decide ((wE bs (2 + 35 * ks.length + 14 * i)).1 ≠ 0)) = none := by
    rw [List.find?_eq_none]
    intro i hi
    have hi2 : i < ws.length := by simpa using hi
    rw [(wp_back (hwi i hi2) (hw _ (List.getElem_mem hi2))).1]
    simp
  have e1 : (List.range ks.length).map (kX bs) = ks := List.ext_getElem (by simp) fun i g1 g2 => by simp [hX i g2]
  have e2 : wsF bs ks.length ws.length = ws := List.ext_getElem (by simp [wsF]) fun i g1 g2 => by
    simp only [wsF, List.getElem_map, List.getElem_range]
    exact (wp_back (hwi i g2) (hw _ (List.getElem_mem g2))).2
  unfold decB
  rw [hm, hwl, hlen, if_neg (by omega), if_neg (by omega), if_neg (by omega), f1]
  dsimp only
  rw [f2]
  dsimp only
  rw [e1, e2, if_pos h]
theorem dec_ok {bs : List UInt8} {ln : Nat} (h : (decB bs ln).2.2.1 = 0) : (checkB (decB bs ln).1 (decB bs ln).2.1).1 = 0 ∧ (checkB (decB bs ln).1 (decB bs ln).2.1).2 = 0 := by
  unfold decB at h ⊢
  split at h
  · cases h
  · rename_i c1
    rw [if_neg c1]
    split at h
    · cases h
    · rename_i c2
      rw [if_neg c2]
      split at h
      · cases h
      · rename_i c3
        rw [if_neg c3]
        split at h
        · rename_i i hi
          have := List.find?_some hi
          simp at this
          exact absurd h this
        · rename_i hi
          split at h
          · rename_i j hj
            have := List.find?_some hj
            simp at this
            exact absurd h this
          · rename_i hj
            dsimp only at h ⊢
            split at h
            · rename_i c4
              rw [if_pos c4]
              exact ⟨c4, by rw [(check_ok c4).2.2.2.2]⟩
            · rename_i c4
              exact absurd h c4
theorem dec_no {bs : List UInt8} {ln : Nat} (h : (decB bs ln).2.2.1 ≠ 0) : (decB bs ln).1 = [] ∧ (decB bs ln).2.1 = [] := by
  unfold decB at h ⊢
  split
  · exact ⟨rfl, rfl⟩
  · rename_i c1
    rw [if_neg c1] at h
    split
    · exact ⟨rfl, rfl⟩
    · rename_i c2
      rw [if_neg c2] at h
      split
      · exact ⟨rfl, rfl⟩
      · rename_i c3
        rw [if_neg c3] at h
        split
        · exact ⟨rfl, rfl⟩
        · rename_i hi
          rw [hi] at h
          dsimp only at h
          split
          · exact ⟨rfl, rfl⟩
          · rename_i hj
            rw [hj] at h
            dsimp only at h ⊢
            split
            · rename_i c4
              rw [if_pos c4] at h
              exact absurd rfl h
            · exact ⟨rfl, rfl⟩
end Go.Proofs.Ytoihmanhldcjhaa.Id
namespace Go.Proofs.Ytoihmanhldcjhaa.Id
open Go
def cutI {α : Type} (S : α → St) (I : α → Prop) (Q : IExit → St → Prop) : IExit → St → Prop
  | .normal, s => ∃ x, I x ∧ (S x).le s
  | .exit _, _ => False
  | e, s => Q e s
section
variable {P : Program} {Q : IExit → St → Prop} {st : St} {α : Type} {S : α → St} {I : α → Prop}
theorem JS_cutI (S : α → St) (I : α → Prop) {a b : Code} {k : List Kt} (h1 : JS P [.c a] (cutI S I Q) st) (h2 : ∀ x, I x → JS P (.c b :: k) Q (S x)) : JS P (.c a :: .c b :: k) Q st := by
  rw [JS] at h1 ⊢
  refine h1.mono fun e s q => ?_
  cases e with
  | normal => rw [onward, JS] at q; obtain ⟨x, hx, hl⟩ := q; exact (h2 x hx).le hl ⟨b, k, rfl⟩
  | exit id => rw [onward, JX] at q; exact q.elim
  | ret => exact q
  | pan v => exact q
theorem at_condI (S : α → St) (I : α → Prop) {t : Bool} {a b c : Code} {k : List Kt} (h1 : t = true → JS P [.c a] (cutI S I Q) st) (h2 : t = false → JS P [.c b] (cutI S I Q) st) (h3 : ∀ x, I x → JS P (.c c :: k) Q (S x)) : CRJ P Q (.cond t (.c a :: .c c :: k) (.c b :: .c c :: k) st) :=
  ⟨fun ht => JS_cutI S I (h1 ht) h3, fun ht => JS_cutI S I (h2 ht) h3⟩
theorem in_cutI (x : α) (hx : I x) (h : (S x).le st) : cutI S I Q .normal st := ⟨x, hx, h⟩
end
end Go.Proofs.Ytoihmanhldcjhaa.Id
namespace Go.Proofs.Ytoihmanhldcjhaa.Id
open Go Go.Proofs.Ytoihmanhldcjhaa.Rl
set_option linter.unusedSimpArgs false
set_option linter.unusedVariables false
structure Rd.G0 (R : Rd) (nx : Nat) : Prop where
  hl : R.ln ≤ R.bs.length
  h0 : R.oq = none → R.ln = 0
  hq : ∀ q, R.oq = some q → q < nx
  hc : R.ln ≤ R.cp
def cutR (R : Rd) : Rd := { R with ln := min 900 R.ln }
theorem cutR_good {R : Rd} {nx nx' : Nat} (g : R.G0 nx) (h : nx ≤ nx') : (cutR R).Good nx' :=
  ⟨⟨by show min 900 R.ln ≤ R.bs.length; have := g.hl; omega, by show min 900 R.ln ≤ 1000000; omega⟩, fun e => by show min 900 R.ln = 0; rw [g.h0 e]; rfl, fun q e => Nat.lt_of_lt_of_le (g.hq q e) h, by show min 900 R.ln ≤ R.cp; have := g.hc; omega⟩
theorem same_q (A B : Bk) (T0 : Hp) (nx : Nat) (gA : A.Good nx) (gB : B.Good nx) (hA : ∀ id b, look id A.H = some b → look id T0 = some b) (hB : ∀ id b, look id B.H = some b → look id T0 = some b) (hT : ∀ id b, look id T0 = some b → id < nx) (hk : A.ks = B.ks) (hw : A.ws = B.ws) :
    CallW Try.prog 17 [A.val, B.val] T0 nx fun o F' n => (o = .ret (.bool true) ∧ nx ≤ n) ∧ F' = T0 := by
  refine (same_c A B T0 nx gA gB hA hB hT).mono ?_
  rintro o F' n ⟨⟨r, rfl, hr⟩, h1, h2⟩
  exact ⟨⟨by rw [hr.2 ⟨hk, hw⟩], h2⟩, h1⟩
def bk0 : Bk := ⟨[], [], [], [], none, 0, none, 0, false, true⟩
theorem bk0_good (nx : Nat) : bk0.Good nx := ⟨fun _ => rfl, fun _ => rfl, by simp [bk0], by simp [bk0], nofun, nofun, nofun⟩
theorem encR_good {bs : List UInt8} {b n : Nat} (h : b < n) (hl : bs.length ≤ 1000000) : (⟨bs, bs.length, some b, bs.length, false, true⟩ : Rd).Good n :=
  ⟨⟨Nat.le_refl _, hl⟩, nofun, fun q e => (by cases e; exact h), Nat.le_refl _⟩
theorem tail_facts {T0 : Hp} {nx n3 n4 b : Nat} {blk : Blk} {D : Bk} (hlt : ∀ id x, look id T0 = some x → id < nx) (hb : nx < b) (hb3 : b < n3) (gD : D.Good n4) (hn : n3 ≤ n4) (hX : ∀ e ∈ D.H, n3 ≤ e.1) :
    (∀ id x, look id D.H = some x → look id (T0 ++ ([(b, blk)] ++ D.H)) = some x) ∧ ∀ id x, look id (T0 ++ ([(b, blk)] ++ D.H)) = some x → ¬ id = nx ∧ id < n4 := by
  refine ⟨fun id x h => ?_, fun id x h => ?_⟩
  · have h1 := hX _ (look_mem2 h)
    dsimp only at h1
    rw [look_past hlt (by omega), List.cons_append, look_cons, if_neg (by omega)]
    exact h
  · rw [look_append] at h
    cases hl : look id T0 with
    | some y => have := hlt id y hl; omega
    | none =>
      rw [hl] at h
      dsimp only at h
      rw [List.cons_append, look_cons] at h
      split at h
      · omega
      · have h1 := hX _ (look_mem2 h)
        have h2 := gD.t5 id x h
        dsimp only at h1
        omega
theorem tail_facts2 {T0 : Hp} {nx n3 n4 : Nat} {D : Bk} (hlt : ∀ id x, look id T0 = some x → id < nx) (hn3 : nx < n3) (gD : D.Good n4) (hn : n3 ≤ n4) (hX : ∀ e ∈ D.H, n3 ≤ e.1) :
    (∀ id x, look id D.H = some x → look id (T0 ++ D.H) = some x) ∧ ∀ id x, look id (T0 ++ D.H) = some x → ¬ id = nx ∧ id < n4 := by
  refine ⟨fun id x h => ?_, fun id x h => ?_⟩
  · have h1 := hX _ (look_mem2 h)
    dsimp only at h1
    rw [look_past hlt (by omega)]
    exact h
  · rw [look_append] at h
    cases hl : look id T0 with
    | some y => have := hlt id y hl; omega
    | none =>
      rw [hl] at h
      have h1 := hX _ (look_mem2 h)
      have h2 := gD.t5 id x h
      dsimp only at h1
      omega
theorem enc_len {ks : List Kd} {ws : List Wp} (h : (checkB ks ws).1 = 0) : (encB ks ws).length ≤ 1000000 := by
  obtain ⟨⟨h1, h16⟩, w16, _⟩ := check_ok h
  unfold encB
  rw [List.length_append, List.length_append, flat_len kdBytes 35 kdBytes_len, flat_len wpBytes 14 wpBytes_len]
  simp [headB]; omega
set_option maxRecDepth 100000 in
set_option maxHeartbeats 4000000 in
theorem back_c (B : Bk) (R : Rd) (nx : Nat) (gB : B.G0 nx) (gR : R.G0 nx) (T0 : Hp) (hB : ∀ id b, look id B.H = some b → look id T0 = some b) (hR : ∀ id b, look id R.H = some b → look id T0 = some b) :
    CallW Try.prog 7 [B.val, R.val] T0 nx fun o F' n => (o = .ret (.bool true) ∧ nx ≤ n) ∧ F' = T0 := by
  obtain ⟨C, hC, gC, hCH⟩ : ∃ C, C = fewB B ∧ C.Good nx ∧ C.H = B.H := ⟨_, rfl, fewB_good gB, fewB_H B⟩
  have hF := few_c B (nx + 1) (gB.mono (by omega))
  rw [← hC] at hF
  have hCT : ∀ id b, look id C.H = some b → look id T0 = some b := by rw [hCH]; exact hB
  have tl := ilen_slv (tbOf Try.prog) 34 5 (by rw [und_eq, Try.underlying34]) R.oq R.ln R.cp gR.h0
  have hD := fun n (h : nx ≤ n) => decode_n (cutR R) n (cutR_good gR h)
  have hRH : (cutR R).H = R.H := rfl
  obtain ⟨D1, hD1⟩ : ∃ D1, decB (cutR R).bs (cutR R).ln = D1 := ⟨_, rfl⟩
  have hok : D1.2.2.1 = 0 → (checkB D1.1 D1.2.1).1 = 0 ∧ (checkB D1.1 D1.2.1).2 = 0 := by rw [← hD1]; exact dec_ok
  have hno : D1.2.2.1 ≠ 0 → D1.1 = [] ∧ D1.2.1 = [] := by rw [← hD1]; exact dec_no
  simp only [hD1, hRH] at hD
  have hcv : (cutR R).val = slv R.oq (min 900 R.ln) R.cp := rfl
  rw [hcv] at hD
  unfold Bk.val at hF ⊢
  unfold Rd.val
  refine CallW_go (tbOk _) 91 [.tmp 4] Try.func7 rfl (by decide) rfl rfl (by simp) fun hlt => ?_
  simp only [params, Nat.zero_add, Nat.reduceAdd]
  have ne : ∀ id b, look id T0 = some b → ¬ id = nx := fun id b h => by have := hlt id b h; omega
  refine JS_go (tbOk _) 99 fun x hx => ?_
  simp only [RN, ↓reduceIte, ↓get8, reduceCtorEq, Nat.reduceLT, Nat.reduceEqDiff, Nat.reduceAdd, Nat.reduceMul, Nat.reduceLeDiff, Nat.reduceSub, Int.reduceToNat, Int.reduceNeg, Nat.reduceBEq, TY] at hx
  subst hx
  refine ⟨_, _, rfl, by first | trivial | omega | (simp only [and_true, true_and]; omega), ?_⟩
  refine at_quiet hF (fun id b h => by simp only [RN, ↓reduceIte, ↓get8, reduceCtorEq, Nat.reduceLT, Nat.reduceEqDiff, Nat.reduceAdd, Nat.reduceMul, Nat.reduceLeDiff, Nat.reduceSub, Int.reduceToNat, Int.reduceNeg, Nat.reduceBEq, ne id b (hB id b h), hB id b h]) ?_
  rintro o n ⟨rfl, hn⟩
  refine ⟨_, by simp only [RN, ↓reduceIte, ↓get8, reduceCtorEq, Nat.reduceLT, Nat.reduceEqDiff, Nat.reduceAdd, Nat.reduceMul, Nat.reduceLeDiff, Nat.reduceSub, Int.reduceToNat, Int.reduceNeg, Nat.reduceBEq]; rfl, ?_⟩
  refine JS_go (tbOk _) 99 fun x hx => ?_
  simp only [RN, ↓reduceIte, ↓get8, reduceCtorEq, Nat.reduceLT, Nat.reduceEqDiff, Nat.reduceAdd, Nat.reduceMul, Nat.reduceLeDiff, Nat.reduceSub, Int.reduceToNat, Int.reduceNeg, Nat.reduceBEq, TY, ↓tl] at hx
  subst hx
  refine ⟨_, _, rfl, by first | trivial | omega | (simp only [and_true, true_and]; omega), ?_⟩
  refine at_condM { n := 91, fr := [(1, slv R.oq (min 900 R.ln) R.cp), (2, .pointer (some ⟨nx, 0, none⟩))], F := (nx, ⟨[slv C.ok C.ks.length C.kc, slv C.ow C.ws.length C.wc], 26, 2, false, false⟩) :: T0, nx := n, ds := [] } (fun h => ?_) (fun h => ?_) ?_
  · have hl : 900 < R.ln := by have := of_decide_eq_true h; omega
    obtain ⟨q, hq⟩ : ∃ q, R.oq = some q := by
      cases hq : R.oq with
      | none => have := gR.h0 hq; omega
      | some q => exact ⟨q, rfl⟩
    have hm : min 900 R.ln = 900 := by omega
    have hs : slv R.oq R.ln R.cp = .slice (some ⟨q, 0, none⟩) R.ln R.cp := by rw [hq]; rfl
    have hs2 : slv R.oq (min 900 R.ln) R.cp = .slice (some ⟨q, 0, none⟩) 900 R.cp := by rw [hq, hm]; rfl
    have lb : look q T0 = some ⟨bys R.bs, 5, 1, R.ro, R.loose⟩ := hR q _ (by unfold Rd.H; rw [hq]; rw [look_cons, if_pos rfl])
    have hqn := gR.hq q hq
    have hcp := gR.hc
    have q0 : ¬ q = nx := by omega
    rw [hs2]
    refine JS_go (tbOk _) 99 fun x hx => ?_
    simp only [RN, ↓reduceIte, ↓get8, reduceCtorEq, Nat.reduceLT, Nat.reduceEqDiff, Nat.reduceAdd, Nat.reduceMul, Nat.reduceLeDiff, Nat.reduceSub, Int.reduceToNat, Int.reduceNeg, Nat.reduceBEq, TY, hs, lb, q0, Nat.sub_zero, Nat.add_assoc, Nat.left_eq_add, Nat.add_eq_left, Nat.add_left_cancel_iff] at hx
    subst hx
    refine ⟨_, _, rfl, ?_, ?_⟩
    · simp; omega
    exact at_done (in_cut ⟨rfl, leL_look (by simp only [RN, ↓reduceIte, ↓get8, reduceCtorEq, Nat.reduceLT, Nat.reduceEqDiff, Nat.reduceAdd, Nat.reduceMul, Nat.reduceLeDiff, Nat.reduceSub, Int.reduceToNat, Int.reduceNeg, Nat.reduceBEq]; first | done | trivial), leT (X := [_]) (by simp only [RN, ↓reduceIte, ↓get8, reduceCtorEq, Nat.reduceLT, Nat.reduceEqDiff, Nat.reduceAdd, Nat.reduceMul, Nat.reduceLeDiff, Nat.reduceSub, Int.reduceToNat, Int.reduceNeg, Nat.reduceBEq]; first | done | trivial) (fun id b h => by simp only [RN, ↓reduceIte, ↓get8, reduceCtorEq, Nat.reduceLT, Nat.reduceEqDiff, Nat.reduceAdd, Nat.reduceMul, Nat.reduceLeDiff, Nat.reduceSub, Int.reduceToNat, Int.reduceNeg, Nat.reduceBEq, ne id b h, h]), Nat.le_refl _, rfl⟩)
  · have hm : min 900 R.ln = R.ln := by have := of_decide_eq_false h; omega
    rw [hm]
    refine JS_go (tbOk _) 99 fun x hx => ?_
    simp only [RN, ↓reduceIte, ↓get8, reduceCtorEq, Nat.reduceLT, Nat.reduceEqDiff, Nat.reduceAdd, Nat.reduceMul, Nat.reduceLeDiff, Nat.reduceSub, Int.reduceToNat, Int.reduceNeg, Nat.reduceBEq, TY] at hx
    subst hx
    refine ⟨_, _, rfl, by first | trivial | omega | (simp only [and_true, true_and]; omega), ?_⟩
    exact at_done (in_cut ⟨rfl, leL_look (by simp only [RN, ↓reduceIte, ↓get8, reduceCtorEq, Nat.reduceLT, Nat.reduceEqDiff, Nat.reduceAdd, Nat.reduceMul, Nat.reduceLeDiff, Nat.reduceSub, Int.reduceToNat, Int.reduceNeg, Nat.reduceBEq]; first | done | trivial), leT (X := [_]) (by simp only [RN, ↓reduceIte, ↓get8, reduceCtorEq, Nat.reduceLT, Nat.reduceEqDiff, Nat.reduceAdd, Nat.reduceMul, Nat.reduceLeDiff, Nat.reduceSub, Int.reduceToNat, Int.reduceNeg, Nat.reduceBEq]; first | done | trivial) (fun id b h => by simp only [RN, ↓reduceIte, ↓get8, reduceCtorEq, Nat.reduceLT, Nat.reduceEqDiff, Nat.reduceAdd, Nat.reduceMul, Nat.reduceLeDiff, Nat.reduceSub, Int.reduceToNat, Int.reduceNeg, Nat.reduceBEq, ne id b h, h]), Nat.le_refl _, rfl⟩)
  have hK := check_q C n (gC.mono (by omega))
  unfold Bk.val at hK
  refine JS_go (tbOk _) 99 fun x hx => ?_
  simp only [RN, ↓reduceIte, ↓get8, reduceCtorEq, Nat.reduceLT, Nat.reduceEqDiff, Nat.reduceAdd, Nat.reduceMul, Nat.reduceLeDiff, Nat.reduceSub, Int.reduceToNat, Int.reduceNeg, Nat.reduceBEq, TY] at hx
  subst hx
  refine ⟨_, _, rfl, by first | trivial | omega | (simp only [and_true, true_and]; omega), ?_⟩
  refine at_quiet hK (fun id b h => by simp only [RN, ↓reduceIte, ↓get8, reduceCtorEq, Nat.reduceLT, Nat.reduceEqDiff, Nat.reduceAdd, Nat.reduceMul, Nat.reduceLeDiff, Nat.reduceSub, Int.reduceToNat, Int.reduceNeg, Nat.reduceBEq, ne id b (hCT id b h), hCT id b h]) ?_
  rintro o n2 ⟨rfl, hn2⟩
  refine ⟨_, by simp only [RN, ↓reduceIte, ↓get8, reduceCtorEq, Nat.reduceLT, Nat.reduceEqDiff, Nat.reduceAdd, Nat.reduceMul, Nat.reduceLeDiff, Nat.reduceSub, Int.reduceToNat, Int.reduceNeg, Nat.reduceBEq]; rfl, ?_⟩
  refine JS_go (tbOk _) 99 fun x hx => ?_
  simp only [RN, ↓reduceIte, ↓get8, reduceCtorEq, Nat.reduceLT, Nat.reduceEqDiff, Nat.reduceAdd, Nat.reduceMul, Nat.reduceLeDiff, Nat.reduceSub, Int.reduceToNat, Int.reduceNeg, Nat.reduceBEq, TY] at hx
  subst hx
  refine ⟨_, _, rfl, by first | trivial | omega | (simp only [and_true, true_and]; omega), ?_⟩
  refine at_condI (fun n : Nat => { n := 91, fr := [(1, slv R.oq (min 900 R.ln) R.cp), (2, .pointer (some ⟨nx, 0, none⟩))], F := (nx, ⟨[slv C.ok C.ks.length C.kc, slv C.ow C.ws.length C.wc], 26, 2, false, false⟩) :: T0, nx := n, ds := [] }) (fun x => nx + 1 ≤ x) (fun h => ?_) (fun h => ?_) ?_
  · have h0 : (checkB C.ks C.ws).1 = 0 := by simpa using h
    have hE := encode_n C n2 (gC.mono (by omega))
    simp only [if_pos h0] at hE
    have hdec := dec_enc h0
    have hel := enc_len h0
    obtain ⟨E, hEE⟩ : ∃ E, encB C.ks C.ws = E := ⟨_, rfl⟩
    rw [hEE] at hE hdec hel
    unfold Bk.val at hE
    refine JS_go (tbOk _) 99 fun x hx => ?_
    simp only [RN, ↓reduceIte, ↓get8, reduceCtorEq, Nat.reduceLT, Nat.reduceEqDiff, Nat.reduceAdd, Nat.reduceMul, Nat.reduceLeDiff, Nat.reduceSub, Int.reduceToNat, Int.reduceNeg, Nat.reduceBEq, TY] at hx
    subst hx
    refine ⟨_, _, rfl, by first | trivial | omega | (simp only [and_true, true_and]; omega), ?_⟩
    refine at_new hE (fun id b h => by simp only [RN, ↓reduceIte, ↓get8, reduceCtorEq, Nat.reduceLT, Nat.reduceEqDiff, Nat.reduceAdd, Nat.reduceMul, Nat.reduceLeDiff, Nat.reduceSub, Int.reduceToNat, Int.reduceNeg, Nat.reduceBEq, ne id b (hCT id b h), hCT id b h]) ?_
    rintro o X n3 ⟨hn3, b, hb, hb3, rfl, rfl⟩ -
    refine ⟨_, by simp only [RN, ↓reduceIte, ↓get8, reduceCtorEq, Nat.reduceLT, Nat.reduceEqDiff, Nat.reduceAdd, Nat.reduceMul, Nat.reduceLeDiff, Nat.reduceSub, Int.reduceToNat, Int.reduceNeg, Nat.reduceBEq]; rfl, ?_⟩
    have hD2 := decode_n ⟨E, E.length, some b, E.length, false, true⟩ n3 (encR_good hb3 hel)
    dsimp only at hD2
    rw [hdec] at hD2
    have f0 : ¬ b = nx := by omega
    have f1 : ∀ Y, look b (T0 ++ Y) = look b Y := look_past hlt (by omega)
    refine JS_go (tbOk _) 99 fun x hx => ?_
    simp only [RN, ↓reduceIte, ↓get8, reduceCtorEq, Nat.reduceLT, Nat.reduceEqDiff, Nat.reduceAdd, Nat.reduceMul, Nat.reduceLeDiff, Nat.reduceSub, Int.reduceToNat, Int.reduceNeg, Nat.reduceBEq, TY, List.append_assoc] at hx
    subst hx
    refine ⟨_, _, rfl, by first | trivial | omega | (simp only [and_true, true_and]; omega), ?_⟩
    refine at_new hD2 (leL_look (by simp only [Rd.H, RN, ↓reduceIte, ↓get8, reduceCtorEq, Nat.reduceLT, Nat.reduceEqDiff, Nat.reduceAdd, Nat.reduceMul, Nat.reduceLeDiff, Nat.reduceSub, Int.reduceToNat, Int.reduceNeg, Nat.reduceBEq, f0, f1]; first | done | trivial)) ?_
    rintro o X n4 ⟨D, hDk, hDw, gD, hn4, rfl, rfl⟩ hX
    refine ⟨_, by simp only [RN, ↓reduceIte, ↓get8, reduceCtorEq, Nat.reduceLT, Nat.reduceEqDiff, Nat.reduceAdd, Nat.reduceMul, Nat.reduceLeDiff, Nat.reduceSub, Int.reduceToNat, Int.reduceNeg, Nat.reduceBEq]; rfl, ?_⟩
    obtain ⟨t1, t2⟩ := tail_facts (blk := ⟨bys E, 5, 1, false, true⟩) hlt (by omega : nx < b) hb3 gD hn4 hX
    have hS := same_q D C (T0 ++ ([(b, ⟨bys E, 5, 1, false, true⟩)] ++ D.H)) (n4 + 1) (gD.mono (by omega)) (gC.mono (by omega)) t1 (fun id x h => look_in (hCT id x h) _) (fun id x h => by have := (t2 id x h).2; omega) hDk hDw
    have hin : ∀ id x, look id T0 = some x → look id (T0 ++ ([(b, ⟨bys E, 5, 1, false, true⟩)] ++ D.H)) = some x := fun id x h => look_in h _
    unfold Bk.val at hS ⊢
    obtain ⟨TX, hTX⟩ : ∃ TX, T0 ++ ([(b, ⟨bys E, 5, 1, false, true⟩)] ++ D.H) = TX := ⟨_, rfl⟩
    rw [hTX] at hS t2 hin
    have e0 : ¬ nx = n4 := by omega
    have e1 : ¬ n4 = nx := by omega
    have hTX2 : T0 ++ (b, ⟨bys E, 5, 1, false, true⟩) :: D.H = TX := hTX
    refine JS_go (tbOk _) 99 fun x hx => ?_
    simp only [RN, ↓reduceIte, ↓get8, reduceCtorEq, Nat.reduceLT, Nat.reduceEqDiff, Nat.reduceAdd, Nat.reduceMul, Nat.reduceLeDiff, Nat.reduceSub, Int.reduceToNat, Int.reduceNeg, Nat.reduceBEq, TY, e0, e1, List.append_assoc, hTX2] at hx
    subst hx
    refine ⟨_, _, rfl, by first | trivial | omega | (simp only [and_true, true_and]; omega), ?_⟩
    refine at_quiet hS (fun id x h => by
      have h1 := t2 id x h
      have h2 : ¬ id = nx := h1.1
      have h3 : ¬ id = n4 := by omega
      simp only [RN, ↓reduceIte, ↓get8, reduceCtorEq, Nat.reduceLT, Nat.reduceEqDiff, Nat.reduceAdd, Nat.reduceMul, Nat.reduceLeDiff, Nat.reduceSub, Int.reduceToNat, Int.reduceNeg, Nat.reduceBEq, h2, h3, h, List.append_assoc, hTX2]) ?_
    rintro o n5 ⟨rfl, hn5⟩
    refine ⟨_, by simp only [RN, ↓reduceIte, ↓get8, reduceCtorEq, Nat.reduceLT, Nat.reduceEqDiff, Nat.reduceAdd, Nat.reduceMul, Nat.reduceLeDiff, Nat.reduceSub, Int.reduceToNat, Int.reduceNeg, Nat.reduceBEq]; rfl, ?_⟩
    refine JS_go (tbOk _) 99 fun x hx => ?_
    simp only [RN, ↓reduceIte, ↓get8, reduceCtorEq, Nat.reduceLT, Nat.reduceEqDiff, Nat.reduceAdd, Nat.reduceMul, Nat.reduceLeDiff, Nat.reduceSub, Int.reduceToNat, Int.reduceNeg, Nat.reduceBEq, TY] at hx
    subst hx
    refine ⟨_, _, rfl, by first | trivial | omega | (simp only [and_true, true_and]; omega), ?_⟩
    refine at_cond (fun h => nomatch h) (fun _ => ?_)
    refine JS_go (tbOk _) 99 fun x hx => ?_
    simp only [RN, ↓reduceIte, ↓get8, reduceCtorEq, Nat.reduceLT, Nat.reduceEqDiff, Nat.reduceAdd, Nat.reduceMul, Nat.reduceLeDiff, Nat.reduceSub, Int.reduceToNat, Int.reduceNeg, Nat.reduceBEq, TY] at hx
    subst hx
    refine ⟨_, _, rfl, by first | trivial | omega | (simp only [and_true, true_and]; omega), ?_⟩
    refine at_done (in_cutI n5 (by omega) ⟨rfl, leL_look (by simp only [RN, ↓reduceIte, ↓get8, reduceCtorEq, Nat.reduceLT, Nat.reduceEqDiff, Nat.reduceAdd, Nat.reduceMul, Nat.reduceLeDiff, Nat.reduceSub, Int.reduceToNat, Int.reduceNeg, Nat.reduceBEq]; first | done | trivial), ?_, Nat.le_refl _, rfl⟩)
    refine leT (X := [_]) (by simp only [RN, ↓reduceIte, ↓get8, reduceCtorEq, Nat.reduceLT, Nat.reduceEqDiff, Nat.reduceAdd, Nat.reduceMul, Nat.reduceLeDiff, Nat.reduceSub, Int.reduceToNat, Int.reduceNeg, Nat.reduceBEq, e0, e1]; first | done | trivial) ?_
    intro id x h
    have h2 : ¬ id = nx := ne id x h
    have h3 : ¬ id = n4 := by have := hlt id x h; omega
    simp only [RN, ↓reduceIte, ↓get8, reduceCtorEq, Nat.reduceLT, Nat.reduceEqDiff, Nat.reduceAdd, Nat.reduceMul, Nat.reduceLeDiff, Nat.reduceSub, Int.reduceToNat, Int.reduceNeg, Nat.reduceBEq, h2, h3, hin id x h, List.append_assoc, hTX2]
  · skip
    refine JS_go (tbOk _) 99 fun x hx => ?_
    simp only [RN, ↓reduceIte, ↓get8, reduceCtorEq, Nat.reduceLT, Nat.reduceEqDiff, Nat.reduceAdd, Nat.reduceMul, Nat.reduceLeDiff, Nat.reduceSub, Int.reduceToNat, Int.reduceNeg, Nat.reduceBEq, TY] at hx
    subst hx
    refine ⟨_, _, rfl, by first | trivial | omega | (simp only [and_true, true_and]; omega), ?_⟩
    exact at_done (in_cutI n2 (by omega) ⟨rfl, leL_look (by simp only [RN, ↓reduceIte, ↓get8, reduceCtorEq, Nat.reduceLT, Nat.reduceEqDiff, Nat.reduceAdd, Nat.reduceMul, Nat.reduceLeDiff, Nat.reduceSub, Int.reduceToNat, Int.reduceNeg, Nat.reduceBEq]; first | done | trivial), fun id b h => h, Nat.le_refl _, rfl⟩)
  clear hn hn2 hK n n2
  intro n hn
  refine JS_go (tbOk _) 99 fun x hx => ?_
  simp only [RN, ↓reduceIte, ↓get8, reduceCtorEq, Nat.reduceLT, Nat.reduceEqDiff, Nat.reduceAdd, Nat.reduceMul, Nat.reduceLeDiff, Nat.reduceSub, Int.reduceToNat, Int.reduceNeg, Nat.reduceBEq, TY] at hx
  subst hx
  refine ⟨_, _, rfl, by first | trivial | omega | (simp only [and_true, true_and]; omega), ?_⟩
  refine at_new (hD n (by omega)) (fun id b h => by simp only [RN, ↓reduceIte, ↓get8, reduceCtorEq, Nat.reduceLT, Nat.reduceEqDiff, Nat.reduceAdd, Nat.reduceMul, Nat.reduceLeDiff, Nat.reduceSub, Int.reduceToNat, Int.reduceNeg, Nat.reduceBEq, ne id b (hR id b h), hR id b h]) ?_
  rintro o X n2 ⟨D, hDk, hDw, gD, hn2, rfl, rfl⟩ hX
  refine ⟨_, by simp only [RN, ↓reduceIte, ↓get8, reduceCtorEq, Nat.reduceLT, Nat.reduceEqDiff, Nat.reduceAdd, Nat.reduceMul, Nat.reduceLeDiff, Nat.reduceSub, Int.reduceToNat, Int.reduceNeg, Nat.reduceBEq]; rfl, ?_⟩
  obtain ⟨t1, t2⟩ := tail_facts2 hlt (by omega : nx < n) gD hn2 hX
  have hin : ∀ id x, look id T0 = some x → look id (T0 ++ D.H) = some x := fun id x h => look_in h _
  have hS0 := fun (h1 : D.ks = bk0.ks) (h2 : D.ws = bk0.ws) => same_q D bk0 (T0 ++ D.H) (n2 + 1) (gD.mono (by omega)) (bk0_good _) t1 nofun (fun id x h => by have := (t2 id x h).2; omega) h1 h2
  have hK := check_q D (n2 + 1) (gD.mono (by omega))
  have hE := encode_n D
  obtain ⟨TX, hTX⟩ : ∃ TX, T0 ++ D.H = TX := ⟨_, rfl⟩
  have hDv : D.val = .agg #[slv D.ok D.ks.length D.kc, slv D.ow D.ws.length D.wc] := rfl
  rw [hDv] at hK ⊢
  simp only [hDv] at hE
  rw [hDv] at hS0
  rw [hTX] at hS0 t1 t2 hin
  have e0 : ¬ nx = n2 := by omega
  have e1 : ¬ n2 = nx := by omega
  have hf : ∀ id x, look id TX = some x → ¬ id = nx ∧ ¬ id = n2 := fun id x h => by have := t2 id x h; omega
  refine JS_go (tbOk _) 99 fun x hx => ?_
  simp only [RN, ↓reduceIte, ↓get8, reduceCtorEq, Nat.reduceLT, Nat.reduceEqDiff, Nat.reduceAdd, Nat.reduceMul, Nat.reduceLeDiff, Nat.reduceSub, Int.reduceToNat, Int.reduceNeg, Nat.reduceBEq, TY, e0, e1, hTX] at hx
  subst hx
  refine ⟨_, _, rfl, by first | trivial | omega | (simp only [and_true, true_and]; omega), ?_⟩
  refine at_cond (fun h => ?_) (fun h => ?_)
  · have h0 : ¬ D1.2.2.1 = 0 := by simpa using h
    obtain ⟨h1, h2⟩ := hno h0
    have hS := hS0 (by rw [hDk, h1]; rfl) (by rw [hDw, h2]; rfl)
    refine JS_go (tbOk _) 99 fun x hx => ?_
    simp only [RN, ↓reduceIte, ↓get8, reduceCtorEq, Nat.reduceLT, Nat.reduceEqDiff, Nat.reduceAdd, Nat.reduceMul, Nat.reduceLeDiff, Nat.reduceSub, Int.reduceToNat, Int.reduceNeg, Nat.reduceBEq, TY, e0, e1, hTX] at hx
    subst hx
    refine ⟨_, _, rfl, by first | trivial | omega | (simp only [and_true, true_and]; omega), ?_⟩
    refine at_quiet hS (fun id x h => by simp only [RN, ↓reduceIte, ↓get8, reduceCtorEq, Nat.reduceLT, Nat.reduceEqDiff, Nat.reduceAdd, Nat.reduceMul, Nat.reduceLeDiff, Nat.reduceSub, Int.reduceToNat, Int.reduceNeg, Nat.reduceBEq, (hf id x h).1, (hf id x h).2, h, hTX]) ?_
    rintro o n3 ⟨rfl, hn3⟩
    refine ⟨_, by simp only [RN, ↓reduceIte, ↓get8, reduceCtorEq, Nat.reduceLT, Nat.reduceEqDiff, Nat.reduceAdd, Nat.reduceMul, Nat.reduceLeDiff, Nat.reduceSub, Int.reduceToNat, Int.reduceNeg, Nat.reduceBEq]; rfl, ?_⟩
    refine JS_go (tbOk _) 99 fun x hx => ?_
    simp only [RN, ↓reduceIte, ↓get8, reduceCtorEq, Nat.reduceLT, Nat.reduceEqDiff, Nat.reduceAdd, Nat.reduceMul, Nat.reduceLeDiff, Nat.reduceSub, Int.reduceToNat, Int.reduceNeg, Nat.reduceBEq, TY] at hx
    subst hx
    refine ⟨_, _, rfl, by first | trivial | omega | (simp only [and_true, true_and]; omega), ?_⟩
    refine at_quiet (awake_c n3) (fun _ _ h => by cases h) ?_
    rintro o n4 ⟨rfl, hn4⟩
    refine ⟨_, by simp only [RN, ↓reduceIte, ↓get8, reduceCtorEq, Nat.reduceLT, Nat.reduceEqDiff, Nat.reduceAdd, Nat.reduceMul, Nat.reduceLeDiff, Nat.reduceSub, Int.reduceToNat, Int.reduceNeg, Nat.reduceBEq]; rfl, ?_⟩
    refine JS_go (tbOk _) 99 fun x hx => ?_
    simp only [RN, ↓reduceIte, ↓get8, reduceCtorEq, Nat.reduceLT, Nat.reduceEqDiff, Nat.reduceAdd, Nat.reduceMul, Nat.reduceLeDiff, Nat.reduceSub, Int.reduceToNat, Int.reduceNeg, Nat.reduceBEq, TY] at hx
    subst hx
    refine ⟨_, _, rfl, by first | trivial | omega | (simp only [and_true, true_and]; omega), ?_⟩
    refine at_ret (ret_endK (by simp only [RN, ↓reduceIte, ↓get8, reduceCtorEq, Nat.reduceLT, Nat.reduceEqDiff, Nat.reduceAdd, Nat.reduceMul, Nat.reduceLeDiff, Nat.reduceSub, Int.reduceToNat, Int.reduceNeg, Nat.reduceBEq]; first | done | rfl) rfl trivial ⟨T0, fun id x h => ?_, ⟨rfl, by show nx ≤ n4; omega⟩, rfl⟩)
    simp only [RN, ↓reduceIte, ↓get8, reduceCtorEq, Nat.reduceLT, Nat.reduceEqDiff, Nat.reduceAdd, Nat.reduceMul, Nat.reduceLeDiff, Nat.reduceSub, Int.reduceToNat, Int.reduceNeg, Nat.reduceBEq, (hf id x (hin id x h)).1, (hf id x (hin id x h)).2, hin id x h, hTX]
  · have h0 : D1.2.2.1 = 0 := by simpa using h
    obtain ⟨k1, k2⟩ := hok h0
    rw [← hDk, ← hDw] at k1 k2
    rw [k1, k2] at hK
    refine JS_go (tbOk _) 99 fun x hx => ?_
    simp only [RN, ↓reduceIte, ↓get8, reduceCtorEq, Nat.reduceLT, Nat.reduceEqDiff, Nat.reduceAdd, Nat.reduceMul, Nat.reduceLeDiff, Nat.reduceSub, Int.reduceToNat, Int.reduceNeg, Nat.reduceBEq, TY, e0, e1, hTX] at hx
    subst hx
    refine ⟨_, _, rfl, by first | trivial | omega | (simp only [and_true, true_and]; omega), ?_⟩
    refine at_quiet hK (fun id x h => by simp only [RN, ↓reduceIte, ↓get8, reduceCtorEq, Nat.reduceLT, Nat.reduceEqDiff, Nat.reduceAdd, Nat.reduceMul, Nat.reduceLeDiff, Nat.reduceSub, Int.reduceToNat, Int.reduceNeg, Nat.reduceBEq, (hf id x (t1 id x h)).1, (hf id x (t1 id x h)).2, t1 id x h, hTX]) ?_
    rintro o n3 ⟨rfl, hn3⟩
    refine ⟨_, by simp only [RN, ↓reduceIte, ↓get8, reduceCtorEq, Nat.reduceLT, Nat.reduceEqDiff, Nat.reduceAdd, Nat.reduceMul, Nat.reduceLeDiff, Nat.reduceSub, Int.reduceToNat, Int.reduceNeg, Nat.reduceBEq]; rfl, ?_⟩
    have hE := hE n3 (gD.mono (by omega))
    simp only [if_pos k1] at hE
    have hdec := dec_enc k1
    have hel := enc_len k1
    obtain ⟨E, hEE⟩ : ∃ E, encB D.ks D.ws = E := ⟨_, rfl⟩
    rw [hEE] at hE hdec hel
    refine JS_go (tbOk _) 99 fun x hx => ?_
    simp only [RN, ↓reduceIte, ↓get8, reduceCtorEq, Nat.reduceLT, Nat.reduceEqDiff, Nat.reduceAdd, Nat.reduceMul, Nat.reduceLeDiff, Nat.reduceSub, Int.reduceToNat, Int.reduceNeg, Nat.reduceBEq, TY, e0, e1, hTX] at hx
    subst hx
    refine ⟨_, _, rfl, by first | trivial | omega | (simp only [and_true, true_and]; omega), ?_⟩
    refine at_new hE (fun id x h => by simp only [RN, ↓reduceIte, ↓get8, reduceCtorEq, Nat.reduceLT, Nat.reduceEqDiff, Nat.reduceAdd, Nat.reduceMul, Nat.reduceLeDiff, Nat.reduceSub, Int.reduceToNat, Int.reduceNeg, Nat.reduceBEq, (hf id x (t1 id x h)).1, (hf id x (t1 id x h)).2, t1 id x h, hTX]) ?_
    rintro o X n4 ⟨hn4, b, hb, hb4, rfl, rfl⟩ -
    refine ⟨_, by simp only [RN, ↓reduceIte, ↓get8, reduceCtorEq, Nat.reduceLT, Nat.reduceEqDiff, Nat.reduceAdd, Nat.reduceMul, Nat.reduceLeDiff, Nat.reduceSub, Int.reduceToNat, Int.reduceNeg, Nat.reduceBEq]; rfl, ?_⟩
    have hD2 := decode_n ⟨E, E.length, some b, E.length, false, true⟩ n4 (encR_good hb4 hel)
    dsimp only at hD2
    rw [hdec] at hD2
    have f0 : ¬ b = nx := by omega
    have f2 : ¬ b = n2 := by omega
    have htx : ∀ id x, look id TX = some x → id < n2 + 1 := fun id x h => by have := (t2 id x h).2; omega
    have f1 : ∀ Y, look b (TX ++ Y) = look b Y := look_past htx (by omega)
    refine JS_go (tbOk _) 99 fun x hx => ?_
    simp only [RN, ↓reduceIte, ↓get8, reduceCtorEq, Nat.reduceLT, Nat.reduceEqDiff, Nat.reduceAdd, Nat.reduceMul, Nat.reduceLeDiff, Nat.reduceSub, Int.reduceToNat, Int.reduceNeg, Nat.reduceBEq, TY, e0, e1, List.append_assoc, hTX] at hx
    subst hx
    refine ⟨_, _, rfl, by first | trivial | omega | (simp only [and_true, true_and]; omega), ?_⟩
    refine at_new hD2 (leL_look (by simp only [Rd.H, RN, ↓reduceIte, ↓get8, reduceCtorEq, Nat.reduceLT, Nat.reduceEqDiff, Nat.reduceAdd, Nat.reduceMul, Nat.reduceLeDiff, Nat.reduceSub, Int.reduceToNat, Int.reduceNeg, Nat.reduceBEq, f0, f1, f2, List.append_assoc]; first | done | trivial)) ?_
    rintro o X n5 ⟨Z, hZk, hZw, gZ, hn5, rfl, rfl⟩ hX5
    refine ⟨_, by simp only [RN, ↓reduceIte, ↓get8, reduceCtorEq, Nat.reduceLT, Nat.reduceEqDiff, Nat.reduceAdd, Nat.reduceMul, Nat.reduceLeDiff, Nat.reduceSub, Int.reduceToNat, Int.reduceNeg, Nat.reduceBEq]; rfl, ?_⟩
    obtain ⟨z1, z2⟩ := tail_facts (blk := ⟨bys E, 5, 1, false, true⟩) (fun id x h => (t2 id x h).2) (by omega : n2 < b) hb4 gZ hn5 hX5
    have hS := same_q D Z (TX ++ ([(b, ⟨bys E, 5, 1, false, true⟩)] ++ Z.H)) (n5 + 1) (gD.mono (by omega)) (gZ.mono (by omega)) (fun id x h => look_in (t1 id x h) _) z1 (fun id x h => by have := (z2 id x h).2; omega) hZk.symm hZw.symm
    have hin2 : ∀ id x, look id TX = some x → look id (TX ++ ([(b, ⟨bys E, 5, 1, false, true⟩)] ++ Z.H)) = some x := fun id x h => look_in h _
    have hf2 : ∀ id x, look id (TX ++ ([(b, ⟨bys E, 5, 1, false, true⟩)] ++ Z.H)) = some x → ¬ id = nx ∧ ¬ id = n2 ∧ ¬ id = n5 := fun id x h => by
      have h2 := (z2 id x h).2
      rw [look_append] at h
      cases hl : look id TX with
      | some y => have := t2 id y hl; omega
      | none =>
        rw [hl] at h
        dsimp only at h
        rw [List.cons_append, look_cons] at h
        split at h
        · omega
        · have h1 := hX5 _ (look_mem2 h)
          dsimp only at h1
          omega
    rw [hDv] at hS
    unfold Bk.val at hS ⊢
    obtain ⟨TY2, hTY⟩ : ∃ TY2, TX ++ ([(b, ⟨bys E, 5, 1, false, true⟩)] ++ Z.H) = TY2 := ⟨_, rfl⟩
    rw [hTY] at hS hf2 hin2
    have hTY2 : TX ++ (b, ⟨bys E, 5, 1, false, true⟩) :: Z.H = TY2 := hTY
    have e2 : ¬ nx = n5 := by omega
    have e3 : ¬ n5 = nx := by omega
    have e4 : ¬ n2 = n5 := by omega
    have e5 : ¬ n5 = n2 := by omega
    refine JS_go (tbOk _) 99 fun x hx => ?_
    simp only [RN, ↓reduceIte, ↓get8, reduceCtorEq, Nat.reduceLT, Nat.reduceEqDiff, Nat.reduceAdd, Nat.reduceMul, Nat.reduceLeDiff, Nat.reduceSub, Int.reduceToNat, Int.reduceNeg, Nat.reduceBEq, TY, e0, e1, e2, e3, e4, e5, List.append_assoc, hTY2] at hx
    subst hx
    refine ⟨_, _, rfl, by first | trivial | omega | (simp only [and_true, true_and]; omega), ?_⟩
    refine at_quiet hS (fun id x h => by simp only [RN, ↓reduceIte, ↓get8, reduceCtorEq, Nat.reduceLT, Nat.reduceEqDiff, Nat.reduceAdd, Nat.reduceMul, Nat.reduceLeDiff, Nat.reduceSub, Int.reduceToNat, Int.reduceNeg, Nat.reduceBEq, (hf2 id x h).1, (hf2 id x h).2.1, (hf2 id x h).2.2, h, List.append_assoc, hTY2]) ?_
    rintro o n6 ⟨rfl, hn6⟩
    refine ⟨_, by simp only [RN, ↓reduceIte, ↓get8, reduceCtorEq, Nat.reduceLT, Nat.reduceEqDiff, Nat.reduceAdd, Nat.reduceMul, Nat.reduceLeDiff, Nat.reduceSub, Int.reduceToNat, Int.reduceNeg, Nat.reduceBEq]; rfl, ?_⟩
    refine JS_go (tbOk _) 99 fun x hx => ?_
    simp only [RN, ↓reduceIte, ↓get8, reduceCtorEq, Nat.reduceLT, Nat.reduceEqDiff, Nat.reduceAdd, Nat.reduceMul, Nat.reduceLeDiff, Nat.reduceSub, Int.reduceToNat, Int.reduceNeg, Nat.reduceBEq, TY] at hx
    subst hx
    refine ⟨_, _, rfl, by first | trivial | omega | (simp only [and_true, true_and]; omega), ?_⟩
    refine at_quiet (awake_c n6) (fun _ _ h => by cases h) ?_
    rintro o n7 ⟨rfl, hn7⟩
    refine ⟨_, by simp only [RN, ↓reduceIte, ↓get8, reduceCtorEq, Nat.reduceLT, Nat.reduceEqDiff, Nat.reduceAdd, Nat.reduceMul, Nat.reduceLeDiff, Nat.reduceSub, Int.reduceToNat, Int.reduceNeg, Nat.reduceBEq]; rfl, ?_⟩
    refine JS_go (tbOk _) 99 fun x hx => ?_
    simp only [RN, ↓reduceIte, ↓get8, reduceCtorEq, Nat.reduceLT, Nat.reduceEqDiff, Nat.reduceAdd, Nat.reduceMul, Nat.reduceLeDiff, Nat.reduceSub, Int.reduceToNat, Int.reduceNeg, Nat.reduceBEq, TY] at hx
    subst hx
    refine ⟨_, _, rfl, by first | trivial | omega | (simp only [and_true, true_and]; omega), ?_⟩
    refine at_ret (ret_endK (by simp only [RN, ↓reduceIte, ↓get8, reduceCtorEq, Nat.reduceLT, Nat.reduceEqDiff, Nat.reduceAdd, Nat.reduceMul, Nat.reduceLeDiff, Nat.reduceSub, Int.reduceToNat, Int.reduceNeg, Nat.reduceBEq]; first | done | rfl) rfl trivial ⟨T0, fun id x h => ?_, ⟨rfl, by show nx ≤ n7; omega⟩, rfl⟩)
    have h3 := hin2 id x (hin id x h)
    simp only [RN, ↓reduceIte, ↓get8, reduceCtorEq, Nat.reduceLT, Nat.reduceEqDiff, Nat.reduceAdd, Nat.reduceMul, Nat.reduceLeDiff, Nat.reduceSub, Int.reduceToNat, Int.reduceNeg, Nat.reduceBEq, (hf2 id x h3).1, (hf2 id x h3).2.1, (hf2 id x h3).2.2, h3, List.append_assoc, hTY2]
end Go.Proofs.Ytoihmanhldcjhaa.Id
namespace Go.Proofs.Ytoihmanhldcjhaa.Id
open Go Go.RowKit Go.ChangeShapes Go.WideShapes
set_option linter.unusedSimpArgs false
set_option linter.unusedVariables false
theorem bys_flat : ∀ l : List UInt8, (l.flatMap fun b : UInt8 => [Value.int .u8 b.toNat]) = bys l
  | [] => rfl
  | b :: l => by rw [List.flatMap_cons, bys_flat l]; rfl
theorem bytes_cell {H : Type} {enc : TypeId × Value → H} {W : World} {b0 : Nat} {v : Value} {d : DataW H} {p : List MemPlace} (h : Value.okWide Try.prog W .any b0 34 v) (ht : DataW.Trod enc Try.prog W 0 (fun _ => true) true 34 v d p) :
    ∃ oq len cap l, Opened (fun b : UInt8 => [Value.int .u8 b.toNat]) 1 W v oq len cap l := by
  obtain ⟨x, len, cap, rfl⟩ := okWide_slice Try.underlying34 h
  obtain ⟨m, hm⟩ := ht
  refine open_bytes (b0 := b0) ?_ (show DataW.trod enc Try.prog W 0 (fun _ => true) true m 34 [.slice x len cap] = some _ from by simpa [Value.cells] using hm)
  unfold Value.okWide at h
  rw [Try.underlying34] at h
  exact h
def argRd (q : Nat) (oq : Option Place) (len cap : Nat) (l : List UInt8) : Rd := ⟨l, len, oq.map fun _ => q, cap, true, false⟩
section
variable {W : World} {z : Value} {oq : Option Place} {len cap : Nat} {l : List UInt8} (h : Opened (fun b : UInt8 => [Value.int .u8 b.toNat]) 1 W z oq len cap l)
include h
theorem argRd_good {q nx : Nat} (hq : q < nx) : (argRd q oq len cap l).G0 nx := by
  refine ⟨?_, fun e => ?_, fun c e => ?_, h.hl⟩
  · show len ≤ l.length
    cases oq with
    | none => rw [(h.no rfl).1]; omega
    | some p => rw [h.rows p rfl]; exact h.hl
  · cases oq with
    | none => exact (h.no rfl).1
    | some p => cases e
  · cases oq with
    | none => cases e
    | some p => cases e; exact hq
theorem argRd_has {q : Nat} {mm : Mp} (m0 : mm q = oq) : ∀ id blk, look id (argRd q oq len cap l).H = some blk → blk.ro = true ∧ id = q ∧ ∃ p, mm id = some p ∧ BR mm blk p W := by
  intro id blk e
  unfold Rd.H argRd at e
  cases oq with
  | none => cases e
  | some p =>
    simp only [Option.map] at e
    rw [look_cons] at e
    split at e
    · rename_i hid; subst hid; cases e
      exact ⟨rfl, rfl, p, m0, by have := h.br p rfl mm 5; rwa [bys_flat] at this⟩
    · cases e
theorem argRd_vr {q : Nat} {mm : Mp} (m0 : mm q = oq) : VR mm (argRd q oq len cap l).val z := by
  unfold Rd.val argRd
  cases oq with
  | none => rw [(h.no rfl).2]; exact .snil
  | some p => exact h.vr p rfl mm q m0
end
theorem book_bytes_open {H : Type} {enc : TypeId × Value → H} {W : World} {b0 : Nat} {z0 z1 v : Value} {d : DataW H} {p : List MemPlace} (h : Value.okWide Try.prog W .any b0 26 (.agg #[z0, z1])) (h0 : ∃ m x, DataW.trod enc Try.prog W 0 (fun _ => true) true m 23 [z0] = some x) (h1 : ∃ m x, DataW.trod enc Try.prog W 0 (fun _ => true) true m 24 [z1] = some x)
    (hv : Value.okWide Try.prog W .any b0 34 v) (ht : DataW.Trod enc Try.prog W 0 (fun _ => true) true 34 v d p) :
    ∃ (B : Bk) (R : Rd) (T0 : Hp) (mm : Mp), B.G0 3 ∧ R.G0 3 ∧ (∀ id b, look id B.H = some b → look id T0 = some b) ∧ (∀ id b, look id R.H = some b → look id T0 = some b) ∧ HR mm T0 3 W ∧ VRs mm [B.val, R.val] (#[Value.agg #[z0, z1], v] : Array Value).toList ∧ ∀ id blk, look id T0 = some blk → blk.ro = true := by
  obtain ⟨k0, k1⟩ := book_cells h
  obtain ⟨f0, x0, t0⟩ := h0
  obtain ⟨f1, x1, t1⟩ := h1
  obtain ⟨ok, lenk, capk, lk, hk⟩ := open_kinds k0 t0
  obtain ⟨ow, lenw, capw, lw, hw⟩ := open_weapons k1 t1
  obtain ⟨oq, lenq, capq, lq, hq⟩ := bytes_cell hv ht
  obtain ⟨mm, hmm⟩ : ∃ mm : Mp, mm = fun id => if id = 0 then ok else if id = 1 then ow else if id = 2 then oq else none := ⟨_, rfl⟩
  have m0 : mm 0 = ok := by rw [hmm]; rfl
  have m1 : mm 1 = ow := by rw [hmm]; rfl
  have m2 : mm 2 = oq := by rw [hmm]; rfl
  have hB := argBk_has hk hw m0 m1
  have hR := argRd_has hq m2
  have all : ∀ id blk, look id ((argBk ok lenk capk lk ow lenw capw lw).H ++ (argRd 2 oq lenq capq lq).H) = some blk → blk.ro = true ∧ ∃ p, mm id = some p ∧ BR mm blk p W := by
    intro id blk e
    rw [look_append] at e
    cases hl : look id (argBk ok lenk capk lk ow lenw capw lw).H with
    | some y => rw [hl] at e; cases e; exact ⟨(hB id _ hl).1, (hB id _ hl).2.2⟩
    | none => rw [hl] at e; exact ⟨(hR id _ e).1, (hR id _ e).2.2⟩
  refine ⟨argBk ok lenk capk lk ow lenw capw lw, argRd 2 oq lenq capq lq, _, mm, argBk_good hk hw (by omega), argRd_good hq (by omega), fun id b e => look_in e _, fun id b e => ?_, ⟨fun id blk e => (all id blk e).2, fun id hid => ?_, fun i j bi bj pi pj _ e1 _ _ _ hro => ?_⟩, .cons (argBk_vr hk hw m0 m1) (.cons (argRd_vr hq m2) .nil), fun id blk e => (all id blk e).1⟩
  · have h2 := (hR id b e).2.1
    rw [look_append]
    cases hl : look id (argBk ok lenk capk lk ow lenw capw lw).H with
    | some y => have := (hB id y hl).2.1; omega
    | none => exact e
  · rw [hmm]
    show (if id = 0 then ok else if id = 1 then ow else if id = 2 then oq else none) = none
    rw [if_neg (by omega), if_neg (by omega), if_neg (by omega)]
  · rw [(all i bi e1).1] at hro; cases hro
end Go.Proofs.Ytoihmanhldcjhaa.Id
namespace Go.Proofs.Ytoihmanhldcjhaa.KindsBack
open Go Go.RowKit Go.ChangeShapes Go.WideShapes Go.ChangeAt Go.Proofs.Ytoihmanhldcjhaa.Id
set_option linter.unusedVariables false
set_option linter.unusedSimpArgs false
theorem own : ownKnob Try.prog.godebug = none := by kernel_rfl
theorem walk {H : Type} {enc : TypeId × Value → H} {b0 : Nat} {W0 : World} {d : DataW H} {p : List MemPlace} (z0 z1 v : Value) (h : Value.okWide Try.prog W0 .any b0 26 (.agg #[z0, z1])) (h0 : ∃ m x, DataW.trod enc Try.prog W0 0 (fun _ => true) true m 23 [z0] = some x) (h1 : ∃ m x, DataW.trod enc Try.prog W0 0 (fun _ => true) true m 24 [z1] = some x)
    (hv : Value.okWide Try.prog W0 .any b0 34 v) (ht : DataW.Trod enc Try.prog W0 0 (fun _ => true) true 34 v d p) (W : World) (e0 : W0 = W) : Calls Try.prog 7 #[.agg #[z0, z1], v] W fun e W' => e = .returned (.bool true) ∧ Below W.heap.size W W' := by
  subst e0
  obtain ⟨B, R, T0, mm, gB, gR, hB, hR, hh, hvv, hro⟩ := book_bytes_open h h0 h1 hv ht
  exact law_calls (back_c B R 3 gB gR T0 hB hR) Try.func7 (by decide) rfl hro hh hvv
theorem laidOut : laidOutB Try.prog = true := by kernel_rfl
theorem cells0 {H : Type} {enc : TypeId × Value → H} {w : World} {base : Nat} {spare : Nat → Bool} {held : Bool} {cs : Array Value} (h : gflatOk enc Try.prog w base spare held [.other 23, .other 24] cs.toList) : ∃ (z0 : Value) (z1 : Value), cs = #[z0, z1] ∧ (∃ m x, DataW.trod enc Try.prog w base spare held m 23 [z0] = some x) ∧ (∃ m x, DataW.trod enc Try.prog w base spare held m 24 [z1] = some x) := by
  obtain ⟨l⟩ := cs
  replace h : gflatOk enc Try.prog w base spare held [.other 23, .other 24] l := h
  rcases l with _ | ⟨z0, l⟩
  · exact h.elim
  obtain ⟨w0, h⟩ := h
  rcases l with _ | ⟨z1, l⟩
  · exact h.elim
  obtain ⟨w1, h⟩ := h
  rcases l with _ | ⟨v, l⟩
  · exact ⟨z0, z1, rfl, w0, w1⟩
  · exact h.elim
set_option maxRecDepth 100000 in
theorem lifted (os : Os) (started : os.Started) (H : Type) (enc : TypeId × Value → H) :
    ReturnsInHanded {} Try.checked os 7 .any (Rows.kindsBackSpec.pre6 enc Try.prog Try.f7 Rows.kindsBackRow.domain false) (Rows.kindsBackSpec.post enc Try.prog Try.f7 false true false false) := by
  refine returnsInHanded_of_change_sized (C := Try.checked) own started (by kernel_rfl) Try.func7
    (ChangeSpec.witness6 (enc := enc) (C := Try.checked) false ⟨#[], #[.agg #[.slice none 0 0, .slice none 0 0], .slice none 0 0], []⟩ 8 (by kernel_rfl) (by kernel_rfl) (by kernel_rfl) (by kernel_rfl)) ?_
  intro W base args ds gs before hval0 hW hcnd hsz0 _
  have hval : ∀ (j : Nat) t v, Try.f7.params[j]? = some t → args[j]? = some v → Value.okWide Try.prog W .any base t v := hval0
  have hW' := hW
  obtain ⟨p, q, hA0, hV, rfl, hfz, hnd⟩ := hW
  have hA : DataW.TrodAll enc Try.prog W 0 (fun _ => true) true Try.f7.params.toList args.toList ds p := hA0
  rw [Try.params7] at hA hval
  obtain ⟨v0, vs0, d0, ds0, p0, q0, hargs, rfl, rfl, h0, r0⟩ := trodAll_cons hA
  obtain ⟨v1, vs1, d1, ds1, p1, q1, rfl, rfl, rfl, h1, r1⟩ := trodAll_cons r0
  obtain ⟨rfl, rfl, rfl⟩ := trodAll_nil r1
  obtain rfl : args = #[v0, v1] := by cases args; simp_all
  obtain ⟨rfl, rfl⟩ := trodVars_none hV
  have k0 := h0
  have lt0 : ∀ x ∈ p0, x.block < W.heap.size := by obtain ⟨m, hm⟩ := k0; exact DataW.trod_lt m _ _ _ hm
  obtain ⟨cs0, rfl, hf0⟩ := gopen_flat (n := 6) (by kernel_rfl) Try.underlying26 (hval 0 26 v0 rfl rfl) h0
  obtain ⟨a0_0, a0_1, rfl, w0_0, w0_1⟩ := cells0 hf0
  have k1 := h1
  have lt1 : ∀ x ∈ p1, x.block < W.heap.size := by obtain ⟨m, hm⟩ := k1; exact DataW.trod_lt m _ _ _ hm
  clear hA0 hval0
  refine (walk a0_0 a0_1 v1 (hval 0 26 _ rfl rfl) w0_0 w0_1 (hval 1 34 v1 rfl rfl) h1 W rfl).mono fun e W' ⟨he, hb⟩ => ?_
  subst he
  exact ⟨_, rfl, _, _, _, [], _, [], hW', trodAll_cons_mk (shut_bool Try.underlying4 _) trodAll_mk0, (trodAll_cons_mk (Below.trod laidOut (by kernel_rfl) (of_decide_eq_true (by kernel_rfl)) k0 hb lt0) (trodAll_cons_mk (Below.trod laidOut (by kernel_rfl) (of_decide_eq_true (by kernel_rfl)) k1 hb lt1) trodAll_mk0)), rfl, hb.frame _, fun h => by cases h⟩
theorem proved : Rows.KindsBackSaid :=
  OpenClaim.holds_of_wide 7 Try.f7 rfl rfl rfl rfl rfl rfl rfl ⟨rfl, rfl, rfl, rfl, rfl⟩ rfl rfl rfl rfl rfl (by kernel_rfl) Try.func7 (by kernel_rfl)
    (of_decide_eq_true (by kernel_rfl)) (by unfold Func.isWrapper; first | (rw [if_pos (by decide +kernel)]; kernel_rfl) | (rw [if_neg (by decide +kernel)]; exact ⟨rfl, rfl⟩))
    (fun os started H enc _ => lifted os started H enc)
end Go.Proofs.Ytoihmanhldcjhaa.KindsBack
