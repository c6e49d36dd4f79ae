/- What the claim's proof leans on: texts of this claim, laid together. -/
import Derived.Test.YtoihmanhldcjhaaQF4
import Derived.Deep.Slices
import Derived.Test.YtoihmanhldcjhaaProg
import Derived.Below
import Derived.Deep.Draws
import Derived.Deep.AppendLies
import Derived.Maps.AppendAt
import Derived.OwnWalk
import Derived.Laws.BytesArg
import Derived.Laws.MakeOwn
import Derived.Laws.OwnMore
import Derived.Deep.OwnRows
import Derived.Tactics
import Derived.Lib.ConvBytes
import Derived.Laws.Slices
import Derived.WalkKit
import Derived.KernelRfl
import Derived.RowKit3
import Derived.Deep.LoopGhost
import Derived.Deep.QuietTactic
import Derived.BigQuiet
import Derived.WideLaws
import Derived.Deep.DeepCutAuto
import Derived.Deep.CutBlock
import Derived.Deep.RegionHeld3
import Derived.Laws.Rows
import Derived.Lib.AppendStr
import Derived.ArgAppend
import Derived.Laws.IdiomCopy
import Derived.OrdersHeld
import Derived.Laws.BitsLemmas
import Derived.RowKit
import Derived.Laws.BitsAllLaws
import Derived.Laws.Bits64
namespace Go.Proofs.Ytoihmanhldcjhaa.Id
open Go Go.Proofs.Ytoihmanhldcjhaa.Rl
set_option linter.unusedSimpArgs false
set_option linter.unusedVariables false
theorem btw1 (a b v : Int) : btw a b [v] = decide (a ≤ v ∧ v ≤ b) := by simp [btw]
theorem in_c (v a b : Int) (nx : Nat) : CallW Try.prog 36 [.int .i64 v, .int .i64 a, .int .i64 b] [] nx (Ret (.bool (btw a b [v])) [] nx) := by
  refine CallW_go (tbOk _) 15 [.tmp 6] Try.func36 rfl (by decide) rfl rfl (by simp) fun hlt => ?_
  simp only [params, Nat.zero_add, Nat.reduceAdd]
  cases h0 : decide (a ≤ v)
  case false =>
    skip
    refine JS_go (tbOk _) 99 fun x hx => ?_
    simp only [RN, ↓reduceIte, ↓get8, reduceCtorEq, Nat.reduceLT, Nat.reduceEqDiff, Nat.reduceAdd, Nat.reduceMul, Nat.reduceLeDiff, Nat.reduceSub, Int.reduceToNat, Int.reduceNeg, Nat.reduceBEq, h0, TY] at hx
    subst hx
    refine ⟨_, _, rfl, by first | trivial | omega | (simp only [and_true, true_and]; omega), ?_⟩
    have : btw a b [v] = false := by rw [btw1]; simp at h0 ⊢; omega
    first | refine at_ret ?_ | refine at_done ?_
    repeat (first | refine in_ret ?_ | refine in_retI ?_)
    first | refine ret_endK (by simp only [RN, ↓reduceIte, ↓get8, reduceCtorEq, Nat.reduceLT, Nat.reduceEqDiff, Nat.reduceAdd, Nat.reduceMul, Nat.reduceLeDiff, Nat.reduceSub, Int.reduceToNat, Int.reduceNeg, Nat.reduceBEq]; rfl) rfl trivial ?_ | refine nrm_endK (by simp only [RN, ↓reduceIte, ↓get8, reduceCtorEq, Nat.reduceLT, Nat.reduceEqDiff, Nat.reduceAdd, Nat.reduceMul, Nat.reduceLeDiff, Nat.reduceSub, Int.reduceToNat, Int.reduceNeg, Nat.reduceBEq]; rfl) rfl trivial ?_ | refine ret_endK (by simp only [RN, ↓reduceIte, ↓get8, reduceCtorEq, Nat.reduceLT, Nat.reduceEqDiff, Nat.reduceAdd, Nat.reduceMul, Nat.reduceLeDiff, Nat.reduceSub, Int.reduceToNat, Int.reduceNeg, Nat.reduceBEq, TY]; rfl) rfl (by first | trivial | omega) ?_
    refine ⟨_, ?_, by rw [this], rfl, rfl⟩
    exact leL_look (by simp only [RN, ↓reduceIte, ↓get8, reduceCtorEq, Nat.reduceLT, Nat.reduceEqDiff, Nat.reduceAdd, Nat.reduceMul, Nat.reduceLeDiff, Nat.reduceSub, Int.reduceToNat, Int.reduceNeg, Nat.reduceBEq]; first | done | trivial)
  cases h1 : decide (v ≤ b)
  case false =>
    skip
    refine JS_go (tbOk _) 99 fun x hx => ?_
    simp only [RN, ↓reduceIte, ↓get8, reduceCtorEq, Nat.reduceLT, Nat.reduceEqDiff, Nat.reduceAdd, Nat.reduceMul, Nat.reduceLeDiff, Nat.reduceSub, Int.reduceToNat, Int.reduceNeg, Nat.reduceBEq, h0, h1, TY] at hx
    subst hx
    refine ⟨_, _, rfl, by first | trivial | omega | (simp only [and_true, true_and]; omega), ?_⟩
    have : btw a b [v] = false := by rw [btw1]; simp at h0 h1 ⊢; omega
    first | refine at_ret ?_ | refine at_done ?_
    repeat (first | refine in_ret ?_ | refine in_retI ?_)
    first | refine ret_endK (by simp only [RN, ↓reduceIte, ↓get8, reduceCtorEq, Nat.reduceLT, Nat.reduceEqDiff, Nat.reduceAdd, Nat.reduceMul, Nat.reduceLeDiff, Nat.reduceSub, Int.reduceToNat, Int.reduceNeg, Nat.reduceBEq]; rfl) rfl trivial ?_ | refine nrm_endK (by simp only [RN, ↓reduceIte, ↓get8, reduceCtorEq, Nat.reduceLT, Nat.reduceEqDiff, Nat.reduceAdd, Nat.reduceMul, Nat.reduceLeDiff, Nat.reduceSub, Int.reduceToNat, Int.reduceNeg, Nat.reduceBEq]; rfl) rfl trivial ?_ | refine ret_endK (by simp only [RN, ↓reduceIte, ↓get8, reduceCtorEq, Nat.reduceLT, Nat.reduceEqDiff, Nat.reduceAdd, Nat.reduceMul, Nat.reduceLeDiff, Nat.reduceSub, Int.reduceToNat, Int.reduceNeg, Nat.reduceBEq, TY]; rfl) rfl (by first | trivial | omega) ?_
    refine ⟨_, ?_, by rw [this], rfl, rfl⟩
    exact leL_look (by simp only [RN, ↓reduceIte, ↓get8, reduceCtorEq, Nat.reduceLT, Nat.reduceEqDiff, Nat.reduceAdd, Nat.reduceMul, Nat.reduceLeDiff, Nat.reduceSub, Int.reduceToNat, Int.reduceNeg, Nat.reduceBEq]; first | done | trivial)
  refine JS_go (tbOk _) 99 fun x hx => ?_
  simp only [RN, ↓reduceIte, ↓get8, reduceCtorEq, Nat.reduceLT, Nat.reduceEqDiff, Nat.reduceAdd, Nat.reduceMul, Nat.reduceLeDiff, Nat.reduceSub, Int.reduceToNat, Int.reduceNeg, Nat.reduceBEq, h0, h1, TY] at hx
  subst hx
  refine ⟨_, _, rfl, by first | trivial | omega | (simp only [and_true, true_and]; omega), ?_⟩
  have : btw a b [v] = true := by rw [btw1]; simp at h0 h1 ⊢; omega
  first | refine at_ret ?_ | refine at_done ?_
  repeat (first | refine in_ret ?_ | refine in_retI ?_)
  first | refine ret_endK (by simp only [RN, ↓reduceIte, ↓get8, reduceCtorEq, Nat.reduceLT, Nat.reduceEqDiff, Nat.reduceAdd, Nat.reduceMul, Nat.reduceLeDiff, Nat.reduceSub, Int.reduceToNat, Int.reduceNeg, Nat.reduceBEq]; rfl) rfl trivial ?_ | refine nrm_endK (by simp only [RN, ↓reduceIte, ↓get8, reduceCtorEq, Nat.reduceLT, Nat.reduceEqDiff, Nat.reduceAdd, Nat.reduceMul, Nat.reduceLeDiff, Nat.reduceSub, Int.reduceToNat, Int.reduceNeg, Nat.reduceBEq]; rfl) rfl trivial ?_ | refine ret_endK (by simp only [RN, ↓reduceIte, ↓get8, reduceCtorEq, Nat.reduceLT, Nat.reduceEqDiff, Nat.reduceAdd, Nat.reduceMul, Nat.reduceLeDiff, Nat.reduceSub, Int.reduceToNat, Int.reduceNeg, Nat.reduceBEq, TY]; rfl) rfl (by first | trivial | omega) ?_
  refine ⟨_, ?_, by rw [this], rfl, rfl⟩
  exact leL_look (by simp only [RN, ↓reduceIte, ↓get8, reduceCtorEq, Nat.reduceLT, Nat.reduceEqDiff, Nat.reduceAdd, Nat.reduceMul, Nat.reduceLeDiff, Nat.reduceSub, Int.reduceToNat, Int.reduceNeg, Nat.reduceBEq]; first | done | trivial)
def kA (k : Kd) : Bool := btw 0 5 [k.c0] && btw 1 9999 [k.c1] && decide (0 ≤ k.c2) && decide (k.c2 ≤ 65536) && btw 0 32768 [k.c3]
def kB (k : Kd) : Bool := btw 0 32 [k.c4] && btw 0 32 [k.c5] && btw 0 32 [k.c6] && btw 0 32 [k.c7]
def kC (k : Kd) : Bool := btw 0 65535 [k.c8] && btw 0 65535 [k.c9] && btw 0 65535 [k.c14] && btw 0 65535 [k.c15] && btw 0 65535 [k.c19] && btw 1 65535 [k.c10]
def kD (k : Kd) : Bool := btw 0 255 [k.c11] && btw 0 255 [k.c12] && btw 0 255 [k.c13] && btw 0 255 [k.c16] && btw 0 4 [k.c17]
theorem kindB_ref (k : Kd) (n : Int) : kindB k n = (kA k && kB k && kC k && kD k && ((k.c18 == 255) || btw 0 (n - 1) [k.c18])) := by
  unfold kindB kA kB kC kD
  simp only [btw, List.all_cons, List.all_nil, Bool.and_true, ge_iff_le, Bool.and_assoc]
set_option maxRecDepth 100000 in
set_option maxHeartbeats 4000000 in
theorem refkind_c (k : Kd) (n : Int) (nx : Nat) (hn : 0 ≤ n) (hn2 : n ≤ 1000) : CallW Try.prog 22 [.agg k.cells.toArray, .int .i64 n] [] nx fun o F' nx' => o = .ret (.bool (kindB k n)) ∧ F' = [] ∧ nx ≤ nx' := by
  have hw : IntKind.i64.wrap (n - 1) = n - 1 := by simp [IntKind.wrap, IntKind.bits, IntKind.signed]; omega
  unfold Kd.cells
  refine CallW_go (tbOk _) 123 [.tmp 4] Try.func22 rfl (by decide) rfl rfl (by simp) fun hlt => ?_
  simp only [params, Nat.zero_add, Nat.reduceAdd]
  refine JS_seq (JS_cut ({ n := 123, fr := [(2, .pointer (some ⟨nx, 0, none⟩)), (1, .int .i64 n)], F := [(nx, ⟨[.int .i64 k.c0, .int .i64 k.c1, .int .i64 k.c2, .int .i64 k.c3, .int .i64 k.c4, .int .i64 k.c5, .int .i64 k.c6, .int .i64 k.c7, .int .i64 k.c8, .int .i64 k.c9, .int .i64 k.c10, .int .i64 k.c11, .int .i64 k.c12, .int .i64 k.c13, .int .i64 k.c14, .int .i64 k.c15, .int .i64 k.c16, .int .i64 k.c17, .int .i64 k.c18, .int .i64 k.c19], 46, 20, false, false⟩)], nx := nx + 1, ds := [] }) ?_ ?_)
  · skip
    refine JS_go (tbOk _) 99 fun x hx => ?_
    simp only [RN, ↓reduceIte, ↓get8, reduceCtorEq, Nat.reduceLT, Nat.reduceEqDiff, Nat.reduceAdd, Nat.reduceMul, Nat.reduceLeDiff, Nat.reduceSub, Int.reduceToNat, Int.reduceNeg, Nat.reduceBEq, TY] at hx
    subst hx
    refine ⟨_, _, rfl, by first | trivial | omega | (simp only [and_true, true_and]; omega), ?_⟩
    exact at_done (in_cut (le_of rfl (by simp only [RN, ↓reduceIte, ↓get8, reduceCtorEq, Nat.reduceLT, Nat.reduceEqDiff, Nat.reduceAdd, Nat.reduceMul, Nat.reduceLeDiff, Nat.reduceSub, Int.reduceToNat, Int.reduceNeg, Nat.reduceBEq, Nat.add_assoc, Nat.left_eq_add, Nat.add_eq_left, Nat.add_left_cancel_iff]; first | done | trivial) (by simp only [RN, ↓reduceIte, ↓get8, reduceCtorEq, Nat.reduceLT, Nat.reduceEqDiff, Nat.reduceAdd, Nat.reduceMul, Nat.reduceLeDiff, Nat.reduceSub, Int.reduceToNat, Int.reduceNeg, Nat.reduceBEq, Nat.add_assoc, Nat.left_eq_add, Nat.add_eq_left, Nat.add_left_cancel_iff]; first | done | trivial) (Nat.le_refl _) rfl))
  refine JS_seq (JS_cut ({ n := 123, fr := [(5, .bool (kA k)), (2, .pointer (some ⟨nx, 0, none⟩)), (1, .int .i64 n)], F := [(nx, ⟨[.int .i64 k.c0, .int .i64 k.c1, .int .i64 k.c2, .int .i64 k.c3, .int .i64 k.c4, .int .i64 k.c5, .int .i64 k.c6, .int .i64 k.c7, .int .i64 k.c8, .int .i64 k.c9, .int .i64 k.c10, .int .i64 k.c11, .int .i64 k.c12, .int .i64 k.c13, .int .i64 k.c14, .int .i64 k.c15, .int .i64 k.c16, .int .i64 k.c17, .int .i64 k.c18, .int .i64 k.c19], 46, 20, false, false⟩)], nx := nx + 1, ds := [] }) ?_ ?_)
  · skip
    refine JS_go (tbOk _) 99 fun x hx => ?_
    simp only [RN, ↓reduceIte, ↓get8, reduceCtorEq, Nat.reduceLT, Nat.reduceEqDiff, Nat.reduceAdd, Nat.reduceMul, Nat.reduceLeDiff, Nat.reduceSub, Int.reduceToNat, Int.reduceNeg, Nat.reduceBEq, TY, Nat.add_assoc, Nat.left_eq_add, Nat.add_eq_left, Nat.add_left_cancel_iff] at hx
    subst hx
    refine ⟨_, _, rfl, by first | trivial | omega | (simp only [and_true, true_and]; omega), ?_⟩
    refine at_callK (in_c k.c0 0 5 (nx + 1)) (by simp only [RN, ↓reduceIte, ↓get8, reduceCtorEq, Nat.reduceLT, Nat.reduceEqDiff, Nat.reduceAdd, Nat.reduceMul, Nat.reduceLeDiff, Nat.reduceSub, Int.reduceToNat, Int.reduceNeg, Nat.reduceBEq, Nat.add_assoc, Nat.left_eq_add, Nat.add_eq_left, Nat.add_left_cancel_iff]; first | done | trivial) (by simp only [RN, ↓reduceIte, ↓get8, reduceCtorEq, Nat.reduceLT, Nat.reduceEqDiff, Nat.reduceAdd, Nat.reduceMul, Nat.reduceLeDiff, Nat.reduceSub, Int.reduceToNat, Int.reduceNeg, Nat.reduceBEq, Nat.add_assoc, Nat.left_eq_add, Nat.add_eq_left, Nat.add_left_cancel_iff]; rfl) ?_
    cases h0 : btw 0 5 [k.c0]
    case false =>
      skip
      refine JS_go (tbOk _) 99 fun x hx => ?_
      simp only [RN, ↓reduceIte, ↓get8, reduceCtorEq, Nat.reduceLT, Nat.reduceEqDiff, Nat.reduceAdd, Nat.reduceMul, Nat.reduceLeDiff, Nat.reduceSub, Int.reduceToNat, Int.reduceNeg, Nat.reduceBEq, h0, TY, Nat.add_assoc, Nat.left_eq_add, Nat.add_eq_left, Nat.add_left_cancel_iff] at hx
      subst hx
      refine ⟨_, _, rfl, by first | trivial | omega | (simp only [and_true, true_and]; omega), ?_⟩
      have hx : kA k = false := by simp [kA, h0]
      rw [hx]
      exact at_done (in_cut (le_of rfl (by simp only [RN, ↓reduceIte, ↓get8, reduceCtorEq, Nat.reduceLT, Nat.reduceEqDiff, Nat.reduceAdd, Nat.reduceMul, Nat.reduceLeDiff, Nat.reduceSub, Int.reduceToNat, Int.reduceNeg, Nat.reduceBEq, Nat.add_assoc, Nat.left_eq_add, Nat.add_eq_left, Nat.add_left_cancel_iff]; first | done | trivial) (by simp only [RN, ↓reduceIte, ↓get8, reduceCtorEq, Nat.reduceLT, Nat.reduceEqDiff, Nat.reduceAdd, Nat.reduceMul, Nat.reduceLeDiff, Nat.reduceSub, Int.reduceToNat, Int.reduceNeg, Nat.reduceBEq, Nat.add_assoc, Nat.left_eq_add, Nat.add_eq_left, Nat.add_left_cancel_iff]; first | done | trivial) (Nat.le_refl _) rfl))
    refine JS_go (tbOk _) 99 fun x hx => ?_
    simp only [RN, ↓reduceIte, ↓get8, reduceCtorEq, Nat.reduceLT, Nat.reduceEqDiff, Nat.reduceAdd, Nat.reduceMul, Nat.reduceLeDiff, Nat.reduceSub, Int.reduceToNat, Int.reduceNeg, Nat.reduceBEq, h0, TY, Nat.add_assoc, Nat.left_eq_add, Nat.add_eq_left, Nat.add_left_cancel_iff] at hx
    subst hx
    refine ⟨_, _, rfl, by first | trivial | omega | (simp only [and_true, true_and]; omega), ?_⟩
    refine at_callK (in_c k.c1 1 9999 (nx + 1)) (by simp only [RN, ↓reduceIte, ↓get8, reduceCtorEq, Nat.reduceLT, Nat.reduceEqDiff, Nat.reduceAdd, Nat.reduceMul, Nat.reduceLeDiff, Nat.reduceSub, Int.reduceToNat, Int.reduceNeg, Nat.reduceBEq, Nat.add_assoc, Nat.left_eq_add, Nat.add_eq_left, Nat.add_left_cancel_iff]; first | done | trivial) (by simp only [RN, ↓reduceIte, ↓get8, reduceCtorEq, Nat.reduceLT, Nat.reduceEqDiff, Nat.reduceAdd, Nat.reduceMul, Nat.reduceLeDiff, Nat.reduceSub, Int.reduceToNat, Int.reduceNeg, Nat.reduceBEq, Nat.add_assoc, Nat.left_eq_add, Nat.add_eq_left, Nat.add_left_cancel_iff]; rfl) ?_
    cases h1 : btw 1 9999 [k.c1]
    case false =>
      skip
      refine JS_go (tbOk _) 99 fun x hx => ?_
      simp only [RN, ↓reduceIte, ↓get8, reduceCtorEq, Nat.reduceLT, Nat.reduceEqDiff, Nat.reduceAdd, Nat.reduceMul, Nat.reduceLeDiff, Nat.reduceSub, Int.reduceToNat, Int.reduceNeg, Nat.reduceBEq, h0, h1, TY, Nat.add_assoc, Nat.left_eq_add, Nat.add_eq_left, Nat.add_left_cancel_iff] at hx
      subst hx
      refine ⟨_, _, rfl, by first | trivial | omega | (simp only [and_true, true_and]; omega), ?_⟩
      have hx : kA k = false := by simp [kA, h0, h1]
      rw [hx]
      exact at_done (in_cut (le_of rfl (by simp only [RN, ↓reduceIte, ↓get8, reduceCtorEq, Nat.reduceLT, Nat.reduceEqDiff, Nat.reduceAdd, Nat.reduceMul, Nat.reduceLeDiff, Nat.reduceSub, Int.reduceToNat, Int.reduceNeg, Nat.reduceBEq, Nat.add_assoc, Nat.left_eq_add, Nat.add_eq_left, Nat.add_left_cancel_iff]; first | done | trivial) (by simp only [RN, ↓reduceIte, ↓get8, reduceCtorEq, Nat.reduceLT, Nat.reduceEqDiff, Nat.reduceAdd, Nat.reduceMul, Nat.reduceLeDiff, Nat.reduceSub, Int.reduceToNat, Int.reduceNeg, Nat.reduceBEq, Nat.add_assoc, Nat.left_eq_add, Nat.add_eq_left, Nat.add_left_cancel_iff]; first | done | trivial) (Nat.le_refl _) rfl))
    cases h2 : decide (0 ≤ k.c2)
    case false =>
      skip
      refine JS_go (tbOk _) 99 fun x hx => ?_
      simp only [RN, ↓reduceIte, ↓get8, reduceCtorEq, Nat.reduceLT, Nat.reduceEqDiff, Nat.reduceAdd, Nat.reduceMul, Nat.reduceLeDiff, Nat.reduceSub, Int.reduceToNat, Int.reduceNeg, Nat.reduceBEq, h0, h1, h2, TY, Nat.add_assoc, Nat.left_eq_add, Nat.add_eq_left, Nat.add_left_cancel_iff] at hx
      subst hx
      refine ⟨_, _, rfl, by first | trivial | omega | (simp only [and_true, true_and]; omega), ?_⟩
      have hx : kA k = false := by simp [kA, h0, h1, h2]
      rw [hx]
      exact at_done (in_cut (le_of rfl (by simp only [RN, ↓reduceIte, ↓get8, reduceCtorEq, Nat.reduceLT, Nat.reduceEqDiff, Nat.reduceAdd, Nat.reduceMul, Nat.reduceLeDiff, Nat.reduceSub, Int.reduceToNat, Int.reduceNeg, Nat.reduceBEq, Nat.add_assoc, Nat.left_eq_add, Nat.add_eq_left, Nat.add_left_cancel_iff]; first | done | trivial) (by simp only [RN, ↓reduceIte, ↓get8, reduceCtorEq, Nat.reduceLT, Nat.reduceEqDiff, Nat.reduceAdd, Nat.reduceMul, Nat.reduceLeDiff, Nat.reduceSub, Int.reduceToNat, Int.reduceNeg, Nat.reduceBEq, Nat.add_assoc, Nat.left_eq_add, Nat.add_eq_left, Nat.add_left_cancel_iff]; first | done | trivial) (Nat.le_refl _) rfl))
    cases h3 : decide (k.c2 ≤ 65536)
    case false =>
      skip
      refine JS_go (tbOk _) 99 fun x hx => ?_
      simp only [RN, ↓reduceIte, ↓get8, reduceCtorEq, Nat.reduceLT, Nat.reduceEqDiff, Nat.reduceAdd, Nat.reduceMul, Nat.reduceLeDiff, Nat.reduceSub, Int.reduceToNat, Int.reduceNeg, Nat.reduceBEq, h0, h1, h2, h3, TY, Nat.add_assoc, Nat.left_eq_add, Nat.add_eq_left, Nat.add_left_cancel_iff] at hx
      subst hx
      refine ⟨_, _, rfl, by first | trivial | omega | (simp only [and_true, true_and]; omega), ?_⟩
      have hx : kA k = false := by simp [kA, h0, h1, h2, h3]
      rw [hx]
      exact at_done (in_cut (le_of rfl (by simp only [RN, ↓reduceIte, ↓get8, reduceCtorEq, Nat.reduceLT, Nat.reduceEqDiff, Nat.reduceAdd, Nat.reduceMul, Nat.reduceLeDiff, Nat.reduceSub, Int.reduceToNat, Int.reduceNeg, Nat.reduceBEq, Nat.add_assoc, Nat.left_eq_add, Nat.add_eq_left, Nat.add_left_cancel_iff]; first | done | trivial) (by simp only [RN, ↓reduceIte, ↓get8, reduceCtorEq, Nat.reduceLT, Nat.reduceEqDiff, Nat.reduceAdd, Nat.reduceMul, Nat.reduceLeDiff, Nat.reduceSub, Int.reduceToNat, Int.reduceNeg, Nat.reduceBEq, Nat.add_assoc, Nat.left_eq_add, Nat.add_eq_left, Nat.add_left_cancel_iff]; first | done | trivial) (Nat.le_refl _) rfl))
    refine JS_go (tbOk _) 99 fun x hx => ?_
    simp only [RN, ↓reduceIte, ↓get8, reduceCtorEq, Nat.reduceLT, Nat.reduceEqDiff, Nat.reduceAdd, Nat.reduceMul, Nat.reduceLeDiff, Nat.reduceSub, Int.reduceToNat, Int.reduceNeg, Nat.reduceBEq, h0, h1, h2, h3, TY, Nat.add_assoc, Nat.left_eq_add, Nat.add_eq_left, Nat.add_left_cancel_iff] at hx
    subst hx
    refine ⟨_, _, rfl, by first | trivial | omega | (simp only [and_true, true_and]; omega), ?_⟩
    refine at_callK (in_c k.c3 0 32768 (nx + 1)) (by simp only [RN, ↓reduceIte, ↓get8, reduceCtorEq, Nat.reduceLT, Nat.reduceEqDiff, Nat.reduceAdd, Nat.reduceMul, Nat.reduceLeDiff, Nat.reduceSub, Int.reduceToNat, Int.reduceNeg, Nat.reduceBEq, Nat.add_assoc, Nat.left_eq_add, Nat.add_eq_left, Nat.add_left_cancel_iff]; first | done | trivial) (by simp only [RN, ↓reduceIte, ↓get8, reduceCtorEq, Nat.reduceLT, Nat.reduceEqDiff, Nat.reduceAdd, Nat.reduceMul, Nat.reduceLeDiff, Nat.reduceSub, Int.reduceToNat, Int.reduceNeg, Nat.reduceBEq, Nat.add_assoc, Nat.left_eq_add, Nat.add_eq_left, Nat.add_left_cancel_iff]; rfl) ?_
    cases h4 : btw 0 32768 [k.c3]
    case false =>
      skip
      refine JS_go (tbOk _) 99 fun x hx => ?_
      simp only [RN, ↓reduceIte, ↓get8, reduceCtorEq, Nat.reduceLT, Nat.reduceEqDiff, Nat.reduceAdd, Nat.reduceMul, Nat.reduceLeDiff, Nat.reduceSub, Int.reduceToNat, Int.reduceNeg, Nat.reduceBEq, h0, h1, h2, h3, h4, TY, Nat.add_assoc, Nat.left_eq_add, Nat.add_eq_left, Nat.add_left_cancel_iff] at hx
      subst hx
      refine ⟨_, _, rfl, by first | trivial | omega | (simp only [and_true, true_and]; omega), ?_⟩
      have hx : kA k = false := by simp [kA, h0, h1, h2, h3, h4]
      rw [hx]
      exact at_done (in_cut (le_of rfl (by simp only [RN, ↓reduceIte, ↓get8, reduceCtorEq, Nat.reduceLT, Nat.reduceEqDiff, Nat.reduceAdd, Nat.reduceMul, Nat.reduceLeDiff, Nat.reduceSub, Int.reduceToNat, Int.reduceNeg, Nat.reduceBEq, Nat.add_assoc, Nat.left_eq_add, Nat.add_eq_left, Nat.add_left_cancel_iff]; first | done | trivial) (by simp only [RN, ↓reduceIte, ↓get8, reduceCtorEq, Nat.reduceLT, Nat.reduceEqDiff, Nat.reduceAdd, Nat.reduceMul, Nat.reduceLeDiff, Nat.reduceSub, Int.reduceToNat, Int.reduceNeg, Nat.reduceBEq, Nat.add_assoc, Nat.left_eq_add, Nat.add_eq_left, Nat.add_left_cancel_iff]; first | done | trivial) (Nat.le_refl _) rfl))
    refine JS_go (tbOk _) 99 fun x hx => ?_
    simp only [RN, ↓reduceIte, ↓get8, reduceCtorEq, Nat.reduceLT, Nat.reduceEqDiff, Nat.reduceAdd, Nat.reduceMul, Nat.reduceLeDiff, Nat.reduceSub, Int.reduceToNat, Int.reduceNeg, Nat.reduceBEq, h0, h1, h2, h3, h4, TY, Nat.add_assoc, Nat.left_eq_add, Nat.add_eq_left, Nat.add_left_cancel_iff] at hx
    subst hx
    refine ⟨_, _, rfl, by first | trivial | omega | (simp only [and_true, true_and]; omega), ?_⟩
    have hx : kA k = true := by simp [kA, h0, h1, h2, h3, h4]
    rw [hx]
    exact at_done (in_cut (le_of rfl (by simp only [RN, ↓reduceIte, ↓get8, reduceCtorEq, Nat.reduceLT, Nat.reduceEqDiff, Nat.reduceAdd, Nat.reduceMul, Nat.reduceLeDiff, Nat.reduceSub, Int.reduceToNat, Int.reduceNeg, Nat.reduceBEq, Nat.add_assoc, Nat.left_eq_add, Nat.add_eq_left, Nat.add_left_cancel_iff]; first | done | trivial) (by simp only [RN, ↓reduceIte, ↓get8, reduceCtorEq, Nat.reduceLT, Nat.reduceEqDiff, Nat.reduceAdd, Nat.reduceMul, Nat.reduceLeDiff, Nat.reduceSub, Int.reduceToNat, Int.reduceNeg, Nat.reduceBEq, Nat.add_assoc, Nat.left_eq_add, Nat.add_eq_left, Nat.add_left_cancel_iff]; first | done | trivial) (Nat.le_refl _) rfl))
  refine JS_seq (JS_cut ({ n := 123, fr := [(6, .bool (kB k)), (5, .bool (kA k)), (2, .pointer (some ⟨nx, 0, none⟩)), (1, .int .i64 n)], F := [(nx, ⟨[.int .i64 k.c0, .int .i64 k.c1, .int .i64 k.c2, .int .i64 k.c3, .int .i64 k.c4, .int .i64 k.c5, .int .i64 k.c6, .int .i64 k.c7, .int .i64 k.c8, .int .i64 k.c9, .int .i64 k.c10, .int .i64 k.c11, .int .i64 k.c12, .int .i64 k.c13, .int .i64 k.c14, .int .i64 k.c15, .int .i64 k.c16, .int .i64 k.c17, .int .i64 k.c18, .int .i64 k.c19], 46, 20, false, false⟩)], nx := nx + 1, ds := [] }) ?_ ?_)
  · skip
    refine JS_go (tbOk _) 99 fun x hx => ?_
    simp only [RN, ↓reduceIte, ↓get8, reduceCtorEq, Nat.reduceLT, Nat.reduceEqDiff, Nat.reduceAdd, Nat.reduceMul, Nat.reduceLeDiff, Nat.reduceSub, Int.reduceToNat, Int.reduceNeg, Nat.reduceBEq, TY, Nat.add_assoc, Nat.left_eq_add, Nat.add_eq_left, Nat.add_left_cancel_iff] at hx
    subst hx
    refine ⟨_, _, rfl, by first | trivial | omega | (simp only [and_true, true_and]; omega), ?_⟩
    refine at_callK (in_c k.c4 0 32 (nx + 1)) (by simp only [RN, ↓reduceIte, ↓get8, reduceCtorEq, Nat.reduceLT, Nat.reduceEqDiff, Nat.reduceAdd, Nat.reduceMul, Nat.reduceLeDiff, Nat.reduceSub, Int.reduceToNat, Int.reduceNeg, Nat.reduceBEq, Nat.add_assoc, Nat.left_eq_add, Nat.add_eq_left, Nat.add_left_cancel_iff]; first | done | trivial) (by simp only [RN, ↓reduceIte, ↓get8, reduceCtorEq, Nat.reduceLT, Nat.reduceEqDiff, Nat.reduceAdd, Nat.reduceMul, Nat.reduceLeDiff, Nat.reduceSub, Int.reduceToNat, Int.reduceNeg, Nat.reduceBEq, Nat.add_assoc, Nat.left_eq_add, Nat.add_eq_left, Nat.add_left_cancel_iff]; rfl) ?_
    cases h0 : btw 0 32 [k.c4]
    case false =>
      skip
      refine JS_go (tbOk _) 99 fun x hx => ?_
      simp only [RN, ↓reduceIte, ↓get8, reduceCtorEq, Nat.reduceLT, Nat.reduceEqDiff, Nat.reduceAdd, Nat.reduceMul, Nat.reduceLeDiff, Nat.reduceSub, Int.reduceToNat, Int.reduceNeg, Nat.reduceBEq, h0, TY, Nat.add_assoc, Nat.left_eq_add, Nat.add_eq_left, Nat.add_left_cancel_iff] at hx
      subst hx
      refine ⟨_, _, rfl, by first | trivial | omega | (simp only [and_true, true_and]; omega), ?_⟩
      have hx : kB k = false := by simp [kB, h0]
      rw [hx]
      exact at_done (in_cut (le_of rfl (by simp only [RN, ↓reduceIte, ↓get8, reduceCtorEq, Nat.reduceLT, Nat.reduceEqDiff, Nat.reduceAdd, Nat.reduceMul, Nat.reduceLeDiff, Nat.reduceSub, Int.reduceToNat, Int.reduceNeg, Nat.reduceBEq, Nat.add_assoc, Nat.left_eq_add, Nat.add_eq_left, Nat.add_left_cancel_iff]; first | done | trivial) (by simp only [RN, ↓reduceIte, ↓get8, reduceCtorEq, Nat.reduceLT, Nat.reduceEqDiff, Nat.reduceAdd, Nat.reduceMul, Nat.reduceLeDiff, Nat.reduceSub, Int.reduceToNat, Int.reduceNeg, Nat.reduceBEq, Nat.add_assoc, Nat.left_eq_add, Nat.add_eq_left, Nat.add_left_cancel_iff]; first | done | trivial) (Nat.le_refl _) rfl))
    refine JS_go (tbOk _) 99 fun x hx => ?_
    simp only [RN, ↓reduceIte, ↓get8, reduceCtorEq, Nat.reduceLT, Nat.reduceEqDiff, Nat.reduceAdd, Nat.reduceMul, Nat.reduceLeDiff, Nat.reduceSub, Int.reduceToNat, Int.reduceNeg, Nat.reduceBEq, h0, TY, Nat.add_assoc, Nat.left_eq_add, Nat.add_eq_left, Nat.add_left_cancel_iff] at hx
    subst hx
    refine ⟨_, _, rfl, by first | trivial | omega | (simp only [and_true, true_and]; omega), ?_⟩
    refine at_callK (in_c k.c5 0 32 (nx + 1)) (by simp only [RN, ↓reduceIte, ↓get8, reduceCtorEq, Nat.reduceLT, Nat.reduceEqDiff, Nat.reduceAdd, Nat.reduceMul, Nat.reduceLeDiff, Nat.reduceSub, Int.reduceToNat, Int.reduceNeg, Nat.reduceBEq, Nat.add_assoc, Nat.left_eq_add, Nat.add_eq_left, Nat.add_left_cancel_iff]; first | done | trivial) (by simp only [RN, ↓reduceIte, ↓get8, reduceCtorEq, Nat.reduceLT, Nat.reduceEqDiff, Nat.reduceAdd, Nat.reduceMul, Nat.reduceLeDiff, Nat.reduceSub, Int.reduceToNat, Int.reduceNeg, Nat.reduceBEq, Nat.add_assoc, Nat.left_eq_add, Nat.add_eq_left, Nat.add_left_cancel_iff]; rfl) ?_
    cases h1 : btw 0 32 [k.c5]
    case false =>
      skip
      refine JS_go (tbOk _) 99 fun x hx => ?_
      simp only [RN, ↓reduceIte, ↓get8, reduceCtorEq, Nat.reduceLT, Nat.reduceEqDiff, Nat.reduceAdd, Nat.reduceMul, Nat.reduceLeDiff, Nat.reduceSub, Int.reduceToNat, Int.reduceNeg, Nat.reduceBEq, h0, h1, TY, Nat.add_assoc, Nat.left_eq_add, Nat.add_eq_left, Nat.add_left_cancel_iff] at hx
      subst hx
      refine ⟨_, _, rfl, by first | trivial | omega | (simp only [and_true, true_and]; omega), ?_⟩
      have hx : kB k = false := by simp [kB, h0, h1]
      rw [hx]
      exact at_done (in_cut (le_of rfl (by simp only [RN, ↓reduceIte, ↓get8, reduceCtorEq, Nat.reduceLT, Nat.reduceEqDiff, Nat.reduceAdd, Nat.reduceMul, Nat.reduceLeDiff, Nat.reduceSub, Int.reduceToNat, Int.reduceNeg, Nat.reduceBEq, Nat.add_assoc, Nat.left_eq_add, Nat.add_eq_left, Nat.add_left_cancel_iff]; first | done | trivial) (by simp only [RN, ↓reduceIte, ↓get8, reduceCtorEq, Nat.reduceLT, Nat.reduceEqDiff, Nat.reduceAdd, Nat.reduceMul, Nat.reduceLeDiff, Nat.reduceSub, Int.reduceToNat, Int.reduceNeg, Nat.reduceBEq, Nat.add_assoc, Nat.left_eq_add, Nat.add_eq_left, Nat.add_left_cancel_iff]; first | done | trivial) (Nat.le_refl _) rfl))
    refine JS_go (tbOk _) 99 fun x hx => ?_
    simp only [RN, ↓reduceIte, ↓get8, reduceCtorEq, Nat.reduceLT, Nat.reduceEqDiff, Nat.reduceAdd, Nat.reduceMul, Nat.reduceLeDiff, Nat.reduceSub, Int.reduceToNat, Int.reduceNeg, Nat.reduceBEq, h0, h1, TY, Nat.add_assoc, Nat.left_eq_add, Nat.add_eq_left, Nat.add_left_cancel_iff] at hx
    subst hx
    refine ⟨_, _, rfl, by first | trivial | omega | (simp only [and_true, true_and]; omega), ?_⟩
    refine at_callK (in_c k.c6 0 32 (nx + 1)) (by simp only [RN, ↓reduceIte, ↓get8, reduceCtorEq, Nat.reduceLT, Nat.reduceEqDiff, Nat.reduceAdd, Nat.reduceMul, Nat.reduceLeDiff, Nat.reduceSub, Int.reduceToNat, Int.reduceNeg, Nat.reduceBEq, Nat.add_assoc, Nat.left_eq_add, Nat.add_eq_left, Nat.add_left_cancel_iff]; first | done | trivial) (by simp only [RN, ↓reduceIte, ↓get8, reduceCtorEq, Nat.reduceLT, Nat.reduceEqDiff, Nat.reduceAdd, Nat.reduceMul, Nat.reduceLeDiff, Nat.reduceSub, Int.reduceToNat, Int.reduceNeg, Nat.reduceBEq, Nat.add_assoc, Nat.left_eq_add, Nat.add_eq_left, Nat.add_left_cancel_iff]; rfl) ?_
    cases h2 : btw 0 32 [k.c6]
    case false =>
      skip
      refine JS_go (tbOk _) 99 fun x hx => ?_
      simp only [RN, ↓reduceIte, ↓get8, reduceCtorEq, Nat.reduceLT, Nat.reduceEqDiff, Nat.reduceAdd, Nat.reduceMul, Nat.reduceLeDiff, Nat.reduceSub, Int.reduceToNat, Int.reduceNeg, Nat.reduceBEq, h0, h1, h2, TY, Nat.add_assoc, Nat.left_eq_add, Nat.add_eq_left, Nat.add_left_cancel_iff] at hx
      subst hx
      refine ⟨_, _, rfl, by first | trivial | omega | (simp only [and_true, true_and]; omega), ?_⟩
      have hx : kB k = false := by simp [kB, h0, h1, h2]
      rw [hx]
      exact at_done (in_cut (le_of rfl (by simp only [RN, ↓reduceIte, ↓get8, reduceCtorEq, Nat.reduceLT, Nat.reduceEqDiff, Nat.reduceAdd, Nat.reduceMul, Nat.reduceLeDiff, Nat.reduceSub, Int.reduceToNat, Int.reduceNeg, Nat.reduceBEq, Nat.add_assoc, Nat.left_eq_add, Nat.add_eq_left, Nat.add_left_cancel_iff]; first | done | trivial) (by simp only [RN, ↓reduceIte, ↓get8, reduceCtorEq, Nat.reduceLT, Nat.reduceEqDiff, Nat.reduceAdd, Nat.reduceMul, Nat.reduceLeDiff, Nat.reduceSub, Int.reduceToNat, Int.reduceNeg, Nat.reduceBEq, Nat.add_assoc, Nat.left_eq_add, Nat.add_eq_left, Nat.add_left_cancel_iff]; first | done | trivial) (Nat.le_refl _) rfl))
    refine JS_go (tbOk _) 99 fun x hx => ?_
    simp only [RN, ↓reduceIte, ↓get8, reduceCtorEq, Nat.reduceLT, Nat.reduceEqDiff, Nat.reduceAdd, Nat.reduceMul, Nat.reduceLeDiff, Nat.reduceSub, Int.reduceToNat, Int.reduceNeg, Nat.reduceBEq, h0, h1, h2, TY, Nat.add_assoc, Nat.left_eq_add, Nat.add_eq_left, Nat.add_left_cancel_iff] at hx
    subst hx
    refine ⟨_, _, rfl, by first | trivial | omega | (simp only [and_true, true_and]; omega), ?_⟩
    refine at_callK (in_c k.c7 0 32 (nx + 1)) (by simp only [RN, ↓reduceIte, ↓get8, reduceCtorEq, Nat.reduceLT, Nat.reduceEqDiff, Nat.reduceAdd, Nat.reduceMul, Nat.reduceLeDiff, Nat.reduceSub, Int.reduceToNat, Int.reduceNeg, Nat.reduceBEq, Nat.add_assoc, Nat.left_eq_add, Nat.add_eq_left, Nat.add_left_cancel_iff]; first | done | trivial) (by simp only [RN, ↓reduceIte, ↓get8, reduceCtorEq, Nat.reduceLT, Nat.reduceEqDiff, Nat.reduceAdd, Nat.reduceMul, Nat.reduceLeDiff, Nat.reduceSub, Int.reduceToNat, Int.reduceNeg, Nat.reduceBEq, Nat.add_assoc, Nat.left_eq_add, Nat.add_eq_left, Nat.add_left_cancel_iff]; rfl) ?_
    cases h3 : btw 0 32 [k.c7]
    case false =>
      skip
      refine JS_go (tbOk _) 99 fun x hx => ?_
      simp only [RN, ↓reduceIte, ↓get8, reduceCtorEq, Nat.reduceLT, Nat.reduceEqDiff, Nat.reduceAdd, Nat.reduceMul, Nat.reduceLeDiff, Nat.reduceSub, Int.reduceToNat, Int.reduceNeg, Nat.reduceBEq, h0, h1, h2, h3, TY, Nat.add_assoc, Nat.left_eq_add, Nat.add_eq_left, Nat.add_left_cancel_iff] at hx
      subst hx
      refine ⟨_, _, rfl, by first | trivial | omega | (simp only [and_true, true_and]; omega), ?_⟩
      have hx : kB k = false := by simp [kB, h0, h1, h2, h3]
      rw [hx]
      exact at_done (in_cut (le_of rfl (by simp only [RN, ↓reduceIte, ↓get8, reduceCtorEq, Nat.reduceLT, Nat.reduceEqDiff, Nat.reduceAdd, Nat.reduceMul, Nat.reduceLeDiff, Nat.reduceSub, Int.reduceToNat, Int.reduceNeg, Nat.reduceBEq, Nat.add_assoc, Nat.left_eq_add, Nat.add_eq_left, Nat.add_left_cancel_iff]; first | done | trivial) (by simp only [RN, ↓reduceIte, ↓get8, reduceCtorEq, Nat.reduceLT, Nat.reduceEqDiff, Nat.reduceAdd, Nat.reduceMul, Nat.reduceLeDiff, Nat.reduceSub, Int.reduceToNat, Int.reduceNeg, Nat.reduceBEq, Nat.add_assoc, Nat.left_eq_add, Nat.add_eq_left, Nat.add_left_cancel_iff]; first | done | trivial) (Nat.le_refl _) rfl))
    refine JS_go (tbOk _) 99 fun x hx => ?_
    simp only [RN, ↓reduceIte, ↓get8, reduceCtorEq, Nat.reduceLT, Nat.reduceEqDiff, Nat.reduceAdd, Nat.reduceMul, Nat.reduceLeDiff, Nat.reduceSub, Int.reduceToNat, Int.reduceNeg, Nat.reduceBEq, h0, h1, h2, h3, TY, Nat.add_assoc, Nat.left_eq_add, Nat.add_eq_left, Nat.add_left_cancel_iff] at hx
    subst hx
    refine ⟨_, _, rfl, by first | trivial | omega | (simp only [and_true, true_and]; omega), ?_⟩
    have hx : kB k = true := by simp [kB, h0, h1, h2, h3]
    rw [hx]
    exact at_done (in_cut (le_of rfl (by simp only [RN, ↓reduceIte, ↓get8, reduceCtorEq, Nat.reduceLT, Nat.reduceEqDiff, Nat.reduceAdd, Nat.reduceMul, Nat.reduceLeDiff, Nat.reduceSub, Int.reduceToNat, Int.reduceNeg, Nat.reduceBEq, Nat.add_assoc, Nat.left_eq_add, Nat.add_eq_left, Nat.add_left_cancel_iff]; first | done | trivial) (by simp only [RN, ↓reduceIte, ↓get8, reduceCtorEq, Nat.reduceLT, Nat.reduceEqDiff, Nat.reduceAdd, Nat.reduceMul, Nat.reduceLeDiff, Nat.reduceSub, Int.reduceToNat, Int.reduceNeg, Nat.reduceBEq, Nat.add_assoc, Nat.left_eq_add, Nat.add_eq_left, Nat.add_left_cancel_iff]; first | done | trivial) (Nat.le_refl _) rfl))
  refine JS_seq (JS_cut ({ n := 123, fr := [(7, .bool (kC k)), (6, .bool (kB k)), (5, .bool (kA k)), (2, .pointer (some ⟨nx, 0, none⟩)), (1, .int .i64 n)], F := [(nx, ⟨[.int .i64 k.c0, .int .i64 k.c1, .int .i64 k.c2, .int .i64 k.c3, .int .i64 k.c4, .int .i64 k.c5, .int .i64 k.c6, .int .i64 k.c7, .int .i64 k.c8, .int .i64 k.c9, .int .i64 k.c10, .int .i64 k.c11, .int .i64 k.c12, .int .i64 k.c13, .int .i64 k.c14, .int .i64 k.c15, .int .i64 k.c16, .int .i64 k.c17, .int .i64 k.c18, .int .i64 k.c19], 46, 20, false, false⟩)], nx := nx + 1, ds := [] }) ?_ ?_)
  · skip
    refine JS_go (tbOk _) 99 fun x hx => ?_
    simp only [RN, ↓reduceIte, ↓get8, reduceCtorEq, Nat.reduceLT, Nat.reduceEqDiff, Nat.reduceAdd, Nat.reduceMul, Nat.reduceLeDiff, Nat.reduceSub, Int.reduceToNat, Int.reduceNeg, Nat.reduceBEq, TY, Nat.add_assoc, Nat.left_eq_add, Nat.add_eq_left, Nat.add_left_cancel_iff] at hx
    subst hx
    refine ⟨_, _, rfl, by first | trivial | omega | (simp only [and_true, true_and]; omega), ?_⟩
    refine at_callK (in_c k.c8 0 65535 (nx + 1)) (by simp only [RN, ↓reduceIte, ↓get8, reduceCtorEq, Nat.reduceLT, Nat.reduceEqDiff, Nat.reduceAdd, Nat.reduceMul, Nat.reduceLeDiff, Nat.reduceSub, Int.reduceToNat, Int.reduceNeg, Nat.reduceBEq, Nat.add_assoc, Nat.left_eq_add, Nat.add_eq_left, Nat.add_left_cancel_iff]; first | done | trivial) (by simp only [RN, ↓reduceIte, ↓get8, reduceCtorEq, Nat.reduceLT, Nat.reduceEqDiff, Nat.reduceAdd, Nat.reduceMul, Nat.reduceLeDiff, Nat.reduceSub, Int.reduceToNat, Int.reduceNeg, Nat.reduceBEq, Nat.add_assoc, Nat.left_eq_add, Nat.add_eq_left, Nat.add_left_cancel_iff]; rfl) ?_
    cases h0 : btw 0 65535 [k.c8]
    case false =>
      skip
      refine JS_go (tbOk _) 99 fun x hx => ?_
      simp only [RN, ↓reduceIte, ↓get8, reduceCtorEq, Nat.reduceLT, Nat.reduceEqDiff, Nat.reduceAdd, Nat.reduceMul, Nat.reduceLeDiff, Nat.reduceSub, Int.reduceToNat, Int.reduceNeg, Nat.reduceBEq, h0, TY, Nat.add_assoc, Nat.left_eq_add, Nat.add_eq_left, Nat.add_left_cancel_iff] at hx
      subst hx
      refine ⟨_, _, rfl, by first | trivial | omega | (simp only [and_true, true_and]; omega), ?_⟩
      have hx : kC k = false := by simp [kC, h0]
      rw [hx]
      exact at_done (in_cut (le_of rfl (by simp only [RN, ↓reduceIte, ↓get8, reduceCtorEq, Nat.reduceLT, Nat.reduceEqDiff, Nat.reduceAdd, Nat.reduceMul, Nat.reduceLeDiff, Nat.reduceSub, Int.reduceToNat, Int.reduceNeg, Nat.reduceBEq, Nat.add_assoc, Nat.left_eq_add, Nat.add_eq_left, Nat.add_left_cancel_iff]; first | done | trivial) (by simp only [RN, ↓reduceIte, ↓get8, reduceCtorEq, Nat.reduceLT, Nat.reduceEqDiff, Nat.reduceAdd, Nat.reduceMul, Nat.reduceLeDiff, Nat.reduceSub, Int.reduceToNat, Int.reduceNeg, Nat.reduceBEq, Nat.add_assoc, Nat.left_eq_add, Nat.add_eq_left, Nat.add_left_cancel_iff]; first | done | trivial) (Nat.le_refl _) rfl))
    refine JS_go (tbOk _) 99 fun x hx => ?_
    simp only [RN, ↓reduceIte, ↓get8, reduceCtorEq, Nat.reduceLT, Nat.reduceEqDiff, Nat.reduceAdd, Nat.reduceMul, Nat.reduceLeDiff, Nat.reduceSub, Int.reduceToNat, Int.reduceNeg, Nat.reduceBEq, h0, TY, Nat.add_assoc, Nat.left_eq_add, Nat.add_eq_left, Nat.add_left_cancel_iff] at hx
    subst hx
    refine ⟨_, _, rfl, by first | trivial | omega | (simp only [and_true, true_and]; omega), ?_⟩
    refine at_callK (in_c k.c9 0 65535 (nx + 1)) (by simp only [RN, ↓reduceIte, ↓get8, reduceCtorEq, Nat.reduceLT, Nat.reduceEqDiff, Nat.reduceAdd, Nat.reduceMul, Nat.reduceLeDiff, Nat.reduceSub, Int.reduceToNat, Int.reduceNeg, Nat.reduceBEq, Nat.add_assoc, Nat.left_eq_add, Nat.add_eq_left, Nat.add_left_cancel_iff]; first | done | trivial) (by simp only [RN, ↓reduceIte, ↓get8, reduceCtorEq, Nat.reduceLT, Nat.reduceEqDiff, Nat.reduceAdd, Nat.reduceMul, Nat.reduceLeDiff, Nat.reduceSub, Int.reduceToNat, Int.reduceNeg, Nat.reduceBEq, Nat.add_assoc, Nat.left_eq_add, Nat.add_eq_left, Nat.add_left_cancel_iff]; rfl) ?_
    cases h1 : btw 0 65535 [k.c9]
    case false =>
      skip
      refine JS_go (tbOk _) 99 fun x hx => ?_
      simp only [RN, ↓reduceIte, ↓get8, reduceCtorEq, Nat.reduceLT, Nat.reduceEqDiff, Nat.reduceAdd, Nat.reduceMul, Nat.reduceLeDiff, Nat.reduceSub, Int.reduceToNat, Int.reduceNeg, Nat.reduceBEq, h0, h1, TY, Nat.add_assoc, Nat.left_eq_add, Nat.add_eq_left, Nat.add_left_cancel_iff] at hx
      subst hx
      refine ⟨_, _, rfl, by first | trivial | omega | (simp only [and_true, true_and]; omega), ?_⟩
      have hx : kC k = false := by simp [kC, h0, h1]
      rw [hx]
      exact at_done (in_cut (le_of rfl (by simp only [RN, ↓reduceIte, ↓get8, reduceCtorEq, Nat.reduceLT, Nat.reduceEqDiff, Nat.reduceAdd, Nat.reduceMul, Nat.reduceLeDiff, Nat.reduceSub, Int.reduceToNat, Int.reduceNeg, Nat.reduceBEq, Nat.add_assoc, Nat.left_eq_add, Nat.add_eq_left, Nat.add_left_cancel_iff]; first | done | trivial) (by simp only [RN, ↓reduceIte, ↓get8, reduceCtorEq, Nat.reduceLT, Nat.reduceEqDiff, Nat.reduceAdd, Nat.reduceMul, Nat.reduceLeDiff, Nat.reduceSub, Int.reduceToNat, Int.reduceNeg, Nat.reduceBEq, Nat.add_assoc, Nat.left_eq_add, Nat.add_eq_left, Nat.add_left_cancel_iff]; first | done | trivial) (Nat.le_refl _) rfl))
    refine JS_go (tbOk _) 99 fun x hx => ?_
    simp only [RN, ↓reduceIte, ↓get8, reduceCtorEq, Nat.reduceLT, Nat.reduceEqDiff, Nat.reduceAdd, Nat.reduceMul, Nat.reduceLeDiff, Nat.reduceSub, Int.reduceToNat, Int.reduceNeg, Nat.reduceBEq, h0, h1, TY, Nat.add_assoc, Nat.left_eq_add, Nat.add_eq_left, Nat.add_left_cancel_iff] at hx
    subst hx
    refine ⟨_, _, rfl, by first | trivial | omega | (simp only [and_true, true_and]; omega), ?_⟩
    refine at_callK (in_c k.c14 0 65535 (nx + 1)) (by simp only [RN, ↓reduceIte, ↓get8, reduceCtorEq, Nat.reduceLT, Nat.reduceEqDiff, Nat.reduceAdd, Nat.reduceMul, Nat.reduceLeDiff, Nat.reduceSub, Int.reduceToNat, Int.reduceNeg, Nat.reduceBEq, Nat.add_assoc, Nat.left_eq_add, Nat.add_eq_left, Nat.add_left_cancel_iff]; first | done | trivial) (by simp only [RN, ↓reduceIte, ↓get8, reduceCtorEq, Nat.reduceLT, Nat.reduceEqDiff, Nat.reduceAdd, Nat.reduceMul, Nat.reduceLeDiff, Nat.reduceSub, Int.reduceToNat, Int.reduceNeg, Nat.reduceBEq, Nat.add_assoc, Nat.left_eq_add, Nat.add_eq_left, Nat.add_left_cancel_iff]; rfl) ?_
    cases h2 : btw 0 65535 [k.c14]
    case false =>
      skip
      refine JS_go (tbOk _) 99 fun x hx => ?_
      simp only [RN, ↓reduceIte, ↓get8, reduceCtorEq, Nat.reduceLT, Nat.reduceEqDiff, Nat.reduceAdd, Nat.reduceMul, Nat.reduceLeDiff, Nat.reduceSub, Int.reduceToNat, Int.reduceNeg, Nat.reduceBEq, h0, h1, h2, TY, Nat.add_assoc, Nat.left_eq_add, Nat.add_eq_left, Nat.add_left_cancel_iff] at hx
      subst hx
      refine ⟨_, _, rfl, by first | trivial | omega | (simp only [and_true, true_and]; omega), ?_⟩
      have hx : kC k = false := by simp [kC, h0, h1, h2]
      rw [hx]
      exact at_done (in_cut (le_of rfl (by simp only [RN, ↓reduceIte, ↓get8, reduceCtorEq, Nat.reduceLT, Nat.reduceEqDiff, Nat.reduceAdd, Nat.reduceMul, Nat.reduceLeDiff, Nat.reduceSub, Int.reduceToNat, Int.reduceNeg, Nat.reduceBEq, Nat.add_assoc, Nat.left_eq_add, Nat.add_eq_left, Nat.add_left_cancel_iff]; first | done | trivial) (by simp only [RN, ↓reduceIte, ↓get8, reduceCtorEq, Nat.reduceLT, Nat.reduceEqDiff, Nat.reduceAdd, Nat.reduceMul, Nat.reduceLeDiff, Nat.reduceSub, Int.reduceToNat, Int.reduceNeg, Nat.reduceBEq, Nat.add_assoc, Nat.left_eq_add, Nat.add_eq_left, Nat.add_left_cancel_iff]; first | done | trivial) (Nat.le_refl _) rfl))
    refine JS_go (tbOk _) 99 fun x hx => ?_
    simp only [RN, ↓reduceIte, ↓get8, reduceCtorEq, Nat.reduceLT, Nat.reduceEqDiff, Nat.reduceAdd, Nat.reduceMul, Nat.reduceLeDiff, Nat.reduceSub, Int.reduceToNat, Int.reduceNeg, Nat.reduceBEq, h0, h1, h2, TY, Nat.add_assoc, Nat.left_eq_add, Nat.add_eq_left, Nat.add_left_cancel_iff] at hx
    subst hx
    refine ⟨_, _, rfl, by first | trivial | omega | (simp only [and_true, true_and]; omega), ?_⟩
    refine at_callK (in_c k.c15 0 65535 (nx + 1)) (by simp only [RN, ↓reduceIte, ↓get8, reduceCtorEq, Nat.reduceLT, Nat.reduceEqDiff, Nat.reduceAdd, Nat.reduceMul, Nat.reduceLeDiff, Nat.reduceSub, Int.reduceToNat, Int.reduceNeg, Nat.reduceBEq, Nat.add_assoc, Nat.left_eq_add, Nat.add_eq_left, Nat.add_left_cancel_iff]; first | done | trivial) (by simp only [RN, ↓reduceIte, ↓get8, reduceCtorEq, Nat.reduceLT, Nat.reduceEqDiff, Nat.reduceAdd, Nat.reduceMul, Nat.reduceLeDiff, Nat.reduceSub, Int.reduceToNat, Int.reduceNeg, Nat.reduceBEq, Nat.add_assoc, Nat.left_eq_add, Nat.add_eq_left, Nat.add_left_cancel_iff]; rfl) ?_
    cases h3 : btw 0 65535 [k.c15]
    case false =>
      skip
      refine JS_go (tbOk _) 99 fun x hx => ?_
      simp only [RN, ↓reduceIte, ↓get8, reduceCtorEq, Nat.reduceLT, Nat.reduceEqDiff, Nat.reduceAdd, Nat.reduceMul, Nat.reduceLeDiff, Nat.reduceSub, Int.reduceToNat, Int.reduceNeg, Nat.reduceBEq, h0, h1, h2, h3, TY, Nat.add_assoc, Nat.left_eq_add, Nat.add_eq_left, Nat.add_left_cancel_iff] at hx
      subst hx
      refine ⟨_, _, rfl, by first | trivial | omega | (simp only [and_true, true_and]; omega), ?_⟩
      have hx : kC k = false := by simp [kC, h0, h1, h2, h3]
      rw [hx]
      exact at_done (in_cut (le_of rfl (by simp only [RN, ↓reduceIte, ↓get8, reduceCtorEq, Nat.reduceLT, Nat.reduceEqDiff, Nat.reduceAdd, Nat.reduceMul, Nat.reduceLeDiff, Nat.reduceSub, Int.reduceToNat, Int.reduceNeg, Nat.reduceBEq, Nat.add_assoc, Nat.left_eq_add, Nat.add_eq_left, Nat.add_left_cancel_iff]; first | done | trivial) (by simp only [RN, ↓reduceIte, ↓get8, reduceCtorEq, Nat.reduceLT, Nat.reduceEqDiff, Nat.reduceAdd, Nat.reduceMul, Nat.reduceLeDiff, Nat.reduceSub, Int.reduceToNat, Int.reduceNeg, Nat.reduceBEq, Nat.add_assoc, Nat.left_eq_add, Nat.add_eq_left, Nat.add_left_cancel_iff]; first | done | trivial) (Nat.le_refl _) rfl))
    refine JS_go (tbOk _) 99 fun x hx => ?_
    simp only [RN, ↓reduceIte, ↓get8, reduceCtorEq, Nat.reduceLT, Nat.reduceEqDiff, Nat.reduceAdd, Nat.reduceMul, Nat.reduceLeDiff, Nat.reduceSub, Int.reduceToNat, Int.reduceNeg, Nat.reduceBEq, h0, h1, h2, h3, TY, Nat.add_assoc, Nat.left_eq_add, Nat.add_eq_left, Nat.add_left_cancel_iff] at hx
    subst hx
    refine ⟨_, _, rfl, by first | trivial | omega | (simp only [and_true, true_and]; omega), ?_⟩
    refine at_callK (in_c k.c19 0 65535 (nx + 1)) (by simp only [RN, ↓reduceIte, ↓get8, reduceCtorEq, Nat.reduceLT, Nat.reduceEqDiff, Nat.reduceAdd, Nat.reduceMul, Nat.reduceLeDiff, Nat.reduceSub, Int.reduceToNat, Int.reduceNeg, Nat.reduceBEq, Nat.add_assoc, Nat.left_eq_add, Nat.add_eq_left, Nat.add_left_cancel_iff]; first | done | trivial) (by simp only [RN, ↓reduceIte, ↓get8, reduceCtorEq, Nat.reduceLT, Nat.reduceEqDiff, Nat.reduceAdd, Nat.reduceMul, Nat.reduceLeDiff, Nat.reduceSub, Int.reduceToNat, Int.reduceNeg, Nat.reduceBEq, Nat.add_assoc, Nat.left_eq_add, Nat.add_eq_left, Nat.add_left_cancel_iff]; rfl) ?_
    cases h4 : btw 0 65535 [k.c19]
    case false =>
      skip
      refine JS_go (tbOk _) 99 fun x hx => ?_
      simp only [RN, ↓reduceIte, ↓get8, reduceCtorEq, Nat.reduceLT, Nat.reduceEqDiff, Nat.reduceAdd, Nat.reduceMul, Nat.reduceLeDiff, Nat.reduceSub, Int.reduceToNat, Int.reduceNeg, Nat.reduceBEq, h0, h1, h2, h3, h4, TY, Nat.add_assoc, Nat.left_eq_add, Nat.add_eq_left, Nat.add_left_cancel_iff] at hx
      subst hx
      refine ⟨_, _, rfl, by first | trivial | omega | (simp only [and_true, true_and]; omega), ?_⟩
      have hx : kC k = false := by simp [kC, h0, h1, h2, h3, h4]
      rw [hx]
      exact at_done (in_cut (le_of rfl (by simp only [RN, ↓reduceIte, ↓get8, reduceCtorEq, Nat.reduceLT, Nat.reduceEqDiff, Nat.reduceAdd, Nat.reduceMul, Nat.reduceLeDiff, Nat.reduceSub, Int.reduceToNat, Int.reduceNeg, Nat.reduceBEq, Nat.add_assoc, Nat.left_eq_add, Nat.add_eq_left, Nat.add_left_cancel_iff]; first | done | trivial) (by simp only [RN, ↓reduceIte, ↓get8, reduceCtorEq, Nat.reduceLT, Nat.reduceEqDiff, Nat.reduceAdd, Nat.reduceMul, Nat.reduceLeDiff, Nat.reduceSub, Int.reduceToNat, Int.reduceNeg, Nat.reduceBEq, Nat.add_assoc, Nat.left_eq_add, Nat.add_eq_left, Nat.add_left_cancel_iff]; first | done | trivial) (Nat.le_refl _) rfl))
    refine JS_go (tbOk _) 99 fun x hx => ?_
    simp only [RN, ↓reduceIte, ↓get8, reduceCtorEq, Nat.reduceLT, Nat.reduceEqDiff, Nat.reduceAdd, Nat.reduceMul, Nat.reduceLeDiff, Nat.reduceSub, Int.reduceToNat, Int.reduceNeg, Nat.reduceBEq, h0, h1, h2, h3, h4, TY, Nat.add_assoc, Nat.left_eq_add, Nat.add_eq_left, Nat.add_left_cancel_iff] at hx
    subst hx
    refine ⟨_, _, rfl, by first | trivial | omega | (simp only [and_true, true_and]; omega), ?_⟩
    refine at_callK (in_c k.c10 1 65535 (nx + 1)) (by simp only [RN, ↓reduceIte, ↓get8, reduceCtorEq, Nat.reduceLT, Nat.reduceEqDiff, Nat.reduceAdd, Nat.reduceMul, Nat.reduceLeDiff, Nat.reduceSub, Int.reduceToNat, Int.reduceNeg, Nat.reduceBEq, Nat.add_assoc, Nat.left_eq_add, Nat.add_eq_left, Nat.add_left_cancel_iff]; first | done | trivial) (by simp only [RN, ↓reduceIte, ↓get8, reduceCtorEq, Nat.reduceLT, Nat.reduceEqDiff, Nat.reduceAdd, Nat.reduceMul, Nat.reduceLeDiff, Nat.reduceSub, Int.reduceToNat, Int.reduceNeg, Nat.reduceBEq, Nat.add_assoc, Nat.left_eq_add, Nat.add_eq_left, Nat.add_left_cancel_iff]; rfl) ?_
    cases h5 : btw 1 65535 [k.c10]
    case false =>
      skip
      refine JS_go (tbOk _) 99 fun x hx => ?_
      simp only [RN, ↓reduceIte, ↓get8, reduceCtorEq, Nat.reduceLT, Nat.reduceEqDiff, Nat.reduceAdd, Nat.reduceMul, Nat.reduceLeDiff, Nat.reduceSub, Int.reduceToNat, Int.reduceNeg, Nat.reduceBEq, h0, h1, h2, h3, h4, h5, TY, Nat.add_assoc, Nat.left_eq_add, Nat.add_eq_left, Nat.add_left_cancel_iff] at hx
      subst hx
      refine ⟨_, _, rfl, by first | trivial | omega | (simp only [and_true, true_and]; omega), ?_⟩
      have hx : kC k = false := by simp [kC, h0, h1, h2, h3, h4, h5]
      rw [hx]
      exact at_done (in_cut (le_of rfl (by simp only [RN, ↓reduceIte, ↓get8, reduceCtorEq, Nat.reduceLT, Nat.reduceEqDiff, Nat.reduceAdd, Nat.reduceMul, Nat.reduceLeDiff, Nat.reduceSub, Int.reduceToNat, Int.reduceNeg, Nat.reduceBEq, Nat.add_assoc, Nat.left_eq_add, Nat.add_eq_left, Nat.add_left_cancel_iff]; first | done | trivial) (by simp only [RN, ↓reduceIte, ↓get8, reduceCtorEq, Nat.reduceLT, Nat.reduceEqDiff, Nat.reduceAdd, Nat.reduceMul, Nat.reduceLeDiff, Nat.reduceSub, Int.reduceToNat, Int.reduceNeg, Nat.reduceBEq, Nat.add_assoc, Nat.left_eq_add, Nat.add_eq_left, Nat.add_left_cancel_iff]; first | done | trivial) (Nat.le_refl _) rfl))
    refine JS_go (tbOk _) 99 fun x hx => ?_
    simp only [RN, ↓reduceIte, ↓get8, reduceCtorEq, Nat.reduceLT, Nat.reduceEqDiff, Nat.reduceAdd, Nat.reduceMul, Nat.reduceLeDiff, Nat.reduceSub, Int.reduceToNat, Int.reduceNeg, Nat.reduceBEq, h0, h1, h2, h3, h4, h5, TY, Nat.add_assoc, Nat.left_eq_add, Nat.add_eq_left, Nat.add_left_cancel_iff] at hx
    subst hx
    refine ⟨_, _, rfl, by first | trivial | omega | (simp only [and_true, true_and]; omega), ?_⟩
    have hx : kC k = true := by simp [kC, h0, h1, h2, h3, h4, h5]
    rw [hx]
    exact at_done (in_cut (le_of rfl (by simp only [RN, ↓reduceIte, ↓get8, reduceCtorEq, Nat.reduceLT, Nat.reduceEqDiff, Nat.reduceAdd, Nat.reduceMul, Nat.reduceLeDiff, Nat.reduceSub, Int.reduceToNat, Int.reduceNeg, Nat.reduceBEq, Nat.add_assoc, Nat.left_eq_add, Nat.add_eq_left, Nat.add_left_cancel_iff]; first | done | trivial) (by simp only [RN, ↓reduceIte, ↓get8, reduceCtorEq, Nat.reduceLT, Nat.reduceEqDiff, Nat.reduceAdd, Nat.reduceMul, Nat.reduceLeDiff, Nat.reduceSub, Int.reduceToNat, Int.reduceNeg, Nat.reduceBEq, Nat.add_assoc, Nat.left_eq_add, Nat.add_eq_left, Nat.add_left_cancel_iff]; first | done | trivial) (Nat.le_refl _) rfl))
  refine JS_seq (JS_cut ({ n := 123, fr := [(8, .bool (kD k)), (7, .bool (kC k)), (6, .bool (kB k)), (5, .bool (kA k)), (2, .pointer (some ⟨nx, 0, none⟩)), (1, .int .i64 n)], F := [(nx, ⟨[.int .i64 k.c0, .int .i64 k.c1, .int .i64 k.c2, .int .i64 k.c3, .int .i64 k.c4, .int .i64 k.c5, .int .i64 k.c6, .int .i64 k.c7, .int .i64 k.c8, .int .i64 k.c9, .int .i64 k.c10, .int .i64 k.c11, .int .i64 k.c12, .int .i64 k.c13, .int .i64 k.c14, .int .i64 k.c15, .int .i64 k.c16, .int .i64 k.c17, .int .i64 k.c18, .int .i64 k.c19], 46, 20, false, false⟩)], nx := nx + 1, ds := [] }) ?_ ?_)
  · skip
    refine JS_go (tbOk _) 99 fun x hx => ?_
    simp only [RN, ↓reduceIte, ↓get8, reduceCtorEq, Nat.reduceLT, Nat.reduceEqDiff, Nat.reduceAdd, Nat.reduceMul, Nat.reduceLeDiff, Nat.reduceSub, Int.reduceToNat, Int.reduceNeg, Nat.reduceBEq, TY, Nat.add_assoc, Nat.left_eq_add, Nat.add_eq_left, Nat.add_left_cancel_iff] at hx
    subst hx
    refine ⟨_, _, rfl, by first | trivial | omega | (simp only [and_true, true_and]; omega), ?_⟩
    refine at_callK (in_c k.c11 0 255 (nx + 1)) (by simp only [RN, ↓reduceIte, ↓get8, reduceCtorEq, Nat.reduceLT, Nat.reduceEqDiff, Nat.reduceAdd, Nat.reduceMul, Nat.reduceLeDiff, Nat.reduceSub, Int.reduceToNat, Int.reduceNeg, Nat.reduceBEq, Nat.add_assoc, Nat.left_eq_add, Nat.add_eq_left, Nat.add_left_cancel_iff]; first | done | trivial) (by simp only [RN, ↓reduceIte, ↓get8, reduceCtorEq, Nat.reduceLT, Nat.reduceEqDiff, Nat.reduceAdd, Nat.reduceMul, Nat.reduceLeDiff, Nat.reduceSub, Int.reduceToNat, Int.reduceNeg, Nat.reduceBEq, Nat.add_assoc, Nat.left_eq_add, Nat.add_eq_left, Nat.add_left_cancel_iff]; rfl) ?_
    cases h0 : btw 0 255 [k.c11]
    case false =>
      skip
      refine JS_go (tbOk _) 99 fun x hx => ?_
      simp only [RN, ↓reduceIte, ↓get8, reduceCtorEq, Nat.reduceLT, Nat.reduceEqDiff, Nat.reduceAdd, Nat.reduceMul, Nat.reduceLeDiff, Nat.reduceSub, Int.reduceToNat, Int.reduceNeg, Nat.reduceBEq, h0, TY, Nat.add_assoc, Nat.left_eq_add, Nat.add_eq_left, Nat.add_left_cancel_iff] at hx
      subst hx
      refine ⟨_, _, rfl, by first | trivial | omega | (simp only [and_true, true_and]; omega), ?_⟩
      have hx : kD k = false := by simp [kD, h0]
      rw [hx]
      exact at_done (in_cut (le_of rfl (by simp only [RN, ↓reduceIte, ↓get8, reduceCtorEq, Nat.reduceLT, Nat.reduceEqDiff, Nat.reduceAdd, Nat.reduceMul, Nat.reduceLeDiff, Nat.reduceSub, Int.reduceToNat, Int.reduceNeg, Nat.reduceBEq, Nat.add_assoc, Nat.left_eq_add, Nat.add_eq_left, Nat.add_left_cancel_iff]; first | done | trivial) (by simp only [RN, ↓reduceIte, ↓get8, reduceCtorEq, Nat.reduceLT, Nat.reduceEqDiff, Nat.reduceAdd, Nat.reduceMul, Nat.reduceLeDiff, Nat.reduceSub, Int.reduceToNat, Int.reduceNeg, Nat.reduceBEq, Nat.add_assoc, Nat.left_eq_add, Nat.add_eq_left, Nat.add_left_cancel_iff]; first | done | trivial) (Nat.le_refl _) rfl))
    refine JS_go (tbOk _) 99 fun x hx => ?_
    simp only [RN, ↓reduceIte, ↓get8, reduceCtorEq, Nat.reduceLT, Nat.reduceEqDiff, Nat.reduceAdd, Nat.reduceMul, Nat.reduceLeDiff, Nat.reduceSub, Int.reduceToNat, Int.reduceNeg, Nat.reduceBEq, h0, TY, Nat.add_assoc, Nat.left_eq_add, Nat.add_eq_left, Nat.add_left_cancel_iff] at hx
    subst hx
    refine ⟨_, _, rfl, by first | trivial | omega | (simp only [and_true, true_and]; omega), ?_⟩
    refine at_callK (in_c k.c12 0 255 (nx + 1)) (by simp only [RN, ↓reduceIte, ↓get8, reduceCtorEq, Nat.reduceLT, Nat.reduceEqDiff, Nat.reduceAdd, Nat.reduceMul, Nat.reduceLeDiff, Nat.reduceSub, Int.reduceToNat, Int.reduceNeg, Nat.reduceBEq, Nat.add_assoc, Nat.left_eq_add, Nat.add_eq_left, Nat.add_left_cancel_iff]; first | done | trivial) (by simp only [RN, ↓reduceIte, ↓get8, reduceCtorEq, Nat.reduceLT, Nat.reduceEqDiff, Nat.reduceAdd, Nat.reduceMul, Nat.reduceLeDiff, Nat.reduceSub, Int.reduceToNat, Int.reduceNeg, Nat.reduceBEq, Nat.add_assoc, Nat.left_eq_add, Nat.add_eq_left, Nat.add_left_cancel_iff]; rfl) ?_
    cases h1 : btw 0 255 [k.c12]
    case false =>
      skip
      refine JS_go (tbOk _) 99 fun x hx => ?_
      simp only [RN, ↓reduceIte, ↓get8, reduceCtorEq, Nat.reduceLT, Nat.reduceEqDiff, Nat.reduceAdd, Nat.reduceMul, Nat.reduceLeDiff, Nat.reduceSub, Int.reduceToNat, Int.reduceNeg, Nat.reduceBEq, h0, h1, TY, Nat.add_assoc, Nat.left_eq_add, Nat.add_eq_left, Nat.add_left_cancel_iff] at hx
      subst hx
      refine ⟨_, _, rfl, by first | trivial | omega | (simp only [and_true, true_and]; omega), ?_⟩
      have hx : kD k = false := by simp [kD, h0, h1]
      rw [hx]
      exact at_done (in_cut (le_of rfl (by simp only [RN, ↓reduceIte, ↓get8, reduceCtorEq, Nat.reduceLT, Nat.reduceEqDiff, Nat.reduceAdd, Nat.reduceMul, Nat.reduceLeDiff, Nat.reduceSub, Int.reduceToNat, Int.reduceNeg, Nat.reduceBEq, Nat.add_assoc, Nat.left_eq_add, Nat.add_eq_left, Nat.add_left_cancel_iff]; first | done | trivial) (by simp only [RN, ↓reduceIte, ↓get8, reduceCtorEq, Nat.reduceLT, Nat.reduceEqDiff, Nat.reduceAdd, Nat.reduceMul, Nat.reduceLeDiff, Nat.reduceSub, Int.reduceToNat, Int.reduceNeg, Nat.reduceBEq, Nat.add_assoc, Nat.left_eq_add, Nat.add_eq_left, Nat.add_left_cancel_iff]; first | done | trivial) (Nat.le_refl _) rfl))
    refine JS_go (tbOk _) 99 fun x hx => ?_
    simp only [RN, ↓reduceIte, ↓get8, reduceCtorEq, Nat.reduceLT, Nat.reduceEqDiff, Nat.reduceAdd, Nat.reduceMul, Nat.reduceLeDiff, Nat.reduceSub, Int.reduceToNat, Int.reduceNeg, Nat.reduceBEq, h0, h1, TY, Nat.add_assoc, Nat.left_eq_add, Nat.add_eq_left, Nat.add_left_cancel_iff] at hx
    subst hx
    refine ⟨_, _, rfl, by first | trivial | omega | (simp only [and_true, true_and]; omega), ?_⟩
    refine at_callK (in_c k.c13 0 255 (nx + 1)) (by simp only [RN, ↓reduceIte, ↓get8, reduceCtorEq, Nat.reduceLT, Nat.reduceEqDiff, Nat.reduceAdd, Nat.reduceMul, Nat.reduceLeDiff, Nat.reduceSub, Int.reduceToNat, Int.reduceNeg, Nat.reduceBEq, Nat.add_assoc, Nat.left_eq_add, Nat.add_eq_left, Nat.add_left_cancel_iff]; first | done | trivial) (by simp only [RN, ↓reduceIte, ↓get8, reduceCtorEq, Nat.reduceLT, Nat.reduceEqDiff, Nat.reduceAdd, Nat.reduceMul, Nat.reduceLeDiff, Nat.reduceSub, Int.reduceToNat, Int.reduceNeg, Nat.reduceBEq, Nat.add_assoc, Nat.left_eq_add, Nat.add_eq_left, Nat.add_left_cancel_iff]; rfl) ?_
    cases h2 : btw 0 255 [k.c13]
    case false =>
      skip
      refine JS_go (tbOk _) 99 fun x hx => ?_
      simp only [RN, ↓reduceIte, ↓get8, reduceCtorEq, Nat.reduceLT, Nat.reduceEqDiff, Nat.reduceAdd, Nat.reduceMul, Nat.reduceLeDiff, Nat.reduceSub, Int.reduceToNat, Int.reduceNeg, Nat.reduceBEq, h0, h1, h2, TY, Nat.add_assoc, Nat.left_eq_add, Nat.add_eq_left, Nat.add_left_cancel_iff] at hx
      subst hx
      refine ⟨_, _, rfl, by first | trivial | omega | (simp only [and_true, true_and]; omega), ?_⟩
      have hx : kD k = false := by simp [kD, h0, h1, h2]
      rw [hx]
      exact at_done (in_cut (le_of rfl (by simp only [RN, ↓reduceIte, ↓get8, reduceCtorEq, Nat.reduceLT, Nat.reduceEqDiff, Nat.reduceAdd, Nat.reduceMul, Nat.reduceLeDiff, Nat.reduceSub, Int.reduceToNat, Int.reduceNeg, Nat.reduceBEq, Nat.add_assoc, Nat.left_eq_add, Nat.add_eq_left, Nat.add_left_cancel_iff]; first | done | trivial) (by simp only [RN, ↓reduceIte, ↓get8, reduceCtorEq, Nat.reduceLT, Nat.reduceEqDiff, Nat.reduceAdd, Nat.reduceMul, Nat.reduceLeDiff, Nat.reduceSub, Int.reduceToNat, Int.reduceNeg, Nat.reduceBEq, Nat.add_assoc, Nat.left_eq_add, Nat.add_eq_left, Nat.add_left_cancel_iff]; first | done | trivial) (Nat.le_refl _) rfl))
    refine JS_go (tbOk _) 99 fun x hx => ?_
    simp only [RN, ↓reduceIte, ↓get8, reduceCtorEq, Nat.reduceLT, Nat.reduceEqDiff, Nat.reduceAdd, Nat.reduceMul, Nat.reduceLeDiff, Nat.reduceSub, Int.reduceToNat, Int.reduceNeg, Nat.reduceBEq, h0, h1, h2, TY, Nat.add_assoc, Nat.left_eq_add, Nat.add_eq_left, Nat.add_left_cancel_iff] at hx
    subst hx
    refine ⟨_, _, rfl, by first | trivial | omega | (simp only [and_true, true_and]; omega), ?_⟩
    refine at_callK (in_c k.c16 0 255 (nx + 1)) (by simp only [RN, ↓reduceIte, ↓get8, reduceCtorEq, Nat.reduceLT, Nat.reduceEqDiff, Nat.reduceAdd, Nat.reduceMul, Nat.reduceLeDiff, Nat.reduceSub, Int.reduceToNat, Int.reduceNeg, Nat.reduceBEq, Nat.add_assoc, Nat.left_eq_add, Nat.add_eq_left, Nat.add_left_cancel_iff]; first | done | trivial) (by simp only [RN, ↓reduceIte, ↓get8, reduceCtorEq, Nat.reduceLT, Nat.reduceEqDiff, Nat.reduceAdd, Nat.reduceMul, Nat.reduceLeDiff, Nat.reduceSub, Int.reduceToNat, Int.reduceNeg, Nat.reduceBEq, Nat.add_assoc, Nat.left_eq_add, Nat.add_eq_left, Nat.add_left_cancel_iff]; rfl) ?_
    cases h3 : btw 0 255 [k.c16]
    case false =>
      skip
      refine JS_go (tbOk _) 99 fun x hx => ?_
      simp only [RN, ↓reduceIte, ↓get8, reduceCtorEq, Nat.reduceLT, Nat.reduceEqDiff, Nat.reduceAdd, Nat.reduceMul, Nat.reduceLeDiff, Nat.reduceSub, Int.reduceToNat, Int.reduceNeg, Nat.reduceBEq, h0, h1, h2, h3, TY, Nat.add_assoc, Nat.left_eq_add, Nat.add_eq_left, Nat.add_left_cancel_iff] at hx
      subst hx
      refine ⟨_, _, rfl, by first | trivial | omega | (simp only [and_true, true_and]; omega), ?_⟩
      have hx : kD k = false := by simp [kD, h0, h1, h2, h3]
      rw [hx]
      exact at_done (in_cut (le_of rfl (by simp only [RN, ↓reduceIte, ↓get8, reduceCtorEq, Nat.reduceLT, Nat.reduceEqDiff, Nat.reduceAdd, Nat.reduceMul, Nat.reduceLeDiff, Nat.reduceSub, Int.reduceToNat, Int.reduceNeg, Nat.reduceBEq, Nat.add_assoc, Nat.left_eq_add, Nat.add_eq_left, Nat.add_left_cancel_iff]; first | done | trivial) (by simp only [RN, ↓reduceIte, ↓get8, reduceCtorEq, Nat.reduceLT, Nat.reduceEqDiff, Nat.reduceAdd, Nat.reduceMul, Nat.reduceLeDiff, Nat.reduceSub, Int.reduceToNat, Int.reduceNeg, Nat.reduceBEq, Nat.add_assoc, Nat.left_eq_add, Nat.add_eq_left, Nat.add_left_cancel_iff]; first | done | trivial) (Nat.le_refl _) rfl))
    refine JS_go (tbOk _) 99 fun x hx => ?_
    simp only [RN, ↓reduceIte, ↓get8, reduceCtorEq, Nat.reduceLT, Nat.reduceEqDiff, Nat.reduceAdd, Nat.reduceMul, Nat.reduceLeDiff, Nat.reduceSub, Int.reduceToNat, Int.reduceNeg, Nat.reduceBEq, h0, h1, h2, h3, TY, Nat.add_assoc, Nat.left_eq_add, Nat.add_eq_left, Nat.add_left_cancel_iff] at hx
    subst hx
    refine ⟨_, _, rfl, by first | trivial | omega | (simp only [and_true, true_and]; omega), ?_⟩
    refine at_callK (in_c k.c17 0 4 (nx + 1)) (by simp only [RN, ↓reduceIte, ↓get8, reduceCtorEq, Nat.reduceLT, Nat.reduceEqDiff, Nat.reduceAdd, Nat.reduceMul, Nat.reduceLeDiff, Nat.reduceSub, Int.reduceToNat, Int.reduceNeg, Nat.reduceBEq, Nat.add_assoc, Nat.left_eq_add, Nat.add_eq_left, Nat.add_left_cancel_iff]; first | done | trivial) (by simp only [RN, ↓reduceIte, ↓get8, reduceCtorEq, Nat.reduceLT, Nat.reduceEqDiff, Nat.reduceAdd, Nat.reduceMul, Nat.reduceLeDiff, Nat.reduceSub, Int.reduceToNat, Int.reduceNeg, Nat.reduceBEq, Nat.add_assoc, Nat.left_eq_add, Nat.add_eq_left, Nat.add_left_cancel_iff]; rfl) ?_
    cases h4 : btw 0 4 [k.c17]
    case false =>
      skip
      refine JS_go (tbOk _) 99 fun x hx => ?_
      simp only [RN, ↓reduceIte, ↓get8, reduceCtorEq, Nat.reduceLT, Nat.reduceEqDiff, Nat.reduceAdd, Nat.reduceMul, Nat.reduceLeDiff, Nat.reduceSub, Int.reduceToNat, Int.reduceNeg, Nat.reduceBEq, h0, h1, h2, h3, h4, TY, Nat.add_assoc, Nat.left_eq_add, Nat.add_eq_left, Nat.add_left_cancel_iff] at hx
      subst hx
      refine ⟨_, _, rfl, by first | trivial | omega | (simp only [and_true, true_and]; omega), ?_⟩
      have hx : kD k = false := by simp [kD, h0, h1, h2, h3, h4]
      rw [hx]
      exact at_done (in_cut (le_of rfl (by simp only [RN, ↓reduceIte, ↓get8, reduceCtorEq, Nat.reduceLT, Nat.reduceEqDiff, Nat.reduceAdd, Nat.reduceMul, Nat.reduceLeDiff, Nat.reduceSub, Int.reduceToNat, Int.reduceNeg, Nat.reduceBEq, Nat.add_assoc, Nat.left_eq_add, Nat.add_eq_left, Nat.add_left_cancel_iff]; first | done | trivial) (by simp only [RN, ↓reduceIte, ↓get8, reduceCtorEq, Nat.reduceLT, Nat.reduceEqDiff, Nat.reduceAdd, Nat.reduceMul, Nat.reduceLeDiff, Nat.reduceSub, Int.reduceToNat, Int.reduceNeg, Nat.reduceBEq, Nat.add_assoc, Nat.left_eq_add, Nat.add_eq_left, Nat.add_left_cancel_iff]; first | done | trivial) (Nat.le_refl _) rfl))
    refine JS_go (tbOk _) 99 fun x hx => ?_
    simp only [RN, ↓reduceIte, ↓get8, reduceCtorEq, Nat.reduceLT, Nat.reduceEqDiff, Nat.reduceAdd, Nat.reduceMul, Nat.reduceLeDiff, Nat.reduceSub, Int.reduceToNat, Int.reduceNeg, Nat.reduceBEq, h0, h1, h2, h3, h4, TY, Nat.add_assoc, Nat.left_eq_add, Nat.add_eq_left, Nat.add_left_cancel_iff] at hx
    subst hx
    refine ⟨_, _, rfl, by first | trivial | omega | (simp only [and_true, true_and]; omega), ?_⟩
    have hx : kD k = true := by simp [kD, h0, h1, h2, h3, h4]
    rw [hx]
    exact at_done (in_cut (le_of rfl (by simp only [RN, ↓reduceIte, ↓get8, reduceCtorEq, Nat.reduceLT, Nat.reduceEqDiff, Nat.reduceAdd, Nat.reduceMul, Nat.reduceLeDiff, Nat.reduceSub, Int.reduceToNat, Int.reduceNeg, Nat.reduceBEq, Nat.add_assoc, Nat.left_eq_add, Nat.add_eq_left, Nat.add_left_cancel_iff]; first | done | trivial) (by simp only [RN, ↓reduceIte, ↓get8, reduceCtorEq, Nat.reduceLT, Nat.reduceEqDiff, Nat.reduceAdd, Nat.reduceMul, Nat.reduceLeDiff, Nat.reduceSub, Int.reduceToNat, Int.reduceNeg, Nat.reduceBEq, Nat.add_assoc, Nat.left_eq_add, Nat.add_eq_left, Nat.add_left_cancel_iff]; first | done | trivial) (Nat.le_refl _) rfl))
  rw [kindB_ref]
  cases hA : kA k
  case false =>
    skip
    refine JS_go (tbOk _) 99 fun x hx => ?_
    simp only [RN, ↓reduceIte, ↓get8, reduceCtorEq, Nat.reduceLT, Nat.reduceEqDiff, Nat.reduceAdd, Nat.reduceMul, Nat.reduceLeDiff, Nat.reduceSub, Int.reduceToNat, Int.reduceNeg, Nat.reduceBEq, hA, hw, TY, Nat.add_assoc, Nat.left_eq_add, Nat.add_eq_left, Nat.add_left_cancel_iff] at hx
    subst hx
    refine ⟨_, _, rfl, by first | trivial | omega | (simp only [and_true, true_and]; omega), ?_⟩
    refine at_ret ?_
    refine ret_endK (by simp only [RN, ↓reduceIte, ↓get8, reduceCtorEq, Nat.reduceLT, Nat.reduceEqDiff, Nat.reduceAdd, Nat.reduceMul, Nat.reduceLeDiff, Nat.reduceSub, Int.reduceToNat, Int.reduceNeg, Nat.reduceBEq]; rfl) rfl trivial ?_
    refine ⟨[], fun _ _ h => (by cases h), ?_, rfl, Nat.le_add_right _ _⟩
    simp [hA]
  cases hB : kB k
  case false =>
    skip
    refine JS_go (tbOk _) 99 fun x hx => ?_
    simp only [RN, ↓reduceIte, ↓get8, reduceCtorEq, Nat.reduceLT, Nat.reduceEqDiff, Nat.reduceAdd, Nat.reduceMul, Nat.reduceLeDiff, Nat.reduceSub, Int.reduceToNat, Int.reduceNeg, Nat.reduceBEq, hA, hB, hw, TY, Nat.add_assoc, Nat.left_eq_add, Nat.add_eq_left, Nat.add_left_cancel_iff] at hx
    subst hx
    refine ⟨_, _, rfl, by first | trivial | omega | (simp only [and_true, true_and]; omega), ?_⟩
    refine at_ret ?_
    refine ret_endK (by simp only [RN, ↓reduceIte, ↓get8, reduceCtorEq, Nat.reduceLT, Nat.reduceEqDiff, Nat.reduceAdd, Nat.reduceMul, Nat.reduceLeDiff, Nat.reduceSub, Int.reduceToNat, Int.reduceNeg, Nat.reduceBEq]; rfl) rfl trivial ?_
    refine ⟨[], fun _ _ h => (by cases h), ?_, rfl, Nat.le_add_right _ _⟩
    simp [hA, hB]
  cases hC : kC k
  case false =>
    skip
    refine JS_go (tbOk _) 99 fun x hx => ?_
    simp only [RN, ↓reduceIte, ↓get8, reduceCtorEq, Nat.reduceLT, Nat.reduceEqDiff, Nat.reduceAdd, Nat.reduceMul, Nat.reduceLeDiff, Nat.reduceSub, Int.reduceToNat, Int.reduceNeg, Nat.reduceBEq, hA, hB, hC, hw, TY, Nat.add_assoc, Nat.left_eq_add, Nat.add_eq_left, Nat.add_left_cancel_iff] at hx
    subst hx
    refine ⟨_, _, rfl, by first | trivial | omega | (simp only [and_true, true_and]; omega), ?_⟩
    refine at_ret ?_
    refine ret_endK (by simp only [RN, ↓reduceIte, ↓get8, reduceCtorEq, Nat.reduceLT, Nat.reduceEqDiff, Nat.reduceAdd, Nat.reduceMul, Nat.reduceLeDiff, Nat.reduceSub, Int.reduceToNat, Int.reduceNeg, Nat.reduceBEq]; rfl) rfl trivial ?_
    refine ⟨[], fun _ _ h => (by cases h), ?_, rfl, Nat.le_add_right _ _⟩
    simp [hA, hB, hC]
  cases hD : kD k
  case false =>
    skip
    refine JS_go (tbOk _) 99 fun x hx => ?_
    simp only [RN, ↓reduceIte, ↓get8, reduceCtorEq, Nat.reduceLT, Nat.reduceEqDiff, Nat.reduceAdd, Nat.reduceMul, Nat.reduceLeDiff, Nat.reduceSub, Int.reduceToNat, Int.reduceNeg, Nat.reduceBEq, hA, hB, hC, hD, hw, TY, Nat.add_assoc, Nat.left_eq_add, Nat.add_eq_left, Nat.add_left_cancel_iff] at hx
    subst hx
    refine ⟨_, _, rfl, by first | trivial | omega | (simp only [and_true, true_and]; omega), ?_⟩
    refine at_ret ?_
    refine ret_endK (by simp only [RN, ↓reduceIte, ↓get8, reduceCtorEq, Nat.reduceLT, Nat.reduceEqDiff, Nat.reduceAdd, Nat.reduceMul, Nat.reduceLeDiff, Nat.reduceSub, Int.reduceToNat, Int.reduceNeg, Nat.reduceBEq]; rfl) rfl trivial ?_
    refine ⟨[], fun _ _ h => (by cases h), ?_, rfl, Nat.le_add_right _ _⟩
    simp [hA, hB, hC, hD]
  cases hE : (k.c18 == 255)
  case true =>
    skip
    refine JS_go (tbOk _) 99 fun x hx => ?_
    simp only [RN, ↓reduceIte, ↓get8, reduceCtorEq, Nat.reduceLT, Nat.reduceEqDiff, Nat.reduceAdd, Nat.reduceMul, Nat.reduceLeDiff, Nat.reduceSub, Int.reduceToNat, Int.reduceNeg, Nat.reduceBEq, hA, hB, hC, hD, hE, hw, TY, Nat.add_assoc, Nat.left_eq_add, Nat.add_eq_left, Nat.add_left_cancel_iff] at hx
    subst hx
    refine ⟨_, _, rfl, by first | trivial | omega | (simp only [and_true, true_and]; omega), ?_⟩
    refine at_ret ?_
    refine ret_endK (by simp only [RN, ↓reduceIte, ↓get8, reduceCtorEq, Nat.reduceLT, Nat.reduceEqDiff, Nat.reduceAdd, Nat.reduceMul, Nat.reduceLeDiff, Nat.reduceSub, Int.reduceToNat, Int.reduceNeg, Nat.reduceBEq]; rfl) rfl trivial ?_
    refine ⟨[], fun _ _ h => (by cases h), ?_, rfl, Nat.le_add_right _ _⟩
    simp [hA, hB, hC, hD, hE]
  refine JS_go (tbOk _) 99 fun x hx => ?_
  simp only [RN, ↓reduceIte, ↓get8, reduceCtorEq, Nat.reduceLT, Nat.reduceEqDiff, Nat.reduceAdd, Nat.reduceMul, Nat.reduceLeDiff, Nat.reduceSub, Int.reduceToNat, Int.reduceNeg, Nat.reduceBEq, hA, hB, hC, hD, hE, hw, TY, Nat.add_assoc, Nat.left_eq_add, Nat.add_eq_left, Nat.add_left_cancel_iff] at hx
  subst hx
  refine ⟨_, _, rfl, by first | trivial | omega | (simp only [and_true, true_and]; omega), ?_⟩
  refine at_callK (in_c k.c18 0 (n - 1) (nx + 1)) (by simp only [RN, ↓reduceIte, ↓get8, reduceCtorEq, Nat.reduceLT, Nat.reduceEqDiff, Nat.reduceAdd, Nat.reduceMul, Nat.reduceLeDiff, Nat.reduceSub, Int.reduceToNat, Int.reduceNeg, Nat.reduceBEq, Nat.add_assoc, Nat.left_eq_add, Nat.add_eq_left, Nat.add_left_cancel_iff]; first | done | trivial) (by simp only [RN, ↓reduceIte, ↓get8, reduceCtorEq, Nat.reduceLT, Nat.reduceEqDiff, Nat.reduceAdd, Nat.reduceMul, Nat.reduceLeDiff, Nat.reduceSub, Int.reduceToNat, Int.reduceNeg, Nat.reduceBEq, Nat.add_assoc, Nat.left_eq_add, Nat.add_eq_left, Nat.add_left_cancel_iff]; rfl) ?_
  cases hF : btw 0 (n - 1) [k.c18]
  all_goals
    skip
    refine JS_go (tbOk _) 99 fun x hx => ?_
    simp only [RN, ↓reduceIte, ↓get8, reduceCtorEq, Nat.reduceLT, Nat.reduceEqDiff, Nat.reduceAdd, Nat.reduceMul, Nat.reduceLeDiff, Nat.reduceSub, Int.reduceToNat, Int.reduceNeg, Nat.reduceBEq, hA, hB, hC, hD, hE, hF, hw, TY, Nat.add_assoc, Nat.left_eq_add, Nat.add_eq_left, Nat.add_left_cancel_iff] at hx
    subst hx
    refine ⟨_, _, rfl, by first | trivial | omega | (simp only [and_true, true_and]; omega), ?_⟩
    refine at_ret ?_
    refine ret_endK (by simp only [RN, ↓reduceIte, ↓get8, reduceCtorEq, Nat.reduceLT, Nat.reduceEqDiff, Nat.reduceAdd, Nat.reduceMul, Nat.reduceLeDiff, Nat.reduceSub, Int.reduceToNat, Int.reduceNeg, Nat.reduceBEq]; rfl) rfl trivial ?_
    refine ⟨[], fun _ _ h => (by cases h), ?_, rfl, Nat.le_add_right _ _⟩
    simp [hA, hB, hC, hD, hE, hF]
set_option maxRecDepth 100000 in
set_option maxHeartbeats 4000000 in
theorem refweapon_c (k : Wp) (nx : Nat) : CallW Try.prog 23 [.agg k.cells.toArray] [] nx fun o F' nx' => o = .ret (.bool (weaponB k)) ∧ F' = [] ∧ nx ≤ nx' := by
  have hB : weaponB k = (btw 1 32 [k.c0] && btw 0 9999 [k.c1] && decide (1 ≤ k.c2) && decide (k.c2 ≤ 262144) && btw 1 255 [k.c3] && btw 0 8 [k.c4]) := by
    unfold weaponB
    rw [show decide (k.c2 > 0) = decide (1 ≤ k.c2) from by simp; omega]
  rw [hB]
  unfold Wp.cells
  refine CallW_go (tbOk _) 31 [.tmp 2] Try.func23 rfl (by decide) rfl rfl (by simp) fun hlt => ?_
  simp only [params, Nat.zero_add, Nat.reduceAdd]
  refine JS_go (tbOk _) 99 fun x hx => ?_
  simp only [RN, ↓reduceIte, ↓get8, reduceCtorEq, Nat.reduceLT, Nat.reduceEqDiff, Nat.reduceAdd, Nat.reduceMul, Nat.reduceLeDiff, Nat.reduceSub, Int.reduceToNat, Int.reduceNeg, Nat.reduceBEq, TY, Nat.add_assoc, Nat.left_eq_add, Nat.add_eq_left, Nat.add_left_cancel_iff] at hx
  subst hx
  refine ⟨_, _, rfl, by first | trivial | omega | (simp only [and_true, true_and]; omega), ?_⟩
  refine at_callK (in_c k.c0 1 32 (nx + 1)) (by simp only [RN, ↓reduceIte, ↓get8, reduceCtorEq, Nat.reduceLT, Nat.reduceEqDiff, Nat.reduceAdd, Nat.reduceMul, Nat.reduceLeDiff, Nat.reduceSub, Int.reduceToNat, Int.reduceNeg, Nat.reduceBEq, Nat.add_assoc, Nat.left_eq_add, Nat.add_eq_left, Nat.add_left_cancel_iff]; first | done | trivial) (by simp only [RN, ↓reduceIte, ↓get8, reduceCtorEq, Nat.reduceLT, Nat.reduceEqDiff, Nat.reduceAdd, Nat.reduceMul, Nat.reduceLeDiff, Nat.reduceSub, Int.reduceToNat, Int.reduceNeg, Nat.reduceBEq, Nat.add_assoc, Nat.left_eq_add, Nat.add_eq_left, Nat.add_left_cancel_iff]; rfl) ?_
  cases h0 : btw 1 32 [k.c0]
  case false =>
    skip
    refine JS_go (tbOk _) 99 fun x hx => ?_
    simp only [RN, ↓reduceIte, ↓get8, reduceCtorEq, Nat.reduceLT, Nat.reduceEqDiff, Nat.reduceAdd, Nat.reduceMul, Nat.reduceLeDiff, Nat.reduceSub, Int.reduceToNat, Int.reduceNeg, Nat.reduceBEq, h0, TY, Nat.add_assoc, Nat.left_eq_add, Nat.add_eq_left, Nat.add_left_cancel_iff] at hx
    subst hx
    refine ⟨_, _, rfl, by first | trivial | omega | (simp only [and_true, true_and]; omega), ?_⟩
    refine at_ret ?_
    refine ret_endK (by simp only [RN, ↓reduceIte, ↓get8, reduceCtorEq, Nat.reduceLT, Nat.reduceEqDiff, Nat.reduceAdd, Nat.reduceMul, Nat.reduceLeDiff, Nat.reduceSub, Int.reduceToNat, Int.reduceNeg, Nat.reduceBEq]; rfl) rfl trivial ?_
    refine ⟨[], fun _ _ h => (by cases h), ?_, rfl, Nat.le_add_right _ _⟩
    simp [h0]
  refine JS_go (tbOk _) 99 fun x hx => ?_
  simp only [RN, ↓reduceIte, ↓get8, reduceCtorEq, Nat.reduceLT, Nat.reduceEqDiff, Nat.reduceAdd, Nat.reduceMul, Nat.reduceLeDiff, Nat.reduceSub, Int.reduceToNat, Int.reduceNeg, Nat.reduceBEq, h0, TY, Nat.add_assoc, Nat.left_eq_add, Nat.add_eq_left, Nat.add_left_cancel_iff] at hx
  subst hx
  refine ⟨_, _, rfl, by first | trivial | omega | (simp only [and_true, true_and]; omega), ?_⟩
  refine at_callK (in_c k.c1 0 9999 (nx + 1)) (by simp only [RN, ↓reduceIte, ↓get8, reduceCtorEq, Nat.reduceLT, Nat.reduceEqDiff, Nat.reduceAdd, Nat.reduceMul, Nat.reduceLeDiff, Nat.reduceSub, Int.reduceToNat, Int.reduceNeg, Nat.reduceBEq, Nat.add_assoc, Nat.left_eq_add, Nat.add_eq_left, Nat.add_left_cancel_iff]; first | done | trivial) (by simp only [RN, ↓reduceIte, ↓get8, reduceCtorEq, Nat.reduceLT, Nat.reduceEqDiff, Nat.reduceAdd, Nat.reduceMul, Nat.reduceLeDiff, Nat.reduceSub, Int.reduceToNat, Int.reduceNeg, Nat.reduceBEq, Nat.add_assoc, Nat.left_eq_add, Nat.add_eq_left, Nat.add_left_cancel_iff]; rfl) ?_
  cases h1 : btw 0 9999 [k.c1]
  case false =>
    skip
    refine JS_go (tbOk _) 99 fun x hx => ?_
    simp only [RN, ↓reduceIte, ↓get8, reduceCtorEq, Nat.reduceLT, Nat.reduceEqDiff, Nat.reduceAdd, Nat.reduceMul, Nat.reduceLeDiff, Nat.reduceSub, Int.reduceToNat, Int.reduceNeg, Nat.reduceBEq, h0, h1, TY, Nat.add_assoc, Nat.left_eq_add, Nat.add_eq_left, Nat.add_left_cancel_iff] at hx
    subst hx
    refine ⟨_, _, rfl, by first | trivial | omega | (simp only [and_true, true_and]; omega), ?_⟩
    refine at_ret ?_
    refine ret_endK (by simp only [RN, ↓reduceIte, ↓get8, reduceCtorEq, Nat.reduceLT, Nat.reduceEqDiff, Nat.reduceAdd, Nat.reduceMul, Nat.reduceLeDiff, Nat.reduceSub, Int.reduceToNat, Int.reduceNeg, Nat.reduceBEq]; rfl) rfl trivial ?_
    refine ⟨[], fun _ _ h => (by cases h), ?_, rfl, Nat.le_add_right _ _⟩
    simp [h0, h1]
  cases h2 : decide (1 ≤ k.c2)
  case false =>
    skip
    refine JS_go (tbOk _) 99 fun x hx => ?_
    simp only [RN, ↓reduceIte, ↓get8, reduceCtorEq, Nat.reduceLT, Nat.reduceEqDiff, Nat.reduceAdd, Nat.reduceMul, Nat.reduceLeDiff, Nat.reduceSub, Int.reduceToNat, Int.reduceNeg, Nat.reduceBEq, h0, h1, h2, TY, Nat.add_assoc, Nat.left_eq_add, Nat.add_eq_left, Nat.add_left_cancel_iff] at hx
    subst hx
    refine ⟨_, _, rfl, by first | trivial | omega | (simp only [and_true, true_and]; omega), ?_⟩
    refine at_ret ?_
    refine ret_endK (by simp only [RN, ↓reduceIte, ↓get8, reduceCtorEq, Nat.reduceLT, Nat.reduceEqDiff, Nat.reduceAdd, Nat.reduceMul, Nat.reduceLeDiff, Nat.reduceSub, Int.reduceToNat, Int.reduceNeg, Nat.reduceBEq]; rfl) rfl trivial ?_
    refine ⟨[], fun _ _ h => (by cases h), ?_, rfl, Nat.le_add_right _ _⟩
    simp [h0, h1, h2]
  cases h3 : decide (k.c2 ≤ 262144)
  case false =>
    skip
    refine JS_go (tbOk _) 99 fun x hx => ?_
    simp only [RN, ↓reduceIte, ↓get8, reduceCtorEq, Nat.reduceLT, Nat.reduceEqDiff, Nat.reduceAdd, Nat.reduceMul, Nat.reduceLeDiff, Nat.reduceSub, Int.reduceToNat, Int.reduceNeg, Nat.reduceBEq, h0, h1, h2, h3, TY, Nat.add_assoc, Nat.left_eq_add, Nat.add_eq_left, Nat.add_left_cancel_iff] at hx
    subst hx
    refine ⟨_, _, rfl, by first | trivial | omega | (simp only [and_true, true_and]; omega), ?_⟩
    refine at_ret ?_
    refine ret_endK (by simp only [RN, ↓reduceIte, ↓get8, reduceCtorEq, Nat.reduceLT, Nat.reduceEqDiff, Nat.reduceAdd, Nat.reduceMul, Nat.reduceLeDiff, Nat.reduceSub, Int.reduceToNat, Int.reduceNeg, Nat.reduceBEq]; rfl) rfl trivial ?_
    refine ⟨[], fun _ _ h => (by cases h), ?_, rfl, Nat.le_add_right _ _⟩
    simp [h0, h1, h2, h3]
  refine JS_go (tbOk _) 99 fun x hx => ?_
  simp only [RN, ↓reduceIte, ↓get8, reduceCtorEq, Nat.reduceLT, Nat.reduceEqDiff, Nat.reduceAdd, Nat.reduceMul, Nat.reduceLeDiff, Nat.reduceSub, Int.reduceToNat, Int.reduceNeg, Nat.reduceBEq, h0, h1, h2, h3, TY, Nat.add_assoc, Nat.left_eq_add, Nat.add_eq_left, Nat.add_left_cancel_iff] at hx
  subst hx
  refine ⟨_, _, rfl, by first | trivial | omega | (simp only [and_true, true_and]; omega), ?_⟩
  refine at_callK (in_c k.c3 1 255 (nx + 1)) (by simp only [RN, ↓reduceIte, ↓get8, reduceCtorEq, Nat.reduceLT, Nat.reduceEqDiff, Nat.reduceAdd, Nat.reduceMul, Nat.reduceLeDiff, Nat.reduceSub, Int.reduceToNat, Int.reduceNeg, Nat.reduceBEq, Nat.add_assoc, Nat.left_eq_add, Nat.add_eq_left, Nat.add_left_cancel_iff]; first | done | trivial) (by simp only [RN, ↓reduceIte, ↓get8, reduceCtorEq, Nat.reduceLT, Nat.reduceEqDiff, Nat.reduceAdd, Nat.reduceMul, Nat.reduceLeDiff, Nat.reduceSub, Int.reduceToNat, Int.reduceNeg, Nat.reduceBEq, Nat.add_assoc, Nat.left_eq_add, Nat.add_eq_left, Nat.add_left_cancel_iff]; rfl) ?_
  cases h4 : btw 1 255 [k.c3]
  case false =>
    skip
    refine JS_go (tbOk _) 99 fun x hx => ?_
    simp only [RN, ↓reduceIte, ↓get8, reduceCtorEq, Nat.reduceLT, Nat.reduceEqDiff, Nat.reduceAdd, Nat.reduceMul, Nat.reduceLeDiff, Nat.reduceSub, Int.reduceToNat, Int.reduceNeg, Nat.reduceBEq, h0, h1, h2, h3, h4, TY, Nat.add_assoc, Nat.left_eq_add, Nat.add_eq_left, Nat.add_left_cancel_iff] at hx
    subst hx
    refine ⟨_, _, rfl, by first | trivial | omega | (simp only [and_true, true_and]; omega), ?_⟩
    refine at_ret ?_
    refine ret_endK (by simp only [RN, ↓reduceIte, ↓get8, reduceCtorEq, Nat.reduceLT, Nat.reduceEqDiff, Nat.reduceAdd, Nat.reduceMul, Nat.reduceLeDiff, Nat.reduceSub, Int.reduceToNat, Int.reduceNeg, Nat.reduceBEq]; rfl) rfl trivial ?_
    refine ⟨[], fun _ _ h => (by cases h), ?_, rfl, Nat.le_add_right _ _⟩
    simp [h0, h1, h2, h3, h4]
  refine JS_go (tbOk _) 99 fun x hx => ?_
  simp only [RN, ↓reduceIte, ↓get8, reduceCtorEq, Nat.reduceLT, Nat.reduceEqDiff, Nat.reduceAdd, Nat.reduceMul, Nat.reduceLeDiff, Nat.reduceSub, Int.reduceToNat, Int.reduceNeg, Nat.reduceBEq, h0, h1, h2, h3, h4, TY, Nat.add_assoc, Nat.left_eq_add, Nat.add_eq_left, Nat.add_left_cancel_iff] at hx
  subst hx
  refine ⟨_, _, rfl, by first | trivial | omega | (simp only [and_true, true_and]; omega), ?_⟩
  refine at_callK (in_c k.c4 0 8 (nx + 1)) (by simp only [RN, ↓reduceIte, ↓get8, reduceCtorEq, Nat.reduceLT, Nat.reduceEqDiff, Nat.reduceAdd, Nat.reduceMul, Nat.reduceLeDiff, Nat.reduceSub, Int.reduceToNat, Int.reduceNeg, Nat.reduceBEq, Nat.add_assoc, Nat.left_eq_add, Nat.add_eq_left, Nat.add_left_cancel_iff]; first | done | trivial) (by simp only [RN, ↓reduceIte, ↓get8, reduceCtorEq, Nat.reduceLT, Nat.reduceEqDiff, Nat.reduceAdd, Nat.reduceMul, Nat.reduceLeDiff, Nat.reduceSub, Int.reduceToNat, Int.reduceNeg, Nat.reduceBEq, Nat.add_assoc, Nat.left_eq_add, Nat.add_eq_left, Nat.add_left_cancel_iff]; rfl) ?_
  cases h5 : btw 0 8 [k.c4]
  case false =>
    skip
    refine JS_go (tbOk _) 99 fun x hx => ?_
    simp only [RN, ↓reduceIte, ↓get8, reduceCtorEq, Nat.reduceLT, Nat.reduceEqDiff, Nat.reduceAdd, Nat.reduceMul, Nat.reduceLeDiff, Nat.reduceSub, Int.reduceToNat, Int.reduceNeg, Nat.reduceBEq, h0, h1, h2, h3, h4, h5, TY, Nat.add_assoc, Nat.left_eq_add, Nat.add_eq_left, Nat.add_left_cancel_iff] at hx
    subst hx
    refine ⟨_, _, rfl, by first | trivial | omega | (simp only [and_true, true_and]; omega), ?_⟩
    refine at_ret ?_
    refine ret_endK (by simp only [RN, ↓reduceIte, ↓get8, reduceCtorEq, Nat.reduceLT, Nat.reduceEqDiff, Nat.reduceAdd, Nat.reduceMul, Nat.reduceLeDiff, Nat.reduceSub, Int.reduceToNat, Int.reduceNeg, Nat.reduceBEq]; rfl) rfl trivial ?_
    refine ⟨[], fun _ _ h => (by cases h), ?_, rfl, Nat.le_add_right _ _⟩
    simp [h0, h1, h2, h3, h4, h5]
  refine JS_go (tbOk _) 99 fun x hx => ?_
  simp only [RN, ↓reduceIte, ↓get8, reduceCtorEq, Nat.reduceLT, Nat.reduceEqDiff, Nat.reduceAdd, Nat.reduceMul, Nat.reduceLeDiff, Nat.reduceSub, Int.reduceToNat, Int.reduceNeg, Nat.reduceBEq, h0, h1, h2, h3, h4, h5, TY, Nat.add_assoc, Nat.left_eq_add, Nat.add_eq_left, Nat.add_left_cancel_iff] at hx
  subst hx
  refine ⟨_, _, rfl, by first | trivial | omega | (simp only [and_true, true_and]; omega), ?_⟩
  refine at_ret ?_
  refine ret_endK (by simp only [RN, ↓reduceIte, ↓get8, reduceCtorEq, Nat.reduceLT, Nat.reduceEqDiff, Nat.reduceAdd, Nat.reduceMul, Nat.reduceLeDiff, Nat.reduceSub, Int.reduceToNat, Int.reduceNeg, Nat.reduceBEq]; rfl) rfl trivial ?_
  refine ⟨[], fun _ _ h => (by cases h), ?_, rfl, Nat.le_add_right _ _⟩
  simp [h0, h1, h2, h3, h4, h5]
end Go.Proofs.Ytoihmanhldcjhaa.Id
namespace Go.Proofs.Ytoihmanhldcjhaa.Id
open Go Go.Proofs.Ytoihmanhldcjhaa.Rl
set_option linter.unusedSimpArgs false
set_option linter.unusedVariables false
set_option maxRecDepth 100000 in
theorem refcheck_c (B : Bk) (nx : Nat) (g : B.Good nx) :
    CallW Try.prog 12 [B.val] B.H nx
      fun o F' nx' => o = .ret (.tuple #[.int .i64 (checkB B.ks B.ws).1, .int .i64 (checkB B.ks B.ws).2]) ∧ F' = B.H ∧ nx ≤ nx' := by
  have l1 := g.l1
  have l2 := g.l2
  have t1 := g.t1
  have t2 := g.t2
  have t3 := g.t3
  rcases B with ⟨ks, kx, ws, wx, ok, kc, ow, wc, ro, loose⟩
  obtain ⟨hk, hw, hkl, hwl, hkn, hwn, hkw⟩ := g
  unfold Bk.val
  obtain ⟨T0, hT0⟩ : ∃ T0, Bk.H ⟨ks, kx, ws, wx, ok, kc, ow, wc, ro, loose⟩ = T0 := ⟨_, rfl⟩
  rw [hT0] at t1 t2 t3 ⊢
  dsimp only at l1 l2 t1 t2 t3 hk hw hkl hwl hkn hwn hkw ⊢
  have t4 : ∀ i, remN [nx + i] T0 = T0 := fun i => remN_far nx i t1
  have t5 : ∀ id b, look id T0 = some b → (¬ id = nx) ∧ ∀ i, ¬ id = nx + i := by
    intro id b h
    have hm := look_mem h
    obtain ⟨e, he, rfl⟩ := List.mem_map.1 hm
    have := t1 e he
    exact ⟨by omega, fun i => by omega⟩
  have hbt : btw 1 16 [(ks.length : Int)] = (!(decide ((ks.length : Int) < 1) || decide ((ks.length : Int) > 16))) := by
    rw [btw1, Bool.eq_iff_iff]; simp only [Bool.not_eq_true', Bool.or_eq_false_iff, decide_eq_true_eq, decide_eq_false_iff_not]; omega
  refine CallW_go (tbOk _) 59 [.tmp 2, .tmp 3] Try.func12 rfl (by decide) rfl rfl (by simp) fun hlt => ?_
  simp only [params, Nat.zero_add, Nat.reduceAdd]
  cases h0 : decide ((ks.length : Int) < 1)
  case true =>
    skip
    refine JS_go (tbOk _) 99 fun x hx => ?_
    simp only [RN, ↓reduceIte, ↓get8, reduceCtorEq, Nat.reduceLT, Nat.reduceEqDiff, Nat.reduceAdd, Nat.reduceMul, Nat.reduceLeDiff, Nat.reduceSub, Int.reduceToNat, Int.reduceNeg, Nat.reduceBEq, h0, TY, ↓l1, ↓l2, Nat.add_assoc, Nat.left_eq_add, Nat.add_eq_left, Nat.add_left_cancel_iff] at hx
    subst hx
    refine ⟨_, _, rfl, by first | trivial | omega | (simp only [and_true, true_and]; omega), ?_⟩
    refine at_cond (fun _ => ?_) (fun h => nomatch h)
    refine JS_go (tbOk _) 99 fun x hx => ?_
    simp only [RN, ↓reduceIte, ↓get8, reduceCtorEq, Nat.reduceLT, Nat.reduceEqDiff, Nat.reduceAdd, Nat.reduceMul, Nat.reduceLeDiff, Nat.reduceSub, Int.reduceToNat, Int.reduceNeg, Nat.reduceBEq, h0, TY] at hx
    subst hx
    refine ⟨_, _, rfl, by first | trivial | omega | (simp only [and_true, true_and]; omega), ?_⟩
    refine at_ret ?_
    refine ret_endK (by simp only [RN, ↓reduceIte, ↓get8, reduceCtorEq, Nat.reduceLT, Nat.reduceEqDiff, Nat.reduceAdd, Nat.reduceMul, Nat.reduceLeDiff, Nat.reduceSub, Int.reduceToNat, Int.reduceNeg, Nat.reduceBEq]; rfl) rfl trivial ⟨T0, ?_, ?_, rfl, Nat.le_add_right _ _⟩
    · intro id b h
      obtain ⟨i1, i2⟩ := t5 id b h
      simp only [RN, ↓reduceIte, ↓get8, reduceCtorEq, Nat.reduceLT, Nat.reduceEqDiff, Nat.reduceAdd, Nat.reduceMul, Nat.reduceLeDiff, Nat.reduceSub, Int.reduceToNat, Int.reduceNeg, Nat.reduceBEq, i1, i2, h]
    · unfold checkB; simp [h0, hbt]
  cases h1 : decide ((ks.length : Int) > 16)
  case true =>
    skip
    refine JS_go (tbOk _) 99 fun x hx => ?_
    simp only [RN, ↓reduceIte, ↓get8, reduceCtorEq, Nat.reduceLT, Nat.reduceEqDiff, Nat.reduceAdd, Nat.reduceMul, Nat.reduceLeDiff, Nat.reduceSub, Int.reduceToNat, Int.reduceNeg, Nat.reduceBEq, h0, h1, TY, ↓l1, ↓l2, Nat.add_assoc, Nat.left_eq_add, Nat.add_eq_left, Nat.add_left_cancel_iff] at hx
    subst hx
    refine ⟨_, _, rfl, by first | trivial | omega | (simp only [and_true, true_and]; omega), ?_⟩
    refine at_cond (fun _ => ?_) (fun h => nomatch h)
    refine JS_go (tbOk _) 99 fun x hx => ?_
    simp only [RN, ↓reduceIte, ↓get8, reduceCtorEq, Nat.reduceLT, Nat.reduceEqDiff, Nat.reduceAdd, Nat.reduceMul, Nat.reduceLeDiff, Nat.reduceSub, Int.reduceToNat, Int.reduceNeg, Nat.reduceBEq, h0, TY] at hx
    subst hx
    refine ⟨_, _, rfl, by first | trivial | omega | (simp only [and_true, true_and]; omega), ?_⟩
    refine at_ret ?_
    refine ret_endK (by simp only [RN, ↓reduceIte, ↓get8, reduceCtorEq, Nat.reduceLT, Nat.reduceEqDiff, Nat.reduceAdd, Nat.reduceMul, Nat.reduceLeDiff, Nat.reduceSub, Int.reduceToNat, Int.reduceNeg, Nat.reduceBEq]; rfl) rfl trivial ⟨T0, ?_, ?_, rfl, Nat.le_add_right _ _⟩
    · intro id b h
      obtain ⟨i1, i2⟩ := t5 id b h
      simp only [RN, ↓reduceIte, ↓get8, reduceCtorEq, Nat.reduceLT, Nat.reduceEqDiff, Nat.reduceAdd, Nat.reduceMul, Nat.reduceLeDiff, Nat.reduceSub, Int.reduceToNat, Int.reduceNeg, Nat.reduceBEq, i1, i2, h]
    · unfold checkB; rw [hbt, h0, h1]; rfl
  rw [h0, h1] at hbt
  cases h2 : decide ((ws.length : Int) > 16)
  case true =>
    skip
    refine JS_go (tbOk _) 99 fun x hx => ?_
    simp only [RN, ↓reduceIte, ↓get8, reduceCtorEq, Nat.reduceLT, Nat.reduceEqDiff, Nat.reduceAdd, Nat.reduceMul, Nat.reduceLeDiff, Nat.reduceSub, Int.reduceToNat, Int.reduceNeg, Nat.reduceBEq, h0, h1, h2, TY, ↓l1, ↓l2, Nat.add_assoc, Nat.left_eq_add, Nat.add_eq_left, Nat.add_left_cancel_iff] at hx
    subst hx
    refine ⟨_, _, rfl, by first | trivial | omega | (simp only [and_true, true_and]; omega), ?_⟩
    refine at_cond (fun _ => ?_) (fun h => nomatch h)
    refine JS_go (tbOk _) 99 fun x hx => ?_
    simp only [RN, ↓reduceIte, ↓get8, reduceCtorEq, Nat.reduceLT, Nat.reduceEqDiff, Nat.reduceAdd, Nat.reduceMul, Nat.reduceLeDiff, Nat.reduceSub, Int.reduceToNat, Int.reduceNeg, Nat.reduceBEq, h0, TY] at hx
    subst hx
    refine ⟨_, _, rfl, by first | trivial | omega | (simp only [and_true, true_and]; omega), ?_⟩
    refine at_ret ?_
    refine ret_endK (by simp only [RN, ↓reduceIte, ↓get8, reduceCtorEq, Nat.reduceLT, Nat.reduceEqDiff, Nat.reduceAdd, Nat.reduceMul, Nat.reduceLeDiff, Nat.reduceSub, Int.reduceToNat, Int.reduceNeg, Nat.reduceBEq]; rfl) rfl trivial ⟨T0, ?_, ?_, rfl, Nat.le_add_right _ _⟩
    · intro id b h
      obtain ⟨i1, i2⟩ := t5 id b h
      simp only [RN, ↓reduceIte, ↓get8, reduceCtorEq, Nat.reduceLT, Nat.reduceEqDiff, Nat.reduceAdd, Nat.reduceMul, Nat.reduceLeDiff, Nat.reduceSub, Int.reduceToNat, Int.reduceNeg, Nat.reduceBEq, i1, i2, h]
    · unfold checkB; rw [hbt, h2]; rfl
  refine JS_go (tbOk _) 99 fun x hx => ?_
  simp only [RN, ↓reduceIte, ↓get8, reduceCtorEq, Nat.reduceLT, Nat.reduceEqDiff, Nat.reduceAdd, Nat.reduceMul, Nat.reduceLeDiff, Nat.reduceSub, Int.reduceToNat, Int.reduceNeg, Nat.reduceBEq, h0, h1, h2, TY, ↓l1, ↓l2, Nat.add_assoc, Nat.left_eq_add, Nat.add_eq_left, Nat.add_left_cancel_iff] at hx
  subst hx
  refine ⟨_, _, rfl, by first | trivial | omega | (simp only [and_true, true_and]; omega), ?_⟩
  refine at_cond (fun h => nomatch h) (fun _ => ?_)
  refine JS_go (tbOk _) 99 fun x hx => ?_
  simp only [RN, ↓reduceIte, ↓get8, reduceCtorEq, Nat.reduceLT, Nat.reduceEqDiff, Nat.reduceAdd, Nat.reduceMul, Nat.reduceLeDiff, Nat.reduceSub, Int.reduceToNat, Int.reduceNeg, Nat.reduceBEq, h0, TY] at hx
  subst hx
  refine ⟨_, _, rfl, by first | trivial | omega | (simp only [and_true, true_and]; omega), ?_⟩
  refine at_loop ?_
  refine JS_loopI (S := fun x : Nat × Nat => { n := 59, fr := [(4, Value.int IntKind.i64 x.1), (1, .pointer (some ⟨nx, 0, none⟩))], F := (nx, ⟨[slv ok ks.length kc, slv ow ws.length wc], 26, 2, false, false⟩) :: T0, nx := x.2, ds := [] })
    (fun p => p.1 ≤ ks.length ∧ nx + 1 ≤ p.2 ∧ (ks.take p.1).findIdx? (fun k => !kindB k ws.length) = none) (fun x => ks.length - x.1) (0, nx + 1) ⟨Nat.zero_le _, Nat.le_refl _, rfl⟩ ?_ ?_
  · exact ⟨rfl, leL_look (by simp only [RN, ↓reduceIte, ↓get8, reduceCtorEq, Nat.reduceLT, Nat.reduceEqDiff, Nat.reduceAdd, Nat.reduceMul, Nat.reduceLeDiff, Nat.reduceSub, Int.reduceToNat, Int.reduceNeg, Nat.reduceBEq]; first | done | trivial), fun id b h => h, Nat.le_refl _, rfl⟩
  rintro ⟨j, m⟩ ⟨hj, hm, hall⟩
  dsimp only at hj hm hall ⊢
  refine JS_go (tbOk _) 99 fun x hx => ?_
  simp only [RN, ↓reduceIte, ↓get8, reduceCtorEq, Nat.reduceLT, Nat.reduceEqDiff, Nat.reduceAdd, Nat.reduceMul, Nat.reduceLeDiff, Nat.reduceSub, Int.reduceToNat, Int.reduceNeg, Nat.reduceBEq, TY, ↓l1] at hx
  subst hx
  refine ⟨_, _, rfl, by first | trivial | omega | (simp only [and_true, true_and]; omega), ?_⟩
  refine at_cond (fun hlt2 => ?_) (fun hge => ?_)
  · have hlt3 : j < ks.length := by simpa using hlt2
    obtain ⟨b, hb⟩ : ∃ b, ok = some b := by
      cases ok with
      | none => rw [hk rfl] at hlt3; exact absurd hlt3 (by simp)
      | some b => exact ⟨b, rfl⟩
    have hbn := hkn b hb
    have lb := t2 b hb
    have hs : slv ok ks.length kc = .slice (some ⟨b, 0, none⟩) ks.length kc := by rw [hb]; rfl
    have g0 : ¬ b = nx := by omega
    have g1 : ¬ b = m := by omega
    have g2 : ∀ i, ¬ b = m + i := by intro i; omega
    have g3 : ¬ nx = m := by omega
    have g4 : ∀ i, ¬ nx = m + i := by intro i; omega
    have g5 : ¬ m = nx := by omega
    have g6 : ¬ m = b := by omega
    have kg := kcells_get (ks := ks ++ kx) (j := j) (by simp; omega)
    rw [List.getElem_append_left hlt3] at kg
    have kl := kcells_len (ks ++ kx)
    rw [List.length_append] at kl
    have hK := refkind_c ks[j] ws.length m (by omega) (by omega)
    refine JS_go (tbOk _) 99 fun x hx => ?_
    simp only [RN, ↓reduceIte, ↓get8, reduceCtorEq, Nat.reduceLT, Nat.reduceEqDiff, Nat.reduceAdd, Nat.reduceMul, Nat.reduceLeDiff, Nat.reduceSub, Int.reduceToNat, Int.reduceNeg, Nat.reduceBEq, TY] at hx
    subst hx
    refine ⟨_, _, rfl, by first | trivial | omega | (simp only [and_true, true_and]; omega), ?_⟩
    rw [CRJ]
    refine JS_draw (tbOk _) { wr := [(29, 0), (30, 1), (31, 2), (32, 3), (33, 4), (34, 5), (35, 6), (36, 7), (37, 8), (38, 9)], anc := [[], [0], [], [0, 1, 2], [0, 1, 2, 3], [], [5], [5, 6], [0, 1, 2, 3, 4, 5, 6, 7], [0, 1, 2, 3, 4, 5, 6, 7, 8]], ch := [(8, [])], ac := [[0, 1, 2, 3, 4, 5, 6, 7], [9]], nw := [[0, 1, 2, 3, 4, 5, 6, 7], [9]], fl := [[], []] } (by kernel_rfl) (by kernel_rfl) (by kernel_rfl) (by kernel_rfl) ?_
    refine JS_go (tbOk _) 99 fun x hx => ?_
    simp only [RN, ↓reduceIte, ↓get8, reduceCtorEq, Nat.reduceLT, Nat.reduceEqDiff, Nat.reduceAdd, Nat.reduceMul, Nat.reduceLeDiff, Nat.reduceSub, Int.reduceToNat, Int.reduceNeg, Nat.reduceBEq, TY, hs, lb, kg, kl, Kd.cells, ↓l2, g0, g1, g2, g3, g4, g5, g6, Nat.add_assoc, Nat.left_eq_add, Nat.add_eq_left, Nat.add_left_cancel_iff] at hx
    subst hx
    refine ⟨_, _, rfl, by first | trivial | omega | (simp only [and_true, true_and]; omega), ?_⟩
    refine at_dcallG hK (by simp only [RN, ↓reduceIte, ↓get8, reduceCtorEq, Nat.reduceLT, Nat.reduceEqDiff, Nat.reduceAdd, Nat.reduceMul, Nat.reduceLeDiff, Nat.reduceSub, Int.reduceToNat, Int.reduceNeg, Nat.reduceBEq]; first | done | trivial) ?_
    rintro o L' n ⟨rfl, rfl, hn⟩
    cases hkb : kindB ks[j] ws.length
    case true =>
      skip
      have hw3 : IntKind.i64.wrap ((j : Int) + 1) = ((j + 1 : Nat) : Int) := wrap_i64 (j + 1) (by omega)
      refine JS_go (tbOk _) 99 fun x hx => ?_
      simp only [RN, ↓reduceIte, ↓get8, reduceCtorEq, Nat.reduceLT, Nat.reduceEqDiff, Nat.reduceAdd, Nat.reduceMul, Nat.reduceLeDiff, Nat.reduceSub, Int.reduceToNat, Int.reduceNeg, Nat.reduceBEq, hkb, TY] at hx
      subst hx
      refine ⟨_, _, rfl, by first | trivial | omega | (simp only [and_true, true_and]; omega), ?_⟩
      refine at_cond (fun h => nomatch h) (fun _ => ?_)
      refine JS_go (tbOk _) 99 fun x hx => ?_
      simp only [RN, ↓reduceIte, ↓get8, reduceCtorEq, Nat.reduceLT, Nat.reduceEqDiff, Nat.reduceAdd, Nat.reduceMul, Nat.reduceLeDiff, Nat.reduceSub, Int.reduceToNat, Int.reduceNeg, Nat.reduceBEq, TY, hw3] at hx
      subst hx
      refine ⟨_, _, rfl, by first | trivial | omega | (simp only [and_true, true_and]; omega), ?_⟩
      refine at_done (in_nextI (j + 1, n) ⟨hlt3, by show nx + 1 ≤ n; omega, ?_⟩ (by show ks.length - (j + 1) < ks.length - j; omega) ?_)
      · rw [List.take_succ_eq_append_getElem hlt3, List.findIdx?_append, hall]; simp [hkb]
      · exact ⟨rfl, leL_look (by simp only [RN, ↓reduceIte, ↓get8, reduceCtorEq, Nat.reduceLT, Nat.reduceEqDiff, Nat.reduceAdd, Nat.reduceMul, Nat.reduceLeDiff, Nat.reduceSub, Int.reduceToNat, Int.reduceNeg, Nat.reduceBEq, hs]; first | done | trivial), fun id b h => by simpa only [RN, ↓reduceIte, ↓get8, reduceCtorEq, Nat.reduceLT, Nat.reduceEqDiff, Nat.reduceAdd, Nat.reduceMul, Nat.reduceLeDiff, Nat.reduceSub, Int.reduceToNat, Int.reduceNeg, Nat.reduceBEq, hs] using h, Nat.le_refl _, rfl⟩
    case false =>
      skip
      refine JS_go (tbOk _) 99 fun x hx => ?_
      simp only [RN, ↓reduceIte, ↓get8, reduceCtorEq, Nat.reduceLT, Nat.reduceEqDiff, Nat.reduceAdd, Nat.reduceMul, Nat.reduceLeDiff, Nat.reduceSub, Int.reduceToNat, Int.reduceNeg, Nat.reduceBEq, hkb, TY] at hx
      subst hx
      refine ⟨_, _, rfl, by first | trivial | omega | (simp only [and_true, true_and]; omega), ?_⟩
      refine at_cond (fun _ => ?_) (fun h => nomatch h)
      refine JS_go (tbOk _) 99 fun x hx => ?_
      simp only [RN, ↓reduceIte, ↓get8, reduceCtorEq, Nat.reduceLT, Nat.reduceEqDiff, Nat.reduceAdd, Nat.reduceMul, Nat.reduceLeDiff, Nat.reduceSub, Int.reduceToNat, Int.reduceNeg, Nat.reduceBEq, TY] at hx
      subst hx
      refine ⟨_, _, rfl, by first | trivial | omega | (simp only [and_true, true_and]; omega), ?_⟩
      refine at_ret (in_retI ?_)
      refine ret_endK (by simp only [RN, ↓reduceIte, ↓get8, reduceCtorEq, Nat.reduceLT, Nat.reduceEqDiff, Nat.reduceAdd, Nat.reduceMul, Nat.reduceLeDiff, Nat.reduceSub, Int.reduceToNat, Int.reduceNeg, Nat.reduceBEq]; rfl) rfl trivial ⟨T0, ?_, ?_, rfl, by show nx ≤ n; omega⟩
      · intro id b h
        obtain ⟨i1, i2⟩ := t5 id b h
        simp only [RN, ↓reduceIte, ↓get8, reduceCtorEq, Nat.reduceLT, Nat.reduceEqDiff, Nat.reduceAdd, Nat.reduceMul, Nat.reduceLeDiff, Nat.reduceSub, Int.reduceToNat, Int.reduceNeg, Nat.reduceBEq, i1, i2, h]
      · have hf : ks.findIdx? (fun k => !kindB k ws.length) = some j := by
          rw [List.findIdx?_eq_some_iff_getElem]
          refine ⟨hlt3, by simp [hkb], fun i hi => ?_⟩
          rw [List.findIdx?_eq_none_iff] at hall
          have := hall (ks[i]) (List.mem_take_iff_getElem.2 ⟨i, by omega, rfl⟩)
          simpa using this
        unfold checkB; simp only [hbt, h2, hf]; rfl
  · have hj2 : j = ks.length := by simp at hge; omega
    subst hj2
    rw [List.take_length] at hall
    refine JS_go (tbOk _) 99 fun x hx => ?_
    simp only [RN, ↓reduceIte, ↓get8, reduceCtorEq, Nat.reduceLT, Nat.reduceEqDiff, Nat.reduceAdd, Nat.reduceMul, Nat.reduceLeDiff, Nat.reduceSub, Int.reduceToNat, Int.reduceNeg, Nat.reduceBEq, TY] at hx
    subst hx
    refine ⟨_, _, rfl, by first | trivial | omega | (simp only [and_true, true_and]; omega), ?_⟩
    refine at_exit (in_exitI (by simp only [RN, ↓reduceIte, ↓get8, reduceCtorEq, Nat.reduceLT, Nat.reduceEqDiff, Nat.reduceAdd, Nat.reduceMul, Nat.reduceLeDiff, Nat.reduceSub, Int.reduceToNat, Int.reduceNeg, Nat.reduceBEq]; rfl) ?_)
    refine JS_go (tbOk _) 99 fun x hx => ?_
    simp only [RN, ↓reduceIte, ↓get8, reduceCtorEq, Nat.reduceLT, Nat.reduceEqDiff, Nat.reduceAdd, Nat.reduceMul, Nat.reduceLeDiff, Nat.reduceSub, Int.reduceToNat, Int.reduceNeg, Nat.reduceBEq, TY] at hx
    subst hx
    refine ⟨_, _, rfl, by first | trivial | omega | (simp only [and_true, true_and]; omega), ?_⟩
    refine at_loop ?_
    refine JS_loopI (S := fun x : Nat × Nat => { n := 59, fr := [(5, Value.int IntKind.i64 x.1), (1, .pointer (some ⟨nx, 0, none⟩))], F := (nx, ⟨[slv ok ks.length kc, slv ow ws.length wc], 26, 2, false, false⟩) :: T0, nx := x.2, ds := [] })
      (fun p => p.1 ≤ ws.length ∧ nx + 1 ≤ p.2 ∧ (ws.take p.1).findIdx? (fun k => !weaponB k) = none) (fun x => ws.length - x.1) (0, m) ⟨Nat.zero_le _, hm, rfl⟩ ?_ ?_
    · exact ⟨rfl, leL_look (by simp only [RN, ↓reduceIte, ↓get8, reduceCtorEq, Nat.reduceLT, Nat.reduceEqDiff, Nat.reduceAdd, Nat.reduceMul, Nat.reduceLeDiff, Nat.reduceSub, Int.reduceToNat, Int.reduceNeg, Nat.reduceBEq]; first | done | trivial), fun id b h => h, Nat.le_refl _, rfl⟩
    rintro ⟨j, n⟩ ⟨hj2, hn, hallw⟩
    dsimp only at hj2 hn hallw ⊢
    refine JS_go (tbOk _) 99 fun x hx => ?_
    simp only [RN, ↓reduceIte, ↓get8, reduceCtorEq, Nat.reduceLT, Nat.reduceEqDiff, Nat.reduceAdd, Nat.reduceMul, Nat.reduceLeDiff, Nat.reduceSub, Int.reduceToNat, Int.reduceNeg, Nat.reduceBEq, TY, ↓l2] at hx
    subst hx
    refine ⟨_, _, rfl, by first | trivial | omega | (simp only [and_true, true_and]; omega), ?_⟩
    refine at_cond (fun hlt2 => ?_) (fun hge => ?_)
    · have hlt3 : j < ws.length := by simpa using hlt2
      obtain ⟨b, hb⟩ : ∃ b, ow = some b := by
        cases ow with
        | none => rw [hw rfl] at hlt3; exact absurd hlt3 (by simp)
        | some b => exact ⟨b, rfl⟩
      have hbn := hwn b hb
      have lb := t3 b hb
      have hs : slv ow ws.length wc = .slice (some ⟨b, 0, none⟩) ws.length wc := by rw [hb]; rfl
      have g0 : ¬ b = nx := by omega
      have g1 : ¬ b = n := by omega
      have g2 : ∀ i, ¬ b = n + i := by intro i; omega
      have g3 : ¬ nx = n := by omega
      have g4 : ∀ i, ¬ nx = n + i := by intro i; omega
      have g5 : ¬ n = nx := by omega
      have g6 : ¬ n = b := by omega
      have kg := wcells_get (ws := ws ++ wx) (j := j) (by simp; omega)
      rw [List.getElem_append_left hlt3] at kg
      have kl := wcells_len (ws ++ wx)
      rw [List.length_append] at kl
      have hK := refweapon_c ws[j] n
      refine JS_go (tbOk _) 99 fun x hx => ?_
      simp only [RN, ↓reduceIte, ↓get8, reduceCtorEq, Nat.reduceLT, Nat.reduceEqDiff, Nat.reduceAdd, Nat.reduceMul, Nat.reduceLeDiff, Nat.reduceSub, Int.reduceToNat, Int.reduceNeg, Nat.reduceBEq, TY, hs, lb, kg, kl, Wp.cells, g0, g1, g2, g3, g4, g5, g6, Nat.add_assoc, Nat.left_eq_add, Nat.add_eq_left, Nat.add_left_cancel_iff] at hx
      subst hx
      refine ⟨_, _, rfl, by first | trivial | omega | (simp only [and_true, true_and]; omega), ?_⟩
      refine at_callG hK (by simp only [RN, ↓reduceIte, ↓get8, reduceCtorEq, Nat.reduceLT, Nat.reduceEqDiff, Nat.reduceAdd, Nat.reduceMul, Nat.reduceLeDiff, Nat.reduceSub, Int.reduceToNat, Int.reduceNeg, Nat.reduceBEq]; first | done | trivial) ?_
      rintro o L' n2 ⟨rfl, rfl, hn2⟩
      refine ⟨_, by simp only [RN, ↓reduceIte, ↓get8, reduceCtorEq, Nat.reduceLT, Nat.reduceEqDiff, Nat.reduceAdd, Nat.reduceMul, Nat.reduceLeDiff, Nat.reduceSub, Int.reduceToNat, Int.reduceNeg, Nat.reduceBEq]; rfl, ?_⟩
      cases hkb : weaponB ws[j]
      case true =>
        skip
        have hw3 : IntKind.i64.wrap ((j : Int) + 1) = ((j + 1 : Nat) : Int) := wrap_i64 (j + 1) (by omega)
        refine JS_go (tbOk _) 99 fun x hx => ?_
        simp only [RN, ↓reduceIte, ↓get8, reduceCtorEq, Nat.reduceLT, Nat.reduceEqDiff, Nat.reduceAdd, Nat.reduceMul, Nat.reduceLeDiff, Nat.reduceSub, Int.reduceToNat, Int.reduceNeg, Nat.reduceBEq, hkb, TY] at hx
        subst hx
        refine ⟨_, _, rfl, by first | trivial | omega | (simp only [and_true, true_and]; omega), ?_⟩
        refine at_cond (fun h => nomatch h) (fun _ => ?_)
        refine JS_go (tbOk _) 99 fun x hx => ?_
        simp only [RN, ↓reduceIte, ↓get8, reduceCtorEq, Nat.reduceLT, Nat.reduceEqDiff, Nat.reduceAdd, Nat.reduceMul, Nat.reduceLeDiff, Nat.reduceSub, Int.reduceToNat, Int.reduceNeg, Nat.reduceBEq, TY, hw3] at hx
        subst hx
        refine ⟨_, _, rfl, by first | trivial | omega | (simp only [and_true, true_and]; omega), ?_⟩
        refine at_done (in_nextI (j + 1, n2) ⟨hlt3, by show nx + 1 ≤ n2; omega, ?_⟩ (by show ws.length - (j + 1) < ws.length - j; omega) ?_)
        · rw [List.take_succ_eq_append_getElem hlt3, List.findIdx?_append, hallw]; simp [hkb]
        · exact ⟨rfl, leL_look (by simp only [RN, ↓reduceIte, ↓get8, reduceCtorEq, Nat.reduceLT, Nat.reduceEqDiff, Nat.reduceAdd, Nat.reduceMul, Nat.reduceLeDiff, Nat.reduceSub, Int.reduceToNat, Int.reduceNeg, Nat.reduceBEq, hs]; first | done | trivial), fun id b h => by simpa only [RN, ↓reduceIte, ↓get8, reduceCtorEq, Nat.reduceLT, Nat.reduceEqDiff, Nat.reduceAdd, Nat.reduceMul, Nat.reduceLeDiff, Nat.reduceSub, Int.reduceToNat, Int.reduceNeg, Nat.reduceBEq, hs] using h, Nat.le_refl _, rfl⟩
      case false =>
        skip
        have hwj : IntKind.i64.wrap ((ks.length : Int) + (j : Int)) = ((ks.length + j : Nat) : Int) := wrap_i64 (ks.length + j) (by omega)
        refine JS_go (tbOk _) 99 fun x hx => ?_
        simp only [RN, ↓reduceIte, ↓get8, reduceCtorEq, Nat.reduceLT, Nat.reduceEqDiff, Nat.reduceAdd, Nat.reduceMul, Nat.reduceLeDiff, Nat.reduceSub, Int.reduceToNat, Int.reduceNeg, Nat.reduceBEq, hkb, TY] at hx
        subst hx
        refine ⟨_, _, rfl, by first | trivial | omega | (simp only [and_true, true_and]; omega), ?_⟩
        refine at_cond (fun _ => ?_) (fun h => nomatch h)
        refine JS_go (tbOk _) 99 fun x hx => ?_
        simp only [RN, ↓reduceIte, ↓get8, reduceCtorEq, Nat.reduceLT, Nat.reduceEqDiff, Nat.reduceAdd, Nat.reduceMul, Nat.reduceLeDiff, Nat.reduceSub, Int.reduceToNat, Int.reduceNeg, Nat.reduceBEq, TY] at hx
        subst hx
        refine ⟨_, _, rfl, by first | trivial | omega | (simp only [and_true, true_and]; omega), ?_⟩
        rw [CRJ]
        refine JS_draw (tbOk _) { wr := [(54, 0), (55, 1), (56, 2), (57, 3), (58, 4), (2, 5), (3, 6)], anc := [[], [0], [0, 1], [], [0, 1, 2, 3], [], [0, 1, 2, 3, 4, 5]], ch := [], ac := [[0, 1, 2, 3, 4, 5, 6]], nw := [[0, 1, 2, 3, 4, 5, 6]], fl := [[]] } (by kernel_rfl) (by kernel_rfl) (by kernel_rfl) (by kernel_rfl) ?_
        refine JS_go (tbOk _) 99 fun x hx => ?_
        simp only [RN, ↓reduceIte, ↓get8, reduceCtorEq, Nat.reduceLT, Nat.reduceEqDiff, Nat.reduceAdd, Nat.reduceMul, Nat.reduceLeDiff, Nat.reduceSub, Int.reduceToNat, Int.reduceNeg, Nat.reduceBEq, TY, ↓l1, hwj, g3, g4, g5, g6, Nat.add_assoc, Nat.left_eq_add, Nat.add_eq_left, Nat.add_left_cancel_iff] at hx
        subst hx
        refine ⟨_, _, rfl, by first | trivial | omega | (simp only [and_true, true_and]; omega), ?_⟩
        refine at_ret (in_retI ?_)
        refine ret_endK (by simp only [RN, ↓reduceIte, ↓get8, reduceCtorEq, Nat.reduceLT, Nat.reduceEqDiff, Nat.reduceAdd, Nat.reduceMul, Nat.reduceLeDiff, Nat.reduceSub, Int.reduceToNat, Int.reduceNeg, Nat.reduceBEq]; rfl) rfl trivial ⟨T0, ?_, ?_, rfl, by show nx ≤ n2; omega⟩
        · intro id b h
          obtain ⟨i1, i2⟩ := t5 id b h
          simp only [RN, ↓reduceIte, ↓get8, reduceCtorEq, Nat.reduceLT, Nat.reduceEqDiff, Nat.reduceAdd, Nat.reduceMul, Nat.reduceLeDiff, Nat.reduceSub, Int.reduceToNat, Int.reduceNeg, Nat.reduceBEq, i1, i2, h]
        · have hf : ws.findIdx? (fun k => !weaponB k) = some j := by
            rw [List.findIdx?_eq_some_iff_getElem]
            refine ⟨hlt3, by simp [hkb], fun i hi => ?_⟩
            rw [List.findIdx?_eq_none_iff] at hallw
            have := hallw (ws[i]) (List.mem_take_iff_getElem.2 ⟨i, by omega, rfl⟩)
            simpa using this
          unfold checkB; simp only [hbt, h2, hall, hf]; rfl
    · have hj3 : j = ws.length := by simp at hge; omega
      subst hj3
      rw [List.take_length] at hallw
      refine JS_go (tbOk _) 99 fun x hx => ?_
      simp only [RN, ↓reduceIte, ↓get8, reduceCtorEq, Nat.reduceLT, Nat.reduceEqDiff, Nat.reduceAdd, Nat.reduceMul, Nat.reduceLeDiff, Nat.reduceSub, Int.reduceToNat, Int.reduceNeg, Nat.reduceBEq, TY] at hx
      subst hx
      refine ⟨_, _, rfl, by first | trivial | omega | (simp only [and_true, true_and]; omega), ?_⟩
      refine at_exit (in_exitI (by simp only [RN, ↓reduceIte, ↓get8, reduceCtorEq, Nat.reduceLT, Nat.reduceEqDiff, Nat.reduceAdd, Nat.reduceMul, Nat.reduceLeDiff, Nat.reduceSub, Int.reduceToNat, Int.reduceNeg, Nat.reduceBEq]; rfl) ?_)
      refine JS_go (tbOk _) 99 fun x hx => ?_
      simp only [RN, ↓reduceIte, ↓get8, reduceCtorEq, Nat.reduceLT, Nat.reduceEqDiff, Nat.reduceAdd, Nat.reduceMul, Nat.reduceLeDiff, Nat.reduceSub, Int.reduceToNat, Int.reduceNeg, Nat.reduceBEq, TY] at hx
      subst hx
      refine ⟨_, _, rfl, by first | trivial | omega | (simp only [and_true, true_and]; omega), ?_⟩
      refine at_ret ?_
      refine ret_endK (by simp only [RN, ↓reduceIte, ↓get8, reduceCtorEq, Nat.reduceLT, Nat.reduceEqDiff, Nat.reduceAdd, Nat.reduceMul, Nat.reduceLeDiff, Nat.reduceSub, Int.reduceToNat, Int.reduceNeg, Nat.reduceBEq]; rfl) rfl trivial ⟨T0, ?_, ?_, rfl, by show nx ≤ n; omega⟩
      · intro id b h
        obtain ⟨i1, i2⟩ := t5 id b h
        simp only [RN, ↓reduceIte, ↓get8, reduceCtorEq, Nat.reduceLT, Nat.reduceEqDiff, Nat.reduceAdd, Nat.reduceMul, Nat.reduceLeDiff, Nat.reduceSub, Int.reduceToNat, Int.reduceNeg, Nat.reduceBEq, i1, i2, h]
      · unfold checkB; simp only [hbt, h2, hall, hallw]; rfl
end Go.Proofs.Ytoihmanhldcjhaa.Id
namespace Go.Proofs.Ytoihmanhldcjhaa.Id
open Go Go.Proofs.Ytoihmanhldcjhaa.Rl
set_option linter.unusedSimpArgs false
set_option linter.unusedVariables false
structure Bk.G0 (B : Bk) (nx : Nat) : Prop where
  hk : B.ok = none → B.ks = []
  hw : B.ow = none → B.ws = []
  hkn : ∀ b, B.ok = some b → b < nx
  hwn : ∀ b, B.ow = some b → b < nx
  hkw : ∀ b c, B.ok = some b → B.ow = some c → ¬ c = b
  hkc : B.ks.length ≤ B.kc
  hwc : B.ws.length ≤ B.wc
theorem Bk.G0.mono {B : Bk} {nx nx' : Nat} (g : B.G0 nx) (h : nx ≤ nx') : B.G0 nx' :=
  ⟨g.hk, g.hw, fun b e => Nat.lt_of_lt_of_le (g.hkn b e) h, fun b e => Nat.lt_of_lt_of_le (g.hwn b e) h, g.hkw, g.hkc, g.hwc⟩
end Go.Proofs.Ytoihmanhldcjhaa.Id
namespace Go.Proofs.Ytoihmanhldcjhaa.Id
open Go Go.RowKit Go.ChangeShapes Go.WideShapes
set_option linter.unusedSimpArgs false
set_option linter.unusedVariables false
section
variable {H : Type} {enc : TypeId × Value → H} {W : World}
theorem slice_open {t e : TypeId} {α : Type} (f : α → List Value) (m : Nat) (hm : 0 < m) (hf : ∀ x, (f x).length = m) (hfl : ∀ x, (f x).all flat1 = true) (hf1 : ∀ x, (f x).all (·.oneCell') = true) (leaves : List Leaf) (hg : gleaves Try.prog 6 e = some leaves) (hC : Try.prog.cellsOf e = m)
    (ht : Try.prog.underlying t = some (.slice e)) (hrow : ∀ cs : List Value, gflatOk enc Try.prog W 0 (fun _ => true) true leaves cs → ∃ x, f x = cs) {z : Value} {fuel : Nat} {x : DataW H × List MemPlace}
    {b0 : Nat} (hok : Cell.okWide Try.prog W .any b0 t z) (h : DataW.trod enc Try.prog W 0 (fun _ => true) true fuel t [z] = some x) :
    z = .slice none 0 0 ∨ ∃ (p : Place) (len cap : Nat) (l : List α), len ≤ cap ∧ l.length = cap ∧ (∀ (mm : Mp) id, mm id = some p → VR mm (.slice (some ⟨id, 0, none⟩) len cap) z) ∧ ∀ (mm : Mp) el, BR mm ⟨l.flatMap f, el, m, true, false⟩ p W := by
  rcases Go.Deep.open_slice ht h with ⟨h1, _⟩ | ⟨a, len, cap, m1, n, D, Pl, h1, hb, hl, hmx, hmm, hx, hi⟩
  · simp only [List.cons.injEq, and_true] at h1
    exact .inl h1
  · simp only [List.cons.injEq, and_true] at h1
    subst h1
    right
    rw [if_pos rfl] at hmm
    subst hmm
    have hk : len ≤ m1 ∧ (m1 : Int) ≤ IntKind.i64.max ∧ W.has Try.prog .any b0 a e m1 := by
      unfold Cell.okWide at hok
      rw [ht] at hok
      dsimp only at hok
      unfold Cell.ok at hok
      rw [ht] at hok
      exact hok
    obtain ⟨_, hsp, row, cells, hsh, _⟩ := hk.2.2
    obtain ⟨b, off, spot⟩ := a
    dsimp only at hsp hsh
    subst hsp
    obtain ⟨rc, el, fz, hW⟩ : ∃ rc el fz, W.heap[b]? = some (.cells rc el fz) := by
      unfold World.shape? at hsh
      split at hsh
      · rename_i c el fz hc; exact ⟨c, el, fz, hc⟩
      · cases hsh
    have hrows : ∀ i, i < m1 → ∃ x : α, ∀ j v, (f x)[j]? = some v → rc[off + (i * m + j)]? = some v := by
      intro i him
      obtain ⟨cs, hcs, htr⟩ := hi i him
      rw [hC] at hcs
      obtain ⟨_, hcl, hat⟩ := World.cells?_some hcs
      obtain ⟨x, hx⟩ := hrow cs (gflat_open 6 _ _ hg _ _ _ (by rw [hC]; exact hcl) htr)
      refine ⟨x, fun j v hv => ?_⟩
      rw [hx] at hv
      have hj : j < m := by
        have := (List.getElem?_eq_some_iff.1 hv).1
        omega
      have h2 := hat j hj
      rw [hv, Go.Deep.add_add] at h2
      unfold World.cell? at h2
      have hb2 : ((⟨b, off, none⟩ : Addr).add (i * m + j)).block = b := by unfold Addr.add; split <;> rfl
      have ho2 : ((⟨b, off, none⟩ : Addr).add (i * m + j)).off = off + (i * m + j) := by
        unfold Addr.add; split
        · rename_i h0; rw [h0]; rfl
        · rfl
      have hs2 : ((⟨b, off, none⟩ : Addr).add (i * m + j)).spot = none := by unfold Addr.add; split <;> rfl
      rw [hb2, hW] at h2
      dsimp only at h2
      rw [hs2, ho2] at h2
      simpa using h2
    obtain ⟨l, hll, hlp⟩ := choose_list m1 hrows
    have hcell : ∀ (n : Nat) (v : Value), (l.flatMap f)[n]? = some v → rc[off + n]? = some v := by
      intro n v hv
      obtain ⟨g1, g2⟩ := flat_idx f m hm hf l n v hv
      have := hlp (n / m) g1 (n % m) v g2
      rwa [Nat.mul_comm, Nat.div_add_mod] at this
    have hlen : (l.flatMap f).length = m1 * m := by rw [flat_len f m hf, hll]
    have hall : (l.flatMap f).all (·.oneCell') = true := by
      rw [List.all_eq_true]
      intro v hv
      obtain ⟨x, _, hx⟩ := List.mem_flatMap.1 hv
      exact (List.all_eq_true.1 (hf1 x)) v hx
    have hvr : ∀ (mm : Mp) (n : Nat) (v : Value), (l.flatMap f)[n]? = some v → VR mm v v := by
      intro mm n v hv
      obtain ⟨x, _, hx⟩ := List.mem_flatMap.1 (List.mem_of_getElem? hv)
      exact VR.of_flat1 ((List.all_eq_true.1 (hfl x)) v hx)
    by_cases hc0 : m1 = 0
    · subst hc0
      have hl0 : len = 0 := by omega
      subst hl0
      have hnil : l = [] := List.eq_nil_of_length_eq_zero hll
      subst hnil
      refine ⟨⟨b, 0, rc.size, 0, m, false⟩, 0, 0, [], Nat.le_refl _, rfl, fun mm id hmi => .se 0 off hmi, fun mm el2 => ⟨rfl, rfl, rfl, Nat.zero_le _, rfl, rc, el, fz, hW, (Nat.zero_add _).symm, nofun, fun i v hv => by simp at hv⟩⟩
    · have hsize : off + m1 * m ≤ rc.size := by
        have hlast : m1 * m - 1 < (l.flatMap f).length := by rw [hlen]; have := Nat.mul_pos (Nat.pos_of_ne_zero hc0) hm; omega
        have := hcell _ _ (List.getElem?_eq_getElem hlast)
        have := (Array.getElem?_eq_some_iff.1 this).1
        omega
      refine ⟨⟨b, off, rc.size - off, m1 * m, m, false⟩, len, m1, l, hk.1, hll, fun mm id hmi => ?_, fun mm el2 => ⟨hlen.symm, rfl, rfl, by show m1 * m ≤ rc.size - off; omega, hall, rc, el, fz, hW, by show rc.size = off + (rc.size - off); omega, nofun, fun i v hv => ⟨v, hcell i v hv, hvr mm i v hv⟩⟩⟩
      exact VR.sl (p := ⟨b, off, rc.size - off, m1 * m, m, false⟩) 0 len m1 m1 hmi (.inl rfl) (by show 0 + m1 * m ≤ rc.size - off; omega) hk.1
theorem byte_row (cs : List Value) (h : gflatOk enc Try.prog W 0 (fun _ => true) true [.int .u8] cs) : ∃ b : UInt8, [Value.int .u8 b.toNat] = cs := by
  rcases cs with _ | ⟨u0, cs⟩
  · exact h.elim
  obtain ⟨⟨z0, rfl, w0⟩, h⟩ := h
  rcases cs with _ | ⟨v, cs⟩
  · have hb := bounds_u8 w0
    exact ⟨UInt8.ofNat z0.toNat, by
      have : ((UInt8.ofNat z0.toNat).toNat : Int) = z0 := by simp; omega
      rw [this]⟩
  · exact h.elim
end
end Go.Proofs.Ytoihmanhldcjhaa.Id
namespace Go.Proofs.Ytoihmanhldcjhaa.Id
open Go Go.RowKit Go.ChangeShapes Go.WideShapes
set_option linter.unusedSimpArgs false
set_option linter.unusedVariables false
structure Opened {α : Type} (f : α → List Value) (m : Nat) (W : World) (z : Value) (op : Option Place) (len cap : Nat) (l : List α) : Prop where
  hl : len ≤ cap
  no : op = none → len = 0 ∧ z = .slice none 0 0
  rows : ∀ p, op = some p → l.length = cap
  vr : ∀ p, op = some p → ∀ (mm : Mp) id, mm id = some p → VR mm (.slice (some ⟨id, 0, none⟩) len cap) z
  br : ∀ p, op = some p → ∀ (mm : Mp) el, BR mm ⟨l.flatMap f, el, m, true, false⟩ p W
section
variable {H : Type} {enc : TypeId × Value → H} {W : World}
theorem opened_of {α : Type} {f : α → List Value} {m : Nat} {z : Value} (h : z = .slice none 0 0 ∨ ∃ (p : Place) (len cap : Nat) (l : List α), len ≤ cap ∧ l.length = cap ∧ (∀ (mm : Mp) id, mm id = some p → VR mm (.slice (some ⟨id, 0, none⟩) len cap) z) ∧ ∀ (mm : Mp) el, BR mm ⟨l.flatMap f, el, m, true, false⟩ p W) :
    ∃ op len cap l, Opened f m W z op len cap l := by
  rcases h with h | ⟨p, len, cap, l, h1, h2, h3, h4⟩
  · exact ⟨none, 0, 0, [], Nat.le_refl _, fun _ => ⟨rfl, h⟩, nofun, nofun, nofun⟩
  · exact ⟨some p, len, cap, l, h1, nofun, fun q hq => h2, fun q hq => by cases hq; exact h3, fun q hq => by cases hq; exact h4⟩
theorem open_bytes {z : Value} {b0 fuel : Nat} {x : DataW H × List MemPlace} (hok : Cell.okWide Try.prog W .any b0 34 z) (h : DataW.trod enc Try.prog W 0 (fun _ => true) true fuel 34 [z] = some x) : ∃ op len cap l, Opened (fun b : UInt8 => [Value.int .u8 b.toNat]) 1 W z op len cap l :=
  opened_of (slice_open (fun b : UInt8 => [Value.int .u8 b.toNat]) 1 (by omega) (fun _ => rfl) (fun _ => rfl) (fun _ => rfl) _ (by kernel_rfl) (by kernel_rfl) Try.underlying34 byte_row hok h)
end
section
variable {W : World} {z0 z1 : Value} {ok ow : Option Place} {lenk capk lenw capw : Nat} {lk : List Kd} {lw : List Wp} (hk : Opened Kd.cells 20 W z0 ok lenk capk lk) (hw : Opened Wp.cells 6 W z1 ow lenw capw lw)
include hk hw
end
end Go.Proofs.Ytoihmanhldcjhaa.Id
namespace Go.Proofs.Ytoihmanhldcjhaa.Id
open Go Go.Proofs.Ytoihmanhldcjhaa.Rl
set_option linter.unusedSimpArgs false
set_option linter.unusedVariables false
theorem u64w (n : Nat) (h : n < 18446744073709551616) : IntKind.u64.wrap (n : Int) = n := by simp [IntKind.wrap, IntKind.bits, IntKind.signed]; omega
set_option maxRecDepth 100000 in
theorem refnum_c (bs : List UInt8) (ln cp : Nat) (at_ size : Nat) (q : Nat) (nx : Nat) (ro loose : Bool) (hs : size ≤ 8) (ha : at_ + size ≤ ln) (hl : ln ≤ bs.length ∧ ln ≤ 1000000) :
    CallW Try.prog 35 [.slice (some ⟨q, 0, none⟩) ln cp, .int .i64 (at_ : Int), .int .i64 (size : Int)] [(q, ⟨bys bs, 5, 1, ro, loose⟩)] nx (Ret (.int .u64 (le ((bs.drop at_).take size))) [(q, ⟨bys bs, 5, 1, ro, loose⟩)] nx) := by
  refine CallW_go (tbOk _) 26 [.tmp 6] Try.func35 rfl (by decide) rfl rfl (by simp) fun hlt => ?_
  simp only [params, Nat.zero_add, Nat.reduceAdd]
  have hw0 : IntKind.i64.wrap ((size : Int) - 1) = (size : Int) - 1 := by simp [IntKind.wrap, IntKind.bits, IntKind.signed]; omega
  refine JS_go (tbOk _) 99 fun x hx => ?_
  simp only [RN, ↓reduceIte, ↓get8, reduceCtorEq, Nat.reduceLT, Nat.reduceEqDiff, Nat.reduceAdd, Nat.reduceMul, Nat.reduceLeDiff, Nat.reduceSub, Int.reduceToNat, Int.reduceNeg, Nat.reduceBEq, TY, hw0] at hx
  subst hx
  refine ⟨_, _, rfl, by first | trivial | omega | (simp only [and_true, true_and]; omega), ?_⟩
  refine at_loop ?_
  refine JS_loopI (S := fun j : Nat => { n := 26, fr := [(8, .int .i64 ((j : Int) - 1)), (7, .int .u64 (le ((bs.drop (at_ + j)).take (size - j)))), (0, .slice (some ⟨q, 0, none⟩) ln cp), (1, .int .i64 at_), (2, .int .i64 size)], F := [(q, ⟨bys bs, 5, 1, ro, loose⟩)], nx := nx, ds := [] })
    (fun j => j ≤ size) (fun j => j) size (Nat.le_refl _) ?_ ?_
  · refine le_of rfl ?_ (by simp only [RN, ↓reduceIte, ↓get8, reduceCtorEq, Nat.reduceLT, Nat.reduceEqDiff, Nat.reduceAdd, Nat.reduceMul, Nat.reduceLeDiff, Nat.reduceSub, Int.reduceToNat, Int.reduceNeg, Nat.reduceBEq]; first | done | trivial) (Nat.le_refl _) rfl
    rw [Nat.sub_self, List.take_zero]
    simp only [RN, ↓reduceIte, ↓get8, reduceCtorEq, Nat.reduceLT, Nat.reduceEqDiff, Nat.reduceAdd, Nat.reduceMul, Nat.reduceLeDiff, Nat.reduceSub, Int.reduceToNat, Int.reduceNeg, Nat.reduceBEq, le]; first | done | trivial
  intro j hj
  refine JS_go (tbOk _) 99 fun x hx => ?_
  simp only [RN, ↓reduceIte, ↓get8, reduceCtorEq, Nat.reduceLT, Nat.reduceEqDiff, Nat.reduceAdd, Nat.reduceMul, Nat.reduceLeDiff, Nat.reduceSub, Int.reduceToNat, Int.reduceNeg, Nat.reduceBEq, TY] at hx
  subst hx
  refine ⟨_, _, rfl, by first | trivial | omega | (simp only [and_true, true_and]; omega), ?_⟩
  refine at_cond (fun hlt2 => ?_) (fun hge => ?_)
  · have hlt3 : 0 < j := by simp at hlt2; omega
    obtain ⟨i, rfl⟩ : ∃ i, j = i + 1 := ⟨j - 1, by omega⟩
    have hi : at_ + i < bs.length := by omega
    have hd : (bs.drop (at_ + i)).take (size - i) = bs[at_ + i] :: (bs.drop (at_ + (i + 1))).take (size - (i + 1)) := by
      rw [show size - i = (size - (i + 1)) + 1 by omega, List.drop_eq_getElem_cons hi, List.take_succ_cons]; rfl
    have hlv := le8 (bs.drop (at_ + i)) (size - i) (by omega)
    have hle : le ((bs.drop (at_ + i)).take (size - i)) = bs[at_ + i].toNat + 256 * le ((bs.drop (at_ + (i + 1))).take (size - (i + 1))) := by rw [hd]; rfl
    obtain ⟨x, hx⟩ : ∃ x, le ((bs.drop (at_ + (i + 1))).take (size - (i + 1))) = x := ⟨_, rfl⟩
    rw [hx] at hle ⊢
    have hb := bs[at_ + i].toNat_lt
    have w1 : IntKind.i64.wrap ((at_ : Int) + ((((i + 1 : Nat) : Int)) - 1)) = ((at_ + i : Nat) : Int) := by simp [IntKind.wrap, IntKind.bits, IntKind.signed]; omega
    have w2 : IntKind.u64.wrap ((x : Int) * 256) = ((x * 256 : Nat) : Int) := by rw [show (x : Int) * 256 = ((x * 256 : Nat) : Int) by omega]; exact u64w _ (by omega)
    have w3 : IntKind.u64.wrap ((bs[at_ + i].toNat : Nat) : Int) = ((bs[at_ + i].toNat : Nat) : Int) := u64w _ (by omega)
    have w4 : IntKind.u64.wrap (((x * 256 : Nat) : Int) + ((bs[at_ + i].toNat : Nat) : Int)) = ((le ((bs.drop (at_ + i)).take (size - i)) : Nat) : Int) := by rw [show ((x * 256 : Nat) : Int) + ((bs[at_ + i].toNat : Nat) : Int) = ((le ((bs.drop (at_ + i)).take (size - i)) : Nat) : Int) by omega]; exact u64w _ (by omega)
    have w5 : IntKind.i64.wrap ((((i + 1 : Nat) : Int)) - 1 - 1) = (i : Int) - 1 := by simp [IntKind.wrap, IntKind.bits, IntKind.signed]; omega
    refine JS_go (tbOk _) 99 fun x hx => ?_
    simp only [RN, ↓reduceIte, ↓get8, reduceCtorEq, Nat.reduceLT, Nat.reduceEqDiff, Nat.reduceAdd, Nat.reduceMul, Nat.reduceLeDiff, Nat.reduceSub, Int.reduceToNat, Int.reduceNeg, Nat.reduceBEq, TY, w1, w2, w3, w4, w5, bys_get hi] at hx
    subst hx
    refine ⟨_, _, rfl, by first | trivial | omega | (simp only [and_true, true_and]; omega), ?_⟩
    exact at_done (in_nextI i (by omega) (by omega) (le_of rfl (by simp only [RN, ↓reduceIte, ↓get8, reduceCtorEq, Nat.reduceLT, Nat.reduceEqDiff, Nat.reduceAdd, Nat.reduceMul, Nat.reduceLeDiff, Nat.reduceSub, Int.reduceToNat, Int.reduceNeg, Nat.reduceBEq]; first | done | trivial) (by simp only [RN, ↓reduceIte, ↓get8, reduceCtorEq, Nat.reduceLT, Nat.reduceEqDiff, Nat.reduceAdd, Nat.reduceMul, Nat.reduceLeDiff, Nat.reduceSub, Int.reduceToNat, Int.reduceNeg, Nat.reduceBEq]; first | done | trivial) (Nat.le_refl _) rfl))
  · have hj2 : j = 0 := by simp at hge; omega
    subst hj2
    refine JS_go (tbOk _) 99 fun x hx => ?_
    simp only [RN, ↓reduceIte, ↓get8, reduceCtorEq, Nat.reduceLT, Nat.reduceEqDiff, Nat.reduceAdd, Nat.reduceMul, Nat.reduceLeDiff, Nat.reduceSub, Int.reduceToNat, Int.reduceNeg, Nat.reduceBEq, TY] at hx
    subst hx
    refine ⟨_, _, rfl, by first | trivial | omega | (simp only [and_true, true_and]; omega), ?_⟩
    refine at_exit (in_exitI (by simp only [RN, ↓reduceIte, ↓get8, reduceCtorEq, Nat.reduceLT, Nat.reduceEqDiff, Nat.reduceAdd, Nat.reduceMul, Nat.reduceLeDiff, Nat.reduceSub, Int.reduceToNat, Int.reduceNeg, Nat.reduceBEq]; rfl) ?_)
    refine JS_go (tbOk _) 99 fun x hx => ?_
    simp only [RN, ↓reduceIte, ↓get8, reduceCtorEq, Nat.reduceLT, Nat.reduceEqDiff, Nat.reduceAdd, Nat.reduceMul, Nat.reduceLeDiff, Nat.reduceSub, Int.reduceToNat, Int.reduceNeg, Nat.reduceBEq, TY] at hx
    subst hx
    refine ⟨_, _, rfl, by first | trivial | omega | (simp only [and_true, true_and]; omega), ?_⟩
    first | refine at_ret ?_ | refine at_done ?_
    repeat (first | refine in_ret ?_ | refine in_retI ?_)
    first | refine ret_endK (by simp only [RN, ↓reduceIte, ↓get8, reduceCtorEq, Nat.reduceLT, Nat.reduceEqDiff, Nat.reduceAdd, Nat.reduceMul, Nat.reduceLeDiff, Nat.reduceSub, Int.reduceToNat, Int.reduceNeg, Nat.reduceBEq]; rfl) rfl trivial ?_ | refine nrm_endK (by simp only [RN, ↓reduceIte, ↓get8, reduceCtorEq, Nat.reduceLT, Nat.reduceEqDiff, Nat.reduceAdd, Nat.reduceMul, Nat.reduceLeDiff, Nat.reduceSub, Int.reduceToNat, Int.reduceNeg, Nat.reduceBEq]; rfl) rfl trivial ?_ | refine ret_endK (by simp only [RN, ↓reduceIte, ↓get8, reduceCtorEq, Nat.reduceLT, Nat.reduceEqDiff, Nat.reduceAdd, Nat.reduceMul, Nat.reduceLeDiff, Nat.reduceSub, Int.reduceToNat, Int.reduceNeg, Nat.reduceBEq, TY]; rfl) rfl (by first | trivial | omega) ?_
    refine ⟨_, ?_, rfl, rfl, rfl⟩
    exact leL_look (by simp only [RN, ↓reduceIte, ↓get8, reduceCtorEq, Nat.reduceLT, Nat.reduceEqDiff, Nat.reduceAdd, Nat.reduceMul, Nat.reduceLeDiff, Nat.reduceSub, Int.reduceToNat, Int.reduceNeg, Nat.reduceBEq]; first | done | trivial)
end Go.Proofs.Ytoihmanhldcjhaa.Id
namespace Go.Proofs.Ytoihmanhldcjhaa.Id
open Go Go.Proofs.Ytoihmanhldcjhaa.Rl
set_option linter.unusedSimpArgs false
set_option linter.unusedVariables false
end Go.Proofs.Ytoihmanhldcjhaa.Id
namespace Go.Proofs.Ytoihmanhldcjhaa.Id
open Go Go.Proofs.Ytoihmanhldcjhaa.Rl
set_option linter.unusedSimpArgs false
set_option linter.unusedVariables false
theorem look_past {T0 : Hp} {b nx : Nat} (h : ∀ id x, look id T0 = some x → id < nx) (hb : nx ≤ b) (Y : Hp) : look b (T0 ++ Y) = look b Y := by
  rw [look_append]
  cases hl : look b T0 with
  | none => rfl
  | some x => have := h b x hl; omega
theorem look_in {T0 : Hp} {id : Nat} {x : Blk} (h : look id T0 = some x) (Y : Hp) : look id (T0 ++ Y) = some x := by rw [look_append, h]
end Go.Proofs.Ytoihmanhldcjhaa.Id
namespace Go.Proofs.Ytoihmanhldcjhaa.Id
open Go Go.Proofs.Ytoihmanhldcjhaa.Rl
set_option linter.unusedSimpArgs false
set_option linter.unusedVariables false
def q46 : List Bool := [true, true, true, true, true, true, true, true, true, true, true, true, true, true, true, true, true, true, true, true]
def q51 : List Bool := [true, true, true, true, true, false]
theorem eqs46 : (tbOf Try.prog).eqs 46 = some q46 := by kernel_rfl
theorem eqs51 : (tbOf Try.prog).eqs 51 = some q51 := by kernel_rfl
def kdEq (k l : Kd) : Bool := (ieqCells q46 k.cells l.cells).getD false
def wpEq (k l : Wp) : Bool := (ieqCells q51 k.cells l.cells).getD false
theorem kdEq_some (k l : Kd) : ieqCells q46 k.cells l.cells = some (kdEq k l) := by
  cases k; cases l; simp [kdEq, q46, Kd.cells, ieqCells]
theorem wpEq_some (k l : Wp) : ieqCells q51 k.cells l.cells = some (wpEq k l) := by
  cases k; cases l; simp [wpEq, q51, Wp.cells, ieqCells]
theorem kdEq_iff (k l : Kd) : kdEq k l = true ↔ k = l := by
  cases k; cases l; simp [kdEq, q46, Kd.cells, ieqCells]
theorem wpEq_iff (k l : Wp) : wpEq k l = true ↔ k = l := by
  cases k; cases l; simp [wpEq, q51, Wp.cells, ieqCells]
set_option maxRecDepth 100000 in
set_option maxHeartbeats 4000000 in
theorem same_c (A B : Bk) (T0 : Hp) (nx : Nat) (gA : A.Good nx) (gB : B.Good nx) (hA : ∀ id b, look id A.H = some b → look id T0 = some b) (hB : ∀ id b, look id B.H = some b → look id T0 = some b) (hT : ∀ id b, look id T0 = some b → id < nx) :
    CallW Try.prog 17 [A.val, B.val] T0 nx
      fun o F' nx' => (∃ r, o = .ret (.bool r) ∧ (r = true ↔ A.ks = B.ks ∧ A.ws = B.ws)) ∧ F' = T0 ∧ nx ≤ nx' := by
  have l1 := gA.l1
  have l2 := gA.l2
  have m1 := gB.l1
  have m2 := gB.l2
  have t2 : ∀ b, A.ok = some b → look b T0 = _ := fun b h => hA _ _ (gA.t2 b h)
  have t3 : ∀ b, A.ow = some b → look b T0 = _ := fun b h => hA _ _ (gA.t3 b h)
  have s2 : ∀ b, B.ok = some b → look b T0 = _ := fun b h => hB _ _ (gB.t2 b h)
  have s3 : ∀ b, B.ow = some b → look b T0 = _ := fun b h => hB _ _ (gB.t3 b h)
  clear hA hB
  rcases A with ⟨ks, kx, ws, wx, ok, kc, ow, wc, ro, loose⟩
  rcases B with ⟨ls, lx, vs, vx, ol, lc, ov, vc, ro2, loose2⟩
  obtain ⟨hk, hw, hkl, hwl, hkn, hwn, hkw⟩ := gA
  obtain ⟨jk, jw, jkl, jwl, jkn, jwn, jkw⟩ := gB
  unfold Bk.val
  dsimp only at l1 l2 m1 m2 t2 t3 s2 s3 hk hw hkl hwl hkn hwn jk jw jkl jwl jkn jwn ⊢
  have FIN : ∀ (X : Hp) (r : Bool) (n : Nat), nx ≤ n → (∀ id b, id < nx → look id T0 = some b → look id X = some b) → (r = true ↔ ks = ls ∧ ws = vs) →
      ∃ F', (∀ id b, look id F' = some b → look id X = some b) ∧ ((∃ r2, Out.ret (.bool r) = .ret (.bool r2) ∧ (r2 = true ↔ ks = ls ∧ ws = vs)) ∧ F' = T0 ∧ nx ≤ n) :=
    fun X r n h1 h2 h3 => ⟨T0, fun id b h => h2 id b (hT id b h) h, ⟨r, rfl, h3⟩, rfl, h1⟩
  refine CallW_go (tbOk _) 59 [.tmp 4] Try.func17 rfl (by decide) rfl rfl (by simp) fun hlt => ?_
  simp only [params, Nat.zero_add, Nat.reduceAdd]
  cases c0 : ((ks.length : Int) != ls.length)
  case true =>
    skip
    refine JS_go (tbOk _) 99 fun x hx => ?_
    simp only [RN, ↓reduceIte, ↓get8, reduceCtorEq, Nat.reduceLT, Nat.reduceEqDiff, Nat.reduceAdd, Nat.reduceMul, Nat.reduceLeDiff, Nat.reduceSub, Int.reduceToNat, Int.reduceNeg, Nat.reduceBEq, c0, TY, ↓l1, ↓l2, ↓m1, ↓m2, Nat.add_assoc, Nat.left_eq_add, Nat.add_eq_left, Nat.add_left_cancel_iff] at hx
    subst hx
    refine ⟨_, _, rfl, by first | trivial | omega | (simp only [and_true, true_and]; omega), ?_⟩
    refine at_cond (fun _ => ?_) (fun h => nomatch h)
    refine JS_go (tbOk _) 99 fun x hx => ?_
    simp only [RN, ↓reduceIte, ↓get8, reduceCtorEq, Nat.reduceLT, Nat.reduceEqDiff, Nat.reduceAdd, Nat.reduceMul, Nat.reduceLeDiff, Nat.reduceSub, Int.reduceToNat, Int.reduceNeg, Nat.reduceBEq, TY] at hx
    subst hx
    refine ⟨_, _, rfl, by first | trivial | omega | (simp only [and_true, true_and]; omega), ?_⟩
    refine at_ret (ret_endK (by simp only [RN, ↓reduceIte, ↓get8, reduceCtorEq, Nat.reduceLT, Nat.reduceEqDiff, Nat.reduceAdd, Nat.reduceMul, Nat.reduceLeDiff, Nat.reduceSub, Int.reduceToNat, Int.reduceNeg, Nat.reduceBEq]; first | done | rfl) rfl trivial (FIN _ false _ (by show nx ≤ nx + 2; omega) (fun id b u h => ?_) ?_))
    · have w0 : ¬ id = nx := by omega
      have w1 : ∀ i, ¬ id = nx + i := by intro i; omega
      simp only [RN, ↓reduceIte, ↓get8, reduceCtorEq, Nat.reduceLT, Nat.reduceEqDiff, Nat.reduceAdd, Nat.reduceMul, Nat.reduceLeDiff, Nat.reduceSub, Int.reduceToNat, Int.reduceNeg, Nat.reduceBEq, w0, w1, h]
    · simp only [Bool.false_eq_true, false_iff]; rintro ⟨rfl, _⟩; simp at c0
  cases c1 : ((ws.length : Int) != vs.length)
  case true =>
    skip
    refine JS_go (tbOk _) 99 fun x hx => ?_
    simp only [RN, ↓reduceIte, ↓get8, reduceCtorEq, Nat.reduceLT, Nat.reduceEqDiff, Nat.reduceAdd, Nat.reduceMul, Nat.reduceLeDiff, Nat.reduceSub, Int.reduceToNat, Int.reduceNeg, Nat.reduceBEq, c0, c1, TY, ↓l1, ↓l2, ↓m1, ↓m2, Nat.add_assoc, Nat.left_eq_add, Nat.add_eq_left, Nat.add_left_cancel_iff] at hx
    subst hx
    refine ⟨_, _, rfl, by first | trivial | omega | (simp only [and_true, true_and]; omega), ?_⟩
    refine at_cond (fun _ => ?_) (fun h => nomatch h)
    refine JS_go (tbOk _) 99 fun x hx => ?_
    simp only [RN, ↓reduceIte, ↓get8, reduceCtorEq, Nat.reduceLT, Nat.reduceEqDiff, Nat.reduceAdd, Nat.reduceMul, Nat.reduceLeDiff, Nat.reduceSub, Int.reduceToNat, Int.reduceNeg, Nat.reduceBEq, TY] at hx
    subst hx
    refine ⟨_, _, rfl, by first | trivial | omega | (simp only [and_true, true_and]; omega), ?_⟩
    refine at_ret (ret_endK (by simp only [RN, ↓reduceIte, ↓get8, reduceCtorEq, Nat.reduceLT, Nat.reduceEqDiff, Nat.reduceAdd, Nat.reduceMul, Nat.reduceLeDiff, Nat.reduceSub, Int.reduceToNat, Int.reduceNeg, Nat.reduceBEq]; first | done | rfl) rfl trivial (FIN _ false _ (by show nx ≤ nx + 2; omega) (fun id b u h => ?_) ?_))
    · have w0 : ¬ id = nx := by omega
      have w1 : ∀ i, ¬ id = nx + i := by intro i; omega
      simp only [RN, ↓reduceIte, ↓get8, reduceCtorEq, Nat.reduceLT, Nat.reduceEqDiff, Nat.reduceAdd, Nat.reduceMul, Nat.reduceLeDiff, Nat.reduceSub, Int.reduceToNat, Int.reduceNeg, Nat.reduceBEq, w0, w1, h]
    · simp only [Bool.false_eq_true, false_iff]; rintro ⟨_, rfl⟩; simp at c1
  have n0 : ks.length = ls.length := by simp at c0; omega
  have n1 : ws.length = vs.length := by simp at c1; omega
  refine JS_go (tbOk _) 99 fun x hx => ?_
  simp only [RN, ↓reduceIte, ↓get8, reduceCtorEq, Nat.reduceLT, Nat.reduceEqDiff, Nat.reduceAdd, Nat.reduceMul, Nat.reduceLeDiff, Nat.reduceSub, Int.reduceToNat, Int.reduceNeg, Nat.reduceBEq, c0, c1, TY, ↓l1, ↓l2, ↓m1, ↓m2, Nat.add_assoc, Nat.left_eq_add, Nat.add_eq_left, Nat.add_left_cancel_iff] at hx
  subst hx
  refine ⟨_, _, rfl, by first | trivial | omega | (simp only [and_true, true_and]; omega), ?_⟩
  refine at_cond (fun h => nomatch h) (fun _ => ?_)
  refine JS_go (tbOk _) 99 fun x hx => ?_
  simp only [RN, ↓reduceIte, ↓get8, reduceCtorEq, Nat.reduceLT, Nat.reduceEqDiff, Nat.reduceAdd, Nat.reduceMul, Nat.reduceLeDiff, Nat.reduceSub, Int.reduceToNat, Int.reduceNeg, Nat.reduceBEq, TY] at hx
  subst hx
  refine ⟨_, _, rfl, by first | trivial | omega | (simp only [and_true, true_and]; omega), ?_⟩
  refine at_loop ?_
  refine JS_loopI (S := fun j : Nat => { n := 59, fr := [(5, Value.int IntKind.i64 j), (3, .pointer (some ⟨nx + 1, 0, none⟩)), (2, .pointer (some ⟨nx, 0, none⟩))], F := (nx + 1, ⟨[slv ol ls.length lc, slv ov vs.length vc], 26, 2, false, false⟩) :: (nx, ⟨[slv ok ks.length kc, slv ow ws.length wc], 26, 2, false, false⟩) :: T0, nx := nx + 2, ds := [] })
    (fun j => j ≤ ks.length ∧ ∀ (i : Nat) (h1 : i < ks.length) (h2 : i < ls.length), i < j → ks[i] = ls[i]) (fun j => ks.length - j) 0 ⟨Nat.zero_le _, fun i _ _ h => absurd h (Nat.not_lt_zero i)⟩ ?_ ?_
  · exact ⟨rfl, leL_look (by simp only [RN, ↓reduceIte, ↓get8, reduceCtorEq, Nat.reduceLT, Nat.reduceEqDiff, Nat.reduceAdd, Nat.reduceMul, Nat.reduceLeDiff, Nat.reduceSub, Int.reduceToNat, Int.reduceNeg, Nat.reduceBEq]; first | done | trivial), fun id b h => h, Nat.le_refl _, rfl⟩
  rintro j ⟨hj, hall⟩
  refine JS_go (tbOk _) 99 fun x hx => ?_
  simp only [RN, ↓reduceIte, ↓get8, reduceCtorEq, Nat.reduceLT, Nat.reduceEqDiff, Nat.reduceAdd, Nat.reduceMul, Nat.reduceLeDiff, Nat.reduceSub, Int.reduceToNat, Int.reduceNeg, Nat.reduceBEq, TY, ↓l1, Nat.add_assoc, Nat.left_eq_add, Nat.add_eq_left, Nat.add_left_cancel_iff] at hx
  subst hx
  refine ⟨_, _, rfl, by first | trivial | omega | (simp only [and_true, true_and]; omega), ?_⟩
  refine at_cond (fun hlt2 => ?_) (fun hge => ?_)
  · have hlt3 : j < ks.length := by simpa using hlt2
    have hlt4 : j < ls.length := by omega
    obtain ⟨b, hb⟩ : ∃ b, ok = some b := by
      cases ok with
      | none => rw [hk rfl] at hlt3; exact absurd hlt3 (by simp)
      | some b => exact ⟨b, rfl⟩
    obtain ⟨c, hc⟩ : ∃ c, ol = some c := by
      cases ol with
      | none => rw [jk rfl] at hlt4; exact absurd hlt4 (by simp)
      | some b => exact ⟨b, rfl⟩
    have hbn := hkn b hb
    have hcn := jkn c hc
    have lb := t2 b hb
    have lc2 := s2 c hc
    have hs : slv ok ks.length kc = .slice (some ⟨b, 0, none⟩) ks.length kc := by rw [hb]; rfl
    have hs2 : slv ol ls.length lc = .slice (some ⟨c, 0, none⟩) ls.length lc := by rw [hc]; rfl
    have g0 : ¬ b = nx := by omega
    have g1 : ∀ i, ¬ b = nx + i := by intro i; omega
    have g2 : ¬ c = nx := by omega
    have g3 : ∀ i, ¬ c = nx + i := by intro i; omega
    have kg := kcells_get (ks := ks ++ kx) (j := j) (by simp; omega)
    rw [List.getElem_append_left hlt3] at kg
    have kl := kcells_len (ks ++ kx)
    rw [List.length_append] at kl
    have kg2 := kcells_get (ks := ls ++ lx) (j := j) (by simp; omega)
    rw [List.getElem_append_left hlt4] at kg2
    have kl2 := kcells_len (ls ++ lx)
    rw [List.length_append] at kl2
    have hq := kdEq_some ks[j] ls[j]
    refine JS_go (tbOk _) 99 fun x hx => ?_
    simp only [RN, ↓reduceIte, ↓get8, reduceCtorEq, Nat.reduceLT, Nat.reduceEqDiff, Nat.reduceAdd, Nat.reduceMul, Nat.reduceLeDiff, Nat.reduceSub, Int.reduceToNat, Int.reduceNeg, Nat.reduceBEq, TY] at hx
    subst hx
    refine ⟨_, _, rfl, by first | trivial | omega | (simp only [and_true, true_and]; omega), ?_⟩
    rw [CRJ]
    refine JS_draw (tbOk _) { wr := [(30, 0), (31, 1), (32, 2), (33, 3), (34, 4), (35, 5), (36, 6), (37, 7), (38, 8), (39, 9), (40, 10)], anc := [[], [0], [], [0, 1, 2], [0, 1, 2, 3], [], [5], [], [5, 6, 7], [5, 6, 7, 8], [0, 1, 2, 3, 4, 5, 6, 7, 8, 9]], ch := [], ac := [[0, 1, 2, 3, 4, 5, 6, 7, 8, 9, 10]], nw := [[0, 1, 2, 3, 4, 5, 6, 7, 8, 9, 10]], fl := [[]] } (by kernel_rfl) (by kernel_rfl) (by kernel_rfl) (by kernel_rfl) ?_
    cases hkb : kdEq ks[j] ls[j]
    case true =>
      skip
      have hw3 : IntKind.i64.wrap ((j : Int) + 1) = ((j + 1 : Nat) : Int) := wrap_i64 (j + 1) (by omega)
      refine JS_go (tbOk _) 99 fun x hx => ?_
      simp only [RN, ↓reduceIte, ↓get8, reduceCtorEq, Nat.reduceLT, Nat.reduceEqDiff, Nat.reduceAdd, Nat.reduceMul, Nat.reduceLeDiff, Nat.reduceSub, Int.reduceToNat, Int.reduceNeg, Nat.reduceBEq, TY, hs, hs2, lb, lc2, kg, kg2, kl, kl2, eqs46, hq, hkb, g0, g1, g2, g3, Nat.add_assoc, Nat.left_eq_add, Nat.add_eq_left, Nat.add_left_cancel_iff] at hx
      subst hx
      refine ⟨_, _, rfl, by first | trivial | omega | (simp only [and_true, true_and]; omega), ?_⟩
      refine at_cond (fun h => nomatch h) (fun _ => ?_)
      refine JS_go (tbOk _) 99 fun x hx => ?_
      simp only [RN, ↓reduceIte, ↓get8, reduceCtorEq, Nat.reduceLT, Nat.reduceEqDiff, Nat.reduceAdd, Nat.reduceMul, Nat.reduceLeDiff, Nat.reduceSub, Int.reduceToNat, Int.reduceNeg, Nat.reduceBEq, TY, hw3] at hx
      subst hx
      refine ⟨_, _, rfl, by first | trivial | omega | (simp only [and_true, true_and]; omega), ?_⟩
      refine at_done (in_nextI (j + 1) ⟨hlt3, fun i h1 h2 h => ?_⟩ (by show ks.length - (j + 1) < ks.length - j; omega) ?_)
      · rcases Nat.lt_or_ge i j with h3 | h3
        · exact hall i h1 h2 h3
        · obtain rfl : i = j := by have : i < j + 1 := h; omega
          exact (kdEq_iff _ _).1 hkb
      · exact ⟨rfl, leL_look (by simp only [RN, ↓reduceIte, ↓get8, reduceCtorEq, Nat.reduceLT, Nat.reduceEqDiff, Nat.reduceAdd, Nat.reduceMul, Nat.reduceLeDiff, Nat.reduceSub, Int.reduceToNat, Int.reduceNeg, Nat.reduceBEq]; first | done | trivial), fun id b h => by simpa only [RN, ↓reduceIte, ↓get8, reduceCtorEq, Nat.reduceLT, Nat.reduceEqDiff, Nat.reduceAdd, Nat.reduceMul, Nat.reduceLeDiff, Nat.reduceSub, Int.reduceToNat, Int.reduceNeg, Nat.reduceBEq, hs, hs2] using h, Nat.le_refl _, rfl⟩
    case false =>
      skip
      refine JS_go (tbOk _) 99 fun x hx => ?_
      simp only [RN, ↓reduceIte, ↓get8, reduceCtorEq, Nat.reduceLT, Nat.reduceEqDiff, Nat.reduceAdd, Nat.reduceMul, Nat.reduceLeDiff, Nat.reduceSub, Int.reduceToNat, Int.reduceNeg, Nat.reduceBEq, TY, hs, hs2, lb, lc2, kg, kg2, kl, kl2, eqs46, hq, hkb, g0, g1, g2, g3, Nat.add_assoc, Nat.left_eq_add, Nat.add_eq_left, Nat.add_left_cancel_iff] at hx
      subst hx
      refine ⟨_, _, rfl, by first | trivial | omega | (simp only [and_true, true_and]; omega), ?_⟩
      refine at_cond (fun _ => ?_) (fun h => nomatch h)
      refine JS_go (tbOk _) 99 fun x hx => ?_
      simp only [RN, ↓reduceIte, ↓get8, reduceCtorEq, Nat.reduceLT, Nat.reduceEqDiff, Nat.reduceAdd, Nat.reduceMul, Nat.reduceLeDiff, Nat.reduceSub, Int.reduceToNat, Int.reduceNeg, Nat.reduceBEq, TY] at hx
      subst hx
      refine ⟨_, _, rfl, by first | trivial | omega | (simp only [and_true, true_and]; omega), ?_⟩
      refine at_ret (in_retI (ret_endK (by simp only [RN, ↓reduceIte, ↓get8, reduceCtorEq, Nat.reduceLT, Nat.reduceEqDiff, Nat.reduceAdd, Nat.reduceMul, Nat.reduceLeDiff, Nat.reduceSub, Int.reduceToNat, Int.reduceNeg, Nat.reduceBEq]; first | done | rfl) rfl trivial (FIN _ false _ (by show nx ≤ nx + 2; omega) (fun id b u h => ?_) ?_)))
      · have w0 : ¬ id = nx := by omega
        have w1 : ∀ i, ¬ id = nx + i := by intro i; omega
        simp only [RN, ↓reduceIte, ↓get8, reduceCtorEq, Nat.reduceLT, Nat.reduceEqDiff, Nat.reduceAdd, Nat.reduceMul, Nat.reduceLeDiff, Nat.reduceSub, Int.reduceToNat, Int.reduceNeg, Nat.reduceBEq, w0, w1, h]
      · simp only [Bool.false_eq_true, false_iff]
        rintro ⟨rfl, _⟩
        rw [(kdEq_iff _ _).2 rfl] at hkb
        cases hkb
  have hj2 : j = ks.length := by simp at hge; omega
  subst hj2
  have hks : ks = ls := List.ext_getElem n0 fun i h1 h2 => hall i h1 h2 h1
  clear hall
  refine JS_go (tbOk _) 99 fun x hx => ?_
  simp only [RN, ↓reduceIte, ↓get8, reduceCtorEq, Nat.reduceLT, Nat.reduceEqDiff, Nat.reduceAdd, Nat.reduceMul, Nat.reduceLeDiff, Nat.reduceSub, Int.reduceToNat, Int.reduceNeg, Nat.reduceBEq, TY] at hx
  subst hx
  refine ⟨_, _, rfl, by first | trivial | omega | (simp only [and_true, true_and]; omega), ?_⟩
  refine at_exit (in_exitI (by simp only [RN, ↓reduceIte, ↓get8, reduceCtorEq, Nat.reduceLT, Nat.reduceEqDiff, Nat.reduceAdd, Nat.reduceMul, Nat.reduceLeDiff, Nat.reduceSub, Int.reduceToNat, Int.reduceNeg, Nat.reduceBEq]; rfl) ?_)
  refine JS_go (tbOk _) 99 fun x hx => ?_
  simp only [RN, ↓reduceIte, ↓get8, reduceCtorEq, Nat.reduceLT, Nat.reduceEqDiff, Nat.reduceAdd, Nat.reduceMul, Nat.reduceLeDiff, Nat.reduceSub, Int.reduceToNat, Int.reduceNeg, Nat.reduceBEq, TY] at hx
  subst hx
  refine ⟨_, _, rfl, by first | trivial | omega | (simp only [and_true, true_and]; omega), ?_⟩
  refine at_loop ?_
  refine JS_loopI (S := fun j : Nat => { n := 59, fr := [(6, Value.int IntKind.i64 j), (3, .pointer (some ⟨nx + 1, 0, none⟩)), (2, .pointer (some ⟨nx, 0, none⟩))], F := (nx + 1, ⟨[slv ol ls.length lc, slv ov vs.length vc], 26, 2, false, false⟩) :: (nx, ⟨[slv ok ks.length kc, slv ow ws.length wc], 26, 2, false, false⟩) :: T0, nx := nx + 2, ds := [] })
    (fun j => j ≤ ws.length ∧ ∀ (i : Nat) (h1 : i < ws.length) (h2 : i < vs.length), i < j → ws[i] = vs[i]) (fun j => ws.length - j) 0 ⟨Nat.zero_le _, fun i _ _ h => absurd h (Nat.not_lt_zero i)⟩ ?_ ?_
  · exact ⟨rfl, leL_look (by simp only [RN, ↓reduceIte, ↓get8, reduceCtorEq, Nat.reduceLT, Nat.reduceEqDiff, Nat.reduceAdd, Nat.reduceMul, Nat.reduceLeDiff, Nat.reduceSub, Int.reduceToNat, Int.reduceNeg, Nat.reduceBEq]; first | done | trivial), fun id b h => h, Nat.le_refl _, rfl⟩
  rintro j ⟨hj, hall⟩
  refine JS_go (tbOk _) 99 fun x hx => ?_
  simp only [RN, ↓reduceIte, ↓get8, reduceCtorEq, Nat.reduceLT, Nat.reduceEqDiff, Nat.reduceAdd, Nat.reduceMul, Nat.reduceLeDiff, Nat.reduceSub, Int.reduceToNat, Int.reduceNeg, Nat.reduceBEq, TY, ↓l2, Nat.add_assoc, Nat.left_eq_add, Nat.add_eq_left, Nat.add_left_cancel_iff] at hx
  subst hx
  refine ⟨_, _, rfl, by first | trivial | omega | (simp only [and_true, true_and]; omega), ?_⟩
  refine at_cond (fun hlt2 => ?_) (fun hge => ?_)
  · have hlt3 : j < ws.length := by simpa using hlt2
    have hlt4 : j < vs.length := by omega
    obtain ⟨b, hb⟩ : ∃ b, ow = some b := by
      cases ow with
      | none => rw [hw rfl] at hlt3; exact absurd hlt3 (by simp)
      | some b => exact ⟨b, rfl⟩
    obtain ⟨c, hc⟩ : ∃ c, ov = some c := by
      cases ov with
      | none => rw [jw rfl] at hlt4; exact absurd hlt4 (by simp)
      | some b => exact ⟨b, rfl⟩
    have hbn := hwn b hb
    have hcn := jwn c hc
    have lb := t3 b hb
    have lc2 := s3 c hc
    have hs : slv ow ws.length wc = .slice (some ⟨b, 0, none⟩) ws.length wc := by rw [hb]; rfl
    have hs2 : slv ov vs.length vc = .slice (some ⟨c, 0, none⟩) vs.length vc := by rw [hc]; rfl
    have g0 : ¬ b = nx := by omega
    have g1 : ∀ i, ¬ b = nx + i := by intro i; omega
    have g2 : ¬ c = nx := by omega
    have g3 : ∀ i, ¬ c = nx + i := by intro i; omega
    have kg := wcells_get (ws := ws ++ wx) (j := j) (by simp; omega)
    rw [List.getElem_append_left hlt3] at kg
    have kl := wcells_len (ws ++ wx)
    rw [List.length_append] at kl
    have kg2 := wcells_get (ws := vs ++ vx) (j := j) (by simp; omega)
    rw [List.getElem_append_left hlt4] at kg2
    have kl2 := wcells_len (vs ++ vx)
    rw [List.length_append] at kl2
    have hq := wpEq_some ws[j] vs[j]
    refine JS_go (tbOk _) 99 fun x hx => ?_
    simp only [RN, ↓reduceIte, ↓get8, reduceCtorEq, Nat.reduceLT, Nat.reduceEqDiff, Nat.reduceAdd, Nat.reduceMul, Nat.reduceLeDiff, Nat.reduceSub, Int.reduceToNat, Int.reduceNeg, Nat.reduceBEq, TY] at hx
    subst hx
    refine ⟨_, _, rfl, by first | trivial | omega | (simp only [and_true, true_and]; omega), ?_⟩
    rw [CRJ]
    refine JS_draw (tbOk _) { wr := [(48, 0), (49, 1), (50, 2), (51, 3), (52, 4), (53, 5), (54, 6), (55, 7), (56, 8), (57, 9), (58, 10)], anc := [[], [0], [], [0, 1, 2], [0, 1, 2, 3], [], [5], [], [5, 6, 7], [5, 6, 7, 8], [0, 1, 2, 3, 4, 5, 6, 7, 8, 9]], ch := [], ac := [[0, 1, 2, 3, 4, 5, 6, 7, 8, 9, 10]], nw := [[0, 1, 2, 3, 4, 5, 6, 7, 8, 9, 10]], fl := [[]] } (by kernel_rfl) (by kernel_rfl) (by kernel_rfl) (by kernel_rfl) ?_
    cases hkb : wpEq ws[j] vs[j]
    case true =>
      skip
      have hw3 : IntKind.i64.wrap ((j : Int) + 1) = ((j + 1 : Nat) : Int) := wrap_i64 (j + 1) (by omega)
      refine JS_go (tbOk _) 99 fun x hx => ?_
      simp only [RN, ↓reduceIte, ↓get8, reduceCtorEq, Nat.reduceLT, Nat.reduceEqDiff, Nat.reduceAdd, Nat.reduceMul, Nat.reduceLeDiff, Nat.reduceSub, Int.reduceToNat, Int.reduceNeg, Nat.reduceBEq, TY, hs, hs2, lb, lc2, kg, kg2, kl, kl2, eqs51, hq, hkb, g0, g1, g2, g3, Nat.add_assoc, Nat.left_eq_add, Nat.add_eq_left, Nat.add_left_cancel_iff] at hx
      subst hx
      refine ⟨_, _, rfl, by first | trivial | omega | (simp only [and_true, true_and]; omega), ?_⟩
      refine at_cond (fun h => nomatch h) (fun _ => ?_)
      refine JS_go (tbOk _) 99 fun x hx => ?_
      simp only [RN, ↓reduceIte, ↓get8, reduceCtorEq, Nat.reduceLT, Nat.reduceEqDiff, Nat.reduceAdd, Nat.reduceMul, Nat.reduceLeDiff, Nat.reduceSub, Int.reduceToNat, Int.reduceNeg, Nat.reduceBEq, TY, hw3] at hx
      subst hx
      refine ⟨_, _, rfl, by first | trivial | omega | (simp only [and_true, true_and]; omega), ?_⟩
      refine at_done (in_nextI (j + 1) ⟨hlt3, fun i h1 h2 h => ?_⟩ (by show ws.length - (j + 1) < ws.length - j; omega) ?_)
      · rcases Nat.lt_or_ge i j with h3 | h3
        · exact hall i h1 h2 h3
        · obtain rfl : i = j := by have : i < j + 1 := h; omega
          exact (wpEq_iff _ _).1 hkb
      · exact ⟨rfl, leL_look (by simp only [RN, ↓reduceIte, ↓get8, reduceCtorEq, Nat.reduceLT, Nat.reduceEqDiff, Nat.reduceAdd, Nat.reduceMul, Nat.reduceLeDiff, Nat.reduceSub, Int.reduceToNat, Int.reduceNeg, Nat.reduceBEq]; first | done | trivial), fun id b h => by simpa only [RN, ↓reduceIte, ↓get8, reduceCtorEq, Nat.reduceLT, Nat.reduceEqDiff, Nat.reduceAdd, Nat.reduceMul, Nat.reduceLeDiff, Nat.reduceSub, Int.reduceToNat, Int.reduceNeg, Nat.reduceBEq, hs, hs2] using h, Nat.le_refl _, rfl⟩
    case false =>
      skip
      refine JS_go (tbOk _) 99 fun x hx => ?_
      simp only [RN, ↓reduceIte, ↓get8, reduceCtorEq, Nat.reduceLT, Nat.reduceEqDiff, Nat.reduceAdd, Nat.reduceMul, Nat.reduceLeDiff, Nat.reduceSub, Int.reduceToNat, Int.reduceNeg, Nat.reduceBEq, TY, hs, hs2, lb, lc2, kg, kg2, kl, kl2, eqs51, hq, hkb, g0, g1, g2, g3, Nat.add_assoc, Nat.left_eq_add, Nat.add_eq_left, Nat.add_left_cancel_iff] at hx
      subst hx
      refine ⟨_, _, rfl, by first | trivial | omega | (simp only [and_true, true_and]; omega), ?_⟩
      refine at_cond (fun _ => ?_) (fun h => nomatch h)
      refine JS_go (tbOk _) 99 fun x hx => ?_
      simp only [RN, ↓reduceIte, ↓get8, reduceCtorEq, Nat.reduceLT, Nat.reduceEqDiff, Nat.reduceAdd, Nat.reduceMul, Nat.reduceLeDiff, Nat.reduceSub, Int.reduceToNat, Int.reduceNeg, Nat.reduceBEq, TY] at hx
      subst hx
      refine ⟨_, _, rfl, by first | trivial | omega | (simp only [and_true, true_and]; omega), ?_⟩
      refine at_ret (in_retI (ret_endK (by simp only [RN, ↓reduceIte, ↓get8, reduceCtorEq, Nat.reduceLT, Nat.reduceEqDiff, Nat.reduceAdd, Nat.reduceMul, Nat.reduceLeDiff, Nat.reduceSub, Int.reduceToNat, Int.reduceNeg, Nat.reduceBEq]; first | done | rfl) rfl trivial (FIN _ false _ (by show nx ≤ nx + 2; omega) (fun id b u h => ?_) ?_)))
      · have w0 : ¬ id = nx := by omega
        have w1 : ∀ i, ¬ id = nx + i := by intro i; omega
        simp only [RN, ↓reduceIte, ↓get8, reduceCtorEq, Nat.reduceLT, Nat.reduceEqDiff, Nat.reduceAdd, Nat.reduceMul, Nat.reduceLeDiff, Nat.reduceSub, Int.reduceToNat, Int.reduceNeg, Nat.reduceBEq, w0, w1, h]
      · simp only [Bool.false_eq_true, false_iff]
        rintro ⟨_, rfl⟩
        rw [(wpEq_iff _ _).2 rfl] at hkb
        cases hkb
  have hj2 : j = ws.length := by simp at hge; omega
  subst hj2
  have hws : ws = vs := List.ext_getElem n1 fun i h1 h2 => hall i h1 h2 h1
  refine JS_go (tbOk _) 99 fun x hx => ?_
  simp only [RN, ↓reduceIte, ↓get8, reduceCtorEq, Nat.reduceLT, Nat.reduceEqDiff, Nat.reduceAdd, Nat.reduceMul, Nat.reduceLeDiff, Nat.reduceSub, Int.reduceToNat, Int.reduceNeg, Nat.reduceBEq, TY] at hx
  subst hx
  refine ⟨_, _, rfl, by first | trivial | omega | (simp only [and_true, true_and]; omega), ?_⟩
  refine at_exit (in_exitI (by simp only [RN, ↓reduceIte, ↓get8, reduceCtorEq, Nat.reduceLT, Nat.reduceEqDiff, Nat.reduceAdd, Nat.reduceMul, Nat.reduceLeDiff, Nat.reduceSub, Int.reduceToNat, Int.reduceNeg, Nat.reduceBEq]; rfl) ?_)
  refine JS_go (tbOk _) 99 fun x hx => ?_
  simp only [RN, ↓reduceIte, ↓get8, reduceCtorEq, Nat.reduceLT, Nat.reduceEqDiff, Nat.reduceAdd, Nat.reduceMul, Nat.reduceLeDiff, Nat.reduceSub, Int.reduceToNat, Int.reduceNeg, Nat.reduceBEq, TY] at hx
  subst hx
  refine ⟨_, _, rfl, by first | trivial | omega | (simp only [and_true, true_and]; omega), ?_⟩
  refine at_ret (ret_endK (by simp only [RN, ↓reduceIte, ↓get8, reduceCtorEq, Nat.reduceLT, Nat.reduceEqDiff, Nat.reduceAdd, Nat.reduceMul, Nat.reduceLeDiff, Nat.reduceSub, Int.reduceToNat, Int.reduceNeg, Nat.reduceBEq]; first | done | rfl) rfl trivial (FIN _ true _ (by show nx ≤ nx + 2; omega) (fun id b u h => ?_) ?_))
  · have w0 : ¬ id = nx := by omega
    have w1 : ∀ i, ¬ id = nx + i := by intro i; omega
    simp only [RN, ↓reduceIte, ↓get8, reduceCtorEq, Nat.reduceLT, Nat.reduceEqDiff, Nat.reduceAdd, Nat.reduceMul, Nat.reduceLeDiff, Nat.reduceSub, Int.reduceToNat, Int.reduceNeg, Nat.reduceBEq, w0, w1, h]
  · simp [hks, hws]
end Go.Proofs.Ytoihmanhldcjhaa.Id
namespace Go.Proofs.Ytoihmanhldcjhaa.Id
open Go Go.Proofs.Ytoihmanhldcjhaa.Rl
set_option linter.unusedSimpArgs false
set_option linter.unusedVariables false
end Go.Proofs.Ytoihmanhldcjhaa.Id
namespace Go.Proofs.Ytoihmanhldcjhaa.Id
open Go
section
variable {P : Program} {Q : IExit → St → Prop} {st : St} {α : Type} {S : α → St} {I : α → Prop}
end
end Go.Proofs.Ytoihmanhldcjhaa.Id
namespace Go.Proofs.Ytoihmanhldcjhaa.Id
open Go Go.Proofs.Ytoihmanhldcjhaa.Rl
set_option linter.unusedSimpArgs false
set_option linter.unusedVariables false
structure Rd.G0 (R : Rd) (nx : Nat) : Prop where
  hl : R.ln ≤ R.bs.length
  h0 : R.oq = none → R.ln = 0
  hq : ∀ q, R.oq = some q → q < nx
  hc : R.ln ≤ R.cp
def cutR (R : Rd) : Rd := { R with ln := min 900 R.ln }
theorem cutR_good {R : Rd} {nx nx' : Nat} (g : R.G0 nx) (h : nx ≤ nx') : (cutR R).Good nx' :=
  ⟨⟨by show min 900 R.ln ≤ R.bs.length; have := g.hl; omega, by show min 900 R.ln ≤ 1000000; omega⟩, fun e => by show min 900 R.ln = 0; rw [g.h0 e]; rfl, fun q e => Nat.lt_of_lt_of_le (g.hq q e) h, by show min 900 R.ln ≤ R.cp; have := g.hc; omega⟩
theorem same_q (A B : Bk) (T0 : Hp) (nx : Nat) (gA : A.Good nx) (gB : B.Good nx) (hA : ∀ id b, look id A.H = some b → look id T0 = some b) (hB : ∀ id b, look id B.H = some b → look id T0 = some b) (hT : ∀ id b, look id T0 = some b → id < nx) (hk : A.ks = B.ks) (hw : A.ws = B.ws) :
    CallW Try.prog 17 [A.val, B.val] T0 nx fun o F' n => (o = .ret (.bool true) ∧ nx ≤ n) ∧ F' = T0 := by
  refine (same_c A B T0 nx gA gB hA hB hT).mono ?_
  rintro o F' n ⟨⟨r, rfl, hr⟩, h1, h2⟩
  exact ⟨⟨by rw [hr.2 ⟨hk, hw⟩], h2⟩, h1⟩
theorem tail_facts2 {T0 : Hp} {nx n3 n4 : Nat} {D : Bk} (hlt : ∀ id x, look id T0 = some x → id < nx) (hn3 : nx < n3) (gD : D.Good n4) (hn : n3 ≤ n4) (hX : ∀ e ∈ D.H, n3 ≤ e.1) :
    (∀ id x, look id D.H = some x → look id (T0 ++ D.H) = some x) ∧ ∀ id x, look id (T0 ++ D.H) = some x → ¬ id = nx ∧ id < n4 := by
  refine ⟨fun id x h => ?_, fun id x h => ?_⟩
  · have h1 := hX _ (look_mem2 h)
    dsimp only at h1
    rw [look_past hlt (by omega)]
    exact h
  · rw [look_append] at h
    cases hl : look id T0 with
    | some y => have := hlt id y hl; omega
    | none =>
      rw [hl] at h
      have h1 := hX _ (look_mem2 h)
      have h2 := gD.t5 id x h
      dsimp only at h1
      omega
end Go.Proofs.Ytoihmanhldcjhaa.Id
namespace Go.Proofs.Ytoihmanhldcjhaa.Id
open Go Go.RowKit Go.ChangeShapes Go.WideShapes
set_option linter.unusedSimpArgs false
set_option linter.unusedVariables false
theorem bys_flat : ∀ l : List UInt8, (l.flatMap fun b : UInt8 => [Value.int .u8 b.toNat]) = bys l
  | [] => rfl
  | b :: l => by rw [List.flatMap_cons, bys_flat l]; rfl
theorem bytes_cell {H : Type} {enc : TypeId × Value → H} {W : World} {b0 : Nat} {v : Value} {d : DataW H} {p : List MemPlace} (h : Value.okWide Try.prog W .any b0 34 v) (ht : DataW.Trod enc Try.prog W 0 (fun _ => true) true 34 v d p) :
    ∃ oq len cap l, Opened (fun b : UInt8 => [Value.int .u8 b.toNat]) 1 W v oq len cap l := by
  obtain ⟨x, len, cap, rfl⟩ := okWide_slice Try.underlying34 h
  obtain ⟨m, hm⟩ := ht
  refine open_bytes (b0 := b0) ?_ (show DataW.trod enc Try.prog W 0 (fun _ => true) true m 34 [.slice x len cap] = some _ from by simpa [Value.cells] using hm)
  unfold Value.okWide at h
  rw [Try.underlying34] at h
  exact h
def argRd (q : Nat) (oq : Option Place) (len cap : Nat) (l : List UInt8) : Rd := ⟨l, len, oq.map fun _ => q, cap, true, false⟩
section
variable {W : World} {z : Value} {oq : Option Place} {len cap : Nat} {l : List UInt8} (h : Opened (fun b : UInt8 => [Value.int .u8 b.toNat]) 1 W z oq len cap l)
include h
theorem argRd_good {q nx : Nat} (hq : q < nx) : (argRd q oq len cap l).G0 nx := by
  refine ⟨?_, fun e => ?_, fun c e => ?_, h.hl⟩
  · show len ≤ l.length
    cases oq with
    | none => rw [(h.no rfl).1]; omega
    | some p => rw [h.rows p rfl]; exact h.hl
  · cases oq with
    | none => exact (h.no rfl).1
    | some p => cases e
  · cases oq with
    | none => cases e
    | some p => cases e; exact hq
theorem argRd_has {q : Nat} {mm : Mp} (m0 : mm q = oq) : ∀ id blk, look id (argRd q oq len cap l).H = some blk → blk.ro = true ∧ id = q ∧ ∃ p, mm id = some p ∧ BR mm blk p W := by
  intro id blk e
  unfold Rd.H argRd at e
  cases oq with
  | none => cases e
  | some p =>
    simp only [Option.map] at e
    rw [look_cons] at e
    split at e
    · rename_i hid; subst hid; cases e
      exact ⟨rfl, rfl, p, m0, by have := h.br p rfl mm 5; rwa [bys_flat] at this⟩
    · cases e
theorem argRd_vr {q : Nat} {mm : Mp} (m0 : mm q = oq) : VR mm (argRd q oq len cap l).val z := by
  unfold Rd.val argRd
  cases oq with
  | none => rw [(h.no rfl).2]; exact .snil
  | some p => exact h.vr p rfl mm q m0
end
theorem bytes_open {H : Type} {enc : TypeId × Value → H} {W : World} {b0 : Nat} {v : Value} {d : DataW H} {p : List MemPlace} (hv : Value.okWide Try.prog W .any b0 34 v) (ht : DataW.Trod enc Try.prog W 0 (fun _ => true) true 34 v d p) :
    ∃ (R : Rd) (mm : Mp), R.G0 1 ∧ HR mm R.H 1 W ∧ VRs mm [R.val] (#[v] : Array Value).toList ∧ ∀ id blk, look id R.H = some blk → blk.ro = true := by
  obtain ⟨oq, lenq, capq, lq, hq⟩ := bytes_cell hv ht
  obtain ⟨mm, hmm⟩ : ∃ mm : Mp, mm = fun id => if id = 0 then oq else none := ⟨_, rfl⟩
  have m0 : mm 0 = oq := by rw [hmm]; rfl
  have hR := argRd_has hq m0
  refine ⟨argRd 0 oq lenq capq lq, mm, argRd_good hq (by omega), ⟨fun id blk e => (hR id blk e).2.2, fun id hid => ?_, fun i j bi bj pi pj _ e1 _ _ _ hro => ?_⟩, .cons (argRd_vr hq m0) .nil, fun id blk e => (hR id blk e).1⟩
  · rw [hmm]
    show (if id = 0 then oq else none) = none
    rw [if_neg (by omega)]
  · rw [(hR i bi e1).1] at hro; cases hro
end Go.Proofs.Ytoihmanhldcjhaa.Id
namespace Go.Proofs.Ytoihmanhldcjhaa.POf
open Go.RowKit Go.Proofs.YtoihmanhldcjhaaW.PrintWords Go.Proofs.YtoihmanhldcjhaaW.PrintLast Go.Proofs.YtoihmanhldcjhaaW.PrintMore
attribute [local go_sem] max2_int min2_int max_two min_two max_three min_three max_four min_four
set_option linter.unusedVariables false
set_option linter.unusedSimpArgs false
end Go.Proofs.Ytoihmanhldcjhaa.POf
namespace Go.Proofs.Ytoihmanhldcjhaa.POf
open Go.RowKit Go.Proofs.YtoihmanhldcjhaaW.PrintWords Go.Proofs.YtoihmanhldcjhaaW.PrintLast Go.Proofs.YtoihmanhldcjhaaW.PrintMore
attribute [local go_sem] max2_int min2_int max_two min_two max_three min_three max_four min_four
set_option linter.unusedVariables false
set_option linter.unusedSimpArgs false
def bivouacref04_Parts.j0 : Nat → Bool → Int → Int → Bool → Option (Bool × Int × Int × Int)
  | 0, _, _, _, _ => none
  | k + 1, x6, x7, x8, x23 => if x23 = true then (some (x6, 0, 0, 2)) else (if x7 = 2047 then (some (x6, 0, 0, 1)) else (if x7 = 0 then (some (x6, x8, (-1074), 0)) else (some (x6, IntKind.u64.wrap (x8 + 4503599627370496), wrap64 (x7 - 1075), 0))))
def bivouacref04_Parts.f (k : Nat) (a0 : Int) : Option (Bool × Int × Int × Int) := if (wrap64 (Go.bits .and .u64 (a0 / 4503599627370496) 2047)) = 2047 then (bivouacref04_Parts.j0 k ((a0 / 9223372036854775808) == 1) (wrap64 (Go.bits .and .u64 (a0 / 4503599627370496) 2047)) (Go.bits .and .u64 a0 4503599627370495) ((Go.bits .and .u64 a0 4503599627370495) != 0)) else (bivouacref04_Parts.j0 k ((a0 / 9223372036854775808) == 1) (wrap64 (Go.bits .and .u64 (a0 / 4503599627370496) 2047)) (Go.bits .and .u64 a0 4503599627370495) false)
theorem bivouacref04_Parts.mono_l : ∀ k, (∀ y0 y1 y2 y3, LeO (bivouacref04_Parts.j0 k y0 y1 y2 y3) (bivouacref04_Parts.j0 (k + 1) y0 y1 y2 y3))
  | 0 => fun _ _ _ _ r h => by simp [bivouacref04_Parts.j0] at h
  | k + 1 => by
    have ih0 := bivouacref04_Parts.mono_l k
    · intro y0 y1 y2 y3
      unfold bivouacref04_Parts.j0
      repeat' first
      | (with_reducible exact ih0 _ _ _ _)
      | (with_reducible exact LeO.refl _)
      | (with_reducible exact LeO.none _)
      | (with_reducible refine LeO.ite ?_ ?_)
      | (with_reducible refine LeO.bind ?_ (fun _ => ?_))
      | exact ih0 _ _ _ _
      | exact LeO.none _
      | refine LeO.ite ?_ ?_
      | refine LeO.bind ?_ (fun _ => ?_)
theorem bivouacref04_Parts.mono : ∀ a0 k, LeO (bivouacref04_Parts.f k a0) (bivouacref04_Parts.f (k + 1) a0) := by
  intro a0 k
  have ih0 := bivouacref04_Parts.mono_l k
  unfold bivouacref04_Parts.f
  repeat' first
      | (with_reducible exact ih0 _ _ _ _)
      | (with_reducible exact LeO.refl _)
      | (with_reducible exact LeO.none _)
      | (with_reducible refine LeO.ite ?_ ?_)
      | (with_reducible refine LeO.bind ?_ (fun _ => ?_))
      | exact ih0 _ _ _ _
      | exact LeO.none _
      | refine LeO.ite ?_ ?_
      | refine LeO.bind ?_ (fun _ => ?_)
set_option maxHeartbeats 8000000 in
set_option maxRecDepth 100000 in
theorem bivouacref04_Parts.calls (k : Nat) (a0 : Int) (r1 : Bool) (r2 : Int) (r3 : Int) (r4 : Int) (w : World) (h : bivouacref04_Parts.f k a0 = some (r1, r2, r3, r4)) :
    Calls Try.prog 42 #[.int .u64 a0] w fun e w' => e = .returned (.tuple #[.bool r1, .int .u64 r2, .int .i64 r3, .int .i64 r4]) ∧ Drawn0 w w' := by
  have H : (if (wrap64 (Go.bits .and .u64 (a0 / 4503599627370496) 2047)) = 2047 then (bivouacref04_Parts.j0 k ((a0 / 9223372036854775808) == 1) (wrap64 (Go.bits .and .u64 (a0 / 4503599627370496) 2047)) (Go.bits .and .u64 a0 4503599627370495) ((Go.bits .and .u64 a0 4503599627370495) != 0)) else (bivouacref04_Parts.j0 k ((a0 / 9223372036854775808) == 1) (wrap64 (Go.bits .and .u64 (a0 / 4503599627370496) 2047)) (Go.bits .and .u64 a0 4503599627370495) false)) = some (r1, r2, r3, r4) := h
  clear h
  have HC2 := Aside0.mk H
  clear H
  go_enter Try.func42, Try.ntmps42
  go_upto_region 4 with (fail)
  go_cut [23] (fun v23 wc => ∃ (kq : Nat) (x23_1 : Bool), v23 = .bool x23_1 ∧ Aside0 (bivouacref04_Parts.j0 kq ((a0 / 9223372036854775808) == 1) (wrap64 (Go.bits .and .u64 (a0 / 4503599627370496) 2047)) (Go.bits .and .u64 a0 4503599627370495) x23_1 = some (r1, r2, r3, r4)) ∧ Aside0 (kq ≤ k) ∧ Drawn0 w wc)
  case first =>
    have H := HC2.out
    clear HC2
    by_cases c3 : (wrap64 (Go.bits .and .u64 (a0 / 4503599627370496) 2047)) = 2047
    · rw [if_pos c3] at H
      have c3b0 : ((wrap64 (Go.bits .and .u64 (a0 / 4503599627370496) 2047)) == 2047) = true := beq_iff_eq.mpr c3
      have c3b1 : ((wrap64 (Go.bits .and .u64 (a0 / 4503599627370496) 2047)) != 2047) = false := bne_eq_false_iff_eq.mpr c3
      clear c3
      (first | rw [c3b0] | (simp only [i64_w, i32_w]; rw [c3b0]) | skip)
      have H' := Aside0.mk H
      clear H
      go_wp2
      go_meet
      case rel => exact ⟨_, (((Go.bits .and .u64 a0 4503599627370495) != 0)), (by first | rfl | (simp; done) | (simp [*]; done)), H', ⟨by first | omega | exact Nat.le_refl _⟩, by repeat (first | exact Drawn0.refl _ | apply Drawn0.step)⟩
    · rw [if_neg c3] at H
      have c3b0 : ((wrap64 (Go.bits .and .u64 (a0 / 4503599627370496) 2047)) == 2047) = false := beq_eq_false_iff_ne.mpr c3
      have c3b1 : ((wrap64 (Go.bits .and .u64 (a0 / 4503599627370496) 2047)) != 2047) = true := bne_iff_ne.mpr c3
      (first | rw [c3b0] | (simp only [i64_w, i32_w]; rw [c3b0]) | skip)
      have H' := Aside0.mk H
      clear H
      go_wp2
      go_meet
      case rel => exact ⟨_, (false), (by first | rfl | (simp; done) | (simp [*]; done)), H', ⟨by first | omega | exact Nat.le_refl _⟩, by repeat (first | exact Drawn0.refl _ | apply Drawn0.step)⟩
  case rest =>
    clear HC2
    try clear p2
    try clear c3
    try clear c3b0
    try clear c3b1
    obtain ⟨kq, x23_1, rfl, HA, HJ1, ⟨mc1, rfl⟩⟩ := hcut
    cases kq with
    | zero => exact absurd HA.out (by simp [bivouacref04_Parts.j0])
    | succ kj1 =>
      have H := HA.out
      clear HA
      simp only [bivouacref04_Parts.j0] at H
      by_cases c4 : x23_1 = true
      · subst c4
        have H1 : (some (((a0 / 9223372036854775808) == 1), 0, 0, 2)) = some (r1, r2, r3, r4) := by rw [if_pos rfl] at H; exact H
        clear H
        have H := H1
        clear H1
        simp only [Option.some.injEq, Prod.mk.injEq] at H
        obtain ⟨rfl, rfl, rfl, rfl⟩ := H
        go_wp2
        refine bodyPost_ret (results_list (rs := [.tmp 2, .tmp 3, .tmp 4, .tmp 5]) rfl (by simp) (.tmp (.tmp (.tmp (.tmp .nil))))) rfl ?_
        exact ⟨by first | rfl | (simp; done) | (simp [*]; done), by repeat (first | exact Drawn0.refl _ | apply Drawn0.step)⟩
      · replace c4 := Bool.eq_false_iff.mpr c4
        subst c4
        have H1 : (if (wrap64 (Go.bits .and .u64 (a0 / 4503599627370496) 2047)) = 2047 then (some (((a0 / 9223372036854775808) == 1), 0, 0, 1)) else (if (wrap64 (Go.bits .and .u64 (a0 / 4503599627370496) 2047)) = 0 then (some (((a0 / 9223372036854775808) == 1), (Go.bits .and .u64 a0 4503599627370495), (-1074), 0)) else (some (((a0 / 9223372036854775808) == 1), IntKind.u64.wrap ((Go.bits .and .u64 a0 4503599627370495) + 4503599627370496), wrap64 ((wrap64 (Go.bits .and .u64 (a0 / 4503599627370496) 2047)) - 1075), 0)))) = some (r1, r2, r3, r4) := by rw [if_neg (show ¬ (false = true) by decide)] at H; exact H
        clear H
        have H := H1
        clear H1
        by_cases c5 : (wrap64 (Go.bits .and .u64 (a0 / 4503599627370496) 2047)) = 2047
        · rw [if_pos c5] at H
          have c5b0 : ((wrap64 (Go.bits .and .u64 (a0 / 4503599627370496) 2047)) == 2047) = true := beq_iff_eq.mpr c5
          have c5b1 : ((wrap64 (Go.bits .and .u64 (a0 / 4503599627370496) 2047)) != 2047) = false := bne_eq_false_iff_eq.mpr c5
          clear c5
          simp only [Option.some.injEq, Prod.mk.injEq] at H
          obtain ⟨rfl, rfl, rfl, rfl⟩ := H
          go_wp2
          refine bodyPost_ret (results_list (rs := [.tmp 2, .tmp 3, .tmp 4, .tmp 5]) rfl (by simp) (.tmp (.tmp (.tmp (.tmp .nil))))) rfl ?_
          exact ⟨by first | rfl | (simp; done) | (simp [*]; done), by repeat (first | exact Drawn0.refl _ | apply Drawn0.step)⟩
        · rw [if_neg c5] at H
          have c5b0 : ((wrap64 (Go.bits .and .u64 (a0 / 4503599627370496) 2047)) == 2047) = false := beq_eq_false_iff_ne.mpr c5
          have c5b1 : ((wrap64 (Go.bits .and .u64 (a0 / 4503599627370496) 2047)) != 2047) = true := bne_iff_ne.mpr c5
          by_cases c6 : (wrap64 (Go.bits .and .u64 (a0 / 4503599627370496) 2047)) = 0
          · rw [if_pos c6] at H
            have c6b0 : ((wrap64 (Go.bits .and .u64 (a0 / 4503599627370496) 2047)) == 0) = true := beq_iff_eq.mpr c6
            have c6b1 : ((wrap64 (Go.bits .and .u64 (a0 / 4503599627370496) 2047)) != 0) = false := bne_eq_false_iff_eq.mpr c6
            clear c6
            simp only [Option.some.injEq, Prod.mk.injEq] at H
            obtain ⟨rfl, rfl, rfl, rfl⟩ := H
            go_wp2
            refine bodyPost_ret (results_list (rs := [.tmp 2, .tmp 3, .tmp 4, .tmp 5]) rfl (by simp) (.tmp (.tmp (.tmp (.tmp .nil))))) rfl ?_
            exact ⟨by first | rfl | (simp; done) | (simp [*]; done), by repeat (first | exact Drawn0.refl _ | apply Drawn0.step)⟩
          · rw [if_neg c6] at H
            have c6b0 : ((wrap64 (Go.bits .and .u64 (a0 / 4503599627370496) 2047)) == 0) = false := beq_eq_false_iff_ne.mpr c6
            have c6b1 : ((wrap64 (Go.bits .and .u64 (a0 / 4503599627370496) 2047)) != 0) = true := bne_iff_ne.mpr c6
            simp only [Option.some.injEq, Prod.mk.injEq] at H
            obtain ⟨rfl, rfl, rfl, rfl⟩ := H
            go_wp2
            refine bodyPost_ret (results_list (rs := [.tmp 2, .tmp 3, .tmp 4, .tmp 5]) rfl (by simp) (.tmp (.tmp (.tmp (.tmp .nil))))) rfl ?_
            exact ⟨by first | rfl | (simp; done) | (simp [*]; done), by repeat (first | exact Drawn0.refl _ | apply Drawn0.step)⟩
def bivouacref04_one.f (a0 : Bool) : Option (Int) := if a0 = true then (some 1) else (some 0)
set_option maxHeartbeats 8000000 in
set_option maxRecDepth 100000 in
theorem bivouacref04_one.calls (a0 : Bool) (r : Int) (w : World) (h : bivouacref04_one.f a0 = some r) :
    Calls Try.prog 45 #[.bool a0] w fun e w' => e = .returned (.int .i64 r) ∧ Drawn0 w w' := by
  have H : (if a0 = true then (some 1) else (some 0)) = some r := h
  clear h
  by_cases c2 : a0 = true
  · subst c2
    have H1 : (some 1) = some r := by rw [if_pos rfl] at H; exact H
    clear H
    have H := H1
    clear H1
    obtain rfl := Option.some.inj H
    go_enter Try.func45, Try.ntmps45
    go_wp2
    go_ret
    exact ⟨by first | rfl | (simp; done) | (simp [*]; done), by repeat (first | exact Drawn0.refl _ | apply Drawn0.step)⟩
  · replace c2 := Bool.eq_false_iff.mpr c2
    subst c2
    have H1 : (some 0) = some r := by rw [if_neg (show ¬ (false = true) by decide)] at H; exact H
    clear H
    have H := H1
    clear H1
    obtain rfl := Option.some.inj H
    go_enter Try.func45, Try.ntmps45
    go_wp2
    go_ret
    exact ⟨by first | rfl | (simp; done) | (simp [*]; done), by repeat (first | exact Drawn0.refl _ | apply Drawn0.step)⟩
mutual
def bivouacref04_Scaled.j1 : Nat → Int → Int → Bool → Bool → Option (Int × Int × Bool)
  | 0, _, _, _, _ => none
  | k + 1, x0, x1, x7, x8 => if x0 = 0 then (bivouacref04_Scaled.j2 k x0 x1 x7 x8 (decide (x1 < 0))) else (bivouacref04_Scaled.j2 k x0 x1 x7 x8 false)
def bivouacref04_Scaled.j2 : Nat → Int → Int → Bool → Bool → Bool → Option (Int × Int × Bool)
  | 0, _, _, _, _, _ => none
  | k + 1, x0, x1, x7, x8, x38 => if x38 = true then ((bivouacref04_one.f x7).bind fun t101 => (some (0, t101, true))) else (bivouacref04_Scaled.l1 k x0 x1 x7 x8)
def bivouacref04_Scaled.l1 : Nat → Int → Int → Bool → Bool → Option (Int × Int × Bool)
  | 0, _, _, _, _ => none
  | k + 1, x0, x1, x7, x8 => if x1 > 0 then (bivouacref04_Scaled.j4 k x0 x1 x7 x8 (x0 != 0)) else (bivouacref04_Scaled.j4 k x0 x1 x7 x8 false)
def bivouacref04_Scaled.j4 : Nat → Int → Int → Bool → Bool → Bool → Option (Int × Int × Bool)
  | 0, _, _, _, _, _ => none
  | k + 1, x0, x1, x7, x8, x46 => if x46 = true then (if (IntKind.u64.wrap (x0 * 2)) ≥ 140737488355328 then (some (0, 0, false)) else (bivouacref04_Scaled.l1 k (IntKind.u64.wrap (x0 * 2)) (wrap64 (x1 - 1)) x7 x8)) else (if x0 ≥ 140737488355328 then (some (0, 0, false)) else (if x8 = true then (if x7 = true then (some (x0, 2 + 1, true)) else (some (x0, 2, true))) else (if x7 = true then (some (x0, 0 + 1, true)) else (some (x0, 0, true)))))
def bivouacref04_Scaled.l0 : Nat → Int → Int → Bool → Bool → Option (Int × Int × Bool)
  | 0, _, _, _, _ => none
  | k + 1, x0, x1, x7, x8 => if x1 < 0 then (if x7 = true then (if (x0 / 2) = 0 then (if ((Go.bits .and .u64 x0 1) = 1) then (bivouacref04_Scaled.l0 k (x0 / 2) (wrap64 (x1 + 1)) true ((Go.bits .and .u64 x0 1) == 1)) else (bivouacref04_Scaled.j1 k (x0 / 2) (wrap64 (x1 + 1)) true ((Go.bits .and .u64 x0 1) == 1))) else (bivouacref04_Scaled.l0 k (x0 / 2) (wrap64 (x1 + 1)) true ((Go.bits .and .u64 x0 1) == 1))) else (if (x0 / 2) = 0 then (if ((Go.bits .and .u64 x0 1) = 1) then (bivouacref04_Scaled.l0 k (x0 / 2) (wrap64 (x1 + 1)) x8 ((Go.bits .and .u64 x0 1) == 1)) else (if x8 = true then (bivouacref04_Scaled.j1 k (x0 / 2) (wrap64 (x1 + 1)) true ((Go.bits .and .u64 x0 1) == 1)) else (bivouacref04_Scaled.j1 k (x0 / 2) (wrap64 (x1 + 1)) ((Go.bits .and .u64 x0 1) == 1) ((Go.bits .and .u64 x0 1) == 1)))) else (bivouacref04_Scaled.l0 k (x0 / 2) (wrap64 (x1 + 1)) x8 ((Go.bits .and .u64 x0 1) == 1)))) else (bivouacref04_Scaled.j1 k x0 x1 x7 x8)
end
def bivouacref04_Scaled.f (k : Nat) (a0 : Int) (a1 : Int) : Option (Int × Int × Bool) := bivouacref04_Scaled.l0 k a0 a1 false false
theorem bivouacref04_Scaled.mono_l : ∀ k, (∀ y0 y1 y2 y3, LeO (bivouacref04_Scaled.j1 k y0 y1 y2 y3) (bivouacref04_Scaled.j1 (k + 1) y0 y1 y2 y3)) ∧ (∀ y0 y1 y2 y3 y4, LeO (bivouacref04_Scaled.j2 k y0 y1 y2 y3 y4) (bivouacref04_Scaled.j2 (k + 1) y0 y1 y2 y3 y4)) ∧ (∀ y0 y1 y2 y3, LeO (bivouacref04_Scaled.l1 k y0 y1 y2 y3) (bivouacref04_Scaled.l1 (k + 1) y0 y1 y2 y3)) ∧ (∀ y0 y1 y2 y3 y4, LeO (bivouacref04_Scaled.j4 k y0 y1 y2 y3 y4) (bivouacref04_Scaled.j4 (k + 1) y0 y1 y2 y3 y4)) ∧ (∀ y0 y1 y2 y3, LeO (bivouacref04_Scaled.l0 k y0 y1 y2 y3) (bivouacref04_Scaled.l0 (k + 1) y0 y1 y2 y3))
  | 0 => ⟨fun _ _ _ _ r h => by simp [bivouacref04_Scaled.j1] at h, fun _ _ _ _ _ r h => by simp [bivouacref04_Scaled.j2] at h, fun _ _ _ _ r h => by simp [bivouacref04_Scaled.l1] at h, fun _ _ _ _ _ r h => by simp [bivouacref04_Scaled.j4] at h, fun _ _ _ _ r h => by simp [bivouacref04_Scaled.l0] at h⟩
  | k + 1 => by
    obtain ⟨ih0, ih1, ih2, ih3, ih4⟩ := bivouacref04_Scaled.mono_l k
    refine ⟨?_, ?_, ?_, ?_, ?_⟩
    · intro y0 y1 y2 y3
      unfold bivouacref04_Scaled.j1
      repeat' first
      | (with_reducible exact ih0 _ _ _ _)
      | (with_reducible exact ih1 _ _ _ _ _)
      | (with_reducible exact ih2 _ _ _ _)
      | (with_reducible exact ih3 _ _ _ _ _)
      | (with_reducible exact ih4 _ _ _ _)
      | (with_reducible exact LeO.refl _)
      | (with_reducible exact LeO.none _)
      | (with_reducible refine LeO.ite ?_ ?_)
      | (with_reducible refine LeO.bind ?_ (fun _ => ?_))
      | exact ih0 _ _ _ _
      | exact ih1 _ _ _ _ _
      | exact ih2 _ _ _ _
      | exact ih3 _ _ _ _ _
      | exact ih4 _ _ _ _
      | exact LeO.none _
      | refine LeO.ite ?_ ?_
      | refine LeO.bind ?_ (fun _ => ?_)
    · intro y0 y1 y2 y3 y4
      unfold bivouacref04_Scaled.j2
      repeat' first
      | (with_reducible exact ih0 _ _ _ _)
      | (with_reducible exact ih1 _ _ _ _ _)
      | (with_reducible exact ih2 _ _ _ _)
      | (with_reducible exact ih3 _ _ _ _ _)
      | (with_reducible exact ih4 _ _ _ _)
      | (with_reducible exact LeO.refl _)
      | (with_reducible exact LeO.none _)
      | (with_reducible refine LeO.ite ?_ ?_)
      | (with_reducible refine LeO.bind ?_ (fun _ => ?_))
      | exact ih0 _ _ _ _
      | exact ih1 _ _ _ _ _
      | exact ih2 _ _ _ _
      | exact ih3 _ _ _ _ _
      | exact ih4 _ _ _ _
      | exact LeO.none _
      | refine LeO.ite ?_ ?_
      | refine LeO.bind ?_ (fun _ => ?_)
    · intro y0 y1 y2 y3
      unfold bivouacref04_Scaled.l1
      repeat' first
      | (with_reducible exact ih0 _ _ _ _)
      | (with_reducible exact ih1 _ _ _ _ _)
      | (with_reducible exact ih2 _ _ _ _)
      | (with_reducible exact ih3 _ _ _ _ _)
      | (with_reducible exact ih4 _ _ _ _)
      | (with_reducible exact LeO.refl _)
      | (with_reducible exact LeO.none _)
      | (with_reducible refine LeO.ite ?_ ?_)
      | (with_reducible refine LeO.bind ?_ (fun _ => ?_))
      | exact ih0 _ _ _ _
      | exact ih1 _ _ _ _ _
      | exact ih2 _ _ _ _
      | exact ih3 _ _ _ _ _
      | exact ih4 _ _ _ _
      | exact LeO.none _
      | refine LeO.ite ?_ ?_
      | refine LeO.bind ?_ (fun _ => ?_)
    · intro y0 y1 y2 y3 y4
      unfold bivouacref04_Scaled.j4
      repeat' first
      | (with_reducible exact ih0 _ _ _ _)
      | (with_reducible exact ih1 _ _ _ _ _)
      | (with_reducible exact ih2 _ _ _ _)
      | (with_reducible exact ih3 _ _ _ _ _)
      | (with_reducible exact ih4 _ _ _ _)
      | (with_reducible exact LeO.refl _)
      | (with_reducible exact LeO.none _)
      | (with_reducible refine LeO.ite ?_ ?_)
      | (with_reducible refine LeO.bind ?_ (fun _ => ?_))
      | exact ih0 _ _ _ _
      | exact ih1 _ _ _ _ _
      | exact ih2 _ _ _ _
      | exact ih3 _ _ _ _ _
      | exact ih4 _ _ _ _
      | exact LeO.none _
      | refine LeO.ite ?_ ?_
      | refine LeO.bind ?_ (fun _ => ?_)
    · intro y0 y1 y2 y3
      unfold bivouacref04_Scaled.l0
      repeat' first
      | (with_reducible exact ih0 _ _ _ _)
      | (with_reducible exact ih1 _ _ _ _ _)
      | (with_reducible exact ih2 _ _ _ _)
      | (with_reducible exact ih3 _ _ _ _ _)
      | (with_reducible exact ih4 _ _ _ _)
      | (with_reducible exact LeO.refl _)
      | (with_reducible exact LeO.none _)
      | (with_reducible refine LeO.ite ?_ ?_)
      | (with_reducible refine LeO.bind ?_ (fun _ => ?_))
      | exact ih0 _ _ _ _
      | exact ih1 _ _ _ _ _
      | exact ih2 _ _ _ _
      | exact ih3 _ _ _ _ _
      | exact ih4 _ _ _ _
      | exact LeO.none _
      | refine LeO.ite ?_ ?_
      | refine LeO.bind ?_ (fun _ => ?_)
theorem bivouacref04_Scaled.mono : ∀ a0 a1 k, LeO (bivouacref04_Scaled.f k a0 a1) (bivouacref04_Scaled.f (k + 1) a0 a1) := by
  intro a0 a1 k
  obtain ⟨ih0, ih1, ih2, ih3, ih4⟩ := bivouacref04_Scaled.mono_l k
  unfold bivouacref04_Scaled.f
  repeat' first
      | (with_reducible exact ih0 _ _ _ _)
      | (with_reducible exact ih1 _ _ _ _ _)
      | (with_reducible exact ih2 _ _ _ _)
      | (with_reducible exact ih3 _ _ _ _ _)
      | (with_reducible exact ih4 _ _ _ _)
      | (with_reducible exact LeO.refl _)
      | (with_reducible exact LeO.none _)
      | (with_reducible refine LeO.ite ?_ ?_)
      | (with_reducible refine LeO.bind ?_ (fun _ => ?_))
      | exact ih0 _ _ _ _
      | exact ih1 _ _ _ _ _
      | exact ih2 _ _ _ _
      | exact ih3 _ _ _ _ _
      | exact ih4 _ _ _ _
      | exact LeO.none _
      | refine LeO.ite ?_ ?_
      | refine LeO.bind ?_ (fun _ => ?_)
set_option maxHeartbeats 8000000 in
set_option maxRecDepth 100000 in
theorem bivouacref04_Scaled.calls (k : Nat) (a0 : Int) (a1 : Int) (r1 : Int) (r2 : Int) (r3 : Bool) (w : World) (h : bivouacref04_Scaled.f k a0 a1 = some (r1, r2, r3)) :
    Calls Try.prog 43 #[.int .u64 a0, .int .i64 a1] w fun e w' => e = .returned (.tuple #[.int .u64 r1, .int .i64 r2, .bool r3]) ∧ Drawn0 w w' := by
  have H : (bivouacref04_Scaled.l0 k a0 a1 false false) = some (r1, r2, r3) := h
  clear h
  have HC3 := Aside0.mk H
  clear H
  go_enter Try.func43, Try.ntmps43
  go_upto_block 0 with (fail)
  go_cut [0, 1, 7, 8] (fun v0 v1 v7 v8 wc => ∃ (kq : Nat) (x0_2 : Int) (x1_2 : Int) (x7_2 : Bool) (x8_2 : Bool), v0 = .int .u64 x0_2 ∧ v1 = .int .i64 x1_2 ∧ v7 = .bool x7_2 ∧ v8 = .bool x8_2 ∧ Aside0 (bivouacref04_Scaled.j1 kq x0_2 x1_2 x7_2 x8_2 = some (r1, r2, r3)) ∧ Aside0 (kq ≤ k) ∧ Drawn0 w wc)
  case first =>
    have H := HC3.out
    clear HC3
    have H' := Aside0.mk H
    clear H
    go_wp2
    go_loopg [0, 1, 7, 8] k (fun kq v0 v1 v7 v8 w' => ∃ (x0_1 : Int) (x1_1 : Int) (x7_1 : Bool) (x8_1 : Bool), v0 = .int .u64 x0_1 ∧ v1 = .int .i64 x1_1 ∧ v7 = .bool x7_1 ∧ v8 = .bool x8_1 ∧ Aside0 (bivouacref04_Scaled.l0 kq x0_1 x1_1 x7_1 x8_1 = some (r1, r2, r3)) ∧ Aside0 (kq ≤ k) ∧ Drawn0 w w')
    case atStart => exact ⟨(a0), (a1), (false), (false), (by first | rfl | (simp; done) | (simp [*]; done)), (by first | rfl | (simp; done) | (simp [*]; done)), (by first | rfl | (simp; done) | (simp [*]; done)), (by first | rfl | (simp; done) | (simp [*]; done)), H', ⟨Nat.le_refl _⟩, by repeat (first | exact Drawn0.refl _ | apply Drawn0.step)⟩
    case round =>
      clear H'
      try clear p2
      obtain ⟨x0_1, x1_1, x7_1, x8_1, rfl, rfl, rfl, rfl, HA, HK1, ⟨m1, rfl⟩⟩ := hrel
      cases gk with
      | zero => exact absurd HA.out (by simp [bivouacref04_Scaled.l0])
      | succ k1 =>
        have H := HA.out
        clear HA
        simp only [bivouacref04_Scaled.l0] at H
        by_cases c4 : x1_1 < 0
        · rw [if_pos c4] at H
          have c4b0 : decide (x1_1 < 0) = true := decide_eq_true c4
          clear c4
          (first | rw [c4b0] | (simp only [i64_w, i32_w]; rw [c4b0]) | skip)
          by_cases c5 : x7_1 = true
          · subst c5
            have H1 : (if (x0_1 / 2) = 0 then (if ((Go.bits .and .u64 x0_1 1) = 1) then (bivouacref04_Scaled.l0 k1 (x0_1 / 2) (wrap64 (x1_1 + 1)) true ((Go.bits .and .u64 x0_1 1) == 1)) else (bivouacref04_Scaled.j1 k1 (x0_1 / 2) (wrap64 (x1_1 + 1)) true ((Go.bits .and .u64 x0_1 1) == 1))) else (bivouacref04_Scaled.l0 k1 (x0_1 / 2) (wrap64 (x1_1 + 1)) true ((Go.bits .and .u64 x0_1 1) == 1))) = some (r1, r2, r3) := by rw [if_pos rfl] at H; exact H
            clear H
            have H := H1
            clear H1
            by_cases c6 : (x0_1 / 2) = 0
            · rw [if_pos c6] at H
              have c6b0 : ((x0_1 / 2) == 0) = true := beq_iff_eq.mpr c6
              have c6b1 : ((x0_1 / 2) != 0) = false := bne_eq_false_iff_eq.mpr c6
              clear c6
              by_cases c7 : ((Go.bits .and .u64 x0_1 1) = 1)
              · rw [if_pos c7] at H
                have c7b0 : ((Go.bits .and .u64 x0_1 1) == 1) = true := beq_iff_eq.mpr c7
                have c7b1 : ((Go.bits .and .u64 x0_1 1) != 1) = false := bne_eq_false_iff_eq.mpr c7
                clear c7
                have H' := Aside0.mk H
                clear H
                go_wp2
                go_roundg k1
                case measure => have := HK1.out; omega
                case rel => exact ⟨(x0_1 / 2), (wrap64 (x1_1 + 1)), (true), (((Go.bits .and .u64 x0_1 1) == 1)), (by first | rfl | (simp; done) | (simp [*]; done)), (by first | rfl | (simp; done) | (simp [*]; done)), (by first | rfl | (simp; done) | (simp [*]; done)), (by first | rfl | (simp; done) | (simp [*]; done)), H', ⟨by have := HK1.out; omega⟩, by repeat (first | exact Drawn0.refl _ | apply Drawn0.step)⟩
              · rw [if_neg c7] at H
                have c7b0 : ((Go.bits .and .u64 x0_1 1) == 1) = false := beq_eq_false_iff_ne.mpr c7
                have c7b1 : ((Go.bits .and .u64 x0_1 1) != 1) = true := bne_iff_ne.mpr c7
                have H' := Aside0.mk H
                clear H
                go_wp2
                go_meet
                case rel => exact ⟨_, (x0_1 / 2), (wrap64 (x1_1 + 1)), (true), (((Go.bits .and .u64 x0_1 1) == 1)), (by first | rfl | (simp; done) | (simp [*]; done)), (by first | rfl | (simp; done) | (simp [*]; done)), (by first | rfl | (simp; done) | (simp [*]; done)), (by first | rfl | (simp; done) | (simp [*]; done)), H', ⟨by have := HK1.out; first | omega | exact Nat.le_refl _⟩, by repeat (first | exact Drawn0.refl _ | apply Drawn0.step)⟩
            · rw [if_neg c6] at H
              have c6b0 : ((x0_1 / 2) == 0) = false := beq_eq_false_iff_ne.mpr c6
              have c6b1 : ((x0_1 / 2) != 0) = true := bne_iff_ne.mpr c6
              have H' := Aside0.mk H
              clear H
              go_wp2
              go_roundg k1
              case measure => have := HK1.out; omega
              case rel => exact ⟨(x0_1 / 2), (wrap64 (x1_1 + 1)), (true), (((Go.bits .and .u64 x0_1 1) == 1)), (by first | rfl | (simp; done) | (simp [*]; done)), (by first | rfl | (simp; done) | (simp [*]; done)), (by first | rfl | (simp; done) | (simp [*]; done)), (by first | rfl | (simp; done) | (simp [*]; done)), H', ⟨by have := HK1.out; omega⟩, by repeat (first | exact Drawn0.refl _ | apply Drawn0.step)⟩
          · replace c5 := Bool.eq_false_iff.mpr c5
            subst c5
            have H1 : (if (x0_1 / 2) = 0 then (if ((Go.bits .and .u64 x0_1 1) = 1) then (bivouacref04_Scaled.l0 k1 (x0_1 / 2) (wrap64 (x1_1 + 1)) x8_1 ((Go.bits .and .u64 x0_1 1) == 1)) else (if x8_1 = true then (bivouacref04_Scaled.j1 k1 (x0_1 / 2) (wrap64 (x1_1 + 1)) true ((Go.bits .and .u64 x0_1 1) == 1)) else (bivouacref04_Scaled.j1 k1 (x0_1 / 2) (wrap64 (x1_1 + 1)) ((Go.bits .and .u64 x0_1 1) == 1) ((Go.bits .and .u64 x0_1 1) == 1)))) else (bivouacref04_Scaled.l0 k1 (x0_1 / 2) (wrap64 (x1_1 + 1)) x8_1 ((Go.bits .and .u64 x0_1 1) == 1))) = some (r1, r2, r3) := by rw [if_neg (show ¬ (false = true) by decide)] at H; exact H
            clear H
            have H := H1
            clear H1
            by_cases c8 : (x0_1 / 2) = 0
            · rw [if_pos c8] at H
              have c8b0 : ((x0_1 / 2) == 0) = true := beq_iff_eq.mpr c8
              have c8b1 : ((x0_1 / 2) != 0) = false := bne_eq_false_iff_eq.mpr c8
              clear c8
              by_cases c9 : ((Go.bits .and .u64 x0_1 1) = 1)
              · rw [if_pos c9] at H
                have c9b0 : ((Go.bits .and .u64 x0_1 1) == 1) = true := beq_iff_eq.mpr c9
                have c9b1 : ((Go.bits .and .u64 x0_1 1) != 1) = false := bne_eq_false_iff_eq.mpr c9
                clear c9
                have H' := Aside0.mk H
                clear H
                go_wp2
                go_roundg k1
                case measure => have := HK1.out; omega
                case rel => exact ⟨(x0_1 / 2), (wrap64 (x1_1 + 1)), (x8_1), (((Go.bits .and .u64 x0_1 1) == 1)), (by first | rfl | (simp; done) | (simp [*]; done)), (by first | rfl | (simp; done) | (simp [*]; done)), (by first | rfl | (simp; done) | (simp [*]; done)), (by first | rfl | (simp; done) | (simp [*]; done)), H', ⟨by have := HK1.out; omega⟩, by repeat (first | exact Drawn0.refl _ | apply Drawn0.step)⟩
              · rw [if_neg c9] at H
                have c9b0 : ((Go.bits .and .u64 x0_1 1) == 1) = false := beq_eq_false_iff_ne.mpr c9
                have c9b1 : ((Go.bits .and .u64 x0_1 1) != 1) = true := bne_iff_ne.mpr c9
                by_cases c10 : x8_1 = true
                · subst c10
                  have H1 : (bivouacref04_Scaled.j1 k1 (x0_1 / 2) (wrap64 (x1_1 + 1)) true ((Go.bits .and .u64 x0_1 1) == 1)) = some (r1, r2, r3) := by rw [if_pos rfl] at H; exact H
                  clear H
                  have H := H1
                  clear H1
                  have H' := Aside0.mk H
                  clear H
                  go_wp2
                  go_meet
                  case rel => exact ⟨_, (x0_1 / 2), (wrap64 (x1_1 + 1)), (true), (((Go.bits .and .u64 x0_1 1) == 1)), (by first | rfl | (simp; done) | (simp [*]; done)), (by first | rfl | (simp; done) | (simp [*]; done)), (by first | rfl | (simp; done) | (simp [*]; done)), (by first | rfl | (simp; done) | (simp [*]; done)), H', ⟨by have := HK1.out; first | omega | exact Nat.le_refl _⟩, by repeat (first | exact Drawn0.refl _ | apply Drawn0.step)⟩
                · replace c10 := Bool.eq_false_iff.mpr c10
                  subst c10
                  have H1 : (bivouacref04_Scaled.j1 k1 (x0_1 / 2) (wrap64 (x1_1 + 1)) ((Go.bits .and .u64 x0_1 1) == 1) ((Go.bits .and .u64 x0_1 1) == 1)) = some (r1, r2, r3) := by rw [if_neg (show ¬ (false = true) by decide)] at H; exact H
                  clear H
                  have H := H1
                  clear H1
                  have H' := Aside0.mk H
                  clear H
                  go_wp2
                  go_meet
                  case rel => exact ⟨_, (x0_1 / 2), (wrap64 (x1_1 + 1)), (((Go.bits .and .u64 x0_1 1) == 1)), (((Go.bits .and .u64 x0_1 1) == 1)), (by first | rfl | (simp; done) | (simp [*]; done)), (by first | rfl | (simp; done) | (simp [*]; done)), (by first | rfl | (simp; done) | (simp [*]; done)), (by first | rfl | (simp; done) | (simp [*]; done)), H', ⟨by have := HK1.out; first | omega | exact Nat.le_refl _⟩, by repeat (first | exact Drawn0.refl _ | apply Drawn0.step)⟩
            · rw [if_neg c8] at H
              have c8b0 : ((x0_1 / 2) == 0) = false := beq_eq_false_iff_ne.mpr c8
              have c8b1 : ((x0_1 / 2) != 0) = true := bne_iff_ne.mpr c8
              have H' := Aside0.mk H
              clear H
              go_wp2
              go_roundg k1
              case measure => have := HK1.out; omega
              case rel => exact ⟨(x0_1 / 2), (wrap64 (x1_1 + 1)), (x8_1), (((Go.bits .and .u64 x0_1 1) == 1)), (by first | rfl | (simp; done) | (simp [*]; done)), (by first | rfl | (simp; done) | (simp [*]; done)), (by first | rfl | (simp; done) | (simp [*]; done)), (by first | rfl | (simp; done) | (simp [*]; done)), H', ⟨by have := HK1.out; omega⟩, by repeat (first | exact Drawn0.refl _ | apply Drawn0.step)⟩
        · rw [if_neg c4] at H
          have c4b0 : decide (x1_1 < 0) = false := decide_eq_false c4
          clear c4
          (first | rw [c4b0] | (simp only [i64_w, i32_w]; rw [c4b0]) | skip)
          have H' := Aside0.mk H
          clear H
          go_wp2
          go_meet
          case rel => exact ⟨_, (x0_1), (x1_1), (x7_1), (x8_1), (by first | rfl | (simp; done) | (simp [*]; done)), (by first | rfl | (simp; done) | (simp [*]; done)), (by first | rfl | (simp; done) | (simp [*]; done)), (by first | rfl | (simp; done) | (simp [*]; done)), H', ⟨by have := HK1.out; first | omega | exact Nat.le_refl _⟩, by repeat (first | exact Drawn0.refl _ | apply Drawn0.step)⟩
  case rest =>
    clear HC3
    try clear c1
    try clear p2
    try clear c4
    try clear c4b0
    try clear c5
    try clear c6
    try clear c6b0
    try clear c6b1
    try clear p6
    try clear c7
    try clear c7b0
    try clear c7b1
    try clear c8
    try clear c8b0
    try clear c8b1
    try clear c9
    try clear c9b0
    try clear c9b1
    try clear c10
    try clear p2
    obtain ⟨kq, x0_2, x1_2, x7_2, x8_2, rfl, rfl, rfl, rfl, HA, HJ2, ⟨mc2, rfl⟩⟩ := hcut
    cases kq with
    | zero => exact absurd HA.out (by simp [bivouacref04_Scaled.j1])
    | succ kj2 =>
      have H := HA.out
      clear HA
      simp only [bivouacref04_Scaled.j1] at H
      have HC11 := Aside0.mk H
      clear H
      go_upto_region 9 with (fail)
      go_cut [38] (fun v38 wc => ∃ (kq : Nat) (x38_10 : Bool), v38 = .bool x38_10 ∧ Aside0 (bivouacref04_Scaled.j2 kq x0_2 x1_2 x7_2 x8_2 x38_10 = some (r1, r2, r3)) ∧ Aside0 (kq ≤ kj2) ∧ Drawn0 w wc)
      case first =>
        have H := HC11.out
        clear HC11
        by_cases c12 : x0_2 = 0
        · rw [if_pos c12] at H
          have c12b0 : (x0_2 == 0) = true := beq_iff_eq.mpr c12
          have c12b1 : (x0_2 != 0) = false := bne_eq_false_iff_eq.mpr c12
          clear c12
          (first | rw [c12b0] | (simp only [i64_w, i32_w]; rw [c12b0]) | skip)
          have H' := Aside0.mk H
          clear H
          go_wp2
          go_meet
          case rel => exact ⟨_, (decide (x1_2 < 0)), (by first | rfl | (simp; done) | (simp [*]; done)), H', ⟨by have := HJ2.out; first | omega | exact Nat.le_refl _⟩, by repeat (first | exact Drawn0.refl _ | apply Drawn0.step)⟩
        · rw [if_neg c12] at H
          have c12b0 : (x0_2 == 0) = false := beq_eq_false_iff_ne.mpr c12
          have c12b1 : (x0_2 != 0) = true := bne_iff_ne.mpr c12
          (first | rw [c12b0] | (simp only [i64_w, i32_w]; rw [c12b0]) | skip)
          have H' := Aside0.mk H
          clear H
          go_wp2
          go_meet
          case rel => exact ⟨_, (false), (by first | rfl | (simp; done) | (simp [*]; done)), H', ⟨by have := HJ2.out; first | omega | exact Nat.le_refl _⟩, by repeat (first | exact Drawn0.refl _ | apply Drawn0.step)⟩
      case rest =>
        clear HC11
        try clear c1
        try clear c2
        try clear p2
        try clear c4
        try clear c4b0
        try clear c5
        try clear c6
        try clear c6b0
        try clear c6b1
        try clear p6
        try clear c7
        try clear c7b0
        try clear c7b1
        try clear c8
        try clear c8b0
        try clear c8b1
        try clear c9
        try clear c9b0
        try clear c9b1
        try clear c10
        try clear c12
        try clear c12b0
        try clear c12b1
        try clear p2
        try clear p6
        obtain ⟨kq, x38_10, rfl, HA, HJ10, ⟨mc10, rfl⟩⟩ := hcut
        cases kq with
        | zero => exact absurd HA.out (by simp [bivouacref04_Scaled.j2])
        | succ kj10 =>
          have H := HA.out
          clear HA
          simp only [bivouacref04_Scaled.j2] at H
          by_cases c13 : x38_10 = true
          · subst c13
            have H1 : ((bivouacref04_one.f x7_2).bind fun t101 => (some (0, t101, true))) = some (r1, r2, r3) := by rw [if_pos rfl] at H; exact H
            clear H
            have H := H1
            clear H1
            replace H := Option.bind_eq_some_iff.mp H
            obtain ⟨t101, A140, H⟩ := H
            replace H : (some (0, t101, true)) = some (r1, r2, r3) := H
            have A14 := Aside0.mk A140
            clear A140
            simp only [Option.some.injEq, Prod.mk.injEq] at H
            obtain ⟨rfl, rfl, rfl⟩ := H
            go_wp2_with (first | ((with_reducible refine gate_callee (f := 45) rfl ?_); refine goesL_ (some 40) rfl rfl Try.func45 (by kernel_rfl) rfl #[.bool x7_2] rfl (by (try simp only [List.map_toArray, List.map_cons, List.map_nil]); first | done | rfl | (simp only [List.length_drop, List.length_take]; rfl)) ?_; (with_reducible refine (bivouacref04_one.calls x7_2 t101 _ A14.out).mono ?_); rintro e w' ⟨rfl, ⟨nd, rfl⟩⟩; refine ⟨_, rfl, ?_⟩))
            go_ret3
            exact ⟨by first | rfl | (simp; done) | (simp [*]; done), by repeat (first | exact Drawn0.refl _ | apply Drawn0.step)⟩
          · replace c13 := Bool.eq_false_iff.mpr c13
            subst c13
            have H1 : (bivouacref04_Scaled.l1 kj10 x0_2 x1_2 x7_2 x8_2) = some (r1, r2, r3) := by rw [if_neg (show ¬ (false = true) by decide)] at H; exact H
            clear H
            have H := H1
            clear H1
            have H' := Aside0.mk H
            clear H
            go_wp2
            go_loopg [0, 1] kj10 (fun kq v0 v1 w' => ∃ (x0_3 : Int) (x1_3 : Int), v0 = .int .u64 x0_3 ∧ v1 = .int .i64 x1_3 ∧ Aside0 (bivouacref04_Scaled.l1 kq x0_3 x1_3 x7_2 x8_2 = some (r1, r2, r3)) ∧ Aside0 (kq ≤ kj10) ∧ Drawn0 w w')
            case atStart => exact ⟨(x0_2), (x1_2), (by first | rfl | (simp; done) | (simp [*]; done)), (by first | rfl | (simp; done) | (simp [*]; done)), H', ⟨Nat.le_refl _⟩, by repeat (first | exact Drawn0.refl _ | apply Drawn0.step)⟩
            case round =>
              clear H'
              try clear c1
              try clear c2
              try clear p2
              try clear c4
              try clear c4b0
              try clear c5
              try clear c6
              try clear c6b0
              try clear c6b1
              try clear p6
              try clear c7
              try clear c7b0
              try clear c7b1
              try clear c8
              try clear c8b0
              try clear c8b1
              try clear c9
              try clear c9b0
              try clear c9b1
              try clear c10
              try clear c12
              try clear c12b0
              try clear c12b1
              try clear c13
              try clear p2
              try clear p6
              obtain ⟨x0_3, x1_3, rfl, rfl, HA, HK3, ⟨m3, rfl⟩⟩ := hrel
              cases gk with
              | zero => exact absurd HA.out (by simp [bivouacref04_Scaled.l1])
              | succ k3 =>
                have H := HA.out
                clear HA
                simp only [bivouacref04_Scaled.l1] at H
                have HC15 := Aside0.mk H
                clear H
                go_upto_region 11 with (fail)
                go_cut [46] (fun v46 wc => ∃ (kq : Nat) (x46_14 : Bool), v46 = .bool x46_14 ∧ Aside0 (bivouacref04_Scaled.j4 kq x0_3 x1_3 x7_2 x8_2 x46_14 = some (r1, r2, r3)) ∧ Aside0 (kq ≤ k3) ∧ Drawn0 w wc)
                case first =>
                  have H := HC15.out
                  clear HC15
                  by_cases c16 : x1_3 > 0
                  · rw [if_pos c16] at H
                    have c16b0 : decide (0 < x1_3) = true := decide_eq_true c16
                    clear c16
                    (first | rw [c16b0] | (simp only [i64_w, i32_w]; rw [c16b0]) | skip)
                    have H' := Aside0.mk H
                    clear H
                    go_wp2
                    go_meet
                    case rel => exact ⟨_, ((x0_3 != 0)), (by first | rfl | (simp; done) | (simp [*]; done)), H', ⟨by have := HJ2.out; have := HJ10.out; have := HK3.out; first | omega | exact Nat.le_refl _⟩, by repeat (first | exact Drawn0.refl _ | apply Drawn0.step)⟩
                  · rw [if_neg c16] at H
                    have c16b0 : decide (0 < x1_3) = false := decide_eq_false c16
                    clear c16
                    (first | rw [c16b0] | (simp only [i64_w, i32_w]; rw [c16b0]) | skip)
                    have H' := Aside0.mk H
                    clear H
                    go_wp2
                    go_meet
                    case rel => exact ⟨_, (false), (by first | rfl | (simp; done) | (simp [*]; done)), H', ⟨by have := HJ2.out; have := HJ10.out; have := HK3.out; first | omega | exact Nat.le_refl _⟩, by repeat (first | exact Drawn0.refl _ | apply Drawn0.step)⟩
                case rest =>
                  clear HC15
                  try clear c1
                  try clear c2
                  try clear p2
                  try clear c4
                  try clear c4b0
                  try clear c5
                  try clear c6
                  try clear c6b0
                  try clear c6b1
                  try clear p6
                  try clear c7
                  try clear c7b0
                  try clear c7b1
                  try clear c8
                  try clear c8b0
                  try clear c8b1
                  try clear c9
                  try clear c9b0
                  try clear c9b1
                  try clear c10
                  try clear c12
                  try clear c12b0
                  try clear c12b1
                  try clear c13
                  try clear c16
                  try clear c16b0
                  try clear p2
                  try clear p6
                  obtain ⟨kq, x46_14, rfl, HA, HJ14, ⟨mc14, rfl⟩⟩ := hcut
                  cases kq with
                  | zero => exact absurd HA.out (by simp [bivouacref04_Scaled.j4])
                  | succ kj14 =>
                    have H := HA.out
                    clear HA
                    simp only [bivouacref04_Scaled.j4] at H
                    by_cases c17 : x46_14 = true
                    · subst c17
                      have H1 : (if (IntKind.u64.wrap (x0_3 * 2)) ≥ 140737488355328 then (some (0, 0, false)) else (bivouacref04_Scaled.l1 kj14 (IntKind.u64.wrap (x0_3 * 2)) (wrap64 (x1_3 - 1)) x7_2 x8_2)) = some (r1, r2, r3) := by rw [if_pos rfl] at H; exact H
                      clear H
                      have H := H1
                      clear H1
                      by_cases c18 : (IntKind.u64.wrap (x0_3 * 2)) ≥ 140737488355328
                      · rw [if_pos c18] at H
                        have c18b0 : decide (140737488355328 ≤ (IntKind.u64.wrap (x0_3 * 2))) = true := decide_eq_true c18
                        clear c18
                        simp only [Option.some.injEq, Prod.mk.injEq] at H
                        obtain ⟨rfl, rfl, rfl⟩ := H
                        go_wp2
                        go_ret3
                        exact ⟨by first | rfl | (simp; done) | (simp [*]; done), by repeat (first | exact Drawn0.refl _ | apply Drawn0.step)⟩
                      · rw [if_neg c18] at H
                        have c18b0 : decide (140737488355328 ≤ (IntKind.u64.wrap (x0_3 * 2))) = false := decide_eq_false c18
                        clear c18
                        have H' := Aside0.mk H
                        clear H
                        go_wp2
                        go_roundg kj14
                        case measure => have := HJ2.out; have := HJ10.out; have := HK3.out; have := HJ14.out; omega
                        case rel => exact ⟨(IntKind.u64.wrap (x0_3 * 2)), (wrap64 (x1_3 - 1)), (by first | rfl | (simp; done) | (simp [*]; done)), (by first | rfl | (simp; done) | (simp [*]; done)), H', ⟨by have := HJ2.out; have := HJ10.out; have := HK3.out; have := HJ14.out; omega⟩, by repeat (first | exact Drawn0.refl _ | apply Drawn0.step)⟩
                    · replace c17 := Bool.eq_false_iff.mpr c17
                      subst c17
                      have H1 : (if x0_3 ≥ 140737488355328 then (some (0, 0, false)) else (if x8_2 = true then (if x7_2 = true then (some (x0_3, 2 + 1, true)) else (some (x0_3, 2, true))) else (if x7_2 = true then (some (x0_3, 0 + 1, true)) else (some (x0_3, 0, true))))) = some (r1, r2, r3) := by rw [if_neg (show ¬ (false = true) by decide)] at H; exact H
                      clear H
                      have H := H1
                      clear H1
                      by_cases c19 : x0_3 ≥ 140737488355328
                      · rw [if_pos c19] at H
                        have c19b0 : decide (140737488355328 ≤ x0_3) = true := decide_eq_true c19
                        clear c19
                        simp only [Option.some.injEq, Prod.mk.injEq] at H
                        obtain ⟨rfl, rfl, rfl⟩ := H
                        go_wp2
                        go_ret3
                        exact ⟨by first | rfl | (simp; done) | (simp [*]; done), by repeat (first | exact Drawn0.refl _ | apply Drawn0.step)⟩
                      · rw [if_neg c19] at H
                        have c19b0 : decide (140737488355328 ≤ x0_3) = false := decide_eq_false c19
                        clear c19
                        by_cases c20 : x8_2 = true
                        · subst c20
                          have H1 : (if x7_2 = true then (some (x0_3, 2 + 1, true)) else (some (x0_3, 2, true))) = some (r1, r2, r3) := by rw [if_pos rfl] at H; exact H
                          clear H
                          have H := H1
                          clear H1
                          by_cases c21 : x7_2 = true
                          · subst c21
                            have H1 : (some (x0_3, 2 + 1, true)) = some (r1, r2, r3) := by rw [if_pos rfl] at H; exact H
                            clear H
                            have H := H1
                            clear H1
                            simp only [Option.some.injEq, Prod.mk.injEq] at H
                            obtain ⟨rfl, rfl, rfl⟩ := H
                            go_wp2
                            go_ret3
                            exact ⟨by first | rfl | (simp; done) | (simp [*]; done), by repeat (first | exact Drawn0.refl _ | apply Drawn0.step)⟩
                          · replace c21 := Bool.eq_false_iff.mpr c21
                            subst c21
                            have H1 : (some (x0_3, 2, true)) = some (r1, r2, r3) := by rw [if_neg (show ¬ (false = true) by decide)] at H; exact H
                            clear H
                            have H := H1
                            clear H1
                            simp only [Option.some.injEq, Prod.mk.injEq] at H
                            obtain ⟨rfl, rfl, rfl⟩ := H
                            go_wp2
                            go_ret3
                            exact ⟨by first | rfl | (simp; done) | (simp [*]; done), by repeat (first | exact Drawn0.refl _ | apply Drawn0.step)⟩
                        · replace c20 := Bool.eq_false_iff.mpr c20
                          subst c20
                          have H1 : (if x7_2 = true then (some (x0_3, 0 + 1, true)) else (some (x0_3, 0, true))) = some (r1, r2, r3) := by rw [if_neg (show ¬ (false = true) by decide)] at H; exact H
                          clear H
                          have H := H1
                          clear H1
                          by_cases c22 : x7_2 = true
                          · subst c22
                            have H1 : (some (x0_3, 0 + 1, true)) = some (r1, r2, r3) := by rw [if_pos rfl] at H; exact H
                            clear H
                            have H := H1
                            clear H1
                            simp only [Option.some.injEq, Prod.mk.injEq] at H
                            obtain ⟨rfl, rfl, rfl⟩ := H
                            go_wp2
                            go_ret3
                            exact ⟨by first | rfl | (simp; done) | (simp [*]; done), by repeat (first | exact Drawn0.refl _ | apply Drawn0.step)⟩
                          · replace c22 := Bool.eq_false_iff.mpr c22
                            subst c22
                            have H1 : (some (x0_3, 0, true)) = some (r1, r2, r3) := by rw [if_neg (show ¬ (false = true) by decide)] at H; exact H
                            clear H
                            have H := H1
                            clear H1
                            simp only [Option.some.injEq, Prod.mk.injEq] at H
                            obtain ⟨rfl, rfl, rfl⟩ := H
                            go_wp2
                            go_ret3
                            exact ⟨by first | rfl | (simp; done) | (simp [*]; done), by repeat (first | exact Drawn0.refl _ | apply Drawn0.step)⟩
end Go.Proofs.Ytoihmanhldcjhaa.POf
namespace Go.Proofs.Ytoihmanhldcjhaa.POf
open Go.RowKit Go.Proofs.YtoihmanhldcjhaaW.PrintWords Go.Proofs.YtoihmanhldcjhaaW.PrintLast Go.Proofs.YtoihmanhldcjhaaW.PrintMore
attribute [local go_sem] max2_int min2_int max_two min_two max_three min_three max_four min_four
set_option linter.unusedVariables false
set_option linter.unusedSimpArgs false
def bivouacref04_Of.f (k : Nat) (a0 : Int) : Option (Int × Int) := (bivouacref04_Parts.f k a0).bind fun bt102 => (if bt102.2.2.2 = 2 then (some (0, 14)) else (if bt102.2.2.2 = 1 then (some (0, 8)) else ((bivouacref04_Scaled.f k bt102.2.1 (wrap64 (bt102.2.2.1 + 16))).bind fun bt106 => (if bt106.2.2 = true then (if bt102.1 = true then (if bt106.2.1 > 0 then (if (wrap64 ((wrap64 (-(wrap64 (bt106.1)))) - 1)) < (-70368744177664) then (some (0, 8)) else (if (wrap64 ((wrap64 (-(wrap64 (bt106.1)))) - 1)) ≥ 70368744177664 then (some (0, 8)) else (some (wrap64 ((wrap64 (-(wrap64 (bt106.1)))) - 1), 0)))) else (if (wrap64 (-(wrap64 (bt106.1)))) < (-70368744177664) then (some (0, 8)) else (if (wrap64 (-(wrap64 (bt106.1)))) ≥ 70368744177664 then (some (0, 8)) else (some (wrap64 (-(wrap64 (bt106.1))), 0))))) else (if (wrap64 (bt106.1)) < (-70368744177664) then (some (0, 8)) else (if (wrap64 (bt106.1)) ≥ 70368744177664 then (some (0, 8)) else (some (wrap64 (bt106.1), 0))))) else (some (0, 8))))))
theorem bivouacref04_Of.mono : ∀ a0 k, LeO (bivouacref04_Of.f k a0) (bivouacref04_Of.f (k + 1) a0) := by
  intro a0 k
  unfold bivouacref04_Of.f
  repeat' first
      | (with_reducible exact bivouacref04_Parts.mono _ _)
      | (with_reducible exact bivouacref04_Scaled.mono _ _ _)
      | (with_reducible exact LeO.refl _)
      | (with_reducible exact LeO.none _)
      | (with_reducible refine LeO.ite ?_ ?_)
      | (with_reducible refine LeO.bind ?_ (fun _ => ?_))
      | exact bivouacref04_Parts.mono _ _
      | exact bivouacref04_Scaled.mono _ _ _
      | exact LeO.none _
      | refine LeO.ite ?_ ?_
      | refine LeO.bind ?_ (fun _ => ?_)
set_option maxHeartbeats 8000000 in
set_option maxRecDepth 100000 in
theorem bivouacref04_Of.calls (k : Nat) (a0 : Int) (r1 : Int) (r2 : Int) (w : World) (h : bivouacref04_Of.f k a0 = some (r1, r2)) :
    Calls Try.prog 34 #[.int .u64 a0] w fun e w' => e = .returned (.tuple #[.int .i64 r1, .int .i64 r2]) ∧ Drawn0 w w' := by
  have H : ((bivouacref04_Parts.f k a0).bind fun bt102 => (if bt102.2.2.2 = 2 then (some (0, 14)) else (if bt102.2.2.2 = 1 then (some (0, 8)) else ((bivouacref04_Scaled.f k bt102.2.1 (wrap64 (bt102.2.2.1 + 16))).bind fun bt106 => (if bt106.2.2 = true then (if bt102.1 = true then (if bt106.2.1 > 0 then (if (wrap64 ((wrap64 (-(wrap64 (bt106.1)))) - 1)) < (-70368744177664) then (some (0, 8)) else (if (wrap64 ((wrap64 (-(wrap64 (bt106.1)))) - 1)) ≥ 70368744177664 then (some (0, 8)) else (some (wrap64 ((wrap64 (-(wrap64 (bt106.1)))) - 1), 0)))) else (if (wrap64 (-(wrap64 (bt106.1)))) < (-70368744177664) then (some (0, 8)) else (if (wrap64 (-(wrap64 (bt106.1)))) ≥ 70368744177664 then (some (0, 8)) else (some (wrap64 (-(wrap64 (bt106.1))), 0))))) else (if (wrap64 (bt106.1)) < (-70368744177664) then (some (0, 8)) else (if (wrap64 (bt106.1)) ≥ 70368744177664 then (some (0, 8)) else (some (wrap64 (bt106.1), 0))))) else (some (0, 8))))))) = some (r1, r2) := h
  clear h
  replace H := Option.bind_eq_some_iff.mp H
  obtain ⟨⟨t102, t103, t104, t105⟩, A20, H⟩ := H
  replace H : (if t105 = 2 then (some (0, 14)) else (if t105 = 1 then (some (0, 8)) else ((bivouacref04_Scaled.f k t103 (wrap64 (t104 + 16))).bind fun bt106 => (if bt106.2.2 = true then (if t102 = true then (if bt106.2.1 > 0 then (if (wrap64 ((wrap64 (-(wrap64 (bt106.1)))) - 1)) < (-70368744177664) then (some (0, 8)) else (if (wrap64 ((wrap64 (-(wrap64 (bt106.1)))) - 1)) ≥ 70368744177664 then (some (0, 8)) else (some (wrap64 ((wrap64 (-(wrap64 (bt106.1)))) - 1), 0)))) else (if (wrap64 (-(wrap64 (bt106.1)))) < (-70368744177664) then (some (0, 8)) else (if (wrap64 (-(wrap64 (bt106.1)))) ≥ 70368744177664 then (some (0, 8)) else (some (wrap64 (-(wrap64 (bt106.1))), 0))))) else (if (wrap64 (bt106.1)) < (-70368744177664) then (some (0, 8)) else (if (wrap64 (bt106.1)) ≥ 70368744177664 then (some (0, 8)) else (some (wrap64 (bt106.1), 0))))) else (some (0, 8)))))) = some (r1, r2) := H
  have A2 := Aside0.mk A20
  clear A20
  by_cases c3 : t105 = 2
  · rw [if_pos c3] at H
    have c3b0 : (t105 == 2) = true := beq_iff_eq.mpr c3
    have c3b1 : (t105 != 2) = false := bne_eq_false_iff_eq.mpr c3
    clear c3
    simp only [Option.some.injEq, Prod.mk.injEq] at H
    obtain ⟨rfl, rfl⟩ := H
    go_enter Try.func34, Try.ntmps34
    go_wp2_with (first | ((with_reducible refine gate_callee (f := 42) rfl ?_); refine goesL_ (some 14) rfl rfl Try.func42 (by kernel_rfl) rfl #[.int .u64 a0] rfl (by (try simp only [List.map_toArray, List.map_cons, List.map_nil]); first | done | rfl | (simp only [List.length_drop, List.length_take]; rfl)) ?_; (with_reducible refine (bivouacref04_Parts.calls k a0 t102 t103 t104 t105 _ A2.out).mono ?_); rintro e w' ⟨rfl, ⟨nd, rfl⟩⟩; refine ⟨_, rfl, ?_⟩))
    go_ret2
    exact ⟨by first | rfl | (simp; done) | (simp [*]; done), by repeat (first | exact Drawn0.refl _ | apply Drawn0.step)⟩
  · rw [if_neg c3] at H
    have c3b0 : (t105 == 2) = false := beq_eq_false_iff_ne.mpr c3
    have c3b1 : (t105 != 2) = true := bne_iff_ne.mpr c3
    by_cases c4 : t105 = 1
    · rw [if_pos c4] at H
      have c4b0 : (t105 == 1) = true := beq_iff_eq.mpr c4
      have c4b1 : (t105 != 1) = false := bne_eq_false_iff_eq.mpr c4
      clear c4
      simp only [Option.some.injEq, Prod.mk.injEq] at H
      obtain ⟨rfl, rfl⟩ := H
      go_enter Try.func34, Try.ntmps34
      go_wp2_with (first | ((with_reducible refine gate_callee (f := 42) rfl ?_); refine goesL_ (some 14) rfl rfl Try.func42 (by kernel_rfl) rfl #[.int .u64 a0] rfl (by (try simp only [List.map_toArray, List.map_cons, List.map_nil]); first | done | rfl | (simp only [List.length_drop, List.length_take]; rfl)) ?_; (with_reducible refine (bivouacref04_Parts.calls k a0 t102 t103 t104 t105 _ A2.out).mono ?_); rintro e w' ⟨rfl, ⟨nd, rfl⟩⟩; refine ⟨_, rfl, ?_⟩))
      go_ret2
      exact ⟨by first | rfl | (simp; done) | (simp [*]; done), by repeat (first | exact Drawn0.refl _ | apply Drawn0.step)⟩
    · rw [if_neg c4] at H
      have c4b0 : (t105 == 1) = false := beq_eq_false_iff_ne.mpr c4
      have c4b1 : (t105 != 1) = true := bne_iff_ne.mpr c4
      replace H := Option.bind_eq_some_iff.mp H
      obtain ⟨⟨t106, t107, t108⟩, A50, H⟩ := H
      replace H : (if t108 = true then (if t102 = true then (if t107 > 0 then (if (wrap64 ((wrap64 (-(wrap64 (t106)))) - 1)) < (-70368744177664) then (some (0, 8)) else (if (wrap64 ((wrap64 (-(wrap64 (t106)))) - 1)) ≥ 70368744177664 then (some (0, 8)) else (some (wrap64 ((wrap64 (-(wrap64 (t106)))) - 1), 0)))) else (if (wrap64 (-(wrap64 (t106)))) < (-70368744177664) then (some (0, 8)) else (if (wrap64 (-(wrap64 (t106)))) ≥ 70368744177664 then (some (0, 8)) else (some (wrap64 (-(wrap64 (t106))), 0))))) else (if (wrap64 (t106)) < (-70368744177664) then (some (0, 8)) else (if (wrap64 (t106)) ≥ 70368744177664 then (some (0, 8)) else (some (wrap64 (t106), 0))))) else (some (0, 8))) = some (r1, r2) := H
      have A5 := Aside0.mk A50
      clear A50
      by_cases c6 : t108 = true
      · subst c6
        have H1 : (if t102 = true then (if t107 > 0 then (if (wrap64 ((wrap64 (-(wrap64 (t106)))) - 1)) < (-70368744177664) then (some (0, 8)) else (if (wrap64 ((wrap64 (-(wrap64 (t106)))) - 1)) ≥ 70368744177664 then (some (0, 8)) else (some (wrap64 ((wrap64 (-(wrap64 (t106)))) - 1), 0)))) else (if (wrap64 (-(wrap64 (t106)))) < (-70368744177664) then (some (0, 8)) else (if (wrap64 (-(wrap64 (t106)))) ≥ 70368744177664 then (some (0, 8)) else (some (wrap64 (-(wrap64 (t106))), 0))))) else (if (wrap64 (t106)) < (-70368744177664) then (some (0, 8)) else (if (wrap64 (t106)) ≥ 70368744177664 then (some (0, 8)) else (some (wrap64 (t106), 0))))) = some (r1, r2) := by rw [if_pos rfl] at H; exact H
        clear H
        have H := H1
        clear H1
        by_cases c7 : t102 = true
        · subst c7
          have H1 : (if t107 > 0 then (if (wrap64 ((wrap64 (-(wrap64 (t106)))) - 1)) < (-70368744177664) then (some (0, 8)) else (if (wrap64 ((wrap64 (-(wrap64 (t106)))) - 1)) ≥ 70368744177664 then (some (0, 8)) else (some (wrap64 ((wrap64 (-(wrap64 (t106)))) - 1), 0)))) else (if (wrap64 (-(wrap64 (t106)))) < (-70368744177664) then (some (0, 8)) else (if (wrap64 (-(wrap64 (t106)))) ≥ 70368744177664 then (some (0, 8)) else (some (wrap64 (-(wrap64 (t106))), 0))))) = some (r1, r2) := by rw [if_pos rfl] at H; exact H
          clear H
          have H := H1
          clear H1
          by_cases c8 : t107 > 0
          · rw [if_pos c8] at H
            have c8b0 : decide (0 < t107) = true := decide_eq_true c8
            clear c8
            by_cases c9 : (wrap64 ((wrap64 (-(wrap64 (t106)))) - 1)) < (-70368744177664)
            · rw [if_pos c9] at H
              have c9b0 : decide ((wrap64 ((wrap64 (-(wrap64 (t106)))) - 1)) < (-70368744177664)) = true := decide_eq_true c9
              clear c9
              simp only [Option.some.injEq, Prod.mk.injEq] at H
              obtain ⟨rfl, rfl⟩ := H
              go_enter Try.func34, Try.ntmps34
              go_wp2_with (first | ((with_reducible refine gate_callee (f := 42) rfl ?_); refine goesL_ (some 14) rfl rfl Try.func42 (by kernel_rfl) rfl #[.int .u64 a0] rfl (by (try simp only [List.map_toArray, List.map_cons, List.map_nil]); first | done | rfl | (simp only [List.length_drop, List.length_take]; rfl)) ?_; (with_reducible refine (bivouacref04_Parts.calls k a0 true t103 t104 t105 _ A2.out).mono ?_); rintro e w' ⟨rfl, ⟨nd, rfl⟩⟩; refine ⟨_, rfl, ?_⟩) | ((with_reducible refine gate_callee (f := 43) rfl ?_); refine goesL_ (some 27) rfl rfl Try.func43 (by kernel_rfl) rfl #[.int .u64 t103, .int .i64 (wrap64 (t104 + 16))] rfl (by (try simp only [List.map_toArray, List.map_cons, List.map_nil]); first | done | rfl | (simp only [List.length_drop, List.length_take]; rfl)) ?_; (with_reducible refine (bivouacref04_Scaled.calls k t103 (wrap64 (t104 + 16)) t106 t107 true _ A5.out).mono ?_); rintro e w' ⟨rfl, ⟨nd, rfl⟩⟩; refine ⟨_, rfl, ?_⟩))
              go_ret2
              exact ⟨by first | rfl | (simp; done) | (simp [*]; done), by repeat (first | exact Drawn0.refl _ | apply Drawn0.step)⟩
            · rw [if_neg c9] at H
              have c9b0 : decide ((wrap64 ((wrap64 (-(wrap64 (t106)))) - 1)) < (-70368744177664)) = false := decide_eq_false c9
              clear c9
              by_cases c10 : (wrap64 ((wrap64 (-(wrap64 (t106)))) - 1)) ≥ 70368744177664
              · rw [if_pos c10] at H
                have c10b0 : decide (70368744177664 ≤ (wrap64 ((wrap64 (-(wrap64 (t106)))) - 1))) = true := decide_eq_true c10
                clear c10
                simp only [Option.some.injEq, Prod.mk.injEq] at H
                obtain ⟨rfl, rfl⟩ := H
                go_enter Try.func34, Try.ntmps34
                go_wp2_with (first | ((with_reducible refine gate_callee (f := 42) rfl ?_); refine goesL_ (some 14) rfl rfl Try.func42 (by kernel_rfl) rfl #[.int .u64 a0] rfl (by (try simp only [List.map_toArray, List.map_cons, List.map_nil]); first | done | rfl | (simp only [List.length_drop, List.length_take]; rfl)) ?_; (with_reducible refine (bivouacref04_Parts.calls k a0 true t103 t104 t105 _ A2.out).mono ?_); rintro e w' ⟨rfl, ⟨nd, rfl⟩⟩; refine ⟨_, rfl, ?_⟩) | ((with_reducible refine gate_callee (f := 43) rfl ?_); refine goesL_ (some 27) rfl rfl Try.func43 (by kernel_rfl) rfl #[.int .u64 t103, .int .i64 (wrap64 (t104 + 16))] rfl (by (try simp only [List.map_toArray, List.map_cons, List.map_nil]); first | done | rfl | (simp only [List.length_drop, List.length_take]; rfl)) ?_; (with_reducible refine (bivouacref04_Scaled.calls k t103 (wrap64 (t104 + 16)) t106 t107 true _ A5.out).mono ?_); rintro e w' ⟨rfl, ⟨nd, rfl⟩⟩; refine ⟨_, rfl, ?_⟩))
                go_ret2
                exact ⟨by first | rfl | (simp; done) | (simp [*]; done), by repeat (first | exact Drawn0.refl _ | apply Drawn0.step)⟩
              · rw [if_neg c10] at H
                have c10b0 : decide (70368744177664 ≤ (wrap64 ((wrap64 (-(wrap64 (t106)))) - 1))) = false := decide_eq_false c10
                clear c10
                simp only [Option.some.injEq, Prod.mk.injEq] at H
                obtain ⟨rfl, rfl⟩ := H
                go_enter Try.func34, Try.ntmps34
                go_wp2_with (first | ((with_reducible refine gate_callee (f := 42) rfl ?_); refine goesL_ (some 14) rfl rfl Try.func42 (by kernel_rfl) rfl #[.int .u64 a0] rfl (by (try simp only [List.map_toArray, List.map_cons, List.map_nil]); first | done | rfl | (simp only [List.length_drop, List.length_take]; rfl)) ?_; (with_reducible refine (bivouacref04_Parts.calls k a0 true t103 t104 t105 _ A2.out).mono ?_); rintro e w' ⟨rfl, ⟨nd, rfl⟩⟩; refine ⟨_, rfl, ?_⟩) | ((with_reducible refine gate_callee (f := 43) rfl ?_); refine goesL_ (some 27) rfl rfl Try.func43 (by kernel_rfl) rfl #[.int .u64 t103, .int .i64 (wrap64 (t104 + 16))] rfl (by (try simp only [List.map_toArray, List.map_cons, List.map_nil]); first | done | rfl | (simp only [List.length_drop, List.length_take]; rfl)) ?_; (with_reducible refine (bivouacref04_Scaled.calls k t103 (wrap64 (t104 + 16)) t106 t107 true _ A5.out).mono ?_); rintro e w' ⟨rfl, ⟨nd, rfl⟩⟩; refine ⟨_, rfl, ?_⟩))
                go_ret2
                exact ⟨by first | rfl | (simp; done) | (simp [*]; done), by repeat (first | exact Drawn0.refl _ | apply Drawn0.step)⟩
          · rw [if_neg c8] at H
            have c8b0 : decide (0 < t107) = false := decide_eq_false c8
            clear c8
            by_cases c11 : (wrap64 (-(wrap64 (t106)))) < (-70368744177664)
            · rw [if_pos c11] at H
              have c11b0 : decide ((wrap64 (-(wrap64 (t106)))) < (-70368744177664)) = true := decide_eq_true c11
              clear c11
              simp only [Option.some.injEq, Prod.mk.injEq] at H
              obtain ⟨rfl, rfl⟩ := H
              go_enter Try.func34, Try.ntmps34
              go_wp2_with (first | ((with_reducible refine gate_callee (f := 42) rfl ?_); refine goesL_ (some 14) rfl rfl Try.func42 (by kernel_rfl) rfl #[.int .u64 a0] rfl (by (try simp only [List.map_toArray, List.map_cons, List.map_nil]); first | done | rfl | (simp only [List.length_drop, List.length_take]; rfl)) ?_; (with_reducible refine (bivouacref04_Parts.calls k a0 true t103 t104 t105 _ A2.out).mono ?_); rintro e w' ⟨rfl, ⟨nd, rfl⟩⟩; refine ⟨_, rfl, ?_⟩) | ((with_reducible refine gate_callee (f := 43) rfl ?_); refine goesL_ (some 27) rfl rfl Try.func43 (by kernel_rfl) rfl #[.int .u64 t103, .int .i64 (wrap64 (t104 + 16))] rfl (by (try simp only [List.map_toArray, List.map_cons, List.map_nil]); first | done | rfl | (simp only [List.length_drop, List.length_take]; rfl)) ?_; (with_reducible refine (bivouacref04_Scaled.calls k t103 (wrap64 (t104 + 16)) t106 t107 true _ A5.out).mono ?_); rintro e w' ⟨rfl, ⟨nd, rfl⟩⟩; refine ⟨_, rfl, ?_⟩))
              go_ret2
              exact ⟨by first | rfl | (simp; done) | (simp [*]; done), by repeat (first | exact Drawn0.refl _ | apply Drawn0.step)⟩
            · rw [if_neg c11] at H
              have c11b0 : decide ((wrap64 (-(wrap64 (t106)))) < (-70368744177664)) = false := decide_eq_false c11
              clear c11
              by_cases c12 : (wrap64 (-(wrap64 (t106)))) ≥ 70368744177664
              · rw [if_pos c12] at H
                have c12b0 : decide (70368744177664 ≤ (wrap64 (-(wrap64 (t106))))) = true := decide_eq_true c12
                clear c12
                simp only [Option.some.injEq, Prod.mk.injEq] at H
                obtain ⟨rfl, rfl⟩ := H
                go_enter Try.func34, Try.ntmps34
                go_wp2_with (first | ((with_reducible refine gate_callee (f := 42) rfl ?_); refine goesL_ (some 14) rfl rfl Try.func42 (by kernel_rfl) rfl #[.int .u64 a0] rfl (by (try simp only [List.map_toArray, List.map_cons, List.map_nil]); first | done | rfl | (simp only [List.length_drop, List.length_take]; rfl)) ?_; (with_reducible refine (bivouacref04_Parts.calls k a0 true t103 t104 t105 _ A2.out).mono ?_); rintro e w' ⟨rfl, ⟨nd, rfl⟩⟩; refine ⟨_, rfl, ?_⟩) | ((with_reducible refine gate_callee (f := 43) rfl ?_); refine goesL_ (some 27) rfl rfl Try.func43 (by kernel_rfl) rfl #[.int .u64 t103, .int .i64 (wrap64 (t104 + 16))] rfl (by (try simp only [List.map_toArray, List.map_cons, List.map_nil]); first | done | rfl | (simp only [List.length_drop, List.length_take]; rfl)) ?_; (with_reducible refine (bivouacref04_Scaled.calls k t103 (wrap64 (t104 + 16)) t106 t107 true _ A5.out).mono ?_); rintro e w' ⟨rfl, ⟨nd, rfl⟩⟩; refine ⟨_, rfl, ?_⟩))
                go_ret2
                exact ⟨by first | rfl | (simp; done) | (simp [*]; done), by repeat (first | exact Drawn0.refl _ | apply Drawn0.step)⟩
              · rw [if_neg c12] at H
                have c12b0 : decide (70368744177664 ≤ (wrap64 (-(wrap64 (t106))))) = false := decide_eq_false c12
                clear c12
                simp only [Option.some.injEq, Prod.mk.injEq] at H
                obtain ⟨rfl, rfl⟩ := H
                go_enter Try.func34, Try.ntmps34
                go_wp2_with (first | ((with_reducible refine gate_callee (f := 42) rfl ?_); refine goesL_ (some 14) rfl rfl Try.func42 (by kernel_rfl) rfl #[.int .u64 a0] rfl (by (try simp only [List.map_toArray, List.map_cons, List.map_nil]); first | done | rfl | (simp only [List.length_drop, List.length_take]; rfl)) ?_; (with_reducible refine (bivouacref04_Parts.calls k a0 true t103 t104 t105 _ A2.out).mono ?_); rintro e w' ⟨rfl, ⟨nd, rfl⟩⟩; refine ⟨_, rfl, ?_⟩) | ((with_reducible refine gate_callee (f := 43) rfl ?_); refine goesL_ (some 27) rfl rfl Try.func43 (by kernel_rfl) rfl #[.int .u64 t103, .int .i64 (wrap64 (t104 + 16))] rfl (by (try simp only [List.map_toArray, List.map_cons, List.map_nil]); first | done | rfl | (simp only [List.length_drop, List.length_take]; rfl)) ?_; (with_reducible refine (bivouacref04_Scaled.calls k t103 (wrap64 (t104 + 16)) t106 t107 true _ A5.out).mono ?_); rintro e w' ⟨rfl, ⟨nd, rfl⟩⟩; refine ⟨_, rfl, ?_⟩))
                go_ret2
                exact ⟨by first | rfl | (simp; done) | (simp [*]; done), by repeat (first | exact Drawn0.refl _ | apply Drawn0.step)⟩
        · replace c7 := Bool.eq_false_iff.mpr c7
          subst c7
          have H1 : (if (wrap64 (t106)) < (-70368744177664) then (some (0, 8)) else (if (wrap64 (t106)) ≥ 70368744177664 then (some (0, 8)) else (some (wrap64 (t106), 0)))) = some (r1, r2) := by rw [if_neg (show ¬ (false = true) by decide)] at H; exact H
          clear H
          have H := H1
          clear H1
          by_cases c13 : (wrap64 (t106)) < (-70368744177664)
          · rw [if_pos c13] at H
            have c13b0 : decide ((wrap64 (t106)) < (-70368744177664)) = true := decide_eq_true c13
            clear c13
            simp only [Option.some.injEq, Prod.mk.injEq] at H
            obtain ⟨rfl, rfl⟩ := H
            go_enter Try.func34, Try.ntmps34
            go_wp2_with (first | ((with_reducible refine gate_callee (f := 42) rfl ?_); refine goesL_ (some 14) rfl rfl Try.func42 (by kernel_rfl) rfl #[.int .u64 a0] rfl (by (try simp only [List.map_toArray, List.map_cons, List.map_nil]); first | done | rfl | (simp only [List.length_drop, List.length_take]; rfl)) ?_; (with_reducible refine (bivouacref04_Parts.calls k a0 false t103 t104 t105 _ A2.out).mono ?_); rintro e w' ⟨rfl, ⟨nd, rfl⟩⟩; refine ⟨_, rfl, ?_⟩) | ((with_reducible refine gate_callee (f := 43) rfl ?_); refine goesL_ (some 27) rfl rfl Try.func43 (by kernel_rfl) rfl #[.int .u64 t103, .int .i64 (wrap64 (t104 + 16))] rfl (by (try simp only [List.map_toArray, List.map_cons, List.map_nil]); first | done | rfl | (simp only [List.length_drop, List.length_take]; rfl)) ?_; (with_reducible refine (bivouacref04_Scaled.calls k t103 (wrap64 (t104 + 16)) t106 t107 true _ A5.out).mono ?_); rintro e w' ⟨rfl, ⟨nd, rfl⟩⟩; refine ⟨_, rfl, ?_⟩))
            go_ret2
            exact ⟨by first | rfl | (simp; done) | (simp [*]; done), by repeat (first | exact Drawn0.refl _ | apply Drawn0.step)⟩
          · rw [if_neg c13] at H
            have c13b0 : decide ((wrap64 (t106)) < (-70368744177664)) = false := decide_eq_false c13
            clear c13
            by_cases c14 : (wrap64 (t106)) ≥ 70368744177664
            · rw [if_pos c14] at H
              have c14b0 : decide (70368744177664 ≤ (wrap64 (t106))) = true := decide_eq_true c14
              clear c14
              simp only [Option.some.injEq, Prod.mk.injEq] at H
              obtain ⟨rfl, rfl⟩ := H
              go_enter Try.func34, Try.ntmps34
              go_wp2_with (first | ((with_reducible refine gate_callee (f := 42) rfl ?_); refine goesL_ (some 14) rfl rfl Try.func42 (by kernel_rfl) rfl #[.int .u64 a0] rfl (by (try simp only [List.map_toArray, List.map_cons, List.map_nil]); first | done | rfl | (simp only [List.length_drop, List.length_take]; rfl)) ?_; (with_reducible refine (bivouacref04_Parts.calls k a0 false t103 t104 t105 _ A2.out).mono ?_); rintro e w' ⟨rfl, ⟨nd, rfl⟩⟩; refine ⟨_, rfl, ?_⟩) | ((with_reducible refine gate_callee (f := 43) rfl ?_); refine goesL_ (some 27) rfl rfl Try.func43 (by kernel_rfl) rfl #[.int .u64 t103, .int .i64 (wrap64 (t104 + 16))] rfl (by (try simp only [List.map_toArray, List.map_cons, List.map_nil]); first | done | rfl | (simp only [List.length_drop, List.length_take]; rfl)) ?_; (with_reducible refine (bivouacref04_Scaled.calls k t103 (wrap64 (t104 + 16)) t106 t107 true _ A5.out).mono ?_); rintro e w' ⟨rfl, ⟨nd, rfl⟩⟩; refine ⟨_, rfl, ?_⟩))
              go_ret2
              exact ⟨by first | rfl | (simp; done) | (simp [*]; done), by repeat (first | exact Drawn0.refl _ | apply Drawn0.step)⟩
            · rw [if_neg c14] at H
              have c14b0 : decide (70368744177664 ≤ (wrap64 (t106))) = false := decide_eq_false c14
              clear c14
              simp only [Option.some.injEq, Prod.mk.injEq] at H
              obtain ⟨rfl, rfl⟩ := H
              go_enter Try.func34, Try.ntmps34
              go_wp2_with (first | ((with_reducible refine gate_callee (f := 42) rfl ?_); refine goesL_ (some 14) rfl rfl Try.func42 (by kernel_rfl) rfl #[.int .u64 a0] rfl (by (try simp only [List.map_toArray, List.map_cons, List.map_nil]); first | done | rfl | (simp only [List.length_drop, List.length_take]; rfl)) ?_; (with_reducible refine (bivouacref04_Parts.calls k a0 false t103 t104 t105 _ A2.out).mono ?_); rintro e w' ⟨rfl, ⟨nd, rfl⟩⟩; refine ⟨_, rfl, ?_⟩) | ((with_reducible refine gate_callee (f := 43) rfl ?_); refine goesL_ (some 27) rfl rfl Try.func43 (by kernel_rfl) rfl #[.int .u64 t103, .int .i64 (wrap64 (t104 + 16))] rfl (by (try simp only [List.map_toArray, List.map_cons, List.map_nil]); first | done | rfl | (simp only [List.length_drop, List.length_take]; rfl)) ?_; (with_reducible refine (bivouacref04_Scaled.calls k t103 (wrap64 (t104 + 16)) t106 t107 true _ A5.out).mono ?_); rintro e w' ⟨rfl, ⟨nd, rfl⟩⟩; refine ⟨_, rfl, ?_⟩))
              go_ret2
              exact ⟨by first | rfl | (simp; done) | (simp [*]; done), by repeat (first | exact Drawn0.refl _ | apply Drawn0.step)⟩
      · replace c6 := Bool.eq_false_iff.mpr c6
        subst c6
        have H1 : (some (0, 8)) = some (r1, r2) := by rw [if_neg (show ¬ (false = true) by decide)] at H; exact H
        clear H
        have H := H1
        clear H1
        simp only [Option.some.injEq, Prod.mk.injEq] at H
        obtain ⟨rfl, rfl⟩ := H
        go_enter Try.func34, Try.ntmps34
        go_wp2_with (first | ((with_reducible refine gate_callee (f := 42) rfl ?_); refine goesL_ (some 14) rfl rfl Try.func42 (by kernel_rfl) rfl #[.int .u64 a0] rfl (by (try simp only [List.map_toArray, List.map_cons, List.map_nil]); first | done | rfl | (simp only [List.length_drop, List.length_take]; rfl)) ?_; (with_reducible refine (bivouacref04_Parts.calls k a0 t102 t103 t104 t105 _ A2.out).mono ?_); rintro e w' ⟨rfl, ⟨nd, rfl⟩⟩; refine ⟨_, rfl, ?_⟩) | ((with_reducible refine gate_callee (f := 43) rfl ?_); refine goesL_ (some 27) rfl rfl Try.func43 (by kernel_rfl) rfl #[.int .u64 t103, .int .i64 (wrap64 (t104 + 16))] rfl (by (try simp only [List.map_toArray, List.map_cons, List.map_nil]); first | done | rfl | (simp only [List.length_drop, List.length_take]; rfl)) ?_; (with_reducible refine (bivouacref04_Scaled.calls k t103 (wrap64 (t104 + 16)) t106 t107 false _ A5.out).mono ?_); rintro e w' ⟨rfl, ⟨nd, rfl⟩⟩; refine ⟨_, rfl, ?_⟩))
        go_ret2
        exact ⟨by first | rfl | (simp; done) | (simp [*]; done), by repeat (first | exact Drawn0.refl _ | apply Drawn0.step)⟩
end Go.Proofs.Ytoihmanhldcjhaa.POf
namespace Go.Proofs.Ytoihmanhldcjhaa.Rr
open Go Go.RowKit Go.Proofs.Ytoihmanhldcjhaa.Rl Go.Proofs.Ytoihmanhldcjhaa.POf Ieee
set_option linter.unusedVariables false
theorem and_mask (x : Int) (k : Nat) (hx : 0 ≤ x) (hx2 : x < 18446744073709551616) (hk : k ≤ 63) : bits .and .u64 x ((2 ^ k - 1 : Nat) : Int) = x % ((2 ^ k : Nat) : Int) := by
  obtain ⟨n, rfl⟩ := Int.eq_ofNat_of_zero_le hx
  have h1 : 2 ^ k ≤ 2 ^ 63 := Nat.pow_le_pow_right (by omega) hk
  rw [u64_and_nat n (2 ^ k - 1) (by omega) (by omega), Nat.and_two_pow_sub_one_eq_mod, Int.natCast_emod]
theorem and_1 (x : Int) (hx : 0 ≤ x) (hx2 : x < 18446744073709551616) : bits .and .u64 x 1 = x % 2 := and_mask x 1 hx hx2 (by omega)
theorem and_2047 (x : Int) (hx : 0 ≤ x) (hx2 : x < 18446744073709551616) : bits .and .u64 x 2047 = x % 2048 := and_mask x 11 hx hx2 (by omega)
theorem and_52 (x : Int) (hx : 0 ≤ x) (hx2 : x < 18446744073709551616) : bits .and .u64 x 4503599627370495 = x % 4503599627370496 := and_mask x 52 hx hx2 (by omega)
theorem uw {x : Int} (h0 : 0 ≤ x) (h1 : x < 18446744073709551616) : IntKind.u64.wrap x = x := by rw [IntKind.wrap_u64]; omega
theorem w64 {x : Int} (h0 : -9223372036854775808 ≤ x) (h1 : x < 9223372036854775808) : wrap64 x = x := by unfold wrap64; omega
def code (r h : Bool) : Int := (if h then 2 else 0) + (if r then 1 else 0)
def fin (x : Nat) (r h : Bool) : Int × Int × Bool := if 140737488355328 ≤ x then (0, 0, false) else ((x : Int), code r h, true)
theorem j4_false (k : Nat) (x : Nat) (e : Int) (r h : Bool) : bivouacref04_Scaled.j4 (k + 1) x e r h false = some (fin x r h) := by
  simp only [bivouacref04_Scaled.j4, fin, code, Bool.false_eq_true, if_false]
  by_cases hx : 140737488355328 ≤ x
  · rw [if_pos (by omega), if_pos hx]
  · rw [if_neg (by omega), if_neg hx]
    cases r <;> cases h <;> rfl
theorem l1_zero (k : Nat) (x : Nat) (e : Int) (he : e ≤ 0) (r h : Bool) : bivouacref04_Scaled.l1 (k + 2) x e r h = some (fin x r h) := by
  rw [show k + 2 = (k + 1) + 1 from rfl]
  simp only [bivouacref04_Scaled.l1]
  rw [if_neg (by omega)]
  exact j4_false k x e r h
theorem j1_zero (k : Nat) (x : Nat) (r h : Bool) : bivouacref04_Scaled.j1 (k + 4) x 0 r h = some (fin x r h) := by
  rw [show k + 4 = (k + 3) + 1 from rfl]
  simp only [bivouacref04_Scaled.j1]
  have h0 : decide ((0 : Int) < 0) = false := rfl
  rw [h0]
  have : bivouacref04_Scaled.j2 (k + 3) x 0 r h false = some (fin x r h) := by
    rw [show k + 3 = (k + 2) + 1 from rfl]
    simp only [bivouacref04_Scaled.j2, Bool.false_eq_true, if_false]
    exact l1_zero k x 0 (by omega) r h
  split <;> exact this
theorem j1_none (k : Nat) (e : Int) (he : e ≤ 0) (r : Bool) : bivouacref04_Scaled.j1 (k + 4) 0 e r false = some (fin 0 r false) := by
  rw [show k + 4 = (k + 3) + 1 from rfl]
  simp only [bivouacref04_Scaled.j1, if_true]
  rw [show k + 3 = (k + 2) + 1 from rfl]
  simp only [bivouacref04_Scaled.j2]
  by_cases h : e < 0
  · rw [decide_eq_true h]
    simp only [if_true, bivouacref04_one.f]
    cases r <;> simp [fin, code]
  · rw [decide_eq_false h]
    simp only [Bool.false_eq_true, if_false]
    exact l1_zero k 0 e he r false
theorem j1_zero' (k : Nat) (hk : 4 ≤ k) (x : Nat) (r h : Bool) : bivouacref04_Scaled.j1 k x 0 r h = some (fin x r h) := by
  obtain ⟨m, rfl⟩ : ∃ m, k = m + 4 := ⟨k - 4, by omega⟩
  exact j1_zero m x r h
theorem j1_none' (k : Nat) (hk : 4 ≤ k) (e : Int) (he : e ≤ 0) (r : Bool) : bivouacref04_Scaled.j1 k 0 e r false = some (fin 0 r false) := by
  obtain ⟨m, rfl⟩ : ∃ m, k = m + 4 := ⟨k - 4, by omega⟩
  exact j1_none m e he r
def down : Nat → Nat → Bool → Bool → Nat × Bool × Bool
  | 0, x, r, h => (x, r, h)
  | d + 1, x, r, h => down d (x / 2) (r || h) (x % 2 == 1)
theorem down_zero : ∀ d r, down d 0 r false = (0, r, false)
  | 0, r => rfl
  | d + 1, r => by
    show down d (0 / 2) (r || false) (0 % 2 == 1) = _
    rw [Bool.or_false]; exact down_zero d r
theorem l0_down (d : Nat) : ∀ (k x : Nat) (r h : Bool), d < 1200 → x < 9007199254740992 → d + 5 ≤ k →
    bivouacref04_Scaled.l0 k x (-(d : Int)) r h = some (fin (down d x r h).1 (down d x r h).2.1 (down d x r h).2.2) := by
  induction d with
  | zero =>
    intro k x r h _ hx hk
    obtain ⟨k, rfl⟩ : ∃ m, k = m + 1 := ⟨k - 1, by omega⟩
    simp only [bivouacref04_Scaled.l0, down]
    rw [if_neg (by omega)]
    exact j1_zero' k (by omega) x r h
  | succ d ih =>
    intro k x r h hd hx hk
    obtain ⟨k, rfl⟩ : ∃ m, k = m + 1 := ⟨k - 1, by omega⟩
    have hand := and_1 (x : Int) (by omega) (by omega)
    have hw : wrap64 (-((d + 1 : Nat) : Int) + 1) = -(d : Int) := by rw [w64 (by omega) (by omega)]; omega
    have hx2 : (x : Int) / 2 = ((x / 2 : Nat) : Int) := by omega
    have hb : ((x : Int) % 2 == 1) = (x % 2 == 1) := by
      rw [Bool.eq_iff_iff, beq_iff_eq, beq_iff_eq]; omega
    have ih' := fun r h => ih k (x / 2) r h (by omega) (by omega) (by omega)
    simp only [bivouacref04_Scaled.l0, down]
    rw [if_pos (by omega), hand, hw, hx2, hb]
    by_cases hz : x / 2 = 0
    · rw [if_pos (show (((x / 2 : Nat) : Int) = 0) by omega), if_pos (show (((x / 2 : Nat) : Int) = 0) by omega)]
      by_cases h1 : x % 2 = 1
      · rw [if_pos (show ((x : Int) % 2 = 1) by omega), if_pos (show ((x : Int) % 2 = 1) by omega), ih', ih']
        cases r <;> simp
      · rw [if_neg (show ¬ ((x : Int) % 2 = 1) by omega), if_neg (show ¬ ((x : Int) % 2 = 1) by omega), show (x % 2 == 1) = false by simpa using h1, hz]
        have q := fun r => j1_none' k (by omega) (-(d : Int)) (by omega) r
        cases r
        · simp only [Bool.false_eq_true, if_false, Bool.false_or]
          cases h
          · simp only [Bool.false_eq_true, if_false]
            rw [down_zero]; exact q false
          · simp only [if_true]
            rw [down_zero]; exact q true
        · simp only [if_true, Bool.true_or]
          rw [down_zero]; exact q true
    · rw [if_neg (show ¬ (((x / 2 : Nat) : Int) = 0) by omega), if_neg (show ¬ (((x / 2 : Nat) : Int) = 0) by omega), ih', ih']
      cases r <;> simp
theorem down_is (d : Nat) : ∀ x r h, down (d + 1) x r h = (x / 2 ^ (d + 1), (r || h || decide (x % 2 ^ d ≠ 0)), x / 2 ^ d % 2 == 1) := by
  induction d with
  | zero =>
    intro x r h
    show (x / 2, r || h, x % 2 == 1) = _
    simp [Nat.mod_one]
  | succ d ih =>
    intro x r h
    show down (d + 1) (x / 2) (r || h) (x % 2 == 1) = _
    rw [ih]
    have e1 : x / 2 / 2 ^ (d + 1) = x / 2 ^ (d + 1 + 1) := by rw [Nat.div_div_eq_div_mul, ← Nat.pow_add_one']
    have e2 : x / 2 / 2 ^ d = x / 2 ^ (d + 1) := by rw [Nat.div_div_eq_div_mul, ← Nat.pow_add_one']
    have e3 : (x % 2 ^ (d + 1) ≠ 0) ↔ (x % 2 = 1 ∨ x / 2 % 2 ^ d ≠ 0) := by
      have : x % 2 ^ (d + 1) = x % 2 + 2 * (x / 2 % 2 ^ d) := by rw [Nat.pow_add_one', Nat.mod_mul]
      omega
    rw [e1, e2]
    congr 2
    rw [Bool.eq_iff_iff]
    simp only [Bool.or_eq_true, beq_iff_eq, decide_eq_true_eq, e3]
    exact ⟨fun h => by rcases h with (h | h) | h <;> simp [h], fun h => by rcases h with h | (h | h) <;> simp [h]⟩
theorem l1_up (d : Nat) : ∀ (k x : Nat), d < 1200 → x < 9007199254740992 → 2 * d + 3 ≤ k →
    bivouacref04_Scaled.l1 k x d false false = some (fin (x * 2 ^ d) false false) := by
  induction d with
  | zero =>
    intro k x _ hx hk
    obtain ⟨k, rfl⟩ : ∃ m, k = m + 2 := ⟨k - 2, by omega⟩
    rw [l1_zero k x _ (by omega), Nat.pow_zero, Nat.mul_one]
  | succ d ih =>
    intro k x hd hx hk
    obtain ⟨k, rfl⟩ : ∃ m, k = m + 1 := ⟨k - 1, by omega⟩
    obtain ⟨q, hq⟩ : ∃ q, k = q + 1 := ⟨k - 1, by omega⟩
    have hw : wrap64 (((d + 1 : Nat) : Int) - 1) = (d : Int) := by rw [w64 (by omega) (by omega)]; omega
    simp only [bivouacref04_Scaled.l1]
    rw [if_pos (by omega)]
    by_cases hx0 : x = 0
    · subst hx0
      have : (((0 : Nat) : Int) != 0) = false := rfl
      rw [this, Nat.zero_mul, hq]
      exact j4_false q 0 _ false false
    · have : ((x : Int) != 0) = true := by simpa using hx0
      rw [this, hq]
      simp only [bivouacref04_Scaled.j4, if_true]
      rw [uw (x := (x : Int) * 2) (by omega) (by omega), hw]
      have hp := Nat.two_pow_pos d
      by_cases hg : 140737488355328 ≤ x * 2
      · rw [if_pos (by omega)]
        unfold fin
        rw [if_pos]
        have : x * 2 * 1 ≤ x * 2 * 2 ^ d := Nat.mul_le_mul_left _ (by omega)
        rw [Nat.pow_add_one', ← Nat.mul_assoc]; omega
      · rw [if_neg (by omega), show (x : Int) * 2 = ((x * 2 : Nat) : Int) by omega, ih q (x * 2) (by omega) (by omega) (by omega), Nat.pow_add_one', ← Nat.mul_assoc]
def scS (m : Nat) (e : Int) : Int × Int × Bool :=
  if 0 ≤ e then fin (m * 2 ^ e.toNat) false false
  else fin (m / 2 ^ (-e).toNat) (decide (m % 2 ^ ((-e).toNat - 1) ≠ 0)) (m / 2 ^ ((-e).toNat - 1) % 2 == 1)
theorem scaled_eq (m : Nat) (e : Int) (k : Nat) (hm : m < 9007199254740992) (h0 : -1200 < e) (h1 : e < 1200) (hk : 3000 ≤ k) : bivouacref04_Scaled.f k m e = some (scS m e) := by
  unfold bivouacref04_Scaled.f scS
  by_cases he : 0 ≤ e
  · rw [if_pos he]
    obtain ⟨d, rfl⟩ := Int.eq_ofNat_of_zero_le he
    obtain ⟨k, rfl⟩ : ∃ m, k = m + 1 := ⟨k - 1, by omega⟩
    obtain ⟨q, hq⟩ : ∃ q, k = q + 1 := ⟨k - 1, by omega⟩
    obtain ⟨p, hp⟩ : ∃ p, q = p + 1 := ⟨q - 1, by omega⟩
    have hl3 := l1_up d p m (by omega) hm (by omega)
    simp only [bivouacref04_Scaled.l0]
    rw [if_neg (by omega), hq]
    simp only [bivouacref04_Scaled.j1]
    rw [show decide (((d : Nat) : Int) < 0) = false from decide_eq_false (by omega), hp]
    simp only [bivouacref04_Scaled.j2, Bool.false_eq_true, if_false, Int.toNat_natCast]
    split <;> assumption
  · rw [if_neg he]
    obtain ⟨d, hd⟩ : ∃ d : Nat, e = -((d + 1 : Nat) : Int) := ⟨(-e).toNat - 1, by omega⟩
    subst hd
    have := l0_down (d + 1) k m false false (by omega) hm (by omega)
    rw [this, down_is, show (- -((d + 1 : Nat) : Int)).toNat = d + 1 by omega, Nat.add_sub_cancel]
    simp
theorem neg_ediv (m P : Nat) (hP : 0 < P) : (-(m : Int)) / (P : Int) = -((m / P : Nat) : Int) - (if m % P = 0 then 0 else 1) := by
  have e1 := Nat.div_add_mod m P
  have e2 := Nat.mod_lt m hP
  obtain ⟨q, hq⟩ : ∃ q, m / P = q := ⟨_, rfl⟩
  obtain ⟨r, hr⟩ : ∃ r, m % P = r := ⟨_, rfl⟩
  rw [hq, hr] at e1
  rw [hr] at e2
  rw [hq, hr]
  have e1' : (m : Int) = (P : Int) * (q : Int) + (r : Int) := by rw [← e1, Int.natCast_add, Int.natCast_mul]
  by_cases hz : r = 0
  · rw [if_pos hz]
    refine ((Int.ediv_emod_unique (show (0 : Int) < P by omega)).2 ⟨show (0 : Int) + P * (-(q : Int) - 0) = -(m : Int) from ?_, by omega, by omega⟩).1
    rw [e1', hz, Int.mul_sub, Int.mul_neg]; simp
  · rw [if_neg hz]
    refine ((Int.ediv_emod_unique (show (0 : Int) < P by omega)).2 ⟨show ((P : Int) - r) + P * (-(q : Int) - 1) = -(m : Int) from ?_, by omega, by omega⟩).1
    rw [e1', Int.mul_sub, Int.mul_neg]; omega
theorem scS_fl (m : Nat) (e : Int) : ∃ (w : Nat) (c : Int), scS m e = (if 140737488355328 ≤ w then (0, 0, false) else ((w : Int), c, true)) ∧
    fl false m e = w ∧ fl true m e = -(w : Int) - (if 0 < c then 1 else 0) ∧ 0 ≤ c ∧ (fl false m (e + 1) - 2 * fl false m e = 1 ↔ 2 ≤ c) ∧ (fl true m (e + 1) - 2 * fl true m e = 1 ↔ 0 < c ∧ c ≤ 2) := by
  unfold scS fin
  by_cases he : 0 ≤ e
  · rw [if_pos he]
    refine ⟨m * 2 ^ e.toNat, 0, rfl, ?_, ?_, by omega, ?_, ?_⟩
    · unfold fl; rw [if_pos he]; unfold sg; simp
    · unfold fl; rw [if_pos he]; unfold sg; simp [Int.neg_mul]
    · unfold fl
      rw [if_pos he, if_pos (by omega), show (e + 1).toNat = e.toNat + 1 by omega, two_add, show ((2 ^ 1 : Nat) : Int) = 2 from rfl, ← Int.mul_assoc]
      omega
    · unfold fl
      rw [if_pos he, if_pos (by omega), show (e + 1).toNat = e.toNat + 1 by omega, two_add, show ((2 ^ 1 : Nat) : Int) = 2 from rfl, ← Int.mul_assoc]
      omega
  · rw [if_neg he]
    obtain ⟨d, hd⟩ : ∃ d : Nat, (-e).toNat = d + 1 := ⟨(-e).toNat - 1, by omega⟩
    have hp := Nat.two_pow_pos d
    have hp1 := Nat.two_pow_pos (d + 1)
    have k1 : fl false m e = ((m / 2 ^ (d + 1) : Nat) : Int) := by unfold fl; rw [if_neg he, hd]; show (m : Int) / _ = _; rw [← Int.natCast_ediv]
    have k2 : fl true m e = -((m / 2 ^ (d + 1) : Nat) : Int) - (if m % 2 ^ (d + 1) = 0 then 0 else 1) := by unfold fl; rw [if_neg he, hd]; show (-(m : Int)) / _ = _; rw [neg_ediv _ _ hp1]
    have k3 : fl false m (e + 1) = ((m / 2 ^ d : Nat) : Int) := by
      unfold fl
      by_cases h1 : 0 ≤ e + 1
      · have hd0 : d = 0 := by omega
        rw [if_pos h1, show (e + 1).toNat = 0 by omega, hd0]; show (m : Int) * _ = _; simp
      · rw [if_neg h1, show (-(e + 1)).toNat = d by omega]; show (m : Int) / _ = _; rw [← Int.natCast_ediv]
    have k4 : fl true m (e + 1) = -((m / 2 ^ d : Nat) : Int) - (if m % 2 ^ d = 0 then 0 else 1) := by
      unfold fl
      by_cases h1 : 0 ≤ e + 1
      · have hd0 : d = 0 := by omega
        rw [if_pos h1, show (e + 1).toNat = 0 by omega, hd0]; show (-(m : Int)) * _ = _; simp [Nat.mod_one]
      · rw [if_neg h1, show (-(e + 1)).toNat = d by omega]; show (-(m : Int)) / _ = _; rw [neg_ediv _ _ hp]
    have k5 : m / 2 ^ d = 2 * (m / 2 ^ (d + 1)) + m / 2 ^ d % 2 := by
      have : m / 2 ^ (d + 1) = m / 2 ^ d / 2 := by rw [Nat.div_div_eq_div_mul, ← Nat.pow_succ]
      omega
    have k6 : m % 2 ^ (d + 1) = m % 2 ^ d + 2 ^ d * (m / 2 ^ d % 2) := by rw [Nat.pow_succ, Nat.mod_mul]
    have k7 : m % 2 ^ (d + 1) = 0 ↔ m % 2 ^ d = 0 ∧ m / 2 ^ d % 2 = 0 := by
      rw [k6]
      constructor
      · intro h
        refine ⟨by omega, ?_⟩
        have : 2 ^ d * (m / 2 ^ d % 2) = 0 := by omega
        rcases Nat.mul_eq_zero.1 this with h | h <;> omega
      · rintro ⟨h1, h2⟩; rw [h1, h2]; simp
    rw [hd, Nat.add_sub_cancel]
    obtain ⟨w, hw⟩ : ∃ w, m / 2 ^ (d + 1) = w := ⟨_, rfl⟩
    obtain ⟨x, hx⟩ : ∃ w, m / 2 ^ d = w := ⟨_, rfl⟩
    obtain ⟨low, hl⟩ : ∃ w, m % 2 ^ d = w := ⟨_, rfl⟩
    obtain ⟨low1, hl1⟩ : ∃ w, m % 2 ^ (d + 1) = w := ⟨_, rfl⟩
    rw [hw, hl1] at k2
    rw [hw] at k1
    rw [hx] at k3
    rw [hx, hl] at k4
    rw [hx, hw] at k5
    rw [hx, hl, hl1] at k7
    rw [hw, hx, hl, k1, k2, k3, k4]
    clear k1 k2 k3 k4 k6 hw hx hl hl1 hp hp1
    by_cases h1 : x % 2 = 1
    · have h3 : ¬ low1 = 0 := fun z => by have := (k7.1 z).2; omega
      rw [if_neg h3]
      by_cases h2 : low = 0
      · rw [if_pos h2, h1, h2]
        refine ⟨w, 2, rfl, rfl, ?_, by omega, ?_, ?_⟩
        · rw [if_pos (by omega)]
        · omega
        · omega
      · rw [if_neg h2, h1, decide_eq_true h2]
        refine ⟨w, 3, rfl, rfl, ?_, by omega, ?_, ?_⟩
        · rw [if_pos (by omega)]
        · omega
        · omega
    · have h1' : x % 2 = 0 := by omega
      by_cases h2 : low = 0
      · have h3 : low1 = 0 := k7.2 ⟨h2, h1'⟩
        rw [if_pos h3, if_pos h2, h1', h2]
        refine ⟨w, 0, rfl, rfl, ?_, by omega, ?_, ?_⟩
        · rw [if_neg (by omega)]
        · omega
        · omega
      · have h3 : ¬ low1 = 0 := fun z => h2 (k7.1 z).1
        rw [if_neg h3, if_neg h2, h1', decide_eq_true h2]
        refine ⟨w, 1, rfl, rfl, ?_, by omega, ?_, ?_⟩
        · rw [if_pos (by omega)]
        · omega
        · omega
theorem parts_eq (b k : Nat) (hb : b < 2 ^ 64) (hk : 1 ≤ k) : bivouacref04_Parts.f k b = some (
    if b / 2 ^ 52 % 2048 = 2047 then (if b % 2 ^ 52 = 0 then (b / 2 ^ 63 == 1, 0, 0, 1) else (b / 2 ^ 63 == 1, 0, 0, 2))
    else if b / 2 ^ 52 % 2048 = 0 then (b / 2 ^ 63 == 1, ((b % 2 ^ 52 : Nat) : Int), -1074, 0) else (b / 2 ^ 63 == 1, ((b % 2 ^ 52 + 2 ^ 52 : Nat) : Int), ((b / 2 ^ 52 % 2048 : Nat) : Int) - 1075, 0)) := by
  obtain ⟨k, rfl⟩ : ∃ m, k = m + 1 := ⟨k - 1, by omega⟩
  have a1 := and_2047 ((b : Int) / 4503599627370496) (by omega) (by omega)
  have a2 := and_52 (b : Int) (by omega) (by omega)
  have e1 : (b : Int) / 4503599627370496 % 2048 = ((b / 2 ^ 52 % 2048 : Nat) : Int) := by omega
  have e2 : (b : Int) % 4503599627370496 = ((b % 2 ^ 52 : Nat) : Int) := by omega
  have e3 : ((b : Int) / 9223372036854775808 == 1) = (b / 2 ^ 63 == 1) := by rw [Bool.eq_iff_iff, beq_iff_eq, beq_iff_eq]; omega
  unfold bivouacref04_Parts.f
  rw [a1, a2, e1, e2, e3]
  obtain ⟨E, hE⟩ : ∃ E, b / 2 ^ 52 % 2048 = E := ⟨_, rfl⟩
  obtain ⟨M, hM⟩ : ∃ M, b % 2 ^ 52 = M := ⟨_, rfl⟩
  have hEl : E < 2048 := by omega
  have hMl : M < 2 ^ 52 := by omega
  rw [hE, hM, w64 (x := (E : Int)) (by omega) (by omega)]
  by_cases h1 : E = 2047
  · rw [if_pos (show (E : Int) = 2047 by omega), if_pos h1]
    simp only [bivouacref04_Parts.j0]
    by_cases h2 : M = 0
    · rw [if_pos h2, show ((M : Int) != 0) = false by simpa using h2, if_neg (by simp), if_pos (by omega)]
    · rw [if_neg h2, show ((M : Int) != 0) = true by simpa using h2, if_pos rfl]
  · rw [if_neg (show ¬ (E : Int) = 2047 by omega), if_neg h1]
    simp only [bivouacref04_Parts.j0]
    rw [if_neg (by simp), if_neg (by omega)]
    by_cases h2 : E = 0
    · rw [if_pos (by omega), if_pos h2]
    · rw [if_neg (by omega), if_neg h2, uw (by omega) (by omega), w64 (by omega) (by omega)]
      congr 3
theorem refOf_eq (b : Nat) (hb : b < 2 ^ 64) (k : Nat) (hk : 3000 ≤ k) : bivouacref04_Of.f k b = some (ofS b) := by
  unfold bivouacref04_Of.f
  rw [parts_eq b k hb (by omega)]
  simp only [Option.bind_some]
  rcases read_cases b hb with ⟨s, m, e, h, h1, h2, h3, h4, h5, h6, h7, h8⟩ | ⟨s, h, h5, h6⟩ | ⟨s, t, h, h5, h6⟩
  · unfold ofS
    rw [h]
    obtain ⟨w, c, q1, q2, q3, q4, q5, q6⟩ := scS_fl m (e + 16)
    have hsc := scaled_eq m (e + 16) k (by omega) (by omega) (by omega) hk
    have hparts : (if b / 2 ^ 52 % 2048 = 2047 then (if b % 2 ^ 52 = 0 then (b / 2 ^ 63 == 1, (0 : Int), (0 : Int), (1 : Int)) else (b / 2 ^ 63 == 1, 0, 0, 2))
        else if b / 2 ^ 52 % 2048 = 0 then (b / 2 ^ 63 == 1, ((b % 2 ^ 52 : Nat) : Int), -1074, 0) else (b / 2 ^ 63 == 1, ((b % 2 ^ 52 + 2 ^ 52 : Nat) : Int), ((b / 2 ^ 52 % 2048 : Nat) : Int) - 1075, 0)) = (s, (m : Int), e, 0) := by
      rw [if_neg h5]
      by_cases hz : b / 2 ^ 52 % 2048 = 0
      · rw [if_pos hz, (h7 hz).1, (h7 hz).2, h6]
      · rw [if_neg hz, (h8 hz).1, (h8 hz).2, h6]
    rw [hparts]
    simp only []
    rw [if_neg (by omega), if_neg (by omega), w64 (x := e + 16) (by omega) (by omega), hsc, q1]
    simp only [Option.bind_some]
    by_cases hw : 140737488355328 ≤ w
    · rw [if_pos hw]
      simp only [Bool.false_eq_true, if_false]
      rw [if_neg]
      cases s
      · rw [q2]; omega
      · rw [q3]; split <;> omega
    · rw [if_neg hw]
      simp only [if_true]
      rw [w64 (x := (w : Int)) (by omega) (by omega), w64 (x := -(w : Int)) (by omega) (by omega), w64 (x := -(w : Int) - 1) (by omega) (by omega)]
      cases s
      · rw [q2]
        simp only [Bool.false_eq_true, if_false]
        by_cases hr : 70368744177664 ≤ w
        · rw [if_neg (by omega), if_pos (by omega), if_neg (by omega)]
        · rw [if_neg (by omega), if_neg (by omega), if_pos (by omega)]
      · rw [q3]
        simp only [if_true]
        by_cases hc : 0 < c
        · rw [if_pos hc, if_pos hc]
          by_cases hr : -70368744177664 ≤ -(w : Int) - 1
          · rw [if_neg (by omega), if_neg (by omega), if_pos (by omega)]
          · rw [if_pos (by omega), if_neg (by omega)]
        · rw [if_neg hc, if_neg hc]
          by_cases hr : -70368744177664 ≤ -(w : Int)
          · rw [if_neg (by omega), if_neg (by omega), if_pos (by omega)]; simp
          · rw [if_pos (by omega), if_neg (by omega)]
  · unfold ofS
    rw [h, if_pos h5, if_pos h6]
    simp
  · unfold ofS
    rw [h, if_pos h5, if_neg h6]
    simp
end Go.Proofs.Ytoihmanhldcjhaa.Rr
namespace Go.Proofs.Ytoihmanhldcjhaa.Id
open Go Go.RowKit Go.Proofs.Ytoihmanhldcjhaa.Rl
set_option linter.unusedSimpArgs false
set_option linter.unusedVariables false
theorem Of_c (b : Nat) (nx : Nat) (h1 : b < 18446744073709551616) : CallW Try.prog 34 [.int .u64 (b : Int)] [] nx (Ret (.tuple #[.int .i64 (ofS b).1, .int .i64 (ofS b).2]) [] nx) :=
  CallW_lift nx Try.func34 rfl (by decide) rfl rfl fun w => by
    have h := Rr.refOf_eq b (by omega) 3000 (by omega)
    obtain ⟨x, y, hxy⟩ : ∃ x y, ofS b = (x, y) := ⟨_, _, rfl⟩
    rw [hxy] at h ⊢
    exact (POf.bivouacref04_Of.calls 3000 _ _ _ w h).mono fun _ _ q => ⟨q.1, q.2.below⟩
def tV (bs : List UInt8) (at_ i : Nat) : Int := le ((bs.drop (at_ + 2 * i)).take 2)
set_option maxRecDepth 100000 in
set_option maxHeartbeats 4000000 in
theorem reftwos_c (bs : List UInt8) (ln cp : Nat) (at_ : Nat) (q : Nat) (nx : Nat) (ro loose : Bool) (hqn : q < nx) (ha : at_ + 16 ≤ ln) (hl : ln ≤ bs.length ∧ ln ≤ 1000000) :
    CallW Try.prog 33 [.slice (some ⟨q, 0, none⟩) ln cp, .int .i64 (at_ : Int)] [(q, ⟨bys bs, 5, 1, ro, loose⟩)] nx
      (Ret (.agg #[.int .i64 (tV bs at_ 0), .int .i64 (tV bs at_ 1), .int .i64 (tV bs at_ 2), .int .i64 (tV bs at_ 3), .int .i64 (tV bs at_ 4), .int .i64 (tV bs at_ 5), .int .i64 (tV bs at_ 6), .int .i64 (tV bs at_ 7)]) [(q, ⟨bys bs, 5, 1, ro, loose⟩)] (nx + 2)) := by
  refine CallW_go (tbOk _) 21 [.cell 4 67] Try.func33 rfl (by decide) rfl rfl (by simp) fun hlt => ?_
  simp only [params, Nat.zero_add, Nat.reduceAdd]
  have f0 : ¬ q = nx := by omega
  have f1 : ∀ i, ¬ q = nx + i := by intro i; omega
  have f2 : ¬ nx = q := by omega
  have f3 : ∀ i, ¬ nx + i = q := by intro i; omega
  refine JS_go (tbOk _) 99 fun x hx => ?_
  simp only [RN, ↓reduceIte, ↓get8, reduceCtorEq, Nat.reduceLT, Nat.reduceEqDiff, Nat.reduceAdd, Nat.reduceMul, Nat.reduceLeDiff, Nat.reduceSub, Int.reduceToNat, Int.reduceNeg, Nat.reduceBEq, TY, f0, f1, f2, f3, Nat.add_assoc, Nat.left_eq_add, Nat.add_eq_left, Nat.add_left_cancel_iff] at hx
  subst hx
  refine ⟨_, _, rfl, by first | trivial | omega | (simp only [and_true, true_and]; omega), ?_⟩
  refine at_loop ?_
  refine JS_loopI (S := fun j : Nat => { n := 21, fr := [(6, .int .i64 (j : Int)), (5, .pointer (some ⟨nx + 1, 0, none⟩)), (4, .pointer (some ⟨nx, 0, none⟩)), (0, .slice (some ⟨q, 0, none⟩) ln cp), (1, .int .i64 at_)], F := [(nx + 1, ⟨[.int .i64 (if 0 < j then tV bs at_ 0 else 0), .int .i64 (if 1 < j then tV bs at_ 1 else 0), .int .i64 (if 2 < j then tV bs at_ 2 else 0), .int .i64 (if 3 < j then tV bs at_ 3 else 0), .int .i64 (if 4 < j then tV bs at_ 4 else 0), .int .i64 (if 5 < j then tV bs at_ 5 else 0), .int .i64 (if 6 < j then tV bs at_ 6 else 0), .int .i64 (if 7 < j then tV bs at_ 7 else 0)], 67, 8, false, false⟩), (nx, ⟨[.int .i64 0, .int .i64 0, .int .i64 0, .int .i64 0, .int .i64 0, .int .i64 0, .int .i64 0, .int .i64 0], 67, 8, false, false⟩), (q, ⟨bys bs, 5, 1, ro, loose⟩)], nx := nx + 2, ds := [] })
    (fun j => j ≤ 8) (fun j => 8 - j) 0 (by omega) ?_ ?_
  · exact le_of rfl (by simp only [RN, ↓reduceIte, ↓get8, reduceCtorEq, Nat.reduceLT, Nat.reduceEqDiff, Nat.reduceAdd, Nat.reduceMul, Nat.reduceLeDiff, Nat.reduceSub, Int.reduceToNat, Int.reduceNeg, Nat.reduceBEq]; first | done | trivial) (by simp only [RN, ↓reduceIte, ↓get8, reduceCtorEq, Nat.reduceLT, Nat.reduceEqDiff, Nat.reduceAdd, Nat.reduceMul, Nat.reduceLeDiff, Nat.reduceSub, Int.reduceToNat, Int.reduceNeg, Nat.reduceBEq, Nat.not_lt_zero, f0, f1, f2, f3, Nat.add_assoc, Nat.left_eq_add, Nat.add_eq_left, Nat.add_left_cancel_iff]; first | done | trivial) (Nat.le_refl _) rfl
  intro j hj
  have hj9 : j = 0 ∨ j = 1 ∨ j = 2 ∨ j = 3 ∨ j = 4 ∨ j = 5 ∨ j = 6 ∨ j = 7 ∨ j = 8 := by omega
  rcases hj9 with rfl | rfl | rfl | rfl | rfl | rfl | rfl | rfl | rfl
  · skip
    have hN := refnum_c bs ln cp (at_ + 2 * 0) 2 q (nx + 2) ro loose (by omega) (by omega) hl
    have w1 : IntKind.i64.wrap (2 * ((0 : Nat) : Int)) = ((2 * 0 : Nat) : Int) := wrap_i64 (2 * 0) (by omega)
    have w2 : IntKind.i64.wrap ((at_ : Int) + ((2 * 0 : Nat) : Int)) = ((at_ + 2 * 0 : Nat) : Int) := wrap_i64 (at_ + 2 * 0) (by omega)
    obtain ⟨a2, ha2⟩ : ∃ a2, at_ + 2 * 0 = a2 := ⟨_, rfl⟩
    rw [ha2] at hN w2
    have hv := le8 (bs.drop a2) 2 (by omega)
    have hv2 : le ((bs.drop a2).take 2) < 65536 := by
      have h := le_lt ((bs.drop a2).take 2)
      have h2 : ((bs.drop a2).take 2).length ≤ 2 := by simp; omega
      have : (256 : Nat) ^ ((bs.drop a2).take 2).length ≤ 256 ^ 2 := Nat.pow_le_pow_right (by omega) h2
      omega
    have w3 : IntKind.i64.wrap ((le ((bs.drop a2).take 2) : Nat) : Int) = tV bs at_ 0 := by rw [tV, ha2]; exact wrap_i64 _ (by omega)
    have w4 : IntKind.i64.wrap (((0 : Nat) : Int) + 1) = ((1 : Nat) : Int) := by decide
    refine JS_go (tbOk _) 99 fun x hx => ?_
    simp only [RN, ↓reduceIte, ↓get8, reduceCtorEq, Nat.reduceLT, Nat.reduceEqDiff, Nat.reduceAdd, Nat.reduceMul, Nat.reduceLeDiff, Nat.reduceSub, Int.reduceToNat, Int.reduceNeg, Nat.reduceBEq, TY] at hx
    subst hx
    refine ⟨_, _, rfl, by first | trivial | omega | (simp only [and_true, true_and]; omega), ?_⟩
    refine at_cond (fun _ => ?_) (fun h => nomatch h)
    refine JS_go (tbOk _) 99 fun x hx => ?_
    simp only [RN, ↓reduceIte, ↓get8, reduceCtorEq, Nat.reduceLT, Nat.reduceEqDiff, Nat.reduceAdd, Nat.reduceMul, Nat.reduceLeDiff, Nat.reduceSub, Int.reduceToNat, Int.reduceNeg, Nat.reduceBEq, TY, w1, w2, f0, f1, f2, f3, Nat.add_assoc, Nat.left_eq_add, Nat.add_eq_left, Nat.add_left_cancel_iff] at hx
    subst hx
    refine ⟨_, _, rfl, by first | trivial | omega | (simp only [and_true, true_and]; omega), ?_⟩
    refine at_callK (hN) (by simp only [RN, ↓reduceIte, ↓get8, reduceCtorEq, Nat.reduceLT, Nat.reduceEqDiff, Nat.reduceAdd, Nat.reduceMul, Nat.reduceLeDiff, Nat.reduceSub, Int.reduceToNat, Int.reduceNeg, Nat.reduceBEq, f0, f1, f2, f3, Nat.add_assoc, Nat.left_eq_add, Nat.add_eq_left, Nat.add_left_cancel_iff]; first | done | trivial) (by simp only [RN, ↓reduceIte, ↓get8, reduceCtorEq, Nat.reduceLT, Nat.reduceEqDiff, Nat.reduceAdd, Nat.reduceMul, Nat.reduceLeDiff, Nat.reduceSub, Int.reduceToNat, Int.reduceNeg, Nat.reduceBEq, f0, f1, f2, f3, Nat.add_assoc, Nat.left_eq_add, Nat.add_eq_left, Nat.add_left_cancel_iff]; rfl) ?_
    refine JS_go (tbOk _) 99 fun x hx => ?_
    simp only [RN, ↓reduceIte, ↓get8, reduceCtorEq, Nat.reduceLT, Nat.reduceEqDiff, Nat.reduceAdd, Nat.reduceMul, Nat.reduceLeDiff, Nat.reduceSub, Int.reduceToNat, Int.reduceNeg, Nat.reduceBEq, TY, w3, w4, f0, f1, f2, f3, Nat.add_assoc, Nat.left_eq_add, Nat.add_eq_left, Nat.add_left_cancel_iff] at hx
    subst hx
    refine ⟨_, _, rfl, by first | trivial | omega | (simp only [and_true, true_and]; omega), ?_⟩
    exact at_done (in_nextI 1 (by omega) (by omega) (le_of rfl (by simp only [RN, ↓reduceIte, ↓get8, reduceCtorEq, Nat.reduceLT, Nat.reduceEqDiff, Nat.reduceAdd, Nat.reduceMul, Nat.reduceLeDiff, Nat.reduceSub, Int.reduceToNat, Int.reduceNeg, Nat.reduceBEq]; first | done | trivial) (by simp only [RN, ↓reduceIte, ↓get8, reduceCtorEq, Nat.reduceLT, Nat.reduceEqDiff, Nat.reduceAdd, Nat.reduceMul, Nat.reduceLeDiff, Nat.reduceSub, Int.reduceToNat, Int.reduceNeg, Nat.reduceBEq, f0, f1, f2, f3, Nat.add_assoc, Nat.left_eq_add, Nat.add_eq_left, Nat.add_left_cancel_iff]; first | done | trivial) (Nat.le_refl _) rfl))
  · skip
    have hN := refnum_c bs ln cp (at_ + 2 * 1) 2 q (nx + 2) ro loose (by omega) (by omega) hl
    have w1 : IntKind.i64.wrap (2 * ((1 : Nat) : Int)) = ((2 * 1 : Nat) : Int) := wrap_i64 (2 * 1) (by omega)
    have w2 : IntKind.i64.wrap ((at_ : Int) + ((2 * 1 : Nat) : Int)) = ((at_ + 2 * 1 : Nat) : Int) := wrap_i64 (at_ + 2 * 1) (by omega)
    obtain ⟨a2, ha2⟩ : ∃ a2, at_ + 2 * 1 = a2 := ⟨_, rfl⟩
    rw [ha2] at hN w2
    have hv := le8 (bs.drop a2) 2 (by omega)
    have hv2 : le ((bs.drop a2).take 2) < 65536 := by
      have h := le_lt ((bs.drop a2).take 2)
      have h2 : ((bs.drop a2).take 2).length ≤ 2 := by simp; omega
      have : (256 : Nat) ^ ((bs.drop a2).take 2).length ≤ 256 ^ 2 := Nat.pow_le_pow_right (by omega) h2
      omega
    have w3 : IntKind.i64.wrap ((le ((bs.drop a2).take 2) : Nat) : Int) = tV bs at_ 1 := by rw [tV, ha2]; exact wrap_i64 _ (by omega)
    have w4 : IntKind.i64.wrap (((1 : Nat) : Int) + 1) = ((2 : Nat) : Int) := by decide
    refine JS_go (tbOk _) 99 fun x hx => ?_
    simp only [RN, ↓reduceIte, ↓get8, reduceCtorEq, Nat.reduceLT, Nat.reduceEqDiff, Nat.reduceAdd, Nat.reduceMul, Nat.reduceLeDiff, Nat.reduceSub, Int.reduceToNat, Int.reduceNeg, Nat.reduceBEq, TY] at hx
    subst hx
    refine ⟨_, _, rfl, by first | trivial | omega | (simp only [and_true, true_and]; omega), ?_⟩
    refine at_cond (fun _ => ?_) (fun h => nomatch h)
    refine JS_go (tbOk _) 99 fun x hx => ?_
    simp only [RN, ↓reduceIte, ↓get8, reduceCtorEq, Nat.reduceLT, Nat.reduceEqDiff, Nat.reduceAdd, Nat.reduceMul, Nat.reduceLeDiff, Nat.reduceSub, Int.reduceToNat, Int.reduceNeg, Nat.reduceBEq, TY, w1, w2, f0, f1, f2, f3, Nat.add_assoc, Nat.left_eq_add, Nat.add_eq_left, Nat.add_left_cancel_iff] at hx
    subst hx
    refine ⟨_, _, rfl, by first | trivial | omega | (simp only [and_true, true_and]; omega), ?_⟩
    refine at_callK (hN) (by simp only [RN, ↓reduceIte, ↓get8, reduceCtorEq, Nat.reduceLT, Nat.reduceEqDiff, Nat.reduceAdd, Nat.reduceMul, Nat.reduceLeDiff, Nat.reduceSub, Int.reduceToNat, Int.reduceNeg, Nat.reduceBEq, f0, f1, f2, f3, Nat.add_assoc, Nat.left_eq_add, Nat.add_eq_left, Nat.add_left_cancel_iff]; first | done | trivial) (by simp only [RN, ↓reduceIte, ↓get8, reduceCtorEq, Nat.reduceLT, Nat.reduceEqDiff, Nat.reduceAdd, Nat.reduceMul, Nat.reduceLeDiff, Nat.reduceSub, Int.reduceToNat, Int.reduceNeg, Nat.reduceBEq, f0, f1, f2, f3, Nat.add_assoc, Nat.left_eq_add, Nat.add_eq_left, Nat.add_left_cancel_iff]; rfl) ?_
    refine JS_go (tbOk _) 99 fun x hx => ?_
    simp only [RN, ↓reduceIte, ↓get8, reduceCtorEq, Nat.reduceLT, Nat.reduceEqDiff, Nat.reduceAdd, Nat.reduceMul, Nat.reduceLeDiff, Nat.reduceSub, Int.reduceToNat, Int.reduceNeg, Nat.reduceBEq, TY, w3, w4, f0, f1, f2, f3, Nat.add_assoc, Nat.left_eq_add, Nat.add_eq_left, Nat.add_left_cancel_iff] at hx
    subst hx
    refine ⟨_, _, rfl, by first | trivial | omega | (simp only [and_true, true_and]; omega), ?_⟩
    exact at_done (in_nextI 2 (by omega) (by omega) (le_of rfl (by simp only [RN, ↓reduceIte, ↓get8, reduceCtorEq, Nat.reduceLT, Nat.reduceEqDiff, Nat.reduceAdd, Nat.reduceMul, Nat.reduceLeDiff, Nat.reduceSub, Int.reduceToNat, Int.reduceNeg, Nat.reduceBEq]; first | done | trivial) (by simp only [RN, ↓reduceIte, ↓get8, reduceCtorEq, Nat.reduceLT, Nat.reduceEqDiff, Nat.reduceAdd, Nat.reduceMul, Nat.reduceLeDiff, Nat.reduceSub, Int.reduceToNat, Int.reduceNeg, Nat.reduceBEq, f0, f1, f2, f3, Nat.add_assoc, Nat.left_eq_add, Nat.add_eq_left, Nat.add_left_cancel_iff]; first | done | trivial) (Nat.le_refl _) rfl))
  · skip
    have hN := refnum_c bs ln cp (at_ + 2 * 2) 2 q (nx + 2) ro loose (by omega) (by omega) hl
    have w1 : IntKind.i64.wrap (2 * ((2 : Nat) : Int)) = ((2 * 2 : Nat) : Int) := wrap_i64 (2 * 2) (by omega)
    have w2 : IntKind.i64.wrap ((at_ : Int) + ((2 * 2 : Nat) : Int)) = ((at_ + 2 * 2 : Nat) : Int) := wrap_i64 (at_ + 2 * 2) (by omega)
    obtain ⟨a2, ha2⟩ : ∃ a2, at_ + 2 * 2 = a2 := ⟨_, rfl⟩
    rw [ha2] at hN w2
    have hv := le8 (bs.drop a2) 2 (by omega)
    have hv2 : le ((bs.drop a2).take 2) < 65536 := by
      have h := le_lt ((bs.drop a2).take 2)
      have h2 : ((bs.drop a2).take 2).length ≤ 2 := by simp; omega
      have : (256 : Nat) ^ ((bs.drop a2).take 2).length ≤ 256 ^ 2 := Nat.pow_le_pow_right (by omega) h2
      omega
    have w3 : IntKind.i64.wrap ((le ((bs.drop a2).take 2) : Nat) : Int) = tV bs at_ 2 := by rw [tV, ha2]; exact wrap_i64 _ (by omega)
    have w4 : IntKind.i64.wrap (((2 : Nat) : Int) + 1) = ((3 : Nat) : Int) := by decide
    refine JS_go (tbOk _) 99 fun x hx => ?_
    simp only [RN, ↓reduceIte, ↓get8, reduceCtorEq, Nat.reduceLT, Nat.reduceEqDiff, Nat.reduceAdd, Nat.reduceMul, Nat.reduceLeDiff, Nat.reduceSub, Int.reduceToNat, Int.reduceNeg, Nat.reduceBEq, TY] at hx
    subst hx
    refine ⟨_, _, rfl, by first | trivial | omega | (simp only [and_true, true_and]; omega), ?_⟩
    refine at_cond (fun _ => ?_) (fun h => nomatch h)
    refine JS_go (tbOk _) 99 fun x hx => ?_
    simp only [RN, ↓reduceIte, ↓get8, reduceCtorEq, Nat.reduceLT, Nat.reduceEqDiff, Nat.reduceAdd, Nat.reduceMul, Nat.reduceLeDiff, Nat.reduceSub, Int.reduceToNat, Int.reduceNeg, Nat.reduceBEq, TY, w1, w2, f0, f1, f2, f3, Nat.add_assoc, Nat.left_eq_add, Nat.add_eq_left, Nat.add_left_cancel_iff] at hx
    subst hx
    refine ⟨_, _, rfl, by first | trivial | omega | (simp only [and_true, true_and]; omega), ?_⟩
    refine at_callK (hN) (by simp only [RN, ↓reduceIte, ↓get8, reduceCtorEq, Nat.reduceLT, Nat.reduceEqDiff, Nat.reduceAdd, Nat.reduceMul, Nat.reduceLeDiff, Nat.reduceSub, Int.reduceToNat, Int.reduceNeg, Nat.reduceBEq, f0, f1, f2, f3, Nat.add_assoc, Nat.left_eq_add, Nat.add_eq_left, Nat.add_left_cancel_iff]; first | done | trivial) (by simp only [RN, ↓reduceIte, ↓get8, reduceCtorEq, Nat.reduceLT, Nat.reduceEqDiff, Nat.reduceAdd, Nat.reduceMul, Nat.reduceLeDiff, Nat.reduceSub, Int.reduceToNat, Int.reduceNeg, Nat.reduceBEq, f0, f1, f2, f3, Nat.add_assoc, Nat.left_eq_add, Nat.add_eq_left, Nat.add_left_cancel_iff]; rfl) ?_
    refine JS_go (tbOk _) 99 fun x hx => ?_
    simp only [RN, ↓reduceIte, ↓get8, reduceCtorEq, Nat.reduceLT, Nat.reduceEqDiff, Nat.reduceAdd, Nat.reduceMul, Nat.reduceLeDiff, Nat.reduceSub, Int.reduceToNat, Int.reduceNeg, Nat.reduceBEq, TY, w3, w4, f0, f1, f2, f3, Nat.add_assoc, Nat.left_eq_add, Nat.add_eq_left, Nat.add_left_cancel_iff] at hx
    subst hx
    refine ⟨_, _, rfl, by first | trivial | omega | (simp only [and_true, true_and]; omega), ?_⟩
    exact at_done (in_nextI 3 (by omega) (by omega) (le_of rfl (by simp only [RN, ↓reduceIte, ↓get8, reduceCtorEq, Nat.reduceLT, Nat.reduceEqDiff, Nat.reduceAdd, Nat.reduceMul, Nat.reduceLeDiff, Nat.reduceSub, Int.reduceToNat, Int.reduceNeg, Nat.reduceBEq]; first | done | trivial) (by simp only [RN, ↓reduceIte, ↓get8, reduceCtorEq, Nat.reduceLT, Nat.reduceEqDiff, Nat.reduceAdd, Nat.reduceMul, Nat.reduceLeDiff, Nat.reduceSub, Int.reduceToNat, Int.reduceNeg, Nat.reduceBEq, f0, f1, f2, f3, Nat.add_assoc, Nat.left_eq_add, Nat.add_eq_left, Nat.add_left_cancel_iff]; first | done | trivial) (Nat.le_refl _) rfl))
  · skip
    have hN := refnum_c bs ln cp (at_ + 2 * 3) 2 q (nx + 2) ro loose (by omega) (by omega) hl
    have w1 : IntKind.i64.wrap (2 * ((3 : Nat) : Int)) = ((2 * 3 : Nat) : Int) := wrap_i64 (2 * 3) (by omega)
    have w2 : IntKind.i64.wrap ((at_ : Int) + ((2 * 3 : Nat) : Int)) = ((at_ + 2 * 3 : Nat) : Int) := wrap_i64 (at_ + 2 * 3) (by omega)
    obtain ⟨a2, ha2⟩ : ∃ a2, at_ + 2 * 3 = a2 := ⟨_, rfl⟩
    rw [ha2] at hN w2
    have hv := le8 (bs.drop a2) 2 (by omega)
    have hv2 : le ((bs.drop a2).take 2) < 65536 := by
      have h := le_lt ((bs.drop a2).take 2)
      have h2 : ((bs.drop a2).take 2).length ≤ 2 := by simp; omega
      have : (256 : Nat) ^ ((bs.drop a2).take 2).length ≤ 256 ^ 2 := Nat.pow_le_pow_right (by omega) h2
      omega
    have w3 : IntKind.i64.wrap ((le ((bs.drop a2).take 2) : Nat) : Int) = tV bs at_ 3 := by rw [tV, ha2]; exact wrap_i64 _ (by omega)
    have w4 : IntKind.i64.wrap (((3 : Nat) : Int) + 1) = ((4 : Nat) : Int) := by decide
    refine JS_go (tbOk _) 99 fun x hx => ?_
    simp only [RN, ↓reduceIte, ↓get8, reduceCtorEq, Nat.reduceLT, Nat.reduceEqDiff, Nat.reduceAdd, Nat.reduceMul, Nat.reduceLeDiff, Nat.reduceSub, Int.reduceToNat, Int.reduceNeg, Nat.reduceBEq, TY] at hx
    subst hx
    refine ⟨_, _, rfl, by first | trivial | omega | (simp only [and_true, true_and]; omega), ?_⟩
    refine at_cond (fun _ => ?_) (fun h => nomatch h)
    refine JS_go (tbOk _) 99 fun x hx => ?_
    simp only [RN, ↓reduceIte, ↓get8, reduceCtorEq, Nat.reduceLT, Nat.reduceEqDiff, Nat.reduceAdd, Nat.reduceMul, Nat.reduceLeDiff, Nat.reduceSub, Int.reduceToNat, Int.reduceNeg, Nat.reduceBEq, TY, w1, w2, f0, f1, f2, f3, Nat.add_assoc, Nat.left_eq_add, Nat.add_eq_left, Nat.add_left_cancel_iff] at hx
    subst hx
    refine ⟨_, _, rfl, by first | trivial | omega | (simp only [and_true, true_and]; omega), ?_⟩
    refine at_callK (hN) (by simp only [RN, ↓reduceIte, ↓get8, reduceCtorEq, Nat.reduceLT, Nat.reduceEqDiff, Nat.reduceAdd, Nat.reduceMul, Nat.reduceLeDiff, Nat.reduceSub, Int.reduceToNat, Int.reduceNeg, Nat.reduceBEq, f0, f1, f2, f3, Nat.add_assoc, Nat.left_eq_add, Nat.add_eq_left, Nat.add_left_cancel_iff]; first | done | trivial) (by simp only [RN, ↓reduceIte, ↓get8, reduceCtorEq, Nat.reduceLT, Nat.reduceEqDiff, Nat.reduceAdd, Nat.reduceMul, Nat.reduceLeDiff, Nat.reduceSub, Int.reduceToNat, Int.reduceNeg, Nat.reduceBEq, f0, f1, f2, f3, Nat.add_assoc, Nat.left_eq_add, Nat.add_eq_left, Nat.add_left_cancel_iff]; rfl) ?_
    refine JS_go (tbOk _) 99 fun x hx => ?_
    simp only [RN, ↓reduceIte, ↓get8, reduceCtorEq, Nat.reduceLT, Nat.reduceEqDiff, Nat.reduceAdd, Nat.reduceMul, Nat.reduceLeDiff, Nat.reduceSub, Int.reduceToNat, Int.reduceNeg, Nat.reduceBEq, TY, w3, w4, f0, f1, f2, f3, Nat.add_assoc, Nat.left_eq_add, Nat.add_eq_left, Nat.add_left_cancel_iff] at hx
    subst hx
    refine ⟨_, _, rfl, by first | trivial | omega | (simp only [and_true, true_and]; omega), ?_⟩
    exact at_done (in_nextI 4 (by omega) (by omega) (le_of rfl (by simp only [RN, ↓reduceIte, ↓get8, reduceCtorEq, Nat.reduceLT, Nat.reduceEqDiff, Nat.reduceAdd, Nat.reduceMul, Nat.reduceLeDiff, Nat.reduceSub, Int.reduceToNat, Int.reduceNeg, Nat.reduceBEq]; first | done | trivial) (by simp only [RN, ↓reduceIte, ↓get8, reduceCtorEq, Nat.reduceLT, Nat.reduceEqDiff, Nat.reduceAdd, Nat.reduceMul, Nat.reduceLeDiff, Nat.reduceSub, Int.reduceToNat, Int.reduceNeg, Nat.reduceBEq, f0, f1, f2, f3, Nat.add_assoc, Nat.left_eq_add, Nat.add_eq_left, Nat.add_left_cancel_iff]; first | done | trivial) (Nat.le_refl _) rfl))
  · skip
    have hN := refnum_c bs ln cp (at_ + 2 * 4) 2 q (nx + 2) ro loose (by omega) (by omega) hl
    have w1 : IntKind.i64.wrap (2 * ((4 : Nat) : Int)) = ((2 * 4 : Nat) : Int) := wrap_i64 (2 * 4) (by omega)
    have w2 : IntKind.i64.wrap ((at_ : Int) + ((2 * 4 : Nat) : Int)) = ((at_ + 2 * 4 : Nat) : Int) := wrap_i64 (at_ + 2 * 4) (by omega)
    obtain ⟨a2, ha2⟩ : ∃ a2, at_ + 2 * 4 = a2 := ⟨_, rfl⟩
    rw [ha2] at hN w2
    have hv := le8 (bs.drop a2) 2 (by omega)
    have hv2 : le ((bs.drop a2).take 2) < 65536 := by
      have h := le_lt ((bs.drop a2).take 2)
      have h2 : ((bs.drop a2).take 2).length ≤ 2 := by simp; omega
      have : (256 : Nat) ^ ((bs.drop a2).take 2).length ≤ 256 ^ 2 := Nat.pow_le_pow_right (by omega) h2
      omega
    have w3 : IntKind.i64.wrap ((le ((bs.drop a2).take 2) : Nat) : Int) = tV bs at_ 4 := by rw [tV, ha2]; exact wrap_i64 _ (by omega)
    have w4 : IntKind.i64.wrap (((4 : Nat) : Int) + 1) = ((5 : Nat) : Int) := by decide
    refine JS_go (tbOk _) 99 fun x hx => ?_
    simp only [RN, ↓reduceIte, ↓get8, reduceCtorEq, Nat.reduceLT, Nat.reduceEqDiff, Nat.reduceAdd, Nat.reduceMul, Nat.reduceLeDiff, Nat.reduceSub, Int.reduceToNat, Int.reduceNeg, Nat.reduceBEq, TY] at hx
    subst hx
    refine ⟨_, _, rfl, by first | trivial | omega | (simp only [and_true, true_and]; omega), ?_⟩
    refine at_cond (fun _ => ?_) (fun h => nomatch h)
    refine JS_go (tbOk _) 99 fun x hx => ?_
    simp only [RN, ↓reduceIte, ↓get8, reduceCtorEq, Nat.reduceLT, Nat.reduceEqDiff, Nat.reduceAdd, Nat.reduceMul, Nat.reduceLeDiff, Nat.reduceSub, Int.reduceToNat, Int.reduceNeg, Nat.reduceBEq, TY, w1, w2, f0, f1, f2, f3, Nat.add_assoc, Nat.left_eq_add, Nat.add_eq_left, Nat.add_left_cancel_iff] at hx
    subst hx
    refine ⟨_, _, rfl, by first | trivial | omega | (simp only [and_true, true_and]; omega), ?_⟩
    refine at_callK (hN) (by simp only [RN, ↓reduceIte, ↓get8, reduceCtorEq, Nat.reduceLT, Nat.reduceEqDiff, Nat.reduceAdd, Nat.reduceMul, Nat.reduceLeDiff, Nat.reduceSub, Int.reduceToNat, Int.reduceNeg, Nat.reduceBEq, f0, f1, f2, f3, Nat.add_assoc, Nat.left_eq_add, Nat.add_eq_left, Nat.add_left_cancel_iff]; first | done | trivial) (by simp only [RN, ↓reduceIte, ↓get8, reduceCtorEq, Nat.reduceLT, Nat.reduceEqDiff, Nat.reduceAdd, Nat.reduceMul, Nat.reduceLeDiff, Nat.reduceSub, Int.reduceToNat, Int.reduceNeg, Nat.reduceBEq, f0, f1, f2, f3, Nat.add_assoc, Nat.left_eq_add, Nat.add_eq_left, Nat.add_left_cancel_iff]; rfl) ?_
    refine JS_go (tbOk _) 99 fun x hx => ?_
    simp only [RN, ↓reduceIte, ↓get8, reduceCtorEq, Nat.reduceLT, Nat.reduceEqDiff, Nat.reduceAdd, Nat.reduceMul, Nat.reduceLeDiff, Nat.reduceSub, Int.reduceToNat, Int.reduceNeg, Nat.reduceBEq, TY, w3, w4, f0, f1, f2, f3, Nat.add_assoc, Nat.left_eq_add, Nat.add_eq_left, Nat.add_left_cancel_iff] at hx
    subst hx
    refine ⟨_, _, rfl, by first | trivial | omega | (simp only [and_true, true_and]; omega), ?_⟩
    exact at_done (in_nextI 5 (by omega) (by omega) (le_of rfl (by simp only [RN, ↓reduceIte, ↓get8, reduceCtorEq, Nat.reduceLT, Nat.reduceEqDiff, Nat.reduceAdd, Nat.reduceMul, Nat.reduceLeDiff, Nat.reduceSub, Int.reduceToNat, Int.reduceNeg, Nat.reduceBEq]; first | done | trivial) (by simp only [RN, ↓reduceIte, ↓get8, reduceCtorEq, Nat.reduceLT, Nat.reduceEqDiff, Nat.reduceAdd, Nat.reduceMul, Nat.reduceLeDiff, Nat.reduceSub, Int.reduceToNat, Int.reduceNeg, Nat.reduceBEq, f0, f1, f2, f3, Nat.add_assoc, Nat.left_eq_add, Nat.add_eq_left, Nat.add_left_cancel_iff]; first | done | trivial) (Nat.le_refl _) rfl))
  · skip
    have hN := refnum_c bs ln cp (at_ + 2 * 5) 2 q (nx + 2) ro loose (by omega) (by omega) hl
    have w1 : IntKind.i64.wrap (2 * ((5 : Nat) : Int)) = ((2 * 5 : Nat) : Int) := wrap_i64 (2 * 5) (by omega)
    have w2 : IntKind.i64.wrap ((at_ : Int) + ((2 * 5 : Nat) : Int)) = ((at_ + 2 * 5 : Nat) : Int) := wrap_i64 (at_ + 2 * 5) (by omega)
    obtain ⟨a2, ha2⟩ : ∃ a2, at_ + 2 * 5 = a2 := ⟨_, rfl⟩
    rw [ha2] at hN w2
    have hv := le8 (bs.drop a2) 2 (by omega)
    have hv2 : le ((bs.drop a2).take 2) < 65536 := by
      have h := le_lt ((bs.drop a2).take 2)
      have h2 : ((bs.drop a2).take 2).length ≤ 2 := by simp; omega
      have : (256 : Nat) ^ ((bs.drop a2).take 2).length ≤ 256 ^ 2 := Nat.pow_le_pow_right (by omega) h2
      omega
    have w3 : IntKind.i64.wrap ((le ((bs.drop a2).take 2) : Nat) : Int) = tV bs at_ 5 := by rw [tV, ha2]; exact wrap_i64 _ (by omega)
    have w4 : IntKind.i64.wrap (((5 : Nat) : Int) + 1) = ((6 : Nat) : Int) := by decide
    refine JS_go (tbOk _) 99 fun x hx => ?_
    simp only [RN, ↓reduceIte, ↓get8, reduceCtorEq, Nat.reduceLT, Nat.reduceEqDiff, Nat.reduceAdd, Nat.reduceMul, Nat.reduceLeDiff, Nat.reduceSub, Int.reduceToNat, Int.reduceNeg, Nat.reduceBEq, TY] at hx
    subst hx
    refine ⟨_, _, rfl, by first | trivial | omega | (simp only [and_true, true_and]; omega), ?_⟩
    refine at_cond (fun _ => ?_) (fun h => nomatch h)
    refine JS_go (tbOk _) 99 fun x hx => ?_
    simp only [RN, ↓reduceIte, ↓get8, reduceCtorEq, Nat.reduceLT, Nat.reduceEqDiff, Nat.reduceAdd, Nat.reduceMul, Nat.reduceLeDiff, Nat.reduceSub, Int.reduceToNat, Int.reduceNeg, Nat.reduceBEq, TY, w1, w2, f0, f1, f2, f3, Nat.add_assoc, Nat.left_eq_add, Nat.add_eq_left, Nat.add_left_cancel_iff] at hx
    subst hx
    refine ⟨_, _, rfl, by first | trivial | omega | (simp only [and_true, true_and]; omega), ?_⟩
    refine at_callK (hN) (by simp only [RN, ↓reduceIte, ↓get8, reduceCtorEq, Nat.reduceLT, Nat.reduceEqDiff, Nat.reduceAdd, Nat.reduceMul, Nat.reduceLeDiff, Nat.reduceSub, Int.reduceToNat, Int.reduceNeg, Nat.reduceBEq, f0, f1, f2, f3, Nat.add_assoc, Nat.left_eq_add, Nat.add_eq_left, Nat.add_left_cancel_iff]; first | done | trivial) (by simp only [RN, ↓reduceIte, ↓get8, reduceCtorEq, Nat.reduceLT, Nat.reduceEqDiff, Nat.reduceAdd, Nat.reduceMul, Nat.reduceLeDiff, Nat.reduceSub, Int.reduceToNat, Int.reduceNeg, Nat.reduceBEq, f0, f1, f2, f3, Nat.add_assoc, Nat.left_eq_add, Nat.add_eq_left, Nat.add_left_cancel_iff]; rfl) ?_
    refine JS_go (tbOk _) 99 fun x hx => ?_
    simp only [RN, ↓reduceIte, ↓get8, reduceCtorEq, Nat.reduceLT, Nat.reduceEqDiff, Nat.reduceAdd, Nat.reduceMul, Nat.reduceLeDiff, Nat.reduceSub, Int.reduceToNat, Int.reduceNeg, Nat.reduceBEq, TY, w3, w4, f0, f1, f2, f3, Nat.add_assoc, Nat.left_eq_add, Nat.add_eq_left, Nat.add_left_cancel_iff] at hx
    subst hx
    refine ⟨_, _, rfl, by first | trivial | omega | (simp only [and_true, true_and]; omega), ?_⟩
    exact at_done (in_nextI 6 (by omega) (by omega) (le_of rfl (by simp only [RN, ↓reduceIte, ↓get8, reduceCtorEq, Nat.reduceLT, Nat.reduceEqDiff, Nat.reduceAdd, Nat.reduceMul, Nat.reduceLeDiff, Nat.reduceSub, Int.reduceToNat, Int.reduceNeg, Nat.reduceBEq]; first | done | trivial) (by simp only [RN, ↓reduceIte, ↓get8, reduceCtorEq, Nat.reduceLT, Nat.reduceEqDiff, Nat.reduceAdd, Nat.reduceMul, Nat.reduceLeDiff, Nat.reduceSub, Int.reduceToNat, Int.reduceNeg, Nat.reduceBEq, f0, f1, f2, f3, Nat.add_assoc, Nat.left_eq_add, Nat.add_eq_left, Nat.add_left_cancel_iff]; first | done | trivial) (Nat.le_refl _) rfl))
  · skip
    have hN := refnum_c bs ln cp (at_ + 2 * 6) 2 q (nx + 2) ro loose (by omega) (by omega) hl
    have w1 : IntKind.i64.wrap (2 * ((6 : Nat) : Int)) = ((2 * 6 : Nat) : Int) := wrap_i64 (2 * 6) (by omega)
    have w2 : IntKind.i64.wrap ((at_ : Int) + ((2 * 6 : Nat) : Int)) = ((at_ + 2 * 6 : Nat) : Int) := wrap_i64 (at_ + 2 * 6) (by omega)
    obtain ⟨a2, ha2⟩ : ∃ a2, at_ + 2 * 6 = a2 := ⟨_, rfl⟩
    rw [ha2] at hN w2
    have hv := le8 (bs.drop a2) 2 (by omega)
    have hv2 : le ((bs.drop a2).take 2) < 65536 := by
      have h := le_lt ((bs.drop a2).take 2)
      have h2 : ((bs.drop a2).take 2).length ≤ 2 := by simp; omega
      have : (256 : Nat) ^ ((bs.drop a2).take 2).length ≤ 256 ^ 2 := Nat.pow_le_pow_right (by omega) h2
      omega
    have w3 : IntKind.i64.wrap ((le ((bs.drop a2).take 2) : Nat) : Int) = tV bs at_ 6 := by rw [tV, ha2]; exact wrap_i64 _ (by omega)
    have w4 : IntKind.i64.wrap (((6 : Nat) : Int) + 1) = ((7 : Nat) : Int) := by decide
    refine JS_go (tbOk _) 99 fun x hx => ?_
    simp only [RN, ↓reduceIte, ↓get8, reduceCtorEq, Nat.reduceLT, Nat.reduceEqDiff, Nat.reduceAdd, Nat.reduceMul, Nat.reduceLeDiff, Nat.reduceSub, Int.reduceToNat, Int.reduceNeg, Nat.reduceBEq, TY] at hx
    subst hx
    refine ⟨_, _, rfl, by first | trivial | omega | (simp only [and_true, true_and]; omega), ?_⟩
    refine at_cond (fun _ => ?_) (fun h => nomatch h)
    refine JS_go (tbOk _) 99 fun x hx => ?_
    simp only [RN, ↓reduceIte, ↓get8, reduceCtorEq, Nat.reduceLT, Nat.reduceEqDiff, Nat.reduceAdd, Nat.reduceMul, Nat.reduceLeDiff, Nat.reduceSub, Int.reduceToNat, Int.reduceNeg, Nat.reduceBEq, TY, w1, w2, f0, f1, f2, f3, Nat.add_assoc, Nat.left_eq_add, Nat.add_eq_left, Nat.add_left_cancel_iff] at hx
    subst hx
    refine ⟨_, _, rfl, by first | trivial | omega | (simp only [and_true, true_and]; omega), ?_⟩
    refine at_callK (hN) (by simp only [RN, ↓reduceIte, ↓get8, reduceCtorEq, Nat.reduceLT, Nat.reduceEqDiff, Nat.reduceAdd, Nat.reduceMul, Nat.reduceLeDiff, Nat.reduceSub, Int.reduceToNat, Int.reduceNeg, Nat.reduceBEq, f0, f1, f2, f3, Nat.add_assoc, Nat.left_eq_add, Nat.add_eq_left, Nat.add_left_cancel_iff]; first | done | trivial) (by simp only [RN, ↓reduceIte, ↓get8, reduceCtorEq, Nat.reduceLT, Nat.reduceEqDiff, Nat.reduceAdd, Nat.reduceMul, Nat.reduceLeDiff, Nat.reduceSub, Int.reduceToNat, Int.reduceNeg, Nat.reduceBEq, f0, f1, f2, f3, Nat.add_assoc, Nat.left_eq_add, Nat.add_eq_left, Nat.add_left_cancel_iff]; rfl) ?_
    refine JS_go (tbOk _) 99 fun x hx => ?_
    simp only [RN, ↓reduceIte, ↓get8, reduceCtorEq, Nat.reduceLT, Nat.reduceEqDiff, Nat.reduceAdd, Nat.reduceMul, Nat.reduceLeDiff, Nat.reduceSub, Int.reduceToNat, Int.reduceNeg, Nat.reduceBEq, TY, w3, w4, f0, f1, f2, f3, Nat.add_assoc, Nat.left_eq_add, Nat.add_eq_left, Nat.add_left_cancel_iff] at hx
    subst hx
    refine ⟨_, _, rfl, by first | trivial | omega | (simp only [and_true, true_and]; omega), ?_⟩
    exact at_done (in_nextI 7 (by omega) (by omega) (le_of rfl (by simp only [RN, ↓reduceIte, ↓get8, reduceCtorEq, Nat.reduceLT, Nat.reduceEqDiff, Nat.reduceAdd, Nat.reduceMul, Nat.reduceLeDiff, Nat.reduceSub, Int.reduceToNat, Int.reduceNeg, Nat.reduceBEq]; first | done | trivial) (by simp only [RN, ↓reduceIte, ↓get8, reduceCtorEq, Nat.reduceLT, Nat.reduceEqDiff, Nat.reduceAdd, Nat.reduceMul, Nat.reduceLeDiff, Nat.reduceSub, Int.reduceToNat, Int.reduceNeg, Nat.reduceBEq, f0, f1, f2, f3, Nat.add_assoc, Nat.left_eq_add, Nat.add_eq_left, Nat.add_left_cancel_iff]; first | done | trivial) (Nat.le_refl _) rfl))
  · skip
    have hN := refnum_c bs ln cp (at_ + 2 * 7) 2 q (nx + 2) ro loose (by omega) (by omega) hl
    have w1 : IntKind.i64.wrap (2 * ((7 : Nat) : Int)) = ((2 * 7 : Nat) : Int) := wrap_i64 (2 * 7) (by omega)
    have w2 : IntKind.i64.wrap ((at_ : Int) + ((2 * 7 : Nat) : Int)) = ((at_ + 2 * 7 : Nat) : Int) := wrap_i64 (at_ + 2 * 7) (by omega)
    obtain ⟨a2, ha2⟩ : ∃ a2, at_ + 2 * 7 = a2 := ⟨_, rfl⟩
    rw [ha2] at hN w2
    have hv := le8 (bs.drop a2) 2 (by omega)
    have hv2 : le ((bs.drop a2).take 2) < 65536 := by
      have h := le_lt ((bs.drop a2).take 2)
      have h2 : ((bs.drop a2).take 2).length ≤ 2 := by simp; omega
      have : (256 : Nat) ^ ((bs.drop a2).take 2).length ≤ 256 ^ 2 := Nat.pow_le_pow_right (by omega) h2
      omega
    have w3 : IntKind.i64.wrap ((le ((bs.drop a2).take 2) : Nat) : Int) = tV bs at_ 7 := by rw [tV, ha2]; exact wrap_i64 _ (by omega)
    have w4 : IntKind.i64.wrap (((7 : Nat) : Int) + 1) = ((8 : Nat) : Int) := by decide
    refine JS_go (tbOk _) 99 fun x hx => ?_
    simp only [RN, ↓reduceIte, ↓get8, reduceCtorEq, Nat.reduceLT, Nat.reduceEqDiff, Nat.reduceAdd, Nat.reduceMul, Nat.reduceLeDiff, Nat.reduceSub, Int.reduceToNat, Int.reduceNeg, Nat.reduceBEq, TY] at hx
    subst hx
    refine ⟨_, _, rfl, by first | trivial | omega | (simp only [and_true, true_and]; omega), ?_⟩
    refine at_cond (fun _ => ?_) (fun h => nomatch h)
    refine JS_go (tbOk _) 99 fun x hx => ?_
    simp only [RN, ↓reduceIte, ↓get8, reduceCtorEq, Nat.reduceLT, Nat.reduceEqDiff, Nat.reduceAdd, Nat.reduceMul, Nat.reduceLeDiff, Nat.reduceSub, Int.reduceToNat, Int.reduceNeg, Nat.reduceBEq, TY, w1, w2, f0, f1, f2, f3, Nat.add_assoc, Nat.left_eq_add, Nat.add_eq_left, Nat.add_left_cancel_iff] at hx
    subst hx
    refine ⟨_, _, rfl, by first | trivial | omega | (simp only [and_true, true_and]; omega), ?_⟩
    refine at_callK (hN) (by simp only [RN, ↓reduceIte, ↓get8, reduceCtorEq, Nat.reduceLT, Nat.reduceEqDiff, Nat.reduceAdd, Nat.reduceMul, Nat.reduceLeDiff, Nat.reduceSub, Int.reduceToNat, Int.reduceNeg, Nat.reduceBEq, f0, f1, f2, f3, Nat.add_assoc, Nat.left_eq_add, Nat.add_eq_left, Nat.add_left_cancel_iff]; first | done | trivial) (by simp only [RN, ↓reduceIte, ↓get8, reduceCtorEq, Nat.reduceLT, Nat.reduceEqDiff, Nat.reduceAdd, Nat.reduceMul, Nat.reduceLeDiff, Nat.reduceSub, Int.reduceToNat, Int.reduceNeg, Nat.reduceBEq, f0, f1, f2, f3, Nat.add_assoc, Nat.left_eq_add, Nat.add_eq_left, Nat.add_left_cancel_iff]; rfl) ?_
    refine JS_go (tbOk _) 99 fun x hx => ?_
    simp only [RN, ↓reduceIte, ↓get8, reduceCtorEq, Nat.reduceLT, Nat.reduceEqDiff, Nat.reduceAdd, Nat.reduceMul, Nat.reduceLeDiff, Nat.reduceSub, Int.reduceToNat, Int.reduceNeg, Nat.reduceBEq, TY, w3, w4, f0, f1, f2, f3, Nat.add_assoc, Nat.left_eq_add, Nat.add_eq_left, Nat.add_left_cancel_iff] at hx
    subst hx
    refine ⟨_, _, rfl, by first | trivial | omega | (simp only [and_true, true_and]; omega), ?_⟩
    exact at_done (in_nextI 8 (by omega) (by omega) (le_of rfl (by simp only [RN, ↓reduceIte, ↓get8, reduceCtorEq, Nat.reduceLT, Nat.reduceEqDiff, Nat.reduceAdd, Nat.reduceMul, Nat.reduceLeDiff, Nat.reduceSub, Int.reduceToNat, Int.reduceNeg, Nat.reduceBEq]; first | done | trivial) (by simp only [RN, ↓reduceIte, ↓get8, reduceCtorEq, Nat.reduceLT, Nat.reduceEqDiff, Nat.reduceAdd, Nat.reduceMul, Nat.reduceLeDiff, Nat.reduceSub, Int.reduceToNat, Int.reduceNeg, Nat.reduceBEq, f0, f1, f2, f3, Nat.add_assoc, Nat.left_eq_add, Nat.add_eq_left, Nat.add_left_cancel_iff]; first | done | trivial) (Nat.le_refl _) rfl))
  · skip
    refine JS_go (tbOk _) 99 fun x hx => ?_
    simp only [RN, ↓reduceIte, ↓get8, reduceCtorEq, Nat.reduceLT, Nat.reduceEqDiff, Nat.reduceAdd, Nat.reduceMul, Nat.reduceLeDiff, Nat.reduceSub, Int.reduceToNat, Int.reduceNeg, Nat.reduceBEq, TY] at hx
    subst hx
    refine ⟨_, _, rfl, by first | trivial | omega | (simp only [and_true, true_and]; omega), ?_⟩
    refine at_cond (fun h => nomatch h) (fun _ => ?_)
    refine JS_go (tbOk _) 99 fun x hx => ?_
    simp only [RN, ↓reduceIte, ↓get8, reduceCtorEq, Nat.reduceLT, Nat.reduceEqDiff, Nat.reduceAdd, Nat.reduceMul, Nat.reduceLeDiff, Nat.reduceSub, Int.reduceToNat, Int.reduceNeg, Nat.reduceBEq, TY] at hx
    subst hx
    refine ⟨_, _, rfl, by first | trivial | omega | (simp only [and_true, true_and]; omega), ?_⟩
    refine at_exit (in_exitI (by simp only [RN, ↓reduceIte, ↓get8, reduceCtorEq, Nat.reduceLT, Nat.reduceEqDiff, Nat.reduceAdd, Nat.reduceMul, Nat.reduceLeDiff, Nat.reduceSub, Int.reduceToNat, Int.reduceNeg, Nat.reduceBEq]; rfl) ?_)
    refine JS_go (tbOk _) 99 fun x hx => ?_
    simp only [RN, ↓reduceIte, ↓get8, reduceCtorEq, Nat.reduceLT, Nat.reduceEqDiff, Nat.reduceAdd, Nat.reduceMul, Nat.reduceLeDiff, Nat.reduceSub, Int.reduceToNat, Int.reduceNeg, Nat.reduceBEq, TY, f0, f1, f2, f3, Nat.add_assoc, Nat.left_eq_add, Nat.add_eq_left, Nat.add_left_cancel_iff] at hx
    subst hx
    refine ⟨_, _, rfl, by first | trivial | omega | (simp only [and_true, true_and]; omega), ?_⟩
    first | refine at_ret ?_ | refine at_done ?_
    repeat (first | refine in_ret ?_ | refine in_retI ?_)
    first | refine ret_endK (by simp only [RN, ↓reduceIte, ↓get8, reduceCtorEq, Nat.reduceLT, Nat.reduceEqDiff, Nat.reduceAdd, Nat.reduceMul, Nat.reduceLeDiff, Nat.reduceSub, Int.reduceToNat, Int.reduceNeg, Nat.reduceBEq]; rfl) rfl trivial ?_ | refine nrm_endK (by simp only [RN, ↓reduceIte, ↓get8, reduceCtorEq, Nat.reduceLT, Nat.reduceEqDiff, Nat.reduceAdd, Nat.reduceMul, Nat.reduceLeDiff, Nat.reduceSub, Int.reduceToNat, Int.reduceNeg, Nat.reduceBEq]; rfl) rfl trivial ?_ | refine ret_endK (by simp only [RN, ↓reduceIte, ↓get8, reduceCtorEq, Nat.reduceLT, Nat.reduceEqDiff, Nat.reduceAdd, Nat.reduceMul, Nat.reduceLeDiff, Nat.reduceSub, Int.reduceToNat, Int.reduceNeg, Nat.reduceBEq, TY, f0, f1, f2, f3, Nat.add_assoc, Nat.left_eq_add, Nat.add_eq_left, Nat.add_left_cancel_iff]; rfl) rfl (by first | trivial | omega) ?_
    refine ⟨_, ?_, rfl, rfl, rfl⟩
    exact leL_look (by simp only [RN, ↓reduceIte, ↓get8, reduceCtorEq, Nat.reduceLT, Nat.reduceEqDiff, Nat.reduceAdd, Nat.reduceMul, Nat.reduceLeDiff, Nat.reduceSub, Int.reduceToNat, Int.reduceNeg, Nat.reduceBEq, f0, f1, f2, f3, Nat.add_assoc, Nat.left_eq_add, Nat.add_eq_left, Nat.add_left_cancel_iff]; first | done | trivial)
end Go.Proofs.Ytoihmanhldcjhaa.Id
