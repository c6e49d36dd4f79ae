/- What the claim's proof leans on: texts of this claim, laid together. -/
import Derived.Test.YtoihmanhldcjhaaQF5
import Derived.Test.YtoihmanhldcjhaaRows
import Derived.SevenTiedAt
import Derived.SizedLaws
import Derived.OpenShut
namespace Go.Proofs.Ytoihmanhldcjhaa.Id
open Go Go.Proofs.Ytoihmanhldcjhaa.Rl
set_option linter.unusedSimpArgs false
set_option linter.unusedVariables false
theorem le_one {bs : List UInt8} {a : Nat} (h : a < bs.length) : le ((bs.drop a).take 1) = bs[a].toNat := by
  rw [List.drop_eq_getElem_cons h, List.take_succ_cons, List.take_zero]; simp [le]
theorem bys_le {bs : List UInt8} {a : Nat} (h : a < bs.length) : (bys bs)[a]? = some (.int .u8 ((le ((bs.drop a).take 1) : Nat) : Int)) := by
  rw [le_one h]; exact bys_get h
theorem le2 (l : List UInt8) : le (l.take 2) < 65536 := by
  have h := le_lt (l.take 2)
  have h2 : (l.take 2).length ≤ 2 := by simp; omega
  have : (256 : Nat) ^ (l.take 2).length ≤ 256 ^ 2 := Nat.pow_le_pow_right (by omega) h2
  omega
set_option maxRecDepth 100000 in
set_option maxHeartbeats 4000000 in
theorem refdecode_c (R : Rd) (nx : Nat) (g : R.Good nx) : CallW Try.prog 16 [R.val] R.H nx (decK R.bs R.ln R.H nx) := by
  have tl := ilen_slv (tbOf Try.prog) 34 5 (by rw [und_eq, Try.underlying34]) R.oq R.ln R.cp g.h0
  have tlt := Rd.lt g
  rcases R with ⟨bs, ln, oq, cp, ro, loose⟩
  obtain ⟨hl, hq0, hq, hcp⟩ := g
  unfold Rd.val
  obtain ⟨T1, hT1⟩ : ∃ T1, Rd.H ⟨bs, ln, oq, cp, ro, loose⟩ = T1 := ⟨_, rfl⟩
  rw [hT1] at tlt ⊢
  dsimp only at tl tlt hl hq0 hq hcp ⊢
  refine CallW_go (tbOk _) 235 [.cell 2 26, .tmp 3, .tmp 4] Try.func16 rfl (by decide) rfl rfl (by simp) fun hlt => ?_
  simp only [params, Nat.zero_add, Nat.reduceAdd]
  cases c0 : decide ((ln : Int) < 2)
  case true =>
    skip
    have d0 : decB bs ln = ([], [], 2, (ln : Int)) := by unfold decB; rw [if_pos (by have := of_decide_eq_true c0; omega)]
    refine JS_go (tbOk _) 99 fun x hx => ?_
    simp only [RN, ↓reduceIte, ↓get8, reduceCtorEq, Nat.reduceLT, Nat.reduceEqDiff, Nat.reduceAdd, Nat.reduceMul, Nat.reduceLeDiff, Nat.reduceSub, Int.reduceToNat, Int.reduceNeg, Nat.reduceBEq, TY, ↓tl, c0, Nat.add_assoc, Nat.left_eq_add, Nat.add_eq_left, Nat.add_left_cancel_iff] at hx
    subst hx
    refine ⟨_, _, rfl, by first | trivial | omega | (simp only [and_true, true_and]; omega), ?_⟩
    refine at_cond (fun _ => ?_) (fun h => nomatch h)
    refine JS_go (tbOk _) 99 fun x hx => ?_
    simp only [RN, ↓reduceIte, ↓get8, reduceCtorEq, Nat.reduceLT, Nat.reduceEqDiff, Nat.reduceAdd, Nat.reduceMul, Nat.reduceLeDiff, Nat.reduceSub, Int.reduceToNat, Int.reduceNeg, Nat.reduceBEq, TY, ↓tl, Nat.add_assoc, Nat.left_eq_add, Nat.add_eq_left, Nat.add_left_cancel_iff] at hx
    subst hx
    refine ⟨_, _, rfl, by first | trivial | omega | (simp only [and_true, true_and]; omega), ?_⟩
    refine at_ret (ret_endK (by simp only [RN, ↓reduceIte, ↓get8, reduceCtorEq, Nat.reduceLT, Nat.reduceEqDiff, Nat.reduceAdd, Nat.reduceMul, Nat.reduceLeDiff, Nat.reduceSub, Int.reduceToNat, Int.reduceNeg, Nat.reduceBEq, TY]; rfl) rfl (by first | trivial | omega) ⟨T1, fun id b h => ?_, dec_err d0 (by show nx ≤ nx + 1; omega)⟩)
    have u0 := tlt id b h
    have w0 : ¬ id = nx := by omega
    simp only [RN, ↓reduceIte, ↓get8, reduceCtorEq, Nat.reduceLT, Nat.reduceEqDiff, Nat.reduceAdd, Nat.reduceMul, Nat.reduceLeDiff, Nat.reduceSub, Int.reduceToNat, Int.reduceNeg, Nat.reduceBEq, w0, h]
  have c0' : 2 ≤ ln := by have := of_decide_eq_false c0; omega
  obtain ⟨q, rfl⟩ : ∃ q, oq = some q := by
    cases oq with
    | none => have := hq0 rfl; omega
    | some q => exact ⟨q, rfl⟩
  have hqn := hq q rfl
  obtain rfl : [(q, ⟨bys bs, 5, 1, ro, loose⟩)] = T1 := hT1
  clear tlt hq0 hq
  unfold slv
  clear tl
  obtain ⟨m, hm⟩ : ∃ m, le ((bs.drop 0).take 1) = m := ⟨_, rfl⟩
  obtain ⟨w, hw⟩ : ∃ w, le ((bs.drop 1).take 1) = w := ⟨_, rfl⟩
  have hm1 : m < 256 := by rw [← hm]; exact le1 _
  have hw1 : w < 256 := by rw [← hw]; exact le1 _
  have e1 : IntKind.i64.wrap (35 * (m : Int)) = ((35 * m : Nat) : Int) := by rw [show 35 * (m : Int) = ((35 * m : Nat) : Int) by omega]; exact wrap_i64 _ (by omega)
  have e2 : IntKind.i64.wrap (2 + ((35 * m : Nat) : Int)) = ((2 + 35 * m : Nat) : Int) := by rw [show 2 + ((35 * m : Nat) : Int) = ((2 + 35 * m : Nat) : Int) by omega]; exact wrap_i64 _ (by omega)
  have e3 : IntKind.i64.wrap (14 * (w : Int)) = ((14 * w : Nat) : Int) := by rw [show 14 * (w : Int) = ((14 * w : Nat) : Int) by omega]; exact wrap_i64 _ (by omega)
  obtain ⟨al, hal⟩ : ∃ al, 2 + 35 * m + 14 * w = al := ⟨_, rfl⟩
  have e4 : IntKind.i64.wrap (((2 + 35 * m : Nat) : Int) + ((14 * w : Nat) : Int)) = (al : Int) := by rw [show ((2 + 35 * m : Nat) : Int) + ((14 * w : Nat) : Int) = (al : Int) by omega]; exact wrap_i64 _ (by omega)
  have e5 : IntKind.i64.wrap (m : Int) = (m : Int) := wrap_i64 m (by omega)
  have e6 : IntKind.i64.wrap (w : Int) = (w : Int) := wrap_i64 w (by omega)
  have b0 := bys_le (bs := bs) (a := 0) (by omega)
  have b1 := bys_le (bs := bs) (a := 1) (by omega)
  rw [hm] at b0
  rw [hw] at b1
  have a0 : ¬ q = nx := by omega
  have a1 : ∀ i, ¬ q = nx + i := by intro i; omega
  have a2 : ¬ nx = q := by omega
  have a3 : ∀ i, ¬ nx + i = q := by intro i; omega
  refine JS_go (tbOk _) 99 fun x hx => ?_
  simp only [RN, ↓reduceIte, ↓get8, reduceCtorEq, Nat.reduceLT, Nat.reduceEqDiff, Nat.reduceAdd, Nat.reduceMul, Nat.reduceLeDiff, Nat.reduceSub, Int.reduceToNat, Int.reduceNeg, Nat.reduceBEq, TY, c0, a0, a1, a2, a3, Nat.add_assoc, Nat.left_eq_add, Nat.add_eq_left, Nat.add_left_cancel_iff] at hx
  subst hx
  refine ⟨_, _, rfl, by first | trivial | omega | (simp only [and_true, true_and]; omega), ?_⟩
  refine at_cond (fun h => nomatch h) (fun _ => ?_)
  refine JS_go (tbOk _) 99 fun x hx => ?_
  simp only [RN, ↓reduceIte, ↓get8, reduceCtorEq, Nat.reduceLT, Nat.reduceEqDiff, Nat.reduceAdd, Nat.reduceMul, Nat.reduceLeDiff, Nat.reduceSub, Int.reduceToNat, Int.reduceNeg, Nat.reduceBEq, TY] at hx
  subst hx
  refine ⟨_, _, rfl, by first | trivial | omega | (simp only [and_true, true_and]; omega), ?_⟩
  rw [CRJ]
  refine JS_draw (tbOk _) { wr := [(27, 0), (28, 1), (29, 2), (30, 3), (31, 4), (32, 5), (33, 6), (34, 7), (5, 8), (6, 9)], anc := [[], [0], [0, 1], [0, 1, 2], [], [4], [4, 5], [4, 5, 6], [0, 1, 2, 3], [0, 1, 2, 3, 4, 5, 6, 7, 8]], ch := [], ac := [[0, 1, 2, 3, 4, 5, 6, 7, 8, 9]], nw := [[0, 1, 2, 3, 4, 5, 6, 7, 8, 9]], fl := [[]] } (by kernel_rfl) (by kernel_rfl) (by kernel_rfl) (by kernel_rfl) ?_
  cases c1 : decide ((ln : Int) < (al : Int))
  case true =>
    skip
    have d0 : decB bs ln = ([], [], 2, (ln : Int)) := by unfold decB; rw [hm, hw, hal, if_neg (by omega), if_pos (by have := of_decide_eq_true c1; omega)]
    refine JS_go (tbOk _) 99 fun x hx => ?_
    simp only [RN, ↓reduceIte, ↓get8, reduceCtorEq, Nat.reduceLT, Nat.reduceEqDiff, Nat.reduceAdd, Nat.reduceMul, Nat.reduceLeDiff, Nat.reduceSub, Int.reduceToNat, Int.reduceNeg, Nat.reduceBEq, TY, b0, b1, e5, e6, c1, e1, e2, e3, e4, a0, a1, a2, a3, Nat.add_assoc, Nat.left_eq_add, Nat.add_eq_left, Nat.add_left_cancel_iff] at hx
    subst hx
    refine ⟨_, _, rfl, by first | trivial | omega | (simp only [and_true, true_and]; omega), ?_⟩
    refine at_cond (fun _ => ?_) (fun h => nomatch h)
    refine JS_go (tbOk _) 99 fun x hx => ?_
    simp only [RN, ↓reduceIte, ↓get8, reduceCtorEq, Nat.reduceLT, Nat.reduceEqDiff, Nat.reduceAdd, Nat.reduceMul, Nat.reduceLeDiff, Nat.reduceSub, Int.reduceToNat, Int.reduceNeg, Nat.reduceBEq, TY, a0, a1, a2, a3, Nat.add_assoc, Nat.left_eq_add, Nat.add_eq_left, Nat.add_left_cancel_iff] at hx
    subst hx
    refine ⟨_, _, rfl, by first | trivial | omega | (simp only [and_true, true_and]; omega), ?_⟩
    refine at_ret (ret_endK (by simp only [RN, ↓reduceIte, ↓get8, reduceCtorEq, Nat.reduceLT, Nat.reduceEqDiff, Nat.reduceAdd, Nat.reduceMul, Nat.reduceLeDiff, Nat.reduceSub, Int.reduceToNat, Int.reduceNeg, Nat.reduceBEq, TY]; rfl) rfl (by first | trivial | omega) ⟨_, leL_look (by simp only [RN, ↓reduceIte, ↓get8, reduceCtorEq, Nat.reduceLT, Nat.reduceEqDiff, Nat.reduceAdd, Nat.reduceMul, Nat.reduceLeDiff, Nat.reduceSub, Int.reduceToNat, Int.reduceNeg, Nat.reduceBEq, a0, a1, a2, a3, Nat.add_assoc, Nat.left_eq_add, Nat.add_eq_left, Nat.add_left_cancel_iff]; first | done | trivial), dec_err d0 (by show nx ≤ nx + 1; omega)⟩)
  cases c2 : decide ((ln : Int) > (al : Int))
  case true =>
    skip
    have d0 : decB bs ln = ([], [], 7, (al : Int)) := by unfold decB; rw [hm, hw, hal, if_neg (by omega), if_neg (by have := of_decide_eq_false c1; omega), if_pos (by have := of_decide_eq_true c2; omega)]
    refine JS_go (tbOk _) 99 fun x hx => ?_
    simp only [RN, ↓reduceIte, ↓get8, reduceCtorEq, Nat.reduceLT, Nat.reduceEqDiff, Nat.reduceAdd, Nat.reduceMul, Nat.reduceLeDiff, Nat.reduceSub, Int.reduceToNat, Int.reduceNeg, Nat.reduceBEq, TY, b0, b1, e5, e6, c1, c2, e1, e2, e3, e4, a0, a1, a2, a3, Nat.add_assoc, Nat.left_eq_add, Nat.add_eq_left, Nat.add_left_cancel_iff] at hx
    subst hx
    refine ⟨_, _, rfl, by first | trivial | omega | (simp only [and_true, true_and]; omega), ?_⟩
    refine at_cond (fun h => nomatch h) (fun _ => ?_)
    refine JS_go (tbOk _) 99 fun x hx => ?_
    simp only [RN, ↓reduceIte, ↓get8, reduceCtorEq, Nat.reduceLT, Nat.reduceEqDiff, Nat.reduceAdd, Nat.reduceMul, Nat.reduceLeDiff, Nat.reduceSub, Int.reduceToNat, Int.reduceNeg, Nat.reduceBEq, TY, c1, c2, e1, e2, e3, e4, a0, a1, a2, a3, Nat.add_assoc, Nat.left_eq_add, Nat.add_eq_left, Nat.add_left_cancel_iff] at hx
    subst hx
    refine ⟨_, _, rfl, by first | trivial | omega | (simp only [and_true, true_and]; omega), ?_⟩
    refine at_cond (fun _ => ?_) (fun h => nomatch h)
    refine JS_go (tbOk _) 99 fun x hx => ?_
    simp only [RN, ↓reduceIte, ↓get8, reduceCtorEq, Nat.reduceLT, Nat.reduceEqDiff, Nat.reduceAdd, Nat.reduceMul, Nat.reduceLeDiff, Nat.reduceSub, Int.reduceToNat, Int.reduceNeg, Nat.reduceBEq, TY, a0, a1, a2, a3, Nat.add_assoc, Nat.left_eq_add, Nat.add_eq_left, Nat.add_left_cancel_iff] at hx
    subst hx
    refine ⟨_, _, rfl, by first | trivial | omega | (simp only [and_true, true_and]; omega), ?_⟩
    refine at_ret (ret_endK (by simp only [RN, ↓reduceIte, ↓get8, reduceCtorEq, Nat.reduceLT, Nat.reduceEqDiff, Nat.reduceAdd, Nat.reduceMul, Nat.reduceLeDiff, Nat.reduceSub, Int.reduceToNat, Int.reduceNeg, Nat.reduceBEq, TY]; rfl) rfl (by first | trivial | omega) ⟨_, leL_look (by simp only [RN, ↓reduceIte, ↓get8, reduceCtorEq, Nat.reduceLT, Nat.reduceEqDiff, Nat.reduceAdd, Nat.reduceMul, Nat.reduceLeDiff, Nat.reduceSub, Int.reduceToNat, Int.reduceNeg, Nat.reduceBEq, a0, a1, a2, a3, Nat.add_assoc, Nat.left_eq_add, Nat.add_eq_left, Nat.add_left_cancel_iff]; first | done | trivial), dec_err d0 (by show nx ≤ nx + 1; omega)⟩)
  have hall : ln = al := by have := of_decide_eq_false c1; have := of_decide_eq_false c2; omega
  refine JS_go (tbOk _) 99 fun x hx => ?_
  simp only [RN, ↓reduceIte, ↓get8, reduceCtorEq, Nat.reduceLT, Nat.reduceEqDiff, Nat.reduceAdd, Nat.reduceMul, Nat.reduceLeDiff, Nat.reduceSub, Int.reduceToNat, Int.reduceNeg, Nat.reduceBEq, TY, b0, b1, e5, e6, c1, c2, e1, e2, e3, e4, a0, a1, a2, a3, Nat.add_assoc, Nat.left_eq_add, Nat.add_eq_left, Nat.add_left_cancel_iff] at hx
  subst hx
  refine ⟨_, _, rfl, by first | trivial | omega | (simp only [and_true, true_and]; omega), ?_⟩
  refine at_cond (fun h => nomatch h) (fun _ => ?_)
  refine JS_go (tbOk _) 99 fun x hx => ?_
  simp only [RN, ↓reduceIte, ↓get8, reduceCtorEq, Nat.reduceLT, Nat.reduceEqDiff, Nat.reduceAdd, Nat.reduceMul, Nat.reduceLeDiff, Nat.reduceSub, Int.reduceToNat, Int.reduceNeg, Nat.reduceBEq, TY, c1, c2, e1, e2, e3, e4, a0, a1, a2, a3, Nat.add_assoc, Nat.left_eq_add, Nat.add_eq_left, Nat.add_left_cancel_iff] at hx
  subst hx
  refine ⟨_, _, rfl, by first | trivial | omega | (simp only [and_true, true_and]; omega), ?_⟩
  refine at_cond (fun h => nomatch h) (fun _ => ?_)
  refine JS_go (tbOk _) 99 fun x hx => ?_
  simp only [RN, ↓reduceIte, ↓get8, reduceCtorEq, Nat.reduceLT, Nat.reduceEqDiff, Nat.reduceAdd, Nat.reduceMul, Nat.reduceLeDiff, Nat.reduceSub, Int.reduceToNat, Int.reduceNeg, Nat.reduceBEq, TY, a0, a1, a2, a3, Nat.add_assoc, Nat.left_eq_add, Nat.add_eq_left, Nat.add_left_cancel_iff] at hx
  subst hx
  refine ⟨_, _, rfl, by first | trivial | omega | (simp only [and_true, true_and]; omega), ?_⟩
  refine at_loop ?_
  obtain ⟨X, hX⟩ : ∃ X, X = nx + 1 := ⟨_, rfl⟩
  refine JS_loopI (S := fun x : Nat × Option Nat × Nat => { n := 235, fr := [(9, .int .i64 x.1), (8, .pointer (some ⟨X, 0, none⟩)), (6, .int .i64 w), (5, .int .i64 m), (2, .pointer (some ⟨nx, 0, none⟩)), (0, .slice (some ⟨q, 0, none⟩) ln cp)], F := [(nx, ⟨[.slice none 0 0, .slice none 0 0], 26, 2, false, false⟩), (X, ⟨[slv x.2.1 x.1 x.1, .slice none 0 0], 26, 2, false, false⟩), (q, ⟨bys bs, 5, 1, ro, loose⟩)] ++ kblk x.2.1 ((List.range x.1).map (kX bs)) false true, nx := x.2.2, ds := [] })
    (fun p => p.1 ≤ m ∧ nx + 2 ≤ p.2.2 ∧ (p.2.1 = none → p.1 = 0) ∧ (∀ b, p.2.1 = some b → nx + 2 ≤ b ∧ b < p.2.2) ∧ ∀ j, j < p.1 → (kE bs j).2 = 0) (fun x => m - x.1) (0, none, nx + 2) ⟨Nat.zero_le _, Nat.le_refl _, fun _ => rfl, nofun, fun j hj => absurd hj (Nat.not_lt_zero j)⟩ ?_ ?_
  · subst hX
    exact le_of rfl (by simp only [RN, ↓reduceIte, ↓get8, reduceCtorEq, Nat.reduceLT, Nat.reduceEqDiff, Nat.reduceAdd, Nat.reduceMul, Nat.reduceLeDiff, Nat.reduceSub, Int.reduceToNat, Int.reduceNeg, Nat.reduceBEq]; first | done | trivial) (by simp only [RN, ↓reduceIte, ↓get8, reduceCtorEq, Nat.reduceLT, Nat.reduceEqDiff, Nat.reduceAdd, Nat.reduceMul, Nat.reduceLeDiff, Nat.reduceSub, Int.reduceToNat, Int.reduceNeg, Nat.reduceBEq, slv, kblk, a0, a1, a2, a3, Nat.add_assoc, Nat.left_eq_add, Nat.add_eq_left, Nat.add_left_cancel_iff]; first | done | trivial) (Nat.le_refl _) rfl
  rintro ⟨i, o, n⟩ ⟨hi, hn, hno, hso, hgood⟩
  dsimp only at hi hn hno hso hgood ⊢
  have hw3 : IntKind.i64.wrap ((i : Int) + 1) = ((i + 1 : Nat) : Int) := wrap_i64 (i + 1) (by omega)
  refine JS_go (tbOk _) 99 fun x hx => ?_
  simp only [RN, ↓reduceIte, ↓get8, reduceCtorEq, Nat.reduceLT, Nat.reduceEqDiff, Nat.reduceAdd, Nat.reduceMul, Nat.reduceLeDiff, Nat.reduceSub, Int.reduceToNat, Int.reduceNeg, Nat.reduceBEq, TY] at hx
  subst hx
  refine ⟨_, _, rfl, by first | trivial | omega | (simp only [and_true, true_and]; omega), ?_⟩
  refine at_cond (fun hlt2 => ?_) (fun hge => ?_)
  · have hlt3 : i < m := by simpa using hlt2
    obtain ⟨at_, hat⟩ : ∃ at_, 2 + 35 * i = at_ := ⟨_, rfl⟩
    obtain ⟨a1, h1⟩ : ∃ a1, at_ + 1 = a1 := ⟨_, rfl⟩
    obtain ⟨a17, h17⟩ : ∃ a17, at_ + 17 = a17 := ⟨_, rfl⟩
    obtain ⟨a27, h27⟩ : ∃ a27, at_ + 27 = a27 := ⟨_, rfl⟩
    have x1 : IntKind.i64.wrap (35 * (i : Int)) = ((35 * i : Nat) : Int) := by rw [show 35 * (i : Int) = ((35 * i : Nat) : Int) by omega]; exact wrap_i64 _ (by omega)
    have x2 : IntKind.i64.wrap (2 + ((35 * i : Nat) : Int)) = (at_ : Int) := by rw [show 2 + ((35 * i : Nat) : Int) = (at_ : Int) by omega]; exact wrap_i64 _ (by omega)
    have x3 : IntKind.i64.wrap ((at_ : Int) + 1) = (a1 : Int) := by rw [← h1]; exact wrap_i64 (at_ + 1) (by omega)
    have x4 : IntKind.i64.wrap ((at_ : Int) + 17) = (a17 : Int) := by rw [← h17]; exact wrap_i64 (at_ + 17) (by omega)
    have x5 : IntKind.i64.wrap ((at_ : Int) + 27) = (a27 : Int) := by rw [← h27]; exact wrap_i64 (at_ + 27) (by omega)
    have x6 : a27 - a17 = 10 := by omega
    have hT := reftwos_c bs ln cp a1 q n ro loose (by omega) (by omega) hl
    cases o with
    | none =>
      have hi0 := hno rfl
      have hi1 : i + 1 = 1 := by omega
      have g0 : ¬ nx = X := by omega
      have g1 : ¬ nx = q := by omega
      have g2 : ¬ nx = n := by omega
      have g3 : ∀ i, ¬ nx = n + i := by intro i; omega
      have g4 : ¬ n = nx := by omega
      have g5 : ∀ i, ¬ n + i = nx := by intro i; omega
      have g6 : ¬ X = nx := by omega
      have g7 : ¬ X = q := by omega
      have g8 : ¬ X = n := by omega
      have g9 : ∀ i, ¬ X = n + i := by intro i; omega
      have g10 : ¬ n = X := by omega
      have g11 : ∀ i, ¬ n + i = X := by intro i; omega
      have g12 : ¬ q = nx := by omega
      have g13 : ¬ q = X := by omega
      have g14 : ¬ q = n := by omega
      have g15 : ∀ i, ¬ q = n + i := by intro i; omega
      have g16 : ¬ n = q := by omega
      have g17 : ∀ i, ¬ n + i = q := by intro i; omega
      simp only [slv, kblk]
      refine JS_go (tbOk _) 99 fun x hx => ?_
      simp only [RN, ↓reduceIte, ↓get8, reduceCtorEq, Nat.reduceLT, Nat.reduceEqDiff, Nat.reduceAdd, Nat.reduceMul, Nat.reduceLeDiff, Nat.reduceSub, Int.reduceToNat, Int.reduceNeg, Nat.reduceBEq, TY, x1, x2, g0, g1, g2, g3, g4, g5, g6, g7, g8, g9, g10, g11, g12, g13, g14, g15, g16, g17, Nat.add_assoc, Nat.left_eq_add, Nat.add_eq_left, Nat.add_left_cancel_iff] at hx
      subst hx
      refine ⟨_, _, rfl, by first | trivial | omega | (simp only [and_true, true_and]; omega), ?_⟩
      rw [CRJ]
      refine JS_draw (tbOk _) { wr := [(63, 0), (64, 1), (65, 2), (66, 3), (67, 4), (68, 5), (69, 6), (70, 7), (71, 8), (72, 9), (11, 10), (12, 12)], anc := [[], [], [1], [0, 1, 2], [], [], [5], [], [7], [4, 5, 6, 7, 8], [], [0, 1, 2, 3, 10], [0, 1, 2, 3, 4, 5, 6, 7, 8, 9, 10, 11]], ch := [(3, []), (10, []), (11, [])], ac := [[0, 1, 2, 4, 5, 6, 7, 8, 9], [4, 5, 6, 7, 8, 9], [4, 5, 6, 7, 8, 9], [4, 5, 6, 7, 8, 9, 12]], nw := [[0, 1, 2, 4, 5, 6, 7, 8, 9], [], [], [12]], fl := [[], [4, 5, 6, 7, 8, 9], [4, 5, 6, 7, 8, 9], [4, 5, 6, 7, 8, 9]] } (by kernel_rfl) (by kernel_rfl) (by kernel_rfl) (by kernel_rfl) ?_
      have sc : 0 ≤ (a17 : Int) ∧ (a17 : Int) ≤ a27 ∧ (a27 : Int) ≤ cp ∧ (cp : Int) ≤ cp ∧ ((none : Option Int) ≠ none → some (a27 : Int) ≠ none) := ⟨by omega, by omega, by omega, Int.le_refl _, fun h => absurd rfl h⟩
      refine JS_go (tbOk _) 99 fun x hx => ?_
      simp only [RN, ↓reduceIte, ↓get8, reduceCtorEq, Nat.reduceLT, Nat.reduceEqDiff, Nat.reduceAdd, Nat.reduceMul, Nat.reduceLeDiff, Nat.reduceSub, Int.reduceToNat, Int.reduceNeg, Nat.reduceBEq, TY, x3, x4, x5, x6, g0, g1, g2, g3, g4, g5, g6, g7, g8, g9, g10, g11, g12, g13, g14, g15, g16, g17, Nat.add_assoc, Nat.left_eq_add, Nat.add_eq_left, Nat.add_left_cancel_iff] at hx
      subst hx
      refine ⟨_, _, rfl, ?_, ?_⟩
      · first | exact sc | exact ⟨sc, sc⟩ | exact ⟨sc, sc, sc⟩
      refine at_dcallG hT (by simp only [RN, ↓reduceIte, ↓get8, reduceCtorEq, Nat.reduceLT, Nat.reduceEqDiff, Nat.reduceAdd, Nat.reduceMul, Nat.reduceLeDiff, Nat.reduceSub, Int.reduceToNat, Int.reduceNeg, Nat.reduceBEq, g0, g1, g2, g3, g4, g5, g6, g7, g8, g9, g10, g11, g12, g13, g14, g15, g16, g17, Nat.add_assoc, Nat.left_eq_add, Nat.add_eq_left, Nat.add_left_cancel_iff]; first | done | trivial) ?_
      rintro o2 L' n2 ⟨rfl, rfl, rfl⟩
      refine JS_go (tbOk _) 99 fun x hx => ?_
      simp only [RN, ↓reduceIte, ↓get8, reduceCtorEq, Nat.reduceLT, Nat.reduceEqDiff, Nat.reduceAdd, Nat.reduceMul, Nat.reduceLeDiff, Nat.reduceSub, Int.reduceToNat, Int.reduceNeg, Nat.reduceBEq, TY, x4, x5, x6, g0, g1, g2, g3, g4, g5, g6, g7, g8, g9, g10, g11, g12, g13, g14, g15, g16, g17, Nat.add_assoc, Nat.left_eq_add, Nat.add_eq_left, Nat.add_left_cancel_iff] at hx
      subst hx
      refine ⟨_, _, rfl, ?_, ?_⟩
      · first | exact sc | exact ⟨sc, sc⟩ | exact ⟨sc, sc, sc⟩
      have hN := refnum_c bs ln cp a27 8 q (n + 3) ro loose (by omega) (by omega) hl
      have hO := Of_c (le ((bs.drop a27).take 8)) (n + 3) (le8 _ 8 (by omega))
      have hkE : ofS (le ((bs.drop a27).take 8)) = kE bs i := by unfold kE; rw [hat, h27]
      rw [hkE] at hO
      refine at_callK (hN) (by simp only [RN, ↓reduceIte, ↓get8, reduceCtorEq, Nat.reduceLT, Nat.reduceEqDiff, Nat.reduceAdd, Nat.reduceMul, Nat.reduceLeDiff, Nat.reduceSub, Int.reduceToNat, Int.reduceNeg, Nat.reduceBEq, g0, g1, g2, g3, g4, g5, g6, g7, g8, g9, g10, g11, g12, g13, g14, g15, g16, g17, Nat.add_assoc, Nat.left_eq_add, Nat.add_eq_left, Nat.add_left_cancel_iff]; first | done | trivial) (by simp only [RN, ↓reduceIte, ↓get8, reduceCtorEq, Nat.reduceLT, Nat.reduceEqDiff, Nat.reduceAdd, Nat.reduceMul, Nat.reduceLeDiff, Nat.reduceSub, Int.reduceToNat, Int.reduceNeg, Nat.reduceBEq, g0, g1, g2, g3, g4, g5, g6, g7, g8, g9, g10, g11, g12, g13, g14, g15, g16, g17, Nat.add_assoc, Nat.left_eq_add, Nat.add_eq_left, Nat.add_left_cancel_iff]; rfl) ?_
      refine JS_go (tbOk _) 99 fun x hx => ?_
      simp only [RN, ↓reduceIte, ↓get8, reduceCtorEq, Nat.reduceLT, Nat.reduceEqDiff, Nat.reduceAdd, Nat.reduceMul, Nat.reduceLeDiff, Nat.reduceSub, Int.reduceToNat, Int.reduceNeg, Nat.reduceBEq, TY, g0, g1, g2, g3, g4, g5, g6, g7, g8, g9, g10, g11, g12, g13, g14, g15, g16, g17, Nat.add_assoc, Nat.left_eq_add, Nat.add_eq_left, Nat.add_left_cancel_iff] at hx
      subst hx
      refine ⟨_, _, rfl, by first | trivial | omega | (simp only [and_true, true_and]; omega), ?_⟩
      refine at_callK (hO) (by simp only [RN, ↓reduceIte, ↓get8, reduceCtorEq, Nat.reduceLT, Nat.reduceEqDiff, Nat.reduceAdd, Nat.reduceMul, Nat.reduceLeDiff, Nat.reduceSub, Int.reduceToNat, Int.reduceNeg, Nat.reduceBEq, g0, g1, g2, g3, g4, g5, g6, g7, g8, g9, g10, g11, g12, g13, g14, g15, g16, g17, Nat.add_assoc, Nat.left_eq_add, Nat.add_eq_left, Nat.add_left_cancel_iff]; first | done | trivial) (by simp only [RN, ↓reduceIte, ↓get8, reduceCtorEq, Nat.reduceLT, Nat.reduceEqDiff, Nat.reduceAdd, Nat.reduceMul, Nat.reduceLeDiff, Nat.reduceSub, Int.reduceToNat, Int.reduceNeg, Nat.reduceBEq, g0, g1, g2, g3, g4, g5, g6, g7, g8, g9, g10, g11, g12, g13, g14, g15, g16, g17, Nat.add_assoc, Nat.left_eq_add, Nat.add_eq_left, Nat.add_left_cancel_iff]; rfl) ?_
      refine JS_go (tbOk _) 99 fun x hx => ?_
      simp only [RN, ↓reduceIte, ↓get8, reduceCtorEq, Nat.reduceLT, Nat.reduceEqDiff, Nat.reduceAdd, Nat.reduceMul, Nat.reduceLeDiff, Nat.reduceSub, Int.reduceToNat, Int.reduceNeg, Nat.reduceBEq, TY, g0, g1, g2, g3, g4, g5, g6, g7, g8, g9, g10, g11, g12, g13, g14, g15, g16, g17, Nat.add_assoc, Nat.left_eq_add, Nat.add_eq_left, Nat.add_left_cancel_iff] at hx
      subst hx
      refine ⟨_, _, rfl, by first | trivial | omega | (simp only [and_true, true_and]; omega), ?_⟩
      refine at_cond (fun h => ?_) (fun h => ?_)
      · have hc : ¬ (kE bs i).2 = 0 := by simpa using h
        have hfd : (List.range m).find? (fun i => decide ((kE bs i).2 ≠ 0)) = some i := by
          rw [List.find?_range_eq_some]
          exact ⟨by simpa using hc, by simpa using hlt3, fun j hj => by simpa using hgood j hj⟩
        have d0 : decB bs ln = ([], [], (kE bs i).2, (a27 : Int)) := by
          unfold decB
          rw [hm, hw, hal, if_neg (by omega), if_neg (by omega), if_neg (by omega), hfd, ← h27, ← hat]
        refine JS_go (tbOk _) 99 fun x hx => ?_
        simp only [RN, ↓reduceIte, ↓get8, reduceCtorEq, Nat.reduceLT, Nat.reduceEqDiff, Nat.reduceAdd, Nat.reduceMul, Nat.reduceLeDiff, Nat.reduceSub, Int.reduceToNat, Int.reduceNeg, Nat.reduceBEq, TY, x5, g0, g1, g2, g3, g4, g5, g6, g7, g8, g9, g10, g11, g12, g13, g14, g15, g16, g17, Nat.add_assoc, Nat.left_eq_add, Nat.add_eq_left, Nat.add_left_cancel_iff] at hx
        subst hx
        refine ⟨_, _, rfl, by first | trivial | omega | (simp only [and_true, true_and]; omega), ?_⟩
        refine at_ret (in_retI (ret_endK (by simp only [RN, ↓reduceIte, ↓get8, reduceCtorEq, Nat.reduceLT, Nat.reduceEqDiff, Nat.reduceAdd, Nat.reduceMul, Nat.reduceLeDiff, Nat.reduceSub, Int.reduceToNat, Int.reduceNeg, Nat.reduceBEq, TY, g0, g1, g2, g3, g4, g5, g6, g7, g8, g9, g10, g11, g12, g13, g14, g15, g16, g17, Nat.add_assoc, Nat.left_eq_add, Nat.add_eq_left, Nat.add_left_cancel_iff]; rfl) rfl (by first | trivial | omega) ⟨_, leL_look (by simp only [RN, ↓reduceIte, ↓get8, reduceCtorEq, Nat.reduceLT, Nat.reduceEqDiff, Nat.reduceAdd, Nat.reduceMul, Nat.reduceLeDiff, Nat.reduceSub, Int.reduceToNat, Int.reduceNeg, Nat.reduceBEq, g0, g1, g2, g3, g4, g5, g6, g7, g8, g9, g10, g11, g12, g13, g14, g15, g16, g17, Nat.add_assoc, Nat.left_eq_add, Nat.add_eq_left, Nat.add_left_cancel_iff]; first | done | trivial), dec_err d0 (by show nx ≤ n + 3; omega)⟩))
      have hc : (kE bs i).2 = 0 := by simpa using h
      obtain ⟨sp, hsp⟩ : ∃ sp, (kE bs i).1 = sp := ⟨_, rfl⟩
      obtain ⟨z0, hz0⟩ : ∃ z, le ((bs.drop (a17 + 0)).take 1) = z := ⟨_, rfl⟩
      obtain ⟨z1, hz1⟩ : ∃ z, le ((bs.drop (a17 + 1)).take 1) = z := ⟨_, rfl⟩
      obtain ⟨z2, hz2⟩ : ∃ z, le ((bs.drop (a17 + 2)).take 1) = z := ⟨_, rfl⟩
      obtain ⟨z3, hz3⟩ : ∃ z, le ((bs.drop (a17 + 3)).take 1) = z := ⟨_, rfl⟩
      obtain ⟨z4, hz4⟩ : ∃ z, le ((bs.drop (a17 + 4)).take 1) = z := ⟨_, rfl⟩
      obtain ⟨z5, hz5⟩ : ∃ z, le ((bs.drop (a17 + 5)).take 1) = z := ⟨_, rfl⟩
      obtain ⟨z6, hz6⟩ : ∃ z, le ((bs.drop (a17 + 6)).take 1) = z := ⟨_, rfl⟩
      obtain ⟨z7, hz7⟩ : ∃ z, le ((bs.drop (a17 + 7)).take 1) = z := ⟨_, rfl⟩
      obtain ⟨z8, hz8⟩ : ∃ z, le ((bs.drop (a17 + 8)).take 1) = z := ⟨_, rfl⟩
      obtain ⟨z9, hz9⟩ : ∃ z, le ((bs.drop (a17 + 9)).take 1) = z := ⟨_, rfl⟩
      obtain ⟨z10, hz10⟩ : ∃ z, le ((bs.drop at_).take 1) = z := ⟨_, rfl⟩
      have y0 := bys_le (bs := bs) (a := a17 + 0) (by omega)
      rw [hz0] at y0
      have s0 : IntKind.i64.wrap (z0 : Int) = (z0 : Int) := by rw [← hz0]; exact wrap_i64 _ (by have := le1 (bs.drop (a17 + 0)); omega)
      have y1 := bys_le (bs := bs) (a := a17 + 1) (by omega)
      rw [hz1] at y1
      have s1 : IntKind.i64.wrap (z1 : Int) = (z1 : Int) := by rw [← hz1]; exact wrap_i64 _ (by have := le1 (bs.drop (a17 + 1)); omega)
      have y2 := bys_le (bs := bs) (a := a17 + 2) (by omega)
      rw [hz2] at y2
      have s2 : IntKind.i64.wrap (z2 : Int) = (z2 : Int) := by rw [← hz2]; exact wrap_i64 _ (by have := le1 (bs.drop (a17 + 2)); omega)
      have y3 := bys_le (bs := bs) (a := a17 + 3) (by omega)
      rw [hz3] at y3
      have s3 : IntKind.i64.wrap (z3 : Int) = (z3 : Int) := by rw [← hz3]; exact wrap_i64 _ (by have := le1 (bs.drop (a17 + 3)); omega)
      have y4 := bys_le (bs := bs) (a := a17 + 4) (by omega)
      rw [hz4] at y4
      have s4 : IntKind.i64.wrap (z4 : Int) = (z4 : Int) := by rw [← hz4]; exact wrap_i64 _ (by have := le1 (bs.drop (a17 + 4)); omega)
      have y5 := bys_le (bs := bs) (a := a17 + 5) (by omega)
      rw [hz5] at y5
      have s5 : IntKind.i64.wrap (z5 : Int) = (z5 : Int) := by rw [← hz5]; exact wrap_i64 _ (by have := le1 (bs.drop (a17 + 5)); omega)
      have y6 := bys_le (bs := bs) (a := a17 + 6) (by omega)
      rw [hz6] at y6
      have s6 : IntKind.i64.wrap (z6 : Int) = (z6 : Int) := by rw [← hz6]; exact wrap_i64 _ (by have := le1 (bs.drop (a17 + 6)); omega)
      have y7 := bys_le (bs := bs) (a := a17 + 7) (by omega)
      rw [hz7] at y7
      have s7 : IntKind.i64.wrap (z7 : Int) = (z7 : Int) := by rw [← hz7]; exact wrap_i64 _ (by have := le1 (bs.drop (a17 + 7)); omega)
      have y8 := bys_le (bs := bs) (a := a17 + 8) (by omega)
      rw [hz8] at y8
      have s8 : IntKind.i64.wrap (z8 : Int) = (z8 : Int) := by rw [← hz8]; exact wrap_i64 _ (by have := le1 (bs.drop (a17 + 8)); omega)
      have y9 := bys_le (bs := bs) (a := a17 + 9) (by omega)
      rw [hz9] at y9
      have s9 : IntKind.i64.wrap (z9 : Int) = (z9 : Int) := by rw [← hz9]; exact wrap_i64 _ (by have := le1 (bs.drop (a17 + 9)); omega)
      have y10 := bys_le (bs := bs) (a := at_) (by omega)
      rw [hz10] at y10
      have s10 : IntKind.i64.wrap (z10 : Int) = (z10 : Int) := by rw [← hz10]; exact wrap_i64 _ (by have := le1 (bs.drop at_); omega)
      rw [Nat.add_zero] at y0
      have hki : kX bs i = ⟨z10, tV bs a1 0, sp, tV bs a1 1, z0, z1, z2, z3, tV bs a1 2, tV bs a1 3, tV bs a1 4, z4, z5, z6, tV bs a1 5, tV bs a1 6, z7, z8, z9, tV bs a1 7⟩ := by
        rw [← hz10, ← hz0, ← hz1, ← hz2, ← hz3, ← hz4, ← hz5, ← hz6, ← hz7, ← hz8, ← hz9, ← hsp, ← h17, ← h1]
        unfold kX kdAt tV
        rw [hat]
        simp only [Nat.add_assoc, Nat.reduceAdd, Nat.reduceMul, Nat.add_zero]
      have v2 : [.int .i64 (z10), .int .i64 (tV bs a1 0), .int .i64 (sp), .int .i64 (tV bs a1 1), .int .i64 (z0), .int .i64 (z1), .int .i64 (z2), .int .i64 (z3), .int .i64 (tV bs a1 2), .int .i64 (tV bs a1 3), .int .i64 (tV bs a1 4), .int .i64 (z4), .int .i64 (z5), .int .i64 (z6), .int .i64 (tV bs a1 5), .int .i64 (tV bs a1 6), .int .i64 (z7), .int .i64 (z8), .int .i64 (z9), .int .i64 (tV bs a1 7)] = kcells ((List.range 1).map (kX bs)) := by rw [hi0] at hki; simp only [List.range_one, List.map_cons, List.map_nil, kcells, List.flatMap_cons, List.flatMap_nil, hki, Kd.cells, List.append_nil]
      refine JS_go (tbOk _) 99 fun x hx => ?_
      simp only [RN, ↓reduceIte, ↓get8, reduceCtorEq, Nat.reduceLT, Nat.reduceEqDiff, Nat.reduceAdd, Nat.reduceMul, Nat.reduceLeDiff, Nat.reduceSub, Int.reduceToNat, Int.reduceNeg, Nat.reduceBEq, TY] at hx
      subst hx
      refine ⟨_, _, rfl, by first | trivial | omega | (simp only [and_true, true_and]; omega), ?_⟩
      rw [CRJ]
      refine JS_draw (tbOk _) { wr := [(87, 0), (88, 1), (89, 2), (90, 3), (91, 4), (92, 5), (93, 6), (94, 7), (95, 8), (96, 9), (97, 10), (98, 11), (99, 12), (100, 13), (101, 14), (102, 15), (103, 16), (104, 17), (105, 18), (106, 19), (107, 20), (108, 21), (109, 22), (110, 23), (111, 24), (112, 25), (113, 26), (114, 27), (115, 28), (116, 29), (117, 30), (118, 31), (119, 32), (120, 33), (121, 34), (122, 35), (123, 36), (124, 37), (125, 38), (126, 39), (127, 40), (128, 41), (129, 42), (130, 43), (131, 44), (132, 45), (133, 46), (134, 47), (135, 48), (136, 49), (137, 50), (138, 51), (139, 52), (140, 53), (141, 54), (142, 55), (143, 56), (144, 57), (145, 58), (146, 59), (147, 60), (148, 61), (149, 62), (150, 63), (151, 64), (152, 65), (153, 66), (154, 67)], anc := [[], [0], [], [], [2, 3], [2, 3, 4], [2, 3, 4, 5], [], [7], [], [9], [], [11], [], [13], [], [15], [], [17], [], [19], [], [21], [], [23], [23, 24], [23, 24, 25], [], [27], [27, 28], [27, 28, 29], [], [31], [31, 32], [31, 32, 33], [], [35], [35, 36], [35, 36, 37], [], [39], [39, 40], [39, 40, 41], [], [43], [43, 44], [43, 44, 45], [], [47], [47, 48], [47, 48, 49], [], [51], [51, 52], [51, 52, 53], [], [55], [55, 56], [55, 56, 57], [], [59], [59, 60], [59, 60, 61], [], [2, 3, 4, 5, 6, 7, 8, 9, 10, 11, 12, 13, 14, 15, 16, 17, 18, 19, 20, 21, 22, 23, 24, 25, 26, 27, 28, 29, 30, 31, 32, 33, 34, 35, 36, 37, 38, 39, 40, 41, 42, 43, 44, 45, 46, 47, 48, 49, 50, 51, 52, 53, 54, 55, 56, 57, 58, 59, 60, 61, 62, 63], [2, 3, 4, 5, 6, 7, 8, 9, 10, 11, 12, 13, 14, 15, 16, 17, 18, 19, 20, 21, 22, 23, 24, 25, 26, 27, 28, 29, 30, 31, 32, 33, 34, 35, 36, 37, 38, 39, 40, 41, 42, 43, 44, 45, 46, 47, 48, 49, 50, 51, 52, 53, 54, 55, 56, 57, 58, 59, 60, 61, 62, 63, 64], [0, 1, 2, 3, 4, 5, 6, 7, 8, 9, 10, 11, 12, 13, 14, 15, 16, 17, 18, 19, 20, 21, 22, 23, 24, 25, 26, 27, 28, 29, 30, 31, 32, 33, 34, 35, 36, 37, 38, 39, 40, 41, 42, 43, 44, 45, 46, 47, 48, 49, 50, 51, 52, 53, 54, 55, 56, 57, 58, 59, 60, 61, 62, 63, 64, 65], [0, 1, 2, 3, 4, 5, 6, 7, 8, 9, 10, 11, 12, 13, 14, 15, 16, 17, 18, 19, 20, 21, 22, 23, 24, 25, 26, 27, 28, 29, 30, 31, 32, 33, 34, 35, 36, 37, 38, 39, 40, 41, 42, 43, 44, 45, 46, 47, 48, 49, 50, 51, 52, 53, 54, 55, 56, 57, 58, 59, 60, 61, 62, 63, 64, 65, 66], [0, 1, 2, 3, 4, 5, 6, 7, 8, 9, 10, 11, 12, 13, 14, 15, 16, 17, 18, 19, 20, 21, 22, 23, 24, 25, 26, 27, 28, 29, 30, 31, 32, 33, 34, 35, 36, 37, 38, 39, 40, 41, 42, 43, 44, 45, 46, 47, 48, 49, 50, 51, 52, 53, 54, 55, 56, 57, 58, 59, 60, 61, 62, 63, 64, 65, 66, 67]], ch := [(65, []), (66, []), (68, [])], ac := [[0, 1, 2, 3, 4, 5, 6, 7, 8, 9, 10, 11, 12, 13, 14, 15, 16, 17, 18, 19, 20, 21, 22, 23, 24, 25, 26, 27, 28, 29, 30, 31, 32, 33, 34, 35, 36, 37, 38, 39, 40, 41, 42, 43, 44, 45, 46, 47, 48, 49, 50, 51, 52, 53, 54, 55, 56, 57, 58, 59, 60, 61, 62, 63, 64], [0, 1], [67], []], nw := [[0, 1, 2, 3, 4, 5, 6, 7, 8, 9, 10, 11, 12, 13, 14, 15, 16, 17, 18, 19, 20, 21, 22, 23, 24, 25, 26, 27, 28, 29, 30, 31, 32, 33, 34, 35, 36, 37, 38, 39, 40, 41, 42, 43, 44, 45, 46, 47, 48, 49, 50, 51, 52, 53, 54, 55, 56, 57, 58, 59, 60, 61, 62, 63, 64], [], [67], []], fl := [[], [0, 1], [], []] } (by kernel_rfl) (by kernel_rfl) (by kernel_rfl) (by kernel_rfl) ?_
      refine JS_go (tbOk _) 99 fun x hx => ?_
      simp only [RN, ↓reduceIte, ↓get8, reduceCtorEq, Nat.reduceLT, Nat.reduceEqDiff, Nat.reduceAdd, Nat.reduceMul, Nat.reduceLeDiff, Nat.reduceSub, Int.reduceToNat, Int.reduceNeg, Nat.reduceBEq, TY, y0, s0, y1, s1, y2, s2, y3, s3, y4, s4, y5, s5, y6, s6, y7, s7, y8, s8, y9, s9, y10, s10, hsp, hw3, g0, g1, g2, g3, g4, g5, g6, g7, g8, g9, g10, g11, g12, g13, g14, g15, g16, g17, Nat.add_assoc, Nat.left_eq_add, Nat.add_eq_left, Nat.add_left_cancel_iff] at hx
      subst hx
      refine ⟨_, _, rfl, ?_, ?_⟩
      · omega
      refine at_done (in_nextI (i + 1, some (n + 4), n + 5) ⟨hlt3, by show nx + 2 ≤ n + 5; omega, nofun, fun c hc => ?_, fun j hj => ?_⟩ (by show m - (i + 1) < m - i; omega) ?_)
      · cases hc; exact ⟨by omega, by show n + 4 < n + 5; omega⟩
      · rcases Nat.lt_or_ge j i with h | h
        · exact hgood j h
        · obtain rfl : j = i := by have : j < i + 1 := hj; omega
          exact hc
      · dsimp only
        exact le_of rfl (by simp only [RN, ↓reduceIte, ↓get8, reduceCtorEq, Nat.reduceLT, Nat.reduceEqDiff, Nat.reduceAdd, Nat.reduceMul, Nat.reduceLeDiff, Nat.reduceSub, Int.reduceToNat, Int.reduceNeg, Nat.reduceBEq]; first | done | trivial) (by simp only [RN, ↓reduceIte, ↓get8, reduceCtorEq, Nat.reduceLT, Nat.reduceEqDiff, Nat.reduceAdd, Nat.reduceMul, Nat.reduceLeDiff, Nat.reduceSub, Int.reduceToNat, Int.reduceNeg, Nat.reduceBEq, slv, kblk, ← v2, hi1, g0, g1, g2, g3, g4, g5, g6, g7, g8, g9, g10, g11, g12, g13, g14, g15, g16, g17, Nat.add_assoc, Nat.left_eq_add, Nat.add_eq_left, Nat.add_left_cancel_iff]; first | done | trivial) (Nat.le_refl _) rfl
    | some b =>
      obtain ⟨hb1, hb2⟩ := hso b rfl
      have g0 : ¬ nx = X := by omega
      have g1 : ¬ nx = q := by omega
      have g2 : ¬ nx = b := by omega
      have g3 : ¬ nx = n := by omega
      have g4 : ∀ i, ¬ nx = n + i := by intro i; omega
      have g5 : ¬ n = nx := by omega
      have g6 : ∀ i, ¬ n + i = nx := by intro i; omega
      have g7 : ¬ X = nx := by omega
      have g8 : ¬ X = q := by omega
      have g9 : ¬ X = b := by omega
      have g10 : ¬ X = n := by omega
      have g11 : ∀ i, ¬ X = n + i := by intro i; omega
      have g12 : ¬ n = X := by omega
      have g13 : ∀ i, ¬ n + i = X := by intro i; omega
      have g14 : ¬ q = nx := by omega
      have g15 : ¬ q = X := by omega
      have g16 : ¬ q = b := by omega
      have g17 : ¬ q = n := by omega
      have g18 : ∀ i, ¬ q = n + i := by intro i; omega
      have g19 : ¬ n = q := by omega
      have g20 : ∀ i, ¬ n + i = q := by intro i; omega
      have g21 : ¬ b = nx := by omega
      have g22 : ¬ b = X := by omega
      have g23 : ¬ b = q := by omega
      have g24 : ¬ b = n := by omega
      have g25 : ∀ i, ¬ b = n + i := by intro i; omega
      have g26 : ¬ n = b := by omega
      have g27 : ∀ i, ¬ n + i = b := by intro i; omega
      simp only [slv, kblk]
      refine JS_go (tbOk _) 99 fun x hx => ?_
      simp only [RN, ↓reduceIte, ↓get8, reduceCtorEq, Nat.reduceLT, Nat.reduceEqDiff, Nat.reduceAdd, Nat.reduceMul, Nat.reduceLeDiff, Nat.reduceSub, Int.reduceToNat, Int.reduceNeg, Nat.reduceBEq, TY, x1, x2, g0, g1, g2, g3, g4, g5, g6, g7, g8, g9, g10, g11, g12, g13, g14, g15, g16, g17, g18, g19, g20, g21, g22, g23, g24, g25, g26, g27, Nat.add_assoc, Nat.left_eq_add, Nat.add_eq_left, Nat.add_left_cancel_iff] at hx
      subst hx
      refine ⟨_, _, rfl, by first | trivial | omega | (simp only [and_true, true_and]; omega), ?_⟩
      rw [CRJ]
      refine JS_draw (tbOk _) { wr := [(63, 0), (64, 1), (65, 2), (66, 3), (67, 4), (68, 5), (69, 6), (70, 7), (71, 8), (72, 9), (11, 10), (12, 12)], anc := [[], [], [1], [0, 1, 2], [], [], [5], [], [7], [4, 5, 6, 7, 8], [], [0, 1, 2, 3, 10], [0, 1, 2, 3, 4, 5, 6, 7, 8, 9, 10, 11]], ch := [(3, []), (10, []), (11, [])], ac := [[0, 1, 2, 4, 5, 6, 7, 8, 9], [4, 5, 6, 7, 8, 9], [4, 5, 6, 7, 8, 9], [4, 5, 6, 7, 8, 9, 12]], nw := [[0, 1, 2, 4, 5, 6, 7, 8, 9], [], [], [12]], fl := [[], [4, 5, 6, 7, 8, 9], [4, 5, 6, 7, 8, 9], [4, 5, 6, 7, 8, 9]] } (by kernel_rfl) (by kernel_rfl) (by kernel_rfl) (by kernel_rfl) ?_
      have sc : 0 ≤ (a17 : Int) ∧ (a17 : Int) ≤ a27 ∧ (a27 : Int) ≤ cp ∧ (cp : Int) ≤ cp ∧ ((none : Option Int) ≠ none → some (a27 : Int) ≠ none) := ⟨by omega, by omega, by omega, Int.le_refl _, fun h => absurd rfl h⟩
      refine JS_go (tbOk _) 99 fun x hx => ?_
      simp only [RN, ↓reduceIte, ↓get8, reduceCtorEq, Nat.reduceLT, Nat.reduceEqDiff, Nat.reduceAdd, Nat.reduceMul, Nat.reduceLeDiff, Nat.reduceSub, Int.reduceToNat, Int.reduceNeg, Nat.reduceBEq, TY, x3, x4, x5, x6, g0, g1, g2, g3, g4, g5, g6, g7, g8, g9, g10, g11, g12, g13, g14, g15, g16, g17, g18, g19, g20, g21, g22, g23, g24, g25, g26, g27, Nat.add_assoc, Nat.left_eq_add, Nat.add_eq_left, Nat.add_left_cancel_iff] at hx
      subst hx
      refine ⟨_, _, rfl, ?_, ?_⟩
      · first | exact sc | exact ⟨sc, sc⟩ | exact ⟨sc, sc, sc⟩
      refine at_dcallG hT (by simp only [RN, ↓reduceIte, ↓get8, reduceCtorEq, Nat.reduceLT, Nat.reduceEqDiff, Nat.reduceAdd, Nat.reduceMul, Nat.reduceLeDiff, Nat.reduceSub, Int.reduceToNat, Int.reduceNeg, Nat.reduceBEq, g0, g1, g2, g3, g4, g5, g6, g7, g8, g9, g10, g11, g12, g13, g14, g15, g16, g17, g18, g19, g20, g21, g22, g23, g24, g25, g26, g27, Nat.add_assoc, Nat.left_eq_add, Nat.add_eq_left, Nat.add_left_cancel_iff]; first | done | trivial) ?_
      rintro o2 L' n2 ⟨rfl, rfl, rfl⟩
      refine JS_go (tbOk _) 99 fun x hx => ?_
      simp only [RN, ↓reduceIte, ↓get8, reduceCtorEq, Nat.reduceLT, Nat.reduceEqDiff, Nat.reduceAdd, Nat.reduceMul, Nat.reduceLeDiff, Nat.reduceSub, Int.reduceToNat, Int.reduceNeg, Nat.reduceBEq, TY, x4, x5, x6, g0, g1, g2, g3, g4, g5, g6, g7, g8, g9, g10, g11, g12, g13, g14, g15, g16, g17, g18, g19, g20, g21, g22, g23, g24, g25, g26, g27, Nat.add_assoc, Nat.left_eq_add, Nat.add_eq_left, Nat.add_left_cancel_iff] at hx
      subst hx
      refine ⟨_, _, rfl, ?_, ?_⟩
      · first | exact sc | exact ⟨sc, sc⟩ | exact ⟨sc, sc, sc⟩
      have hN := refnum_c bs ln cp a27 8 q (n + 3) ro loose (by omega) (by omega) hl
      have hO := Of_c (le ((bs.drop a27).take 8)) (n + 3) (le8 _ 8 (by omega))
      have hkE : ofS (le ((bs.drop a27).take 8)) = kE bs i := by unfold kE; rw [hat, h27]
      rw [hkE] at hO
      refine at_callK (hN) (by simp only [RN, ↓reduceIte, ↓get8, reduceCtorEq, Nat.reduceLT, Nat.reduceEqDiff, Nat.reduceAdd, Nat.reduceMul, Nat.reduceLeDiff, Nat.reduceSub, Int.reduceToNat, Int.reduceNeg, Nat.reduceBEq, g0, g1, g2, g3, g4, g5, g6, g7, g8, g9, g10, g11, g12, g13, g14, g15, g16, g17, g18, g19, g20, g21, g22, g23, g24, g25, g26, g27, Nat.add_assoc, Nat.left_eq_add, Nat.add_eq_left, Nat.add_left_cancel_iff]; first | done | trivial) (by simp only [RN, ↓reduceIte, ↓get8, reduceCtorEq, Nat.reduceLT, Nat.reduceEqDiff, Nat.reduceAdd, Nat.reduceMul, Nat.reduceLeDiff, Nat.reduceSub, Int.reduceToNat, Int.reduceNeg, Nat.reduceBEq, g0, g1, g2, g3, g4, g5, g6, g7, g8, g9, g10, g11, g12, g13, g14, g15, g16, g17, g18, g19, g20, g21, g22, g23, g24, g25, g26, g27, Nat.add_assoc, Nat.left_eq_add, Nat.add_eq_left, Nat.add_left_cancel_iff]; rfl) ?_
      refine JS_go (tbOk _) 99 fun x hx => ?_
      simp only [RN, ↓reduceIte, ↓get8, reduceCtorEq, Nat.reduceLT, Nat.reduceEqDiff, Nat.reduceAdd, Nat.reduceMul, Nat.reduceLeDiff, Nat.reduceSub, Int.reduceToNat, Int.reduceNeg, Nat.reduceBEq, TY, g0, g1, g2, g3, g4, g5, g6, g7, g8, g9, g10, g11, g12, g13, g14, g15, g16, g17, g18, g19, g20, g21, g22, g23, g24, g25, g26, g27, Nat.add_assoc, Nat.left_eq_add, Nat.add_eq_left, Nat.add_left_cancel_iff] at hx
      subst hx
      refine ⟨_, _, rfl, by first | trivial | omega | (simp only [and_true, true_and]; omega), ?_⟩
      refine at_callK (hO) (by simp only [RN, ↓reduceIte, ↓get8, reduceCtorEq, Nat.reduceLT, Nat.reduceEqDiff, Nat.reduceAdd, Nat.reduceMul, Nat.reduceLeDiff, Nat.reduceSub, Int.reduceToNat, Int.reduceNeg, Nat.reduceBEq, g0, g1, g2, g3, g4, g5, g6, g7, g8, g9, g10, g11, g12, g13, g14, g15, g16, g17, g18, g19, g20, g21, g22, g23, g24, g25, g26, g27, Nat.add_assoc, Nat.left_eq_add, Nat.add_eq_left, Nat.add_left_cancel_iff]; first | done | trivial) (by simp only [RN, ↓reduceIte, ↓get8, reduceCtorEq, Nat.reduceLT, Nat.reduceEqDiff, Nat.reduceAdd, Nat.reduceMul, Nat.reduceLeDiff, Nat.reduceSub, Int.reduceToNat, Int.reduceNeg, Nat.reduceBEq, g0, g1, g2, g3, g4, g5, g6, g7, g8, g9, g10, g11, g12, g13, g14, g15, g16, g17, g18, g19, g20, g21, g22, g23, g24, g25, g26, g27, Nat.add_assoc, Nat.left_eq_add, Nat.add_eq_left, Nat.add_left_cancel_iff]; rfl) ?_
      refine JS_go (tbOk _) 99 fun x hx => ?_
      simp only [RN, ↓reduceIte, ↓get8, reduceCtorEq, Nat.reduceLT, Nat.reduceEqDiff, Nat.reduceAdd, Nat.reduceMul, Nat.reduceLeDiff, Nat.reduceSub, Int.reduceToNat, Int.reduceNeg, Nat.reduceBEq, TY, g0, g1, g2, g3, g4, g5, g6, g7, g8, g9, g10, g11, g12, g13, g14, g15, g16, g17, g18, g19, g20, g21, g22, g23, g24, g25, g26, g27, Nat.add_assoc, Nat.left_eq_add, Nat.add_eq_left, Nat.add_left_cancel_iff] at hx
      subst hx
      refine ⟨_, _, rfl, by first | trivial | omega | (simp only [and_true, true_and]; omega), ?_⟩
      refine at_cond (fun h => ?_) (fun h => ?_)
      · have hc : ¬ (kE bs i).2 = 0 := by simpa using h
        have hfd : (List.range m).find? (fun i => decide ((kE bs i).2 ≠ 0)) = some i := by
          rw [List.find?_range_eq_some]
          exact ⟨by simpa using hc, by simpa using hlt3, fun j hj => by simpa using hgood j hj⟩
        have d0 : decB bs ln = ([], [], (kE bs i).2, (a27 : Int)) := by
          unfold decB
          rw [hm, hw, hal, if_neg (by omega), if_neg (by omega), if_neg (by omega), hfd, ← h27, ← hat]
        refine JS_go (tbOk _) 99 fun x hx => ?_
        simp only [RN, ↓reduceIte, ↓get8, reduceCtorEq, Nat.reduceLT, Nat.reduceEqDiff, Nat.reduceAdd, Nat.reduceMul, Nat.reduceLeDiff, Nat.reduceSub, Int.reduceToNat, Int.reduceNeg, Nat.reduceBEq, TY, x5, g0, g1, g2, g3, g4, g5, g6, g7, g8, g9, g10, g11, g12, g13, g14, g15, g16, g17, g18, g19, g20, g21, g22, g23, g24, g25, g26, g27, Nat.add_assoc, Nat.left_eq_add, Nat.add_eq_left, Nat.add_left_cancel_iff] at hx
        subst hx
        refine ⟨_, _, rfl, by first | trivial | omega | (simp only [and_true, true_and]; omega), ?_⟩
        refine at_ret (in_retI (ret_endK (by simp only [RN, ↓reduceIte, ↓get8, reduceCtorEq, Nat.reduceLT, Nat.reduceEqDiff, Nat.reduceAdd, Nat.reduceMul, Nat.reduceLeDiff, Nat.reduceSub, Int.reduceToNat, Int.reduceNeg, Nat.reduceBEq, TY, g0, g1, g2, g3, g4, g5, g6, g7, g8, g9, g10, g11, g12, g13, g14, g15, g16, g17, g18, g19, g20, g21, g22, g23, g24, g25, g26, g27, Nat.add_assoc, Nat.left_eq_add, Nat.add_eq_left, Nat.add_left_cancel_iff]; rfl) rfl (by first | trivial | omega) ⟨_, leL_look (by simp only [RN, ↓reduceIte, ↓get8, reduceCtorEq, Nat.reduceLT, Nat.reduceEqDiff, Nat.reduceAdd, Nat.reduceMul, Nat.reduceLeDiff, Nat.reduceSub, Int.reduceToNat, Int.reduceNeg, Nat.reduceBEq, g0, g1, g2, g3, g4, g5, g6, g7, g8, g9, g10, g11, g12, g13, g14, g15, g16, g17, g18, g19, g20, g21, g22, g23, g24, g25, g26, g27, Nat.add_assoc, Nat.left_eq_add, Nat.add_eq_left, Nat.add_left_cancel_iff]; first | done | trivial), dec_err d0 (by show nx ≤ n + 3; omega)⟩))
      have hc : (kE bs i).2 = 0 := by simpa using h
      obtain ⟨sp, hsp⟩ : ∃ sp, (kE bs i).1 = sp := ⟨_, rfl⟩
      obtain ⟨z0, hz0⟩ : ∃ z, le ((bs.drop (a17 + 0)).take 1) = z := ⟨_, rfl⟩
      obtain ⟨z1, hz1⟩ : ∃ z, le ((bs.drop (a17 + 1)).take 1) = z := ⟨_, rfl⟩
      obtain ⟨z2, hz2⟩ : ∃ z, le ((bs.drop (a17 + 2)).take 1) = z := ⟨_, rfl⟩
      obtain ⟨z3, hz3⟩ : ∃ z, le ((bs.drop (a17 + 3)).take 1) = z := ⟨_, rfl⟩
      obtain ⟨z4, hz4⟩ : ∃ z, le ((bs.drop (a17 + 4)).take 1) = z := ⟨_, rfl⟩
      obtain ⟨z5, hz5⟩ : ∃ z, le ((bs.drop (a17 + 5)).take 1) = z := ⟨_, rfl⟩
      obtain ⟨z6, hz6⟩ : ∃ z, le ((bs.drop (a17 + 6)).take 1) = z := ⟨_, rfl⟩
      obtain ⟨z7, hz7⟩ : ∃ z, le ((bs.drop (a17 + 7)).take 1) = z := ⟨_, rfl⟩
      obtain ⟨z8, hz8⟩ : ∃ z, le ((bs.drop (a17 + 8)).take 1) = z := ⟨_, rfl⟩
      obtain ⟨z9, hz9⟩ : ∃ z, le ((bs.drop (a17 + 9)).take 1) = z := ⟨_, rfl⟩
      obtain ⟨z10, hz10⟩ : ∃ z, le ((bs.drop at_).take 1) = z := ⟨_, rfl⟩
      have y0 := bys_le (bs := bs) (a := a17 + 0) (by omega)
      rw [hz0] at y0
      have s0 : IntKind.i64.wrap (z0 : Int) = (z0 : Int) := by rw [← hz0]; exact wrap_i64 _ (by have := le1 (bs.drop (a17 + 0)); omega)
      have y1 := bys_le (bs := bs) (a := a17 + 1) (by omega)
      rw [hz1] at y1
      have s1 : IntKind.i64.wrap (z1 : Int) = (z1 : Int) := by rw [← hz1]; exact wrap_i64 _ (by have := le1 (bs.drop (a17 + 1)); omega)
      have y2 := bys_le (bs := bs) (a := a17 + 2) (by omega)
      rw [hz2] at y2
      have s2 : IntKind.i64.wrap (z2 : Int) = (z2 : Int) := by rw [← hz2]; exact wrap_i64 _ (by have := le1 (bs.drop (a17 + 2)); omega)
      have y3 := bys_le (bs := bs) (a := a17 + 3) (by omega)
      rw [hz3] at y3
      have s3 : IntKind.i64.wrap (z3 : Int) = (z3 : Int) := by rw [← hz3]; exact wrap_i64 _ (by have := le1 (bs.drop (a17 + 3)); omega)
      have y4 := bys_le (bs := bs) (a := a17 + 4) (by omega)
      rw [hz4] at y4
      have s4 : IntKind.i64.wrap (z4 : Int) = (z4 : Int) := by rw [← hz4]; exact wrap_i64 _ (by have := le1 (bs.drop (a17 + 4)); omega)
      have y5 := bys_le (bs := bs) (a := a17 + 5) (by omega)
      rw [hz5] at y5
      have s5 : IntKind.i64.wrap (z5 : Int) = (z5 : Int) := by rw [← hz5]; exact wrap_i64 _ (by have := le1 (bs.drop (a17 + 5)); omega)
      have y6 := bys_le (bs := bs) (a := a17 + 6) (by omega)
      rw [hz6] at y6
      have s6 : IntKind.i64.wrap (z6 : Int) = (z6 : Int) := by rw [← hz6]; exact wrap_i64 _ (by have := le1 (bs.drop (a17 + 6)); omega)
      have y7 := bys_le (bs := bs) (a := a17 + 7) (by omega)
      rw [hz7] at y7
      have s7 : IntKind.i64.wrap (z7 : Int) = (z7 : Int) := by rw [← hz7]; exact wrap_i64 _ (by have := le1 (bs.drop (a17 + 7)); omega)
      have y8 := bys_le (bs := bs) (a := a17 + 8) (by omega)
      rw [hz8] at y8
      have s8 : IntKind.i64.wrap (z8 : Int) = (z8 : Int) := by rw [← hz8]; exact wrap_i64 _ (by have := le1 (bs.drop (a17 + 8)); omega)
      have y9 := bys_le (bs := bs) (a := a17 + 9) (by omega)
      rw [hz9] at y9
      have s9 : IntKind.i64.wrap (z9 : Int) = (z9 : Int) := by rw [← hz9]; exact wrap_i64 _ (by have := le1 (bs.drop (a17 + 9)); omega)
      have y10 := bys_le (bs := bs) (a := at_) (by omega)
      rw [hz10] at y10
      have s10 : IntKind.i64.wrap (z10 : Int) = (z10 : Int) := by rw [← hz10]; exact wrap_i64 _ (by have := le1 (bs.drop at_); omega)
      rw [Nat.add_zero] at y0
      have hki : kX bs i = ⟨z10, tV bs a1 0, sp, tV bs a1 1, z0, z1, z2, z3, tV bs a1 2, tV bs a1 3, tV bs a1 4, z4, z5, z6, tV bs a1 5, tV bs a1 6, z7, z8, z9, tV bs a1 7⟩ := by
        rw [← hz10, ← hz0, ← hz1, ← hz2, ← hz3, ← hz4, ← hz5, ← hz6, ← hz7, ← hz8, ← hz9, ← hsp, ← h17, ← h1]
        unfold kX kdAt tV
        rw [hat]
        simp only [Nat.add_assoc, Nat.reduceAdd, Nat.reduceMul, Nat.add_zero]
      have v1 : (kcells ((List.range i).map (kX bs))).length = i * 20 := by rw [kcells_len]; simp
      have v2 : kcells ((List.range i).map (kX bs)) ++ [.int .i64 (z10), .int .i64 (tV bs a1 0), .int .i64 (sp), .int .i64 (tV bs a1 1), .int .i64 (z0), .int .i64 (z1), .int .i64 (z2), .int .i64 (z3), .int .i64 (tV bs a1 2), .int .i64 (tV bs a1 3), .int .i64 (tV bs a1 4), .int .i64 (z4), .int .i64 (z5), .int .i64 (z6), .int .i64 (tV bs a1 5), .int .i64 (tV bs a1 6), .int .i64 (z7), .int .i64 (z8), .int .i64 (z9), .int .i64 (tV bs a1 7)] = kcells ((List.range (i + 1)).map (kX bs)) := by rw [List.range_succ, List.map_append, kcells, kcells, List.flatMap_append]; simp only [List.map_cons, List.map_nil, List.flatMap_cons, List.flatMap_nil, hki, Kd.cells, List.append_nil]
      have v3 : ¬ i + 1 ≤ i := by omega
      refine JS_go (tbOk _) 99 fun x hx => ?_
      simp only [RN, ↓reduceIte, ↓get8, reduceCtorEq, Nat.reduceLT, Nat.reduceEqDiff, Nat.reduceAdd, Nat.reduceMul, Nat.reduceLeDiff, Nat.reduceSub, Int.reduceToNat, Int.reduceNeg, Nat.reduceBEq, TY] at hx
      subst hx
      refine ⟨_, _, rfl, by first | trivial | omega | (simp only [and_true, true_and]; omega), ?_⟩
      rw [CRJ]
      refine JS_draw (tbOk _) { wr := [(87, 0), (88, 1), (89, 2), (90, 3), (91, 4), (92, 5), (93, 6), (94, 7), (95, 8), (96, 9), (97, 10), (98, 11), (99, 12), (100, 13), (101, 14), (102, 15), (103, 16), (104, 17), (105, 18), (106, 19), (107, 20), (108, 21), (109, 22), (110, 23), (111, 24), (112, 25), (113, 26), (114, 27), (115, 28), (116, 29), (117, 30), (118, 31), (119, 32), (120, 33), (121, 34), (122, 35), (123, 36), (124, 37), (125, 38), (126, 39), (127, 40), (128, 41), (129, 42), (130, 43), (131, 44), (132, 45), (133, 46), (134, 47), (135, 48), (136, 49), (137, 50), (138, 51), (139, 52), (140, 53), (141, 54), (142, 55), (143, 56), (144, 57), (145, 58), (146, 59), (147, 60), (148, 61), (149, 62), (150, 63), (151, 64), (152, 65), (153, 66), (154, 67)], anc := [[], [0], [], [], [2, 3], [2, 3, 4], [2, 3, 4, 5], [], [7], [], [9], [], [11], [], [13], [], [15], [], [17], [], [19], [], [21], [], [23], [23, 24], [23, 24, 25], [], [27], [27, 28], [27, 28, 29], [], [31], [31, 32], [31, 32, 33], [], [35], [35, 36], [35, 36, 37], [], [39], [39, 40], [39, 40, 41], [], [43], [43, 44], [43, 44, 45], [], [47], [47, 48], [47, 48, 49], [], [51], [51, 52], [51, 52, 53], [], [55], [55, 56], [55, 56, 57], [], [59], [59, 60], [59, 60, 61], [], [2, 3, 4, 5, 6, 7, 8, 9, 10, 11, 12, 13, 14, 15, 16, 17, 18, 19, 20, 21, 22, 23, 24, 25, 26, 27, 28, 29, 30, 31, 32, 33, 34, 35, 36, 37, 38, 39, 40, 41, 42, 43, 44, 45, 46, 47, 48, 49, 50, 51, 52, 53, 54, 55, 56, 57, 58, 59, 60, 61, 62, 63], [2, 3, 4, 5, 6, 7, 8, 9, 10, 11, 12, 13, 14, 15, 16, 17, 18, 19, 20, 21, 22, 23, 24, 25, 26, 27, 28, 29, 30, 31, 32, 33, 34, 35, 36, 37, 38, 39, 40, 41, 42, 43, 44, 45, 46, 47, 48, 49, 50, 51, 52, 53, 54, 55, 56, 57, 58, 59, 60, 61, 62, 63, 64], [0, 1, 2, 3, 4, 5, 6, 7, 8, 9, 10, 11, 12, 13, 14, 15, 16, 17, 18, 19, 20, 21, 22, 23, 24, 25, 26, 27, 28, 29, 30, 31, 32, 33, 34, 35, 36, 37, 38, 39, 40, 41, 42, 43, 44, 45, 46, 47, 48, 49, 50, 51, 52, 53, 54, 55, 56, 57, 58, 59, 60, 61, 62, 63, 64, 65], [0, 1, 2, 3, 4, 5, 6, 7, 8, 9, 10, 11, 12, 13, 14, 15, 16, 17, 18, 19, 20, 21, 22, 23, 24, 25, 26, 27, 28, 29, 30, 31, 32, 33, 34, 35, 36, 37, 38, 39, 40, 41, 42, 43, 44, 45, 46, 47, 48, 49, 50, 51, 52, 53, 54, 55, 56, 57, 58, 59, 60, 61, 62, 63, 64, 65, 66], [0, 1, 2, 3, 4, 5, 6, 7, 8, 9, 10, 11, 12, 13, 14, 15, 16, 17, 18, 19, 20, 21, 22, 23, 24, 25, 26, 27, 28, 29, 30, 31, 32, 33, 34, 35, 36, 37, 38, 39, 40, 41, 42, 43, 44, 45, 46, 47, 48, 49, 50, 51, 52, 53, 54, 55, 56, 57, 58, 59, 60, 61, 62, 63, 64, 65, 66, 67]], ch := [(65, []), (66, []), (68, [])], ac := [[0, 1, 2, 3, 4, 5, 6, 7, 8, 9, 10, 11, 12, 13, 14, 15, 16, 17, 18, 19, 20, 21, 22, 23, 24, 25, 26, 27, 28, 29, 30, 31, 32, 33, 34, 35, 36, 37, 38, 39, 40, 41, 42, 43, 44, 45, 46, 47, 48, 49, 50, 51, 52, 53, 54, 55, 56, 57, 58, 59, 60, 61, 62, 63, 64], [0, 1], [67], []], nw := [[0, 1, 2, 3, 4, 5, 6, 7, 8, 9, 10, 11, 12, 13, 14, 15, 16, 17, 18, 19, 20, 21, 22, 23, 24, 25, 26, 27, 28, 29, 30, 31, 32, 33, 34, 35, 36, 37, 38, 39, 40, 41, 42, 43, 44, 45, 46, 47, 48, 49, 50, 51, 52, 53, 54, 55, 56, 57, 58, 59, 60, 61, 62, 63, 64], [], [67], []], fl := [[], [0, 1], [], []] } (by kernel_rfl) (by kernel_rfl) (by kernel_rfl) (by kernel_rfl) ?_
      refine JS_go (tbOk _) 99 fun x hx => ?_
      simp only [RN, ↓reduceIte, ↓get8, reduceCtorEq, Nat.reduceLT, Nat.reduceEqDiff, Nat.reduceAdd, Nat.reduceMul, Nat.reduceLeDiff, Nat.reduceSub, Int.reduceToNat, Int.reduceNeg, Nat.reduceBEq, TY, y0, s0, y1, s1, y2, s2, y3, s3, y4, s4, y5, s5, y6, s6, y7, s7, y8, s8, y9, s9, y10, s10, hsp, v1, v2, v3, hw3, g0, g1, g2, g3, g4, g5, g6, g7, g8, g9, g10, g11, g12, g13, g14, g15, g16, g17, g18, g19, g20, g21, g22, g23, g24, g25, g26, g27, Nat.add_assoc, Nat.left_eq_add, Nat.add_eq_left, Nat.add_left_cancel_iff] at hx
      subst hx
      refine ⟨_, _, rfl, ?_, ?_⟩
      · omega
      refine at_done (in_nextI (i + 1, some (n + 4), n + 5) ⟨hlt3, by show nx + 2 ≤ n + 5; omega, nofun, fun c hc => ?_, fun j hj => ?_⟩ (by show m - (i + 1) < m - i; omega) ?_)
      · cases hc; exact ⟨by omega, by show n + 4 < n + 5; omega⟩
      · rcases Nat.lt_or_ge j i with h | h
        · exact hgood j h
        · obtain rfl : j = i := by have : j < i + 1 := hj; omega
          exact hc
      · dsimp only
        exact le_of rfl (by simp only [RN, ↓reduceIte, ↓get8, reduceCtorEq, Nat.reduceLT, Nat.reduceEqDiff, Nat.reduceAdd, Nat.reduceMul, Nat.reduceLeDiff, Nat.reduceSub, Int.reduceToNat, Int.reduceNeg, Nat.reduceBEq]; first | done | trivial) (by simp only [RN, ↓reduceIte, ↓get8, reduceCtorEq, Nat.reduceLT, Nat.reduceEqDiff, Nat.reduceAdd, Nat.reduceMul, Nat.reduceLeDiff, Nat.reduceSub, Int.reduceToNat, Int.reduceNeg, Nat.reduceBEq, slv, kblk, ← v2, g0, g1, g2, g3, g4, g5, g6, g7, g8, g9, g10, g11, g12, g13, g14, g15, g16, g17, g18, g19, g20, g21, g22, g23, g24, g25, g26, g27, Nat.add_assoc, Nat.left_eq_add, Nat.add_eq_left, Nat.add_left_cancel_iff]; first | done | trivial) (Nat.le_refl _) rfl
  have hi2 : i = m := by simp at hge; omega
  subst hi2
  clear hge hi
  have hf1 : (List.range i).find? (fun i => decide ((kE bs i).2 ≠ 0)) = none := by
    rw [List.find?_eq_none]
    intro j hj
    simpa using hgood j (by simpa using hj)
  obtain ⟨KS, hKS⟩ : ∃ KS, (List.range i).map (kX bs) = KS := ⟨_, rfl⟩
  have hKl : KS.length = i := by rw [← hKS]; simp
  obtain ⟨KB, hKB⟩ : ∃ KB, kblk o KS false true = KB := ⟨_, rfl⟩
  have kbn : ∀ e ∈ KB, nx + 2 ≤ e.1 ∧ e.1 < n := by
    intro e he
    rw [← hKB] at he
    cases o with
    | none => simp [kblk] at he
    | some b => simp [kblk] at he; subst he; exact hso b rfl
  have kbl : ∀ id c, look id KB = some c → nx + 2 ≤ id ∧ id < n := by
    intro id c h
    obtain ⟨e, he, rfl⟩ := List.mem_map.1 (look_mem h)
    exact kbn e he
  have kbr : ∀ ids : List Nat, (∀ i ∈ ids, i < nx + 2 ∨ n ≤ i) → remN ids KB = KB := fun ids h => remN_not ids fun e he i hi e2 => by have := kbn e he; have := h i hi; omega
  have kbd : ∀ b, n ≤ b → del b KB = KB := fun b h => del_not b fun e he e2 => by have := kbn e he; omega
  obtain ⟨KV, hKV⟩ : ∃ KV, slv o i i = KV := ⟨_, rfl⟩
  rw [hKS, hKB, hKV]
  have h0 : ¬ nx = X := by omega
  have h1 : ¬ nx = q := by omega
  have h2 : ¬ nx = n := by omega
  have h3 : ∀ i, ¬ nx = n + i := by intro i; omega
  have h4 : ¬ n = nx := by omega
  have h5 : ∀ i, ¬ n + i = nx := by intro i; omega
  have h6 : ¬ X = nx := by omega
  have h7 : ¬ X = q := by omega
  have h8 : ¬ X = n := by omega
  have h9 : ∀ i, ¬ X = n + i := by intro i; omega
  have h10 : ¬ n = X := by omega
  have h11 : ∀ i, ¬ n + i = X := by intro i; omega
  have h12 : ¬ q = nx := by omega
  have h13 : ¬ q = X := by omega
  have h14 : ¬ q = n := by omega
  have h15 : ∀ i, ¬ q = n + i := by intro i; omega
  have h16 : ¬ n = q := by omega
  have h17 : ∀ i, ¬ n + i = q := by intro i; omega
  refine JS_go (tbOk _) 99 fun x hx => ?_
  simp only [RN, ↓reduceIte, ↓get8, reduceCtorEq, Nat.reduceLT, Nat.reduceEqDiff, Nat.reduceAdd, Nat.reduceMul, Nat.reduceLeDiff, Nat.reduceSub, Int.reduceToNat, Int.reduceNeg, Nat.reduceBEq, TY] at hx
  subst hx
  refine ⟨_, _, rfl, by first | trivial | omega | (simp only [and_true, true_and]; omega), ?_⟩
  refine at_exit (in_exitI (by simp only [RN, ↓reduceIte, ↓get8, reduceCtorEq, Nat.reduceLT, Nat.reduceEqDiff, Nat.reduceAdd, Nat.reduceMul, Nat.reduceLeDiff, Nat.reduceSub, Int.reduceToNat, Int.reduceNeg, Nat.reduceBEq]; rfl) ?_)
  refine JS_go (tbOk _) 99 fun x hx => ?_
  simp only [RN, ↓reduceIte, ↓get8, reduceCtorEq, Nat.reduceLT, Nat.reduceEqDiff, Nat.reduceAdd, Nat.reduceMul, Nat.reduceLeDiff, Nat.reduceSub, Int.reduceToNat, Int.reduceNeg, Nat.reduceBEq, TY, h0, h1, h2, h3, h4, h5, h6, h7, h8, h9, h10, h11, h12, h13, h14, h15, h16, h17, Nat.add_assoc, Nat.left_eq_add, Nat.add_eq_left, Nat.add_left_cancel_iff] at hx
  subst hx
  refine ⟨_, _, rfl, by first | trivial | omega | (simp only [and_true, true_and]; omega), ?_⟩
  refine at_loop ?_
  refine JS_loopI (S := fun x : Nat × Option Nat × Nat => { n := 235, fr := [(15, .int .i64 x.1), (8, .pointer (some ⟨X, 0, none⟩)), (6, .int .i64 w), (5, .int .i64 i), (2, .pointer (some ⟨nx, 0, none⟩)), (0, .slice (some ⟨q, 0, none⟩) ln cp)], F := [(nx, ⟨[.slice none 0 0, .slice none 0 0], 26, 2, false, false⟩), (X, ⟨[KV, slv x.2.1 x.1 x.1], 26, 2, false, false⟩), (q, ⟨bys bs, 5, 1, ro, loose⟩)] ++ (wpblk x.2.1 (wsF bs i x.1) false true ++ KB), nx := x.2.2, ds := [] })
    (fun p => p.1 ≤ w ∧ n ≤ p.2.2 ∧ (p.2.1 = none → p.1 = 0) ∧ (∀ b, p.2.1 = some b → n ≤ b ∧ b < p.2.2) ∧ ∀ j, j < p.1 → (wE bs (2 + 35 * i + 14 * j)).1 = 0) (fun x => w - x.1) (0, none, n) ⟨Nat.zero_le _, Nat.le_refl _, fun _ => rfl, nofun, fun j hj => absurd hj (Nat.not_lt_zero j)⟩ ?_ ?_
  · exact ⟨rfl, leL_look (by simp only [RN, ↓reduceIte, ↓get8, reduceCtorEq, Nat.reduceLT, Nat.reduceEqDiff, Nat.reduceAdd, Nat.reduceMul, Nat.reduceLeDiff, Nat.reduceSub, Int.reduceToNat, Int.reduceNeg, Nat.reduceBEq]; first | done | trivial), fun id c h => h, Nat.le_refl _, rfl⟩
  rintro ⟨j, ow, n2⟩ ⟨hj, hn2, hnw, hsw, hgw⟩
  dsimp only at hj hn2 hnw hsw hgw ⊢
  have hw3 : IntKind.i64.wrap ((j : Int) + 1) = ((j + 1 : Nat) : Int) := wrap_i64 (j + 1) (by omega)
  refine JS_go (tbOk _) 99 fun x hx => ?_
  simp only [RN, ↓reduceIte, ↓get8, reduceCtorEq, Nat.reduceLT, Nat.reduceEqDiff, Nat.reduceAdd, Nat.reduceMul, Nat.reduceLeDiff, Nat.reduceSub, Int.reduceToNat, Int.reduceNeg, Nat.reduceBEq, TY] at hx
  subst hx
  refine ⟨_, _, rfl, by first | trivial | omega | (simp only [and_true, true_and]; omega), ?_⟩
  refine at_cond (fun hlt2 => ?_) (fun hge => ?_)
  · have hlt3 : j < w := by simpa using hlt2
    obtain ⟨at_, hat⟩ : ∃ at_, 2 + 35 * i + 14 * j = at_ := ⟨_, rfl⟩
    obtain ⟨a2, h2⟩ : ∃ a, at_ + 2 = a := ⟨_, rfl⟩
    obtain ⟨a3, h3⟩ : ∃ a, at_ + 3 = a := ⟨_, rfl⟩
    obtain ⟨a4, h4⟩ : ∃ a, at_ + 4 = a := ⟨_, rfl⟩
    obtain ⟨a5, h5⟩ : ∃ a, at_ + 5 = a := ⟨_, rfl⟩
    obtain ⟨a6, h6⟩ : ∃ a, at_ + 6 = a := ⟨_, rfl⟩
    have x1 : IntKind.i64.wrap (14 * (j : Int)) = ((14 * j : Nat) : Int) := by rw [show 14 * (j : Int) = ((14 * j : Nat) : Int) by omega]; exact wrap_i64 _ (by omega)
    have x2 : IntKind.i64.wrap (((2 + 35 * i : Nat) : Int) + ((14 * j : Nat) : Int)) = (at_ : Int) := by rw [show ((2 + 35 * i : Nat) : Int) + ((14 * j : Nat) : Int) = (at_ : Int) by omega]; exact wrap_i64 _ (by omega)
    have y2 : IntKind.i64.wrap ((at_ : Int) + 2) = (a2 : Int) := by rw [← h2]; exact wrap_i64 (at_ + 2) (by omega)
    have y3 : IntKind.i64.wrap ((at_ : Int) + 3) = (a3 : Int) := by rw [← h3]; exact wrap_i64 (at_ + 3) (by omega)
    have y4 : IntKind.i64.wrap ((at_ : Int) + 4) = (a4 : Int) := by rw [← h4]; exact wrap_i64 (at_ + 4) (by omega)
    have y5 : IntKind.i64.wrap ((at_ : Int) + 5) = (a5 : Int) := by rw [← h5]; exact wrap_i64 (at_ + 5) (by omega)
    have y6 : IntKind.i64.wrap ((at_ : Int) + 6) = (a6 : Int) := by rw [← h6]; exact wrap_i64 (at_ + 6) (by omega)
    obtain ⟨z2, k2⟩ : ∃ z, le ((bs.drop a2).take 1) = z := ⟨_, rfl⟩
    obtain ⟨z3, k3⟩ : ∃ z, le ((bs.drop a3).take 1) = z := ⟨_, rfl⟩
    obtain ⟨z4, k4⟩ : ∃ z, le ((bs.drop a4).take 1) = z := ⟨_, rfl⟩
    obtain ⟨u, hu⟩ : ∃ z, le ((bs.drop a5).take 1) = z := ⟨_, rfl⟩
    obtain ⟨zn, kn⟩ : ∃ z, le ((bs.drop at_).take 2) = z := ⟨_, rfl⟩
    have v2 := bys_le (bs := bs) (a := a2) (by omega)
    have v3 := bys_le (bs := bs) (a := a3) (by omega)
    have v4 := bys_le (bs := bs) (a := a4) (by omega)
    have v5 := bys_le (bs := bs) (a := a5) (by omega)
    rw [k2] at v2
    rw [k3] at v3
    rw [k4] at v4
    rw [hu] at v5
    have s2 : IntKind.i64.wrap (z2 : Int) = (z2 : Int) := by rw [← k2]; exact wrap_i64 _ (by have := le1 (bs.drop a2); omega)
    have s3 : IntKind.i64.wrap (z3 : Int) = (z3 : Int) := by rw [← k3]; exact wrap_i64 _ (by have := le1 (bs.drop a3); omega)
    have s4 : IntKind.i64.wrap (z4 : Int) = (z4 : Int) := by rw [← k4]; exact wrap_i64 _ (by have := le1 (bs.drop a4); omega)
    have sn : IntKind.i64.wrap (zn : Int) = (zn : Int) := by rw [← kn]; exact wrap_i64 _ (by have := le2 (bs.drop at_); omega)
    have hwu : wU bs at_ = u := by unfold wU; rw [h5, hu]
    have rK := kbr [q] (by simp; omega)
    cases ow with
    | none =>
      have hj0 := hnw rfl
      have hj1 : j + 1 = 1 := by omega
      have g0 : ¬ nx = X := by omega
      have g1 : ¬ nx = q := by omega
      have g2 : ¬ nx = n2 := by omega
      have g3 : ∀ i, ¬ nx = n2 + i := by intro i; omega
      have g4 : ¬ n2 = nx := by omega
      have g5 : ∀ i, ¬ n2 + i = nx := by intro i; omega
      have g6 : ¬ X = nx := by omega
      have g7 : ¬ X = q := by omega
      have g8 : ¬ X = n2 := by omega
      have g9 : ∀ i, ¬ X = n2 + i := by intro i; omega
      have g10 : ¬ n2 = X := by omega
      have g11 : ∀ i, ¬ n2 + i = X := by intro i; omega
      have g12 : ¬ q = nx := by omega
      have g13 : ¬ q = X := by omega
      have g14 : ¬ q = n2 := by omega
      have g15 : ∀ i, ¬ q = n2 + i := by intro i; omega
      have g16 : ¬ n2 = q := by omega
      have g17 : ∀ i, ¬ n2 + i = q := by intro i; omega
      simp only [slv, wpblk]
      cases hu1 : decide ((u : Int) > 1)
      case true =>
        skip
        have hu2 : 1 < u := by have := of_decide_eq_true hu1; omega
        have hwE : wE bs at_ = (3, (a5 : Int)) := by unfold wE; rw [hwu, if_pos hu2, h5]
        have hfd : (List.range w).find? (fun x => decide ((wE bs (2 + 35 * i + 14 * x)).1 ≠ 0)) = some j := by
          rw [List.find?_range_eq_some]
          refine ⟨?_, by simpa using hlt3, fun x hx => by simpa using hgw x hx⟩
          rw [hat, hwE]; rfl
        have d0 : decB bs ln = ([], [], 3, (a5 : Int)) := by
          unfold decB
          rw [hm, hw, hal, if_neg (by omega), if_neg (by omega), if_neg (by omega), hf1]
          dsimp only
          rw [hfd]
          dsimp only
          rw [hat, hwE]
        refine JS_go (tbOk _) 99 fun x hx => ?_
        simp only [RN, ↓reduceIte, ↓get8, reduceCtorEq, Nat.reduceLT, Nat.reduceEqDiff, Nat.reduceAdd, Nat.reduceMul, Nat.reduceLeDiff, Nat.reduceSub, Int.reduceToNat, Int.reduceNeg, Nat.reduceBEq, TY, e1, e2, x1, x2, y5, v5, hu1, g0, g1, g2, g3, g4, g5, g6, g7, g8, g9, g10, g11, g12, g13, g14, g15, g16, g17, Nat.add_assoc, Nat.left_eq_add, Nat.add_eq_left, Nat.add_left_cancel_iff] at hx
        subst hx
        refine ⟨_, _, rfl, by first | trivial | omega | (simp only [and_true, true_and]; omega), ?_⟩
        refine at_cond (fun _ => ?_) (fun h => nomatch h)
        refine JS_go (tbOk _) 99 fun x hx => ?_
        simp only [RN, ↓reduceIte, ↓get8, reduceCtorEq, Nat.reduceLT, Nat.reduceEqDiff, Nat.reduceAdd, Nat.reduceMul, Nat.reduceLeDiff, Nat.reduceSub, Int.reduceToNat, Int.reduceNeg, Nat.reduceBEq, TY, y5, g0, g1, g2, g3, g4, g5, g6, g7, g8, g9, g10, g11, g12, g13, g14, g15, g16, g17, Nat.add_assoc, Nat.left_eq_add, Nat.add_eq_left, Nat.add_left_cancel_iff] at hx
        subst hx
        refine ⟨_, _, rfl, by first | trivial | omega | (simp only [and_true, true_and]; omega), ?_⟩
        refine at_ret (in_retI (ret_endK (by simp only [RN, ↓reduceIte, ↓get8, reduceCtorEq, Nat.reduceLT, Nat.reduceEqDiff, Nat.reduceAdd, Nat.reduceMul, Nat.reduceLeDiff, Nat.reduceSub, Int.reduceToNat, Int.reduceNeg, Nat.reduceBEq, TY, rK, g0, g1, g2, g3, g4, g5, g6, g7, g8, g9, g10, g11, g12, g13, g14, g15, g16, g17, Nat.add_assoc, Nat.left_eq_add, Nat.add_eq_left, Nat.add_left_cancel_iff]; rfl) rfl (by first | trivial | omega) ⟨_, leL_look (by simp only [RN, ↓reduceIte, ↓get8, reduceCtorEq, Nat.reduceLT, Nat.reduceEqDiff, Nat.reduceAdd, Nat.reduceMul, Nat.reduceLeDiff, Nat.reduceSub, Int.reduceToNat, Int.reduceNeg, Nat.reduceBEq, rK, g0, g1, g2, g3, g4, g5, g6, g7, g8, g9, g10, g11, g12, g13, g14, g15, g16, g17, Nat.add_assoc, Nat.left_eq_add, Nat.add_eq_left, Nat.add_left_cancel_iff]; first | done | trivial), dec_err d0 (by show nx ≤ n2; omega)⟩))
      have hu2 : ¬ 1 < u := by have := of_decide_eq_false hu1; omega
      have hwE : wE bs at_ = ((wS bs at_).2, (a6 : Int)) := by unfold wE; rw [hwu, if_neg hu2, h6]
      have hN := refnum_c bs ln cp a6 8 q n2 ro loose (by omega) (by omega) hl
      have hO := Of_c (le ((bs.drop a6).take 8)) n2 (le8 _ 8 (by omega))
      have hkE : ofS (le ((bs.drop a6).take 8)) = wS bs at_ := by unfold wS; rw [h6]
      rw [hkE] at hO
      refine JS_go (tbOk _) 99 fun x hx => ?_
      simp only [RN, ↓reduceIte, ↓get8, reduceCtorEq, Nat.reduceLT, Nat.reduceEqDiff, Nat.reduceAdd, Nat.reduceMul, Nat.reduceLeDiff, Nat.reduceSub, Int.reduceToNat, Int.reduceNeg, Nat.reduceBEq, TY, e1, e2, x1, x2, y5, v5, hu1, g0, g1, g2, g3, g4, g5, g6, g7, g8, g9, g10, g11, g12, g13, g14, g15, g16, g17, Nat.add_assoc, Nat.left_eq_add, Nat.add_eq_left, Nat.add_left_cancel_iff] at hx
      subst hx
      refine ⟨_, _, rfl, by first | trivial | omega | (simp only [and_true, true_and]; omega), ?_⟩
      refine at_cond (fun h => nomatch h) (fun _ => ?_)
      refine JS_go (tbOk _) 99 fun x hx => ?_
      simp only [RN, ↓reduceIte, ↓get8, reduceCtorEq, Nat.reduceLT, Nat.reduceEqDiff, Nat.reduceAdd, Nat.reduceMul, Nat.reduceLeDiff, Nat.reduceSub, Int.reduceToNat, Int.reduceNeg, Nat.reduceBEq, TY, y6, g0, g1, g2, g3, g4, g5, g6, g7, g8, g9, g10, g11, g12, g13, g14, g15, g16, g17, Nat.add_assoc, Nat.left_eq_add, Nat.add_eq_left, Nat.add_left_cancel_iff] at hx
      subst hx
      refine ⟨_, _, rfl, by first | trivial | omega | (simp only [and_true, true_and]; omega), ?_⟩
      refine at_callK (hN) (by simp only [RN, ↓reduceIte, ↓get8, reduceCtorEq, Nat.reduceLT, Nat.reduceEqDiff, Nat.reduceAdd, Nat.reduceMul, Nat.reduceLeDiff, Nat.reduceSub, Int.reduceToNat, Int.reduceNeg, Nat.reduceBEq, rK, g0, g1, g2, g3, g4, g5, g6, g7, g8, g9, g10, g11, g12, g13, g14, g15, g16, g17, Nat.add_assoc, Nat.left_eq_add, Nat.add_eq_left, Nat.add_left_cancel_iff]; first | done | trivial) (by simp only [RN, ↓reduceIte, ↓get8, reduceCtorEq, Nat.reduceLT, Nat.reduceEqDiff, Nat.reduceAdd, Nat.reduceMul, Nat.reduceLeDiff, Nat.reduceSub, Int.reduceToNat, Int.reduceNeg, Nat.reduceBEq, rK, g0, g1, g2, g3, g4, g5, g6, g7, g8, g9, g10, g11, g12, g13, g14, g15, g16, g17, Nat.add_assoc, Nat.left_eq_add, Nat.add_eq_left, Nat.add_left_cancel_iff]; rfl) ?_
      refine JS_go (tbOk _) 99 fun x hx => ?_
      simp only [RN, ↓reduceIte, ↓get8, reduceCtorEq, Nat.reduceLT, Nat.reduceEqDiff, Nat.reduceAdd, Nat.reduceMul, Nat.reduceLeDiff, Nat.reduceSub, Int.reduceToNat, Int.reduceNeg, Nat.reduceBEq, TY, rK, g0, g1, g2, g3, g4, g5, g6, g7, g8, g9, g10, g11, g12, g13, g14, g15, g16, g17, Nat.add_assoc, Nat.left_eq_add, Nat.add_eq_left, Nat.add_left_cancel_iff] at hx
      subst hx
      refine ⟨_, _, rfl, by first | trivial | omega | (simp only [and_true, true_and]; omega), ?_⟩
      refine at_callK (hO) (by simp only [RN, ↓reduceIte, ↓get8, reduceCtorEq, Nat.reduceLT, Nat.reduceEqDiff, Nat.reduceAdd, Nat.reduceMul, Nat.reduceLeDiff, Nat.reduceSub, Int.reduceToNat, Int.reduceNeg, Nat.reduceBEq, rK, g0, g1, g2, g3, g4, g5, g6, g7, g8, g9, g10, g11, g12, g13, g14, g15, g16, g17, Nat.add_assoc, Nat.left_eq_add, Nat.add_eq_left, Nat.add_left_cancel_iff]; first | done | trivial) (by simp only [RN, ↓reduceIte, ↓get8, reduceCtorEq, Nat.reduceLT, Nat.reduceEqDiff, Nat.reduceAdd, Nat.reduceMul, Nat.reduceLeDiff, Nat.reduceSub, Int.reduceToNat, Int.reduceNeg, Nat.reduceBEq, rK, g0, g1, g2, g3, g4, g5, g6, g7, g8, g9, g10, g11, g12, g13, g14, g15, g16, g17, Nat.add_assoc, Nat.left_eq_add, Nat.add_eq_left, Nat.add_left_cancel_iff]; rfl) ?_
      refine JS_go (tbOk _) 99 fun x hx => ?_
      simp only [RN, ↓reduceIte, ↓get8, reduceCtorEq, Nat.reduceLT, Nat.reduceEqDiff, Nat.reduceAdd, Nat.reduceMul, Nat.reduceLeDiff, Nat.reduceSub, Int.reduceToNat, Int.reduceNeg, Nat.reduceBEq, TY, rK, g0, g1, g2, g3, g4, g5, g6, g7, g8, g9, g10, g11, g12, g13, g14, g15, g16, g17, Nat.add_assoc, Nat.left_eq_add, Nat.add_eq_left, Nat.add_left_cancel_iff] at hx
      subst hx
      refine ⟨_, _, rfl, by first | trivial | omega | (simp only [and_true, true_and]; omega), ?_⟩
      refine at_cond (fun h => ?_) (fun h => ?_)
      · have hc : ¬ (wS bs at_).2 = 0 := by simpa using h
        have hfd : (List.range w).find? (fun x => decide ((wE bs (2 + 35 * i + 14 * x)).1 ≠ 0)) = some j := by
          rw [List.find?_range_eq_some]
          refine ⟨?_, by simpa using hlt3, fun x hx => by simpa using hgw x hx⟩
          rw [hat, hwE]; simpa using hc
        have d0 : decB bs ln = ([], [], (wS bs at_).2, (a6 : Int)) := by
          unfold decB
          rw [hm, hw, hal, if_neg (by omega), if_neg (by omega), if_neg (by omega), hf1]
          dsimp only
          rw [hfd]
          dsimp only
          rw [hat, hwE]
        refine JS_go (tbOk _) 99 fun x hx => ?_
        simp only [RN, ↓reduceIte, ↓get8, reduceCtorEq, Nat.reduceLT, Nat.reduceEqDiff, Nat.reduceAdd, Nat.reduceMul, Nat.reduceLeDiff, Nat.reduceSub, Int.reduceToNat, Int.reduceNeg, Nat.reduceBEq, TY, y6, rK, g0, g1, g2, g3, g4, g5, g6, g7, g8, g9, g10, g11, g12, g13, g14, g15, g16, g17, Nat.add_assoc, Nat.left_eq_add, Nat.add_eq_left, Nat.add_left_cancel_iff] at hx
        subst hx
        refine ⟨_, _, rfl, by first | trivial | omega | (simp only [and_true, true_and]; omega), ?_⟩
        refine at_ret (in_retI (ret_endK (by simp only [RN, ↓reduceIte, ↓get8, reduceCtorEq, Nat.reduceLT, Nat.reduceEqDiff, Nat.reduceAdd, Nat.reduceMul, Nat.reduceLeDiff, Nat.reduceSub, Int.reduceToNat, Int.reduceNeg, Nat.reduceBEq, TY, rK, g0, g1, g2, g3, g4, g5, g6, g7, g8, g9, g10, g11, g12, g13, g14, g15, g16, g17, Nat.add_assoc, Nat.left_eq_add, Nat.add_eq_left, Nat.add_left_cancel_iff]; rfl) rfl (by first | trivial | omega) ⟨_, leL_look (by simp only [RN, ↓reduceIte, ↓get8, reduceCtorEq, Nat.reduceLT, Nat.reduceEqDiff, Nat.reduceAdd, Nat.reduceMul, Nat.reduceLeDiff, Nat.reduceSub, Int.reduceToNat, Int.reduceNeg, Nat.reduceBEq, rK, g0, g1, g2, g3, g4, g5, g6, g7, g8, g9, g10, g11, g12, g13, g14, g15, g16, g17, Nat.add_assoc, Nat.left_eq_add, Nat.add_eq_left, Nat.add_left_cancel_iff]; first | done | trivial), dec_err d0 (by show nx ≤ n2; omega)⟩))
      have hc : (wS bs at_).2 = 0 := by simpa using h
      obtain ⟨sp, hsp⟩ : ∃ sp, (wS bs at_).1 = sp := ⟨_, rfl⟩
      have hkw : wX bs at_ = ⟨z2, zn, sp, z3, z4, ((u : Nat) : Int) == 1⟩ := by
        unfold wX wpAt
        rw [hwu, show at_ + 0 = at_ from rfl, h2, h3, h4, k2, k3, k4, kn, hsp]
      have hN2 := refnum_c bs ln cp at_ 2 q n2 ro loose (by omega) (by omega) hl
      rw [kn] at hN2
      have c2 : [.int .i64 (z2 : Int), .int .i64 (zn : Int), .int .i64 sp, .int .i64 (z3 : Int), .int .i64 (z4 : Int), .bool (((u : Nat) : Int) == 1)] = wcells (wsF bs i 1) := by rw [hj0] at hat; simp only [wsF, List.range_one, List.map_cons, List.map_nil, wcells, List.flatMap_cons, List.flatMap_nil, hat, hkw, Wp.cells, List.append_nil]
      refine JS_go (tbOk _) 99 fun x hx => ?_
      simp only [RN, ↓reduceIte, ↓get8, reduceCtorEq, Nat.reduceLT, Nat.reduceEqDiff, Nat.reduceAdd, Nat.reduceMul, Nat.reduceLeDiff, Nat.reduceSub, Int.reduceToNat, Int.reduceNeg, Nat.reduceBEq, TY] at hx
      subst hx
      refine ⟨_, _, rfl, by first | trivial | omega | (simp only [and_true, true_and]; omega), ?_⟩
      rw [CRJ]
      refine JS_draw (tbOk _) { wr := [(189, 0), (190, 1), (191, 2), (192, 3), (193, 4), (194, 5), (195, 6), (196, 7), (197, 8), (198, 9), (199, 10), (200, 11), (201, 12), (202, 13), (203, 14), (204, 15), (205, 16), (206, 17), (207, 18), (208, 19), (209, 20), (210, 21), (211, 22), (212, 23), (213, 24), (214, 25), (215, 26), (216, 27), (217, 28), (218, 29), (219, 30), (220, 31), (221, 32), (222, 33), (223, 34)], anc := [[], [0], [], [], [2, 3], [2, 3, 4], [], [], [7], [6, 7, 8], [6, 7, 8, 9], [6, 7, 8, 9, 10], [], [], [13], [12, 13, 14], [12, 13, 14, 15], [12, 13, 14, 15, 16], [], [], [19], [18, 19, 20], [18, 19, 20, 21], [18, 19, 20, 21, 22], [], [], [25], [24, 25, 26], [24, 25, 26, 27], [24, 25, 26, 27, 28], [], [2, 3, 4, 5, 6, 7, 8, 9, 10, 11, 12, 13, 14, 15, 16, 17, 18, 19, 20, 21, 22, 23, 24, 25, 26, 27, 28, 29, 30], [2, 3, 4, 5, 6, 7, 8, 9, 10, 11, 12, 13, 14, 15, 16, 17, 18, 19, 20, 21, 22, 23, 24, 25, 26, 27, 28, 29, 30, 31], [0, 1, 2, 3, 4, 5, 6, 7, 8, 9, 10, 11, 12, 13, 14, 15, 16, 17, 18, 19, 20, 21, 22, 23, 24, 25, 26, 27, 28, 29, 30, 31, 32], [0, 1, 2, 3, 4, 5, 6, 7, 8, 9, 10, 11, 12, 13, 14, 15, 16, 17, 18, 19, 20, 21, 22, 23, 24, 25, 26, 27, 28, 29, 30, 31, 32, 33], [0, 1, 2, 3, 4, 5, 6, 7, 8, 9, 10, 11, 12, 13, 14, 15, 16, 17, 18, 19, 20, 21, 22, 23, 24, 25, 26, 27, 28, 29, 30, 31, 32, 33, 34]], ch := [(4, []), (32, []), (33, []), (35, [])], ac := [[0, 1, 2, 3, 6, 7, 8, 9, 10, 11, 12, 13, 14, 15, 16, 17, 18, 19, 20, 21, 22, 23, 24, 25, 26, 27, 28, 29, 30], [0, 1, 5, 6, 7, 8, 9, 10, 11, 12, 13, 14, 15, 16, 17, 18, 19, 20, 21, 22, 23, 24, 25, 26, 27, 28, 29, 30, 31], [0, 1], [34], []], nw := [[0, 1, 2, 3, 6, 7, 8, 9, 10, 11, 12, 13, 14, 15, 16, 17, 18, 19, 20, 21, 22, 23, 24, 25, 26, 27, 28, 29, 30], [5, 31], [], [34], []], fl := [[], [0, 1, 6, 7, 8, 9, 10, 11, 12, 13, 14, 15, 16, 17, 18, 19, 20, 21, 22, 23, 24, 25, 26, 27, 28, 29, 30], [0, 1], [], []] } (by kernel_rfl) (by kernel_rfl) (by kernel_rfl) (by kernel_rfl) ?_
      refine JS_go (tbOk _) 99 fun x hx => ?_
      simp only [RN, ↓reduceIte, ↓get8, reduceCtorEq, Nat.reduceLT, Nat.reduceEqDiff, Nat.reduceAdd, Nat.reduceMul, Nat.reduceLeDiff, Nat.reduceSub, Int.reduceToNat, Int.reduceNeg, Nat.reduceBEq, TY, y2, y3, y4, y5, v2, v3, v4, v5, s2, s3, s4, hsp, rK, g0, g1, g2, g3, g4, g5, g6, g7, g8, g9, g10, g11, g12, g13, g14, g15, g16, g17, Nat.add_assoc, Nat.left_eq_add, Nat.add_eq_left, Nat.add_left_cancel_iff] at hx
      subst hx
      refine ⟨_, _, rfl, ?_, ?_⟩
      · omega
      refine at_dcallG hN2 (by simp only [RN, ↓reduceIte, ↓get8, reduceCtorEq, Nat.reduceLT, Nat.reduceEqDiff, Nat.reduceAdd, Nat.reduceMul, Nat.reduceLeDiff, Nat.reduceSub, Int.reduceToNat, Int.reduceNeg, Nat.reduceBEq, rK, g0, g1, g2, g3, g4, g5, g6, g7, g8, g9, g10, g11, g12, g13, g14, g15, g16, g17, Nat.add_assoc, Nat.left_eq_add, Nat.add_eq_left, Nat.add_left_cancel_iff]; first | done | trivial) ?_
      rintro o2 L' n4 ⟨rfl, rfl, hn4⟩
      subst n4
      refine JS_go (tbOk _) 99 fun x hx => ?_
      simp only [RN, ↓reduceIte, ↓get8, reduceCtorEq, Nat.reduceLT, Nat.reduceEqDiff, Nat.reduceAdd, Nat.reduceMul, Nat.reduceLeDiff, Nat.reduceSub, Int.reduceToNat, Int.reduceNeg, Nat.reduceBEq, TY, y2, y3, y4, y5, v2, v3, v4, v5, s2, s3, s4, sn, hsp, rK, hw3, g0, g1, g2, g3, g4, g5, g6, g7, g8, g9, g10, g11, g12, g13, g14, g15, g16, g17, Nat.add_assoc, Nat.left_eq_add, Nat.add_eq_left, Nat.add_left_cancel_iff] at hx
      subst hx
      refine ⟨_, _, rfl, ?_, ?_⟩
      · omega
      refine at_done (in_nextI (j + 1, some (n2 + 1), n2 + 2) ⟨hlt3, by show n ≤ n2 + 2; omega, nofun, fun c hc => ?_, fun x hx => ?_⟩ (by show w - (j + 1) < w - j; omega) ?_)
      · cases hc; exact ⟨by omega, by show n2 + 1 < n2 + 2; omega⟩
      · rcases Nat.lt_or_ge x j with h | h
        · exact hgw x h
        · obtain rfl : x = j := by have : x < j + 1 := hx; omega
          rw [hat, hwE]; exact hc
      · dsimp only
        refine ⟨rfl, leL_look (by simp only [RN, ↓reduceIte, ↓get8, reduceCtorEq, Nat.reduceLT, Nat.reduceEqDiff, Nat.reduceAdd, Nat.reduceMul, Nat.reduceLeDiff, Nat.reduceSub, Int.reduceToNat, Int.reduceNeg, Nat.reduceBEq]; first | done | trivial), ?_, Nat.le_refl _, rfl⟩
        simp only [slv, wpblk]
        refine leT (X := [_, _, _, _]) ?_ ?_
        · simp only [RN, ↓reduceIte, ↓get8, reduceCtorEq, Nat.reduceLT, Nat.reduceEqDiff, Nat.reduceAdd, Nat.reduceMul, Nat.reduceLeDiff, Nat.reduceSub, Int.reduceToNat, Int.reduceNeg, Nat.reduceBEq, ← c2, rK, hj1, g0, g1, g2, g3, g4, g5, g6, g7, g8, g9, g10, g11, g12, g13, g14, g15, g16, g17, Nat.add_assoc, Nat.left_eq_add, Nat.add_eq_left, Nat.add_left_cancel_iff]; first | done | trivial
        · intro id c h
          have u0 := kbl id c h
          have w0 : ¬ id = nx := by omega
          have w1 : ¬ id = X := by omega
          have w2 : ¬ id = q := by omega
          have w3 : ¬ id = n2 := by omega
          have w4 : ¬ id = n2 + 1 := by omega
          simp only [RN, ↓reduceIte, ↓get8, reduceCtorEq, Nat.reduceLT, Nat.reduceEqDiff, Nat.reduceAdd, Nat.reduceMul, Nat.reduceLeDiff, Nat.reduceSub, Int.reduceToNat, Int.reduceNeg, Nat.reduceBEq, rK, w0, w1, w2, w3, w4, g0, g1, g2, g3, g4, g5, g6, g7, g8, g9, g10, g11, g12, g13, g14, g15, g16, g17, Nat.add_assoc, Nat.left_eq_add, Nat.add_eq_left, Nat.add_left_cancel_iff, h]
    | some b =>
      obtain ⟨hb1, hb2⟩ := hsw b rfl
      have dK := kbd b hb1
      have g0 : ¬ nx = X := by omega
      have g1 : ¬ nx = q := by omega
      have g2 : ¬ nx = b := by omega
      have g3 : ¬ nx = n2 := by omega
      have g4 : ∀ i, ¬ nx = n2 + i := by intro i; omega
      have g5 : ¬ n2 = nx := by omega
      have g6 : ∀ i, ¬ n2 + i = nx := by intro i; omega
      have g7 : ¬ X = nx := by omega
      have g8 : ¬ X = q := by omega
      have g9 : ¬ X = b := by omega
      have g10 : ¬ X = n2 := by omega
      have g11 : ∀ i, ¬ X = n2 + i := by intro i; omega
      have g12 : ¬ n2 = X := by omega
      have g13 : ∀ i, ¬ n2 + i = X := by intro i; omega
      have g14 : ¬ q = nx := by omega
      have g15 : ¬ q = X := by omega
      have g16 : ¬ q = b := by omega
      have g17 : ¬ q = n2 := by omega
      have g18 : ∀ i, ¬ q = n2 + i := by intro i; omega
      have g19 : ¬ n2 = q := by omega
      have g20 : ∀ i, ¬ n2 + i = q := by intro i; omega
      have g21 : ¬ b = nx := by omega
      have g22 : ¬ b = X := by omega
      have g23 : ¬ b = q := by omega
      have g24 : ¬ b = n2 := by omega
      have g25 : ∀ i, ¬ b = n2 + i := by intro i; omega
      have g26 : ¬ n2 = b := by omega
      have g27 : ∀ i, ¬ n2 + i = b := by intro i; omega
      simp only [slv, wpblk]
      cases hu1 : decide ((u : Int) > 1)
      case true =>
        skip
        have hu2 : 1 < u := by have := of_decide_eq_true hu1; omega
        have hwE : wE bs at_ = (3, (a5 : Int)) := by unfold wE; rw [hwu, if_pos hu2, h5]
        have hfd : (List.range w).find? (fun x => decide ((wE bs (2 + 35 * i + 14 * x)).1 ≠ 0)) = some j := by
          rw [List.find?_range_eq_some]
          refine ⟨?_, by simpa using hlt3, fun x hx => by simpa using hgw x hx⟩
          rw [hat, hwE]; rfl
        have d0 : decB bs ln = ([], [], 3, (a5 : Int)) := by
          unfold decB
          rw [hm, hw, hal, if_neg (by omega), if_neg (by omega), if_neg (by omega), hf1]
          dsimp only
          rw [hfd]
          dsimp only
          rw [hat, hwE]
        refine JS_go (tbOk _) 99 fun x hx => ?_
        simp only [RN, ↓reduceIte, ↓get8, reduceCtorEq, Nat.reduceLT, Nat.reduceEqDiff, Nat.reduceAdd, Nat.reduceMul, Nat.reduceLeDiff, Nat.reduceSub, Int.reduceToNat, Int.reduceNeg, Nat.reduceBEq, TY, e1, e2, x1, x2, y5, v5, hu1, g0, g1, g2, g3, g4, g5, g6, g7, g8, g9, g10, g11, g12, g13, g14, g15, g16, g17, g18, g19, g20, g21, g22, g23, g24, g25, g26, g27, Nat.add_assoc, Nat.left_eq_add, Nat.add_eq_left, Nat.add_left_cancel_iff] at hx
        subst hx
        refine ⟨_, _, rfl, by first | trivial | omega | (simp only [and_true, true_and]; omega), ?_⟩
        refine at_cond (fun _ => ?_) (fun h => nomatch h)
        refine JS_go (tbOk _) 99 fun x hx => ?_
        simp only [RN, ↓reduceIte, ↓get8, reduceCtorEq, Nat.reduceLT, Nat.reduceEqDiff, Nat.reduceAdd, Nat.reduceMul, Nat.reduceLeDiff, Nat.reduceSub, Int.reduceToNat, Int.reduceNeg, Nat.reduceBEq, TY, y5, g0, g1, g2, g3, g4, g5, g6, g7, g8, g9, g10, g11, g12, g13, g14, g15, g16, g17, g18, g19, g20, g21, g22, g23, g24, g25, g26, g27, Nat.add_assoc, Nat.left_eq_add, Nat.add_eq_left, Nat.add_left_cancel_iff] at hx
        subst hx
        refine ⟨_, _, rfl, by first | trivial | omega | (simp only [and_true, true_and]; omega), ?_⟩
        refine at_ret (in_retI (ret_endK (by simp only [RN, ↓reduceIte, ↓get8, reduceCtorEq, Nat.reduceLT, Nat.reduceEqDiff, Nat.reduceAdd, Nat.reduceMul, Nat.reduceLeDiff, Nat.reduceSub, Int.reduceToNat, Int.reduceNeg, Nat.reduceBEq, TY, rK, g0, g1, g2, g3, g4, g5, g6, g7, g8, g9, g10, g11, g12, g13, g14, g15, g16, g17, g18, g19, g20, g21, g22, g23, g24, g25, g26, g27, Nat.add_assoc, Nat.left_eq_add, Nat.add_eq_left, Nat.add_left_cancel_iff]; rfl) rfl (by first | trivial | omega) ⟨_, leL_look (by simp only [RN, ↓reduceIte, ↓get8, reduceCtorEq, Nat.reduceLT, Nat.reduceEqDiff, Nat.reduceAdd, Nat.reduceMul, Nat.reduceLeDiff, Nat.reduceSub, Int.reduceToNat, Int.reduceNeg, Nat.reduceBEq, rK, g0, g1, g2, g3, g4, g5, g6, g7, g8, g9, g10, g11, g12, g13, g14, g15, g16, g17, g18, g19, g20, g21, g22, g23, g24, g25, g26, g27, Nat.add_assoc, Nat.left_eq_add, Nat.add_eq_left, Nat.add_left_cancel_iff]; first | done | trivial), dec_err d0 (by show nx ≤ n2; omega)⟩))
      have hu2 : ¬ 1 < u := by have := of_decide_eq_false hu1; omega
      have hwE : wE bs at_ = ((wS bs at_).2, (a6 : Int)) := by unfold wE; rw [hwu, if_neg hu2, h6]
      have hN := refnum_c bs ln cp a6 8 q n2 ro loose (by omega) (by omega) hl
      have hO := Of_c (le ((bs.drop a6).take 8)) n2 (le8 _ 8 (by omega))
      have hkE : ofS (le ((bs.drop a6).take 8)) = wS bs at_ := by unfold wS; rw [h6]
      rw [hkE] at hO
      refine JS_go (tbOk _) 99 fun x hx => ?_
      simp only [RN, ↓reduceIte, ↓get8, reduceCtorEq, Nat.reduceLT, Nat.reduceEqDiff, Nat.reduceAdd, Nat.reduceMul, Nat.reduceLeDiff, Nat.reduceSub, Int.reduceToNat, Int.reduceNeg, Nat.reduceBEq, TY, e1, e2, x1, x2, y5, v5, hu1, g0, g1, g2, g3, g4, g5, g6, g7, g8, g9, g10, g11, g12, g13, g14, g15, g16, g17, g18, g19, g20, g21, g22, g23, g24, g25, g26, g27, Nat.add_assoc, Nat.left_eq_add, Nat.add_eq_left, Nat.add_left_cancel_iff] at hx
      subst hx
      refine ⟨_, _, rfl, by first | trivial | omega | (simp only [and_true, true_and]; omega), ?_⟩
      refine at_cond (fun h => nomatch h) (fun _ => ?_)
      refine JS_go (tbOk _) 99 fun x hx => ?_
      simp only [RN, ↓reduceIte, ↓get8, reduceCtorEq, Nat.reduceLT, Nat.reduceEqDiff, Nat.reduceAdd, Nat.reduceMul, Nat.reduceLeDiff, Nat.reduceSub, Int.reduceToNat, Int.reduceNeg, Nat.reduceBEq, TY, y6, g0, g1, g2, g3, g4, g5, g6, g7, g8, g9, g10, g11, g12, g13, g14, g15, g16, g17, g18, g19, g20, g21, g22, g23, g24, g25, g26, g27, Nat.add_assoc, Nat.left_eq_add, Nat.add_eq_left, Nat.add_left_cancel_iff] at hx
      subst hx
      refine ⟨_, _, rfl, by first | trivial | omega | (simp only [and_true, true_and]; omega), ?_⟩
      refine at_callK (hN) (by simp only [RN, ↓reduceIte, ↓get8, reduceCtorEq, Nat.reduceLT, Nat.reduceEqDiff, Nat.reduceAdd, Nat.reduceMul, Nat.reduceLeDiff, Nat.reduceSub, Int.reduceToNat, Int.reduceNeg, Nat.reduceBEq, rK, g0, g1, g2, g3, g4, g5, g6, g7, g8, g9, g10, g11, g12, g13, g14, g15, g16, g17, g18, g19, g20, g21, g22, g23, g24, g25, g26, g27, Nat.add_assoc, Nat.left_eq_add, Nat.add_eq_left, Nat.add_left_cancel_iff]; first | done | trivial) (by simp only [RN, ↓reduceIte, ↓get8, reduceCtorEq, Nat.reduceLT, Nat.reduceEqDiff, Nat.reduceAdd, Nat.reduceMul, Nat.reduceLeDiff, Nat.reduceSub, Int.reduceToNat, Int.reduceNeg, Nat.reduceBEq, rK, g0, g1, g2, g3, g4, g5, g6, g7, g8, g9, g10, g11, g12, g13, g14, g15, g16, g17, g18, g19, g20, g21, g22, g23, g24, g25, g26, g27, Nat.add_assoc, Nat.left_eq_add, Nat.add_eq_left, Nat.add_left_cancel_iff]; rfl) ?_
      refine JS_go (tbOk _) 99 fun x hx => ?_
      simp only [RN, ↓reduceIte, ↓get8, reduceCtorEq, Nat.reduceLT, Nat.reduceEqDiff, Nat.reduceAdd, Nat.reduceMul, Nat.reduceLeDiff, Nat.reduceSub, Int.reduceToNat, Int.reduceNeg, Nat.reduceBEq, TY, rK, g0, g1, g2, g3, g4, g5, g6, g7, g8, g9, g10, g11, g12, g13, g14, g15, g16, g17, g18, g19, g20, g21, g22, g23, g24, g25, g26, g27, Nat.add_assoc, Nat.left_eq_add, Nat.add_eq_left, Nat.add_left_cancel_iff] at hx
      subst hx
      refine ⟨_, _, rfl, by first | trivial | omega | (simp only [and_true, true_and]; omega), ?_⟩
      refine at_callK (hO) (by simp only [RN, ↓reduceIte, ↓get8, reduceCtorEq, Nat.reduceLT, Nat.reduceEqDiff, Nat.reduceAdd, Nat.reduceMul, Nat.reduceLeDiff, Nat.reduceSub, Int.reduceToNat, Int.reduceNeg, Nat.reduceBEq, rK, g0, g1, g2, g3, g4, g5, g6, g7, g8, g9, g10, g11, g12, g13, g14, g15, g16, g17, g18, g19, g20, g21, g22, g23, g24, g25, g26, g27, Nat.add_assoc, Nat.left_eq_add, Nat.add_eq_left, Nat.add_left_cancel_iff]; first | done | trivial) (by simp only [RN, ↓reduceIte, ↓get8, reduceCtorEq, Nat.reduceLT, Nat.reduceEqDiff, Nat.reduceAdd, Nat.reduceMul, Nat.reduceLeDiff, Nat.reduceSub, Int.reduceToNat, Int.reduceNeg, Nat.reduceBEq, rK, g0, g1, g2, g3, g4, g5, g6, g7, g8, g9, g10, g11, g12, g13, g14, g15, g16, g17, g18, g19, g20, g21, g22, g23, g24, g25, g26, g27, Nat.add_assoc, Nat.left_eq_add, Nat.add_eq_left, Nat.add_left_cancel_iff]; rfl) ?_
      refine JS_go (tbOk _) 99 fun x hx => ?_
      simp only [RN, ↓reduceIte, ↓get8, reduceCtorEq, Nat.reduceLT, Nat.reduceEqDiff, Nat.reduceAdd, Nat.reduceMul, Nat.reduceLeDiff, Nat.reduceSub, Int.reduceToNat, Int.reduceNeg, Nat.reduceBEq, TY, rK, g0, g1, g2, g3, g4, g5, g6, g7, g8, g9, g10, g11, g12, g13, g14, g15, g16, g17, g18, g19, g20, g21, g22, g23, g24, g25, g26, g27, Nat.add_assoc, Nat.left_eq_add, Nat.add_eq_left, Nat.add_left_cancel_iff] at hx
      subst hx
      refine ⟨_, _, rfl, by first | trivial | omega | (simp only [and_true, true_and]; omega), ?_⟩
      refine at_cond (fun h => ?_) (fun h => ?_)
      · have hc : ¬ (wS bs at_).2 = 0 := by simpa using h
        have hfd : (List.range w).find? (fun x => decide ((wE bs (2 + 35 * i + 14 * x)).1 ≠ 0)) = some j := by
          rw [List.find?_range_eq_some]
          refine ⟨?_, by simpa using hlt3, fun x hx => by simpa using hgw x hx⟩
          rw [hat, hwE]; simpa using hc
        have d0 : decB bs ln = ([], [], (wS bs at_).2, (a6 : Int)) := by
          unfold decB
          rw [hm, hw, hal, if_neg (by omega), if_neg (by omega), if_neg (by omega), hf1]
          dsimp only
          rw [hfd]
          dsimp only
          rw [hat, hwE]
        refine JS_go (tbOk _) 99 fun x hx => ?_
        simp only [RN, ↓reduceIte, ↓get8, reduceCtorEq, Nat.reduceLT, Nat.reduceEqDiff, Nat.reduceAdd, Nat.reduceMul, Nat.reduceLeDiff, Nat.reduceSub, Int.reduceToNat, Int.reduceNeg, Nat.reduceBEq, TY, y6, rK, g0, g1, g2, g3, g4, g5, g6, g7, g8, g9, g10, g11, g12, g13, g14, g15, g16, g17, g18, g19, g20, g21, g22, g23, g24, g25, g26, g27, Nat.add_assoc, Nat.left_eq_add, Nat.add_eq_left, Nat.add_left_cancel_iff] at hx
        subst hx
        refine ⟨_, _, rfl, by first | trivial | omega | (simp only [and_true, true_and]; omega), ?_⟩
        refine at_ret (in_retI (ret_endK (by simp only [RN, ↓reduceIte, ↓get8, reduceCtorEq, Nat.reduceLT, Nat.reduceEqDiff, Nat.reduceAdd, Nat.reduceMul, Nat.reduceLeDiff, Nat.reduceSub, Int.reduceToNat, Int.reduceNeg, Nat.reduceBEq, TY, rK, g0, g1, g2, g3, g4, g5, g6, g7, g8, g9, g10, g11, g12, g13, g14, g15, g16, g17, g18, g19, g20, g21, g22, g23, g24, g25, g26, g27, Nat.add_assoc, Nat.left_eq_add, Nat.add_eq_left, Nat.add_left_cancel_iff]; rfl) rfl (by first | trivial | omega) ⟨_, leL_look (by simp only [RN, ↓reduceIte, ↓get8, reduceCtorEq, Nat.reduceLT, Nat.reduceEqDiff, Nat.reduceAdd, Nat.reduceMul, Nat.reduceLeDiff, Nat.reduceSub, Int.reduceToNat, Int.reduceNeg, Nat.reduceBEq, rK, g0, g1, g2, g3, g4, g5, g6, g7, g8, g9, g10, g11, g12, g13, g14, g15, g16, g17, g18, g19, g20, g21, g22, g23, g24, g25, g26, g27, Nat.add_assoc, Nat.left_eq_add, Nat.add_eq_left, Nat.add_left_cancel_iff]; first | done | trivial), dec_err d0 (by show nx ≤ n2; omega)⟩))
      have hc : (wS bs at_).2 = 0 := by simpa using h
      obtain ⟨sp, hsp⟩ : ∃ sp, (wS bs at_).1 = sp := ⟨_, rfl⟩
      have hkw : wX bs at_ = ⟨z2, zn, sp, z3, z4, ((u : Nat) : Int) == 1⟩ := by
        unfold wX wpAt
        rw [hwu, show at_ + 0 = at_ from rfl, h2, h3, h4, k2, k3, k4, kn, hsp]
      have hN2 := refnum_c bs ln cp at_ 2 q n2 ro loose (by omega) (by omega) hl
      rw [kn] at hN2
      have c1 : (wcells (wsF bs i j)).length = j * 6 := by rw [wcells_len]; simp [wsF]
      have c2 : wcells (wsF bs i j) ++ [.int .i64 (z2 : Int), .int .i64 (zn : Int), .int .i64 sp, .int .i64 (z3 : Int), .int .i64 (z4 : Int), .bool (((u : Nat) : Int) == 1)] = wcells (wsF bs i (j + 1)) := by rw [wsF, wsF, List.range_succ, List.map_append, wcells, wcells, List.flatMap_append]; simp only [List.map_cons, List.map_nil, List.flatMap_cons, List.flatMap_nil, hat, hkw, Wp.cells, List.append_nil]
      have c3 : ¬ j + 1 ≤ j := by omega
      refine JS_go (tbOk _) 99 fun x hx => ?_
      simp only [RN, ↓reduceIte, ↓get8, reduceCtorEq, Nat.reduceLT, Nat.reduceEqDiff, Nat.reduceAdd, Nat.reduceMul, Nat.reduceLeDiff, Nat.reduceSub, Int.reduceToNat, Int.reduceNeg, Nat.reduceBEq, TY] at hx
      subst hx
      refine ⟨_, _, rfl, by first | trivial | omega | (simp only [and_true, true_and]; omega), ?_⟩
      rw [CRJ]
      refine JS_draw (tbOk _) { wr := [(189, 0), (190, 1), (191, 2), (192, 3), (193, 4), (194, 5), (195, 6), (196, 7), (197, 8), (198, 9), (199, 10), (200, 11), (201, 12), (202, 13), (203, 14), (204, 15), (205, 16), (206, 17), (207, 18), (208, 19), (209, 20), (210, 21), (211, 22), (212, 23), (213, 24), (214, 25), (215, 26), (216, 27), (217, 28), (218, 29), (219, 30), (220, 31), (221, 32), (222, 33), (223, 34)], anc := [[], [0], [], [], [2, 3], [2, 3, 4], [], [], [7], [6, 7, 8], [6, 7, 8, 9], [6, 7, 8, 9, 10], [], [], [13], [12, 13, 14], [12, 13, 14, 15], [12, 13, 14, 15, 16], [], [], [19], [18, 19, 20], [18, 19, 20, 21], [18, 19, 20, 21, 22], [], [], [25], [24, 25, 26], [24, 25, 26, 27], [24, 25, 26, 27, 28], [], [2, 3, 4, 5, 6, 7, 8, 9, 10, 11, 12, 13, 14, 15, 16, 17, 18, 19, 20, 21, 22, 23, 24, 25, 26, 27, 28, 29, 30], [2, 3, 4, 5, 6, 7, 8, 9, 10, 11, 12, 13, 14, 15, 16, 17, 18, 19, 20, 21, 22, 23, 24, 25, 26, 27, 28, 29, 30, 31], [0, 1, 2, 3, 4, 5, 6, 7, 8, 9, 10, 11, 12, 13, 14, 15, 16, 17, 18, 19, 20, 21, 22, 23, 24, 25, 26, 27, 28, 29, 30, 31, 32], [0, 1, 2, 3, 4, 5, 6, 7, 8, 9, 10, 11, 12, 13, 14, 15, 16, 17, 18, 19, 20, 21, 22, 23, 24, 25, 26, 27, 28, 29, 30, 31, 32, 33], [0, 1, 2, 3, 4, 5, 6, 7, 8, 9, 10, 11, 12, 13, 14, 15, 16, 17, 18, 19, 20, 21, 22, 23, 24, 25, 26, 27, 28, 29, 30, 31, 32, 33, 34]], ch := [(4, []), (32, []), (33, []), (35, [])], ac := [[0, 1, 2, 3, 6, 7, 8, 9, 10, 11, 12, 13, 14, 15, 16, 17, 18, 19, 20, 21, 22, 23, 24, 25, 26, 27, 28, 29, 30], [0, 1, 5, 6, 7, 8, 9, 10, 11, 12, 13, 14, 15, 16, 17, 18, 19, 20, 21, 22, 23, 24, 25, 26, 27, 28, 29, 30, 31], [0, 1], [34], []], nw := [[0, 1, 2, 3, 6, 7, 8, 9, 10, 11, 12, 13, 14, 15, 16, 17, 18, 19, 20, 21, 22, 23, 24, 25, 26, 27, 28, 29, 30], [5, 31], [], [34], []], fl := [[], [0, 1, 6, 7, 8, 9, 10, 11, 12, 13, 14, 15, 16, 17, 18, 19, 20, 21, 22, 23, 24, 25, 26, 27, 28, 29, 30], [0, 1], [], []] } (by kernel_rfl) (by kernel_rfl) (by kernel_rfl) (by kernel_rfl) ?_
      refine JS_go (tbOk _) 99 fun x hx => ?_
      simp only [RN, ↓reduceIte, ↓get8, reduceCtorEq, Nat.reduceLT, Nat.reduceEqDiff, Nat.reduceAdd, Nat.reduceMul, Nat.reduceLeDiff, Nat.reduceSub, Int.reduceToNat, Int.reduceNeg, Nat.reduceBEq, TY, y2, y3, y4, y5, v2, v3, v4, v5, s2, s3, s4, hsp, rK, g0, g1, g2, g3, g4, g5, g6, g7, g8, g9, g10, g11, g12, g13, g14, g15, g16, g17, g18, g19, g20, g21, g22, g23, g24, g25, g26, g27, Nat.add_assoc, Nat.left_eq_add, Nat.add_eq_left, Nat.add_left_cancel_iff] at hx
      subst hx
      refine ⟨_, _, rfl, ?_, ?_⟩
      · omega
      refine at_dcallG hN2 (by simp only [RN, ↓reduceIte, ↓get8, reduceCtorEq, Nat.reduceLT, Nat.reduceEqDiff, Nat.reduceAdd, Nat.reduceMul, Nat.reduceLeDiff, Nat.reduceSub, Int.reduceToNat, Int.reduceNeg, Nat.reduceBEq, rK, g0, g1, g2, g3, g4, g5, g6, g7, g8, g9, g10, g11, g12, g13, g14, g15, g16, g17, g18, g19, g20, g21, g22, g23, g24, g25, g26, g27, Nat.add_assoc, Nat.left_eq_add, Nat.add_eq_left, Nat.add_left_cancel_iff]; first | done | trivial) ?_
      rintro o2 L' n4 ⟨rfl, rfl, hn4⟩
      subst n4
      refine JS_go (tbOk _) 99 fun x hx => ?_
      simp only [RN, ↓reduceIte, ↓get8, reduceCtorEq, Nat.reduceLT, Nat.reduceEqDiff, Nat.reduceAdd, Nat.reduceMul, Nat.reduceLeDiff, Nat.reduceSub, Int.reduceToNat, Int.reduceNeg, Nat.reduceBEq, TY, y2, y3, y4, y5, v2, v3, v4, v5, s2, s3, s4, sn, hsp, rK, c1, c2, c3, dK, hw3, g0, g1, g2, g3, g4, g5, g6, g7, g8, g9, g10, g11, g12, g13, g14, g15, g16, g17, g18, g19, g20, g21, g22, g23, g24, g25, g26, g27, Nat.add_assoc, Nat.left_eq_add, Nat.add_eq_left, Nat.add_left_cancel_iff] at hx
      subst hx
      refine ⟨_, _, rfl, ?_, ?_⟩
      · omega
      refine at_done (in_nextI (j + 1, some (n2 + 1), n2 + 2) ⟨hlt3, by show n ≤ n2 + 2; omega, nofun, fun c hc => ?_, fun x hx => ?_⟩ (by show w - (j + 1) < w - j; omega) ?_)
      · cases hc; exact ⟨by omega, by show n2 + 1 < n2 + 2; omega⟩
      · rcases Nat.lt_or_ge x j with h | h
        · exact hgw x h
        · obtain rfl : x = j := by have : x < j + 1 := hx; omega
          rw [hat, hwE]; exact hc
      · dsimp only
        refine ⟨rfl, leL_look (by simp only [RN, ↓reduceIte, ↓get8, reduceCtorEq, Nat.reduceLT, Nat.reduceEqDiff, Nat.reduceAdd, Nat.reduceMul, Nat.reduceLeDiff, Nat.reduceSub, Int.reduceToNat, Int.reduceNeg, Nat.reduceBEq]; first | done | trivial), ?_, Nat.le_refl _, rfl⟩
        simp only [slv, wpblk]
        refine leT (X := [_, _, _, _]) ?_ ?_
        · simp only [RN, ↓reduceIte, ↓get8, reduceCtorEq, Nat.reduceLT, Nat.reduceEqDiff, Nat.reduceAdd, Nat.reduceMul, Nat.reduceLeDiff, Nat.reduceSub, Int.reduceToNat, Int.reduceNeg, Nat.reduceBEq, ← c2, rK, g0, g1, g2, g3, g4, g5, g6, g7, g8, g9, g10, g11, g12, g13, g14, g15, g16, g17, g18, g19, g20, g21, g22, g23, g24, g25, g26, g27, Nat.add_assoc, Nat.left_eq_add, Nat.add_eq_left, Nat.add_left_cancel_iff]; first | done | trivial
        · intro id c h
          have u0 := kbl id c h
          have w0 : ¬ id = nx := by omega
          have w1 : ¬ id = X := by omega
          have w2 : ¬ id = q := by omega
          have w3 : ¬ id = n2 := by omega
          have w4 : ¬ id = n2 + 1 := by omega
          have w5 : ¬ id = b := by omega
          simp only [RN, ↓reduceIte, ↓get8, reduceCtorEq, Nat.reduceLT, Nat.reduceEqDiff, Nat.reduceAdd, Nat.reduceMul, Nat.reduceLeDiff, Nat.reduceSub, Int.reduceToNat, Int.reduceNeg, Nat.reduceBEq, rK, w0, w1, w2, w3, w4, w5, g0, g1, g2, g3, g4, g5, g6, g7, g8, g9, g10, g11, g12, g13, g14, g15, g16, g17, g18, g19, g20, g21, g22, g23, g24, g25, g26, g27, Nat.add_assoc, Nat.left_eq_add, Nat.add_eq_left, Nat.add_left_cancel_iff, h]
  have hj2 : j = w := by simp at hge; omega
  subst hj2
  clear hge hj
  have hf2 : (List.range j).find? (fun x => decide ((wE bs (2 + 35 * i + 14 * x)).1 ≠ 0)) = none := by
    rw [List.find?_eq_none]
    intro x hx
    simpa using hgw x (by simpa using hx)
  obtain ⟨WS, hWS⟩ : ∃ WS, wsF bs i j = WS := ⟨_, rfl⟩
  have hWl : WS.length = j := by rw [← hWS]; simp [wsF]
  obtain ⟨B0, hB0⟩ : ∃ B0 : Bk, B0 = ⟨KS, [], WS, [], o, i, ow, j, false, true⟩ := ⟨_, rfl⟩
  have g0 : B0.Good n2 := by
    rw [hB0]
    refine ⟨fun h => ?_, fun h => ?_, by show KS.length ≤ 1000; omega, by show WS.length ≤ 1000; omega, fun b h => ?_, fun b h => (hsw b h).2, fun b c h1 h2 => ?_⟩
    · have := hno h; show KS = []; exact List.eq_nil_of_length_eq_zero (by omega)
    · have := hnw h; show WS = []; exact List.eq_nil_of_length_eq_zero (by omega)
    · have := (hso b h).2; omega
    · have := (hso b h1).2; have := (hsw c h2).1; omega
  have hC := refcheck_c B0 n2 g0
  obtain ⟨TB, hTB⟩ : ∃ TB, wpblk ow WS false true ++ KB = TB := ⟨_, rfl⟩
  have tbn : ∀ e ∈ TB, nx + 2 ≤ e.1 := by
    intro e he
    rw [← hTB] at he
    rcases List.mem_append.1 he with he | he
    · cases ow with
      | none => simp [wpblk] at he
      | some b => simp [wpblk] at he; subst he; have := (hsw b rfl).1; show nx + 2 ≤ b; omega
    · exact (kbn e he).1
  have tbl : ∀ id c, look id B0.H = some c → look id TB = some c := by
    intro id c h
    rw [hB0] at h
    unfold Bk.H at h
    dsimp only at h
    rw [List.append_nil, List.append_nil, look_append, hKB] at h
    rw [← hTB, look_append]
    cases hk : look id KB with
    | none => rw [hk] at h; dsimp only at h; rw [h]
    | some x =>
      rw [hk] at h
      dsimp only at h
      have : look id (wpblk ow WS false true) = none := by
        cases ow with
        | none => rfl
        | some b =>
          have h1 := kbl id x hk
          have h2 := (hsw b rfl).1
          simp only [wpblk]
          rw [look_cons, if_neg (by omega)]
          rfl
      rw [this]
      exact h
  have tbg : ∀ id c, look id B0.H = some c → nx + 2 ≤ id := by
    intro id c h
    obtain ⟨e, he, rfl⟩ := List.mem_map.1 (look_mem (tbl id c h))
    exact tbn e he
  obtain ⟨WV, hWV⟩ : ∃ WV, slv ow j j = WV := ⟨_, rfl⟩
  have hBv : B0.val = .agg #[KV, WV] := by rw [hB0]; unfold Bk.val; dsimp only; rw [hKl, hWl, hKV, hWV]
  have hBk : B0.ks = KS := by rw [hB0]
  have hBw : B0.ws = WS := by rw [hB0]
  rw [hBv, hBk, hBw] at hC
  rw [hWS, hTB, hWV]
  refine JS_go (tbOk _) 99 fun x hx => ?_
  simp only [RN, ↓reduceIte, ↓get8, reduceCtorEq, Nat.reduceLT, Nat.reduceEqDiff, Nat.reduceAdd, Nat.reduceMul, Nat.reduceLeDiff, Nat.reduceSub, Int.reduceToNat, Int.reduceNeg, Nat.reduceBEq, TY] at hx
  subst hx
  refine ⟨_, _, rfl, by first | trivial | omega | (simp only [and_true, true_and]; omega), ?_⟩
  refine at_exit (in_exitI (by simp only [RN, ↓reduceIte, ↓get8, reduceCtorEq, Nat.reduceLT, Nat.reduceEqDiff, Nat.reduceAdd, Nat.reduceMul, Nat.reduceLeDiff, Nat.reduceSub, Int.reduceToNat, Int.reduceNeg, Nat.reduceBEq]; rfl) ?_)
  have m0 : ¬ nx = X := by omega
  have m1 : ¬ nx = q := by omega
  have m2 : ¬ nx = n2 := by omega
  have m3 : ∀ i, ¬ nx = n2 + i := by intro i; omega
  have m4 : ¬ n2 = nx := by omega
  have m5 : ∀ i, ¬ n2 + i = nx := by intro i; omega
  have m6 : ¬ X = nx := by omega
  have m7 : ¬ X = q := by omega
  have m8 : ¬ X = n2 := by omega
  have m9 : ∀ i, ¬ X = n2 + i := by intro i; omega
  have m10 : ¬ n2 = X := by omega
  have m11 : ∀ i, ¬ n2 + i = X := by intro i; omega
  have m12 : ¬ q = nx := by omega
  have m13 : ¬ q = X := by omega
  have m14 : ¬ q = n2 := by omega
  have m15 : ∀ i, ¬ q = n2 + i := by intro i; omega
  have m16 : ¬ n2 = q := by omega
  have m17 : ∀ i, ¬ n2 + i = q := by intro i; omega
  refine JS_go (tbOk _) 99 fun x hx => ?_
  simp only [RN, ↓reduceIte, ↓get8, reduceCtorEq, Nat.reduceLT, Nat.reduceEqDiff, Nat.reduceAdd, Nat.reduceMul, Nat.reduceLeDiff, Nat.reduceSub, Int.reduceToNat, Int.reduceNeg, Nat.reduceBEq, TY, m0, m1, m2, m3, m4, m5, m6, m7, m8, m9, m10, m11, m12, m13, m14, m15, m16, m17, Nat.add_assoc, Nat.left_eq_add, Nat.add_eq_left, Nat.add_left_cancel_iff] at hx
  subst hx
  refine ⟨_, _, rfl, by first | trivial | omega | (simp only [and_true, true_and]; omega), ?_⟩
  refine at_quiet (K := fun o n => o = .ret (.tuple #[.int .i64 (checkB KS WS).1, .int .i64 (checkB KS WS).2]) ∧ n2 ≤ n) (hC.mono fun o F' n h => ⟨⟨h.1, h.2.2⟩, h.2.1⟩) (fun id c h => ?_) ?_
  · have u0 := tbg id c h
    have u1 := tbl id c h
    have w0 : ¬ id = nx := by omega
    have w1 : ¬ id = X := by omega
    have w2 : ¬ id = q := by omega
    simp only [RN, ↓reduceIte, ↓get8, reduceCtorEq, Nat.reduceLT, Nat.reduceEqDiff, Nat.reduceAdd, Nat.reduceMul, Nat.reduceLeDiff, Nat.reduceSub, Int.reduceToNat, Int.reduceNeg, Nat.reduceBEq, w0, w1, w2, u1]
  rintro o3 n3 ⟨rfl, hn3⟩
  refine ⟨_, by simp only [RN, ↓reduceIte, ↓get8, reduceCtorEq, Nat.reduceLT, Nat.reduceEqDiff, Nat.reduceAdd, Nat.reduceMul, Nat.reduceLeDiff, Nat.reduceSub, Int.reduceToNat, Int.reduceNeg, Nat.reduceBEq]; rfl, ?_⟩
  refine JS_go (tbOk _) 99 fun x hx => ?_
  simp only [RN, ↓reduceIte, ↓get8, reduceCtorEq, Nat.reduceLT, Nat.reduceEqDiff, Nat.reduceAdd, Nat.reduceMul, Nat.reduceLeDiff, Nat.reduceSub, Int.reduceToNat, Int.reduceNeg, Nat.reduceBEq, TY, m0, m1, m2, m3, m4, m5, m6, m7, m8, m9, m10, m11, m12, m13, m14, m15, m16, m17, Nat.add_assoc, Nat.left_eq_add, Nat.add_eq_left, Nat.add_left_cancel_iff] at hx
  subst hx
  refine ⟨_, _, rfl, by first | trivial | omega | (simp only [and_true, true_and]; omega), ?_⟩
  refine at_cond (fun h => ?_) (fun h => ?_)
  · have h0 : ¬ (checkB KS WS).1 = 0 := by simpa using h
    have d0 : decB bs ln = ([], [], (checkB KS WS).1, (checkB KS WS).2) := by
      unfold decB
      rw [hm, hw, hal, if_neg (by omega), if_neg (by omega), if_neg (by omega), hf1]
      dsimp only
      rw [hf2]
      dsimp only
      rw [hKS, hWS, if_neg h0]
    refine JS_go (tbOk _) 99 fun x hx => ?_
    simp only [RN, ↓reduceIte, ↓get8, reduceCtorEq, Nat.reduceLT, Nat.reduceEqDiff, Nat.reduceAdd, Nat.reduceMul, Nat.reduceLeDiff, Nat.reduceSub, Int.reduceToNat, Int.reduceNeg, Nat.reduceBEq, TY, m0, m1, m2, m3, m4, m5, m6, m7, m8, m9, m10, m11, m12, m13, m14, m15, m16, m17, Nat.add_assoc, Nat.left_eq_add, Nat.add_eq_left, Nat.add_left_cancel_iff] at hx
    subst hx
    refine ⟨_, _, rfl, by first | trivial | omega | (simp only [and_true, true_and]; omega), ?_⟩
    refine at_ret (ret_endK (by simp only [RN, ↓reduceIte, ↓get8, reduceCtorEq, Nat.reduceLT, Nat.reduceEqDiff, Nat.reduceAdd, Nat.reduceMul, Nat.reduceLeDiff, Nat.reduceSub, Int.reduceToNat, Int.reduceNeg, Nat.reduceBEq, TY, m0, m1, m2, m3, m4, m5, m6, m7, m8, m9, m10, m11, m12, m13, m14, m15, m16, m17, Nat.add_assoc, Nat.left_eq_add, Nat.add_eq_left, Nat.add_left_cancel_iff]; rfl) rfl (by first | trivial | omega) ⟨_, leL_look (by simp only [RN, ↓reduceIte, ↓get8, reduceCtorEq, Nat.reduceLT, Nat.reduceEqDiff, Nat.reduceAdd, Nat.reduceMul, Nat.reduceLeDiff, Nat.reduceSub, Int.reduceToNat, Int.reduceNeg, Nat.reduceBEq, m0, m1, m2, m3, m4, m5, m6, m7, m8, m9, m10, m11, m12, m13, m14, m15, m16, m17, Nat.add_assoc, Nat.left_eq_add, Nat.add_eq_left, Nat.add_left_cancel_iff]; first | done | trivial), dec_err d0 (by show nx ≤ n3; omega)⟩)
  · have h0 : (checkB KS WS).1 = 0 := by simpa using h
    have d0 : decB bs ln = (KS, WS, 0, 0) := by
      unfold decB
      rw [hm, hw, hal, if_neg (by omega), if_neg (by omega), if_neg (by omega), hf1]
      dsimp only
      rw [hf2]
      dsimp only
      rw [hKS, hWS, if_pos h0]
    refine JS_go (tbOk _) 99 fun x hx => ?_
    simp only [RN, ↓reduceIte, ↓get8, reduceCtorEq, Nat.reduceLT, Nat.reduceEqDiff, Nat.reduceAdd, Nat.reduceMul, Nat.reduceLeDiff, Nat.reduceSub, Int.reduceToNat, Int.reduceNeg, Nat.reduceBEq, TY, m0, m1, m2, m3, m4, m5, m6, m7, m8, m9, m10, m11, m12, m13, m14, m15, m16, m17, Nat.add_assoc, Nat.left_eq_add, Nat.add_eq_left, Nat.add_left_cancel_iff] at hx
    subst hx
    refine ⟨_, _, rfl, by first | trivial | omega | (simp only [and_true, true_and]; omega), ?_⟩
    refine at_ret (ret_endK (by simp only [RN, ↓reduceIte, ↓get8, reduceCtorEq, Nat.reduceLT, Nat.reduceEqDiff, Nat.reduceAdd, Nat.reduceMul, Nat.reduceLeDiff, Nat.reduceSub, Int.reduceToNat, Int.reduceNeg, Nat.reduceBEq, TY, m0, m1, m2, m3, m4, m5, m6, m7, m8, m9, m10, m11, m12, m13, m14, m15, m16, m17, Nat.add_assoc, Nat.left_eq_add, Nat.add_eq_left, Nat.add_left_cancel_iff]; rfl) rfl (by first | trivial | omega) ⟨[(q, ⟨bys bs, 5, 1, ro, loose⟩)] ++ B0.H, ?_, ?_⟩)
    · refine leT (X := [_]) (by simp only [RN, ↓reduceIte, ↓get8, reduceCtorEq, Nat.reduceLT, Nat.reduceEqDiff, Nat.reduceAdd, Nat.reduceMul, Nat.reduceLeDiff, Nat.reduceSub, Int.reduceToNat, Int.reduceNeg, Nat.reduceBEq, m0, m1, m2, m3, m4, m5, m6, m7, m8, m9, m10, m11, m12, m13, m14, m15, m16, m17, Nat.add_assoc, Nat.left_eq_add, Nat.add_eq_left, Nat.add_left_cancel_iff]; first | done | trivial) ?_
      intro id c h
      have u0 := tbg id c h
      have u1 := tbl id c h
      have w0 : ¬ id = nx := by omega
      have w1 : ¬ id = X := by omega
      have w2 : ¬ id = q := by omega
      simp only [RN, ↓reduceIte, ↓get8, reduceCtorEq, Nat.reduceLT, Nat.reduceEqDiff, Nat.reduceAdd, Nat.reduceMul, Nat.reduceLeDiff, Nat.reduceSub, Int.reduceToNat, Int.reduceNeg, Nat.reduceBEq, w0, w1, w2, m0, m1, m2, m3, m4, m5, m6, m7, m8, m9, m10, m11, m12, m13, m14, m15, m16, m17, Nat.add_assoc, Nat.left_eq_add, Nat.add_eq_left, Nat.add_left_cancel_iff, u1]
    · unfold decK
      rw [d0]
      refine ⟨B0, hBk, hBw, g0.mono hn3, by rw [hB0]; exact ⟨rfl, rfl, rfl, rfl⟩, ?_, ?_, by show nx ≤ n3; omega, by rw [hBv], rfl⟩
      · intro b hb; rw [hB0] at hb; have := (hso b hb).1; omega
      · intro b hb; rw [hB0] at hb; have := (hsw b hb).1; omega
end Go.Proofs.Ytoihmanhldcjhaa.Id
namespace Go.Proofs.Ytoihmanhldcjhaa.Id
open Go Go.Proofs.Ytoihmanhldcjhaa.Rl
set_option linter.unusedSimpArgs false
set_option linter.unusedVariables false
theorem refdecode_n (R : Rd) (nx : Nat) (g : R.Good nx) : CallW Try.prog 16 [R.val] R.H nx fun o F' nx' => ∃ X, (∃ B : Bk, B.ks = (decB R.bs R.ln).1 ∧ B.ws = (decB R.bs R.ln).2.1 ∧ B.Good nx' ∧ nx ≤ nx' ∧
    o = .ret (.tuple #[B.val, .int .i64 (decB R.bs R.ln).2.2.1, .int .i64 (decB R.bs R.ln).2.2.2]) ∧ X = B.H) ∧ F' = R.H ++ X ∧ ∀ e ∈ X, nx ≤ e.1 := by
  refine (refdecode_c R nx g).mono ?_
  rintro o F' n ⟨B, h1, h2, h3, h4, h5, h6, h7, rfl, rfl⟩
  refine ⟨B.H, ⟨B, h1, h2, h3, h7, rfl, rfl⟩, rfl, fun e he => ?_⟩
  rcases B with ⟨ks, kx, ws, wx, ok, kc, ow, wc, ro, loose⟩
  unfold Bk.H at he
  rcases List.mem_append.1 he with he | he
  · cases ok with
    | none => simp [kblk] at he
    | some b => simp [kblk] at he; subst he; exact h5 b rfl
  · cases ow with
    | none => simp [wpblk] at he
    | some b => simp [wpblk] at he; subst he; exact h6 b rfl
set_option maxRecDepth 100000 in
set_option maxHeartbeats 4000000 in
theorem decodes_c (R : Rd) (nx : Nat) (gR : R.G0 nx) : CallW Try.prog 6 [R.val] R.H nx fun o F' n => (o = .ret (.bool true) ∧ nx ≤ n) ∧ F' = R.H := by
  have tl := ilen_slv (tbOf Try.prog) 34 5 (by rw [und_eq, Try.underlying34]) R.oq R.ln R.cp gR.h0
  have hD := fun n (h : nx ≤ n) => decode_n (cutR R) n (cutR_good gR h)
  have hE := fun n (h : nx ≤ n) => refdecode_n (cutR R) n (cutR_good gR h)
  have hRH : (cutR R).H = R.H := rfl
  obtain ⟨D1, hD1⟩ : ∃ D1, decB (cutR R).bs (cutR R).ln = D1 := ⟨_, rfl⟩
  have lb0 : ∀ q, R.oq = some q → look q R.H = some ⟨bys R.bs, 5, 1, R.ro, R.loose⟩ := fun q hq => by unfold Rd.H; rw [hq]; rw [look_cons, if_pos rfl]
  simp only [hD1, hRH] at hD hE
  have hcv : (cutR R).val = slv R.oq (min 900 R.ln) R.cp := rfl
  rw [hcv] at hD hE
  unfold Rd.val
  obtain ⟨T0, hT0⟩ : ∃ T0, R.H = T0 := ⟨_, rfl⟩
  rw [hT0] at hD hE lb0 ⊢
  refine CallW_go (tbOk _) 42 [.tmp 2] Try.func6 rfl (by decide) rfl rfl (by simp) fun hlt => ?_
  simp only [params, Nat.zero_add, Nat.reduceAdd]
  refine JS_go (tbOk _) 99 fun x hx => ?_
  simp only [RN, ↓reduceIte, ↓get8, reduceCtorEq, Nat.reduceLT, Nat.reduceEqDiff, Nat.reduceAdd, Nat.reduceMul, Nat.reduceLeDiff, Nat.reduceSub, Int.reduceToNat, Int.reduceNeg, Nat.reduceBEq, TY, ↓tl] at hx
  subst hx
  refine ⟨_, _, rfl, by first | trivial | omega | (simp only [and_true, true_and]; omega), ?_⟩
  refine at_condM { n := 42, fr := [(0, slv R.oq (min 900 R.ln) R.cp)], F := T0, nx := nx, ds := [] } (fun h => ?_) (fun h => ?_) ?_
  · have hl : 900 < R.ln := by have := of_decide_eq_true h; omega
    obtain ⟨q, hq⟩ : ∃ q, R.oq = some q := by
      cases hq : R.oq with
      | none => have := gR.h0 hq; omega
      | some q => exact ⟨q, rfl⟩
    have hm : min 900 R.ln = 900 := by omega
    have hs : slv R.oq R.ln R.cp = .slice (some ⟨q, 0, none⟩) R.ln R.cp := by rw [hq]; rfl
    have hs2 : slv R.oq (min 900 R.ln) R.cp = .slice (some ⟨q, 0, none⟩) 900 R.cp := by rw [hq, hm]; rfl
    have lb := lb0 q hq
    have hcp := gR.hc
    rw [hs2]
    refine JS_go (tbOk _) 99 fun x hx => ?_
    simp only [RN, ↓reduceIte, ↓get8, reduceCtorEq, Nat.reduceLT, Nat.reduceEqDiff, Nat.reduceAdd, Nat.reduceMul, Nat.reduceLeDiff, Nat.reduceSub, Int.reduceToNat, Int.reduceNeg, Nat.reduceBEq, TY, hs, lb, Nat.sub_zero, Nat.add_assoc, Nat.left_eq_add, Nat.add_eq_left, Nat.add_left_cancel_iff] at hx
    subst hx
    refine ⟨_, _, rfl, ?_, ?_⟩
    · simp; omega
    exact at_done (in_cut ⟨rfl, leL_look (by simp only [RN, ↓reduceIte, ↓get8, reduceCtorEq, Nat.reduceLT, Nat.reduceEqDiff, Nat.reduceAdd, Nat.reduceMul, Nat.reduceLeDiff, Nat.reduceSub, Int.reduceToNat, Int.reduceNeg, Nat.reduceBEq]; first | done | trivial), fun id b h => h, Nat.le_refl _, rfl⟩)
  · have hm : min 900 R.ln = R.ln := by have := of_decide_eq_false h; omega
    rw [hm]
    refine JS_go (tbOk _) 99 fun x hx => ?_
    simp only [RN, ↓reduceIte, ↓get8, reduceCtorEq, Nat.reduceLT, Nat.reduceEqDiff, Nat.reduceAdd, Nat.reduceMul, Nat.reduceLeDiff, Nat.reduceSub, Int.reduceToNat, Int.reduceNeg, Nat.reduceBEq, TY] at hx
    subst hx
    refine ⟨_, _, rfl, by first | trivial | omega | (simp only [and_true, true_and]; omega), ?_⟩
    exact at_done (in_cut ⟨rfl, leL_look (by simp only [RN, ↓reduceIte, ↓get8, reduceCtorEq, Nat.reduceLT, Nat.reduceEqDiff, Nat.reduceAdd, Nat.reduceMul, Nat.reduceLeDiff, Nat.reduceSub, Int.reduceToNat, Int.reduceNeg, Nat.reduceBEq]; first | done | trivial), fun id b h => h, Nat.le_refl _, rfl⟩)
  refine JS_go (tbOk _) 99 fun x hx => ?_
  simp only [RN, ↓reduceIte, ↓get8, reduceCtorEq, Nat.reduceLT, Nat.reduceEqDiff, Nat.reduceAdd, Nat.reduceMul, Nat.reduceLeDiff, Nat.reduceSub, Int.reduceToNat, Int.reduceNeg, Nat.reduceBEq, TY] at hx
  subst hx
  refine ⟨_, _, rfl, by first | trivial | omega | (simp only [and_true, true_and]; omega), ?_⟩
  refine at_new (hD nx (Nat.le_refl _)) (fun id b h => h) ?_
  rintro o X n ⟨D, hDk, hDw, gD, hn, rfl, rfl⟩ hX
  refine ⟨_, by simp only [RN, ↓reduceIte, ↓get8, reduceCtorEq, Nat.reduceLT, Nat.reduceEqDiff, Nat.reduceAdd, Nat.reduceMul, Nat.reduceLeDiff, Nat.reduceSub, Int.reduceToNat, Int.reduceNeg, Nat.reduceBEq]; rfl, ?_⟩
  have t1 : ∀ id x, look id D.H = some x → look id (T0 ++ D.H) = some x := fun id x h => by
    have h1 := hX _ (look_mem2 h)
    dsimp only at h1
    rw [look_past hlt h1]
    exact h
  have t2 : ∀ id x, look id (T0 ++ D.H) = some x → id < n := fun id x h => by
    rw [look_append] at h
    cases hl : look id T0 with
    | some y => have := hlt id y hl; omega
    | none => rw [hl] at h; exact gD.t5 id x h
  have hin : ∀ id x, look id T0 = some x → look id (T0 ++ D.H) = some x := fun id x h => look_in h _
  obtain ⟨TX, hTX⟩ : ∃ TX, T0 ++ D.H = TX := ⟨_, rfl⟩
  rw [hTX] at t1 t2 hin
  have hDv : D.val = .agg #[slv D.ok D.ks.length D.kc, slv D.ow D.ws.length D.wc] := rfl
  rw [hDv]
  refine JS_go (tbOk _) 99 fun x hx => ?_
  simp only [RN, ↓reduceIte, ↓get8, reduceCtorEq, Nat.reduceLT, Nat.reduceEqDiff, Nat.reduceAdd, Nat.reduceMul, Nat.reduceLeDiff, Nat.reduceSub, Int.reduceToNat, Int.reduceNeg, Nat.reduceBEq, TY, hTX] at hx
  subst hx
  refine ⟨_, _, rfl, by first | trivial | omega | (simp only [and_true, true_and]; omega), ?_⟩
  refine at_new (hE (n + 1) (by omega)) (fun id b h => by
    have h1 := t2 id b (hin id b h)
    have h2 : ¬ id = n := by omega
    simp only [RN, ↓reduceIte, ↓get8, reduceCtorEq, Nat.reduceLT, Nat.reduceEqDiff, Nat.reduceAdd, Nat.reduceMul, Nat.reduceLeDiff, Nat.reduceSub, Int.reduceToNat, Int.reduceNeg, Nat.reduceBEq, h2, hin id b h, hTX]) ?_
  rintro o X n2 ⟨E, hEk, hEw, gE, hn2, rfl, rfl⟩ hX2
  refine ⟨_, by simp only [RN, ↓reduceIte, ↓get8, reduceCtorEq, Nat.reduceLT, Nat.reduceEqDiff, Nat.reduceAdd, Nat.reduceMul, Nat.reduceLeDiff, Nat.reduceSub, Int.reduceToNat, Int.reduceNeg, Nat.reduceBEq]; rfl, ?_⟩
  obtain ⟨z1, z2⟩ := tail_facts2 (nx := n) t2 (by omega : n < n + 1) gE hn2 hX2
  have hS := same_q D E (TX ++ E.H) (n2 + 1) (gD.mono (by omega)) (gE.mono (by omega)) (fun id x h => look_in (t1 id x h) _) z1 (fun id x h => by have := (z2 id x h).2; omega) (by rw [hDk, hEk]) (by rw [hDw, hEw])
  have hin2 : ∀ id x, look id TX = some x → look id (TX ++ E.H) = some x := fun id x h => look_in h _
  have hEv : E.val = .agg #[slv E.ok E.ks.length E.kc, slv E.ow E.ws.length E.wc] := rfl
  rw [hDv, hEv] at hS
  rw [hEv]
  obtain ⟨TY2, hTY⟩ : ∃ TY2, TX ++ E.H = TY2 := ⟨_, rfl⟩
  rw [hTY] at hS z2 hin2
  have e0 : ¬ n = n2 := by omega
  have e1 : ¬ n2 = n := by omega
  refine JS_go (tbOk _) 99 fun x hx => ?_
  simp only [RN, ↓reduceIte, ↓get8, reduceCtorEq, Nat.reduceLT, Nat.reduceEqDiff, Nat.reduceAdd, Nat.reduceMul, Nat.reduceLeDiff, Nat.reduceSub, Int.reduceToNat, Int.reduceNeg, Nat.reduceBEq, TY, e0, e1, List.append_assoc, hTX, hTY] at hx
  subst hx
  refine ⟨_, _, rfl, by first | trivial | omega | (simp only [and_true, true_and]; omega), ?_⟩
  refine at_quiet hS (fun id x h => by
    have h1 := z2 id x h
    have h2 : ¬ id = n := h1.1
    have h3 : ¬ id = n2 := by omega
    simp only [RN, ↓reduceIte, ↓get8, reduceCtorEq, Nat.reduceLT, Nat.reduceEqDiff, Nat.reduceAdd, Nat.reduceMul, Nat.reduceLeDiff, Nat.reduceSub, Int.reduceToNat, Int.reduceNeg, Nat.reduceBEq, h2, h3, h, List.append_assoc, hTX, hTY]) ?_
  rintro o n3 ⟨rfl, hn3⟩
  refine ⟨_, by simp only [RN, ↓reduceIte, ↓get8, reduceCtorEq, Nat.reduceLT, Nat.reduceEqDiff, Nat.reduceAdd, Nat.reduceMul, Nat.reduceLeDiff, Nat.reduceSub, Int.reduceToNat, Int.reduceNeg, Nat.reduceBEq]; rfl, ?_⟩
  refine JS_go (tbOk _) 99 fun x hx => ?_
  simp only [RN, ↓reduceIte, ↓get8, reduceCtorEq, Nat.reduceLT, Nat.reduceEqDiff, Nat.reduceAdd, Nat.reduceMul, Nat.reduceLeDiff, Nat.reduceSub, Int.reduceToNat, Int.reduceNeg, Nat.reduceBEq, TY] at hx
  subst hx
  refine ⟨_, _, rfl, by first | trivial | omega | (simp only [and_true, true_and]; omega), ?_⟩
  refine at_quiet (awake_c n3) (fun _ _ h => by cases h) ?_
  rintro o n4 ⟨rfl, hn4⟩
  refine ⟨_, by simp only [RN, ↓reduceIte, ↓get8, reduceCtorEq, Nat.reduceLT, Nat.reduceEqDiff, Nat.reduceAdd, Nat.reduceMul, Nat.reduceLeDiff, Nat.reduceSub, Int.reduceToNat, Int.reduceNeg, Nat.reduceBEq]; rfl, ?_⟩
  refine JS_go (tbOk _) 99 fun x hx => ?_
  simp only [RN, ↓reduceIte, ↓get8, reduceCtorEq, Nat.reduceLT, Nat.reduceEqDiff, Nat.reduceAdd, Nat.reduceMul, Nat.reduceLeDiff, Nat.reduceSub, Int.reduceToNat, Int.reduceNeg, Nat.reduceBEq, TY] at hx
  subst hx
  refine ⟨_, _, rfl, by first | trivial | omega | (simp only [and_true, true_and]; omega), ?_⟩
  refine at_ret (ret_endK (by simp only [RN, ↓reduceIte, ↓get8, reduceCtorEq, Nat.reduceLT, Nat.reduceEqDiff, Nat.reduceAdd, Nat.reduceMul, Nat.reduceLeDiff, Nat.reduceSub, Int.reduceToNat, Int.reduceNeg, Nat.reduceBEq]; first | done | rfl) rfl trivial ⟨T0, fun id x h => ?_, ⟨rfl, by show nx ≤ n4; omega⟩, rfl⟩)
  have h4 := hin2 id x (hin id x h)
  have h1 := z2 id x h4
  have h2 : ¬ id = n := h1.1
  have h3 : ¬ id = n2 := by omega
  simp only [RN, ↓reduceIte, ↓get8, reduceCtorEq, Nat.reduceLT, Nat.reduceEqDiff, Nat.reduceAdd, Nat.reduceMul, Nat.reduceLeDiff, Nat.reduceSub, Int.reduceToNat, Int.reduceNeg, Nat.reduceBEq, h2, h3, h4, List.append_assoc, hTX, hTY]
end Go.Proofs.Ytoihmanhldcjhaa.Id
namespace Go.Proofs.Ytoihmanhldcjhaa.KindsDecodes
open Go Go.RowKit Go.ChangeShapes Go.WideShapes Go.ChangeAt Go.Proofs.Ytoihmanhldcjhaa.Id
set_option linter.unusedVariables false
set_option linter.unusedSimpArgs false
theorem own : ownKnob Try.prog.godebug = none := by kernel_rfl
theorem walk {H : Type} {enc : TypeId × Value → H} {b0 : Nat} {W0 : World} {d : DataW H} {p : List MemPlace} (v : Value) (hv : Value.okWide Try.prog W0 .any b0 34 v) (ht : DataW.Trod enc Try.prog W0 0 (fun _ => true) true 34 v d p) (W : World) (e0 : W0 = W) : Calls Try.prog 6 #[v] W fun e W' => e = .returned (.bool true) ∧ Below W.heap.size W W' := by
  subst e0
  obtain ⟨R, mm, gR, hh, hvv, hro⟩ := bytes_open hv ht
  exact law_calls (decodes_c R 1 gR) Try.func6 (by decide) rfl hro hh hvv
theorem laidOut : laidOutB Try.prog = true := by kernel_rfl
set_option maxRecDepth 100000 in
theorem lifted (os : Os) (started : os.Started) (H : Type) (enc : TypeId × Value → H) :
    ReturnsInHanded {} Try.checked os 6 .any (Rows.kindsDecodesSpec.pre6 enc Try.prog Try.f6 Rows.kindsDecodesRow.domain false) (Rows.kindsDecodesSpec.post enc Try.prog Try.f6 false true false false) := by
  refine returnsInHanded_of_change_sized (C := Try.checked) own started (by kernel_rfl) Try.func6
    (ChangeSpec.witness6 (enc := enc) (C := Try.checked) false ⟨#[], #[.slice none 0 0], []⟩ 8 (by kernel_rfl) (by kernel_rfl) (by kernel_rfl) (by kernel_rfl)) ?_
  intro W base args ds gs before hval0 hW hcnd hsz0 _
  have hval : ∀ (j : Nat) t v, Try.f6.params[j]? = some t → args[j]? = some v → Value.okWide Try.prog W .any base t v := hval0
  have hW' := hW
  obtain ⟨p, q, hA0, hV, rfl, hfz, hnd⟩ := hW
  have hA : DataW.TrodAll enc Try.prog W 0 (fun _ => true) true Try.f6.params.toList args.toList ds p := hA0
  rw [Try.params6] at hA hval
  obtain ⟨v0, vs0, d0, ds0, p0, q0, hargs, rfl, rfl, h0, r0⟩ := trodAll_cons hA
  obtain ⟨rfl, rfl, rfl⟩ := trodAll_nil r0
  obtain rfl : args = #[v0] := by cases args; simp_all
  obtain ⟨rfl, rfl⟩ := trodVars_none hV
  have k0 := h0
  have lt0 : ∀ x ∈ p0, x.block < W.heap.size := by obtain ⟨m, hm⟩ := k0; exact DataW.trod_lt m _ _ _ hm
  clear hA0 hval0
  refine (walk v0 (hval 0 34 v0 rfl rfl) h0 W rfl).mono fun e W' ⟨he, hb⟩ => ?_
  subst he
  exact ⟨_, rfl, _, _, _, [], _, [], hW', trodAll_cons_mk (shut_bool Try.underlying4 _) trodAll_mk0, (trodAll_cons_mk (Below.trod laidOut (by kernel_rfl) (of_decide_eq_true (by kernel_rfl)) k0 hb lt0) trodAll_mk0), rfl, hb.frame _, fun h => by cases h⟩
theorem proved : Rows.KindsDecodesSaid :=
  OpenClaim.holds_of_wide 6 Try.f6 rfl rfl rfl rfl rfl rfl rfl ⟨rfl, rfl, rfl, rfl, rfl⟩ rfl rfl rfl rfl rfl (by kernel_rfl) Try.func6 (by kernel_rfl)
    (of_decide_eq_true (by kernel_rfl)) (by unfold Func.isWrapper; first | (rw [if_pos (by decide +kernel)]; kernel_rfl) | (rw [if_neg (by decide +kernel)]; exact ⟨rfl, rfl⟩))
    (fun os started H enc _ => lifted os started H enc)
end Go.Proofs.Ytoihmanhldcjhaa.KindsDecodes
