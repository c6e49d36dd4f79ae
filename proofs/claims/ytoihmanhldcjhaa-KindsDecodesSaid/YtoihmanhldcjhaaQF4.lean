/- What the claim's proof leans on: texts of this claim, laid together. -/
import Derived.Test.YtoihmanhldcjhaaQF3
namespace Go.Proofs.Ytoihmanhldcjhaa.Id
open Go Go.Proofs.Ytoihmanhldcjhaa.Rl
set_option linter.unusedSimpArgs false
set_option linter.unusedVariables false
def wr (W b : Nat) (bs : List UInt8) : Hp := [(W, ⟨[.slice (some ⟨b, 0, none⟩) bs.length bs.length], 53, 1, false, false⟩), (b, ⟨bys bs, 5, 1, false, true⟩)]
theorem wr_of {W b nx nx' : Nat} {bs x : List UInt8} {r : Out} {F' : Hp} (hp : 0 < bs.length) (hbn : b < nx) (h : r = .ret (.tuple #[]) ∧ ∃ o2, F' = wrH W o2 (bs ++ x) ∧ nx ≤ nx' ∧ wok W o2 (bs ++ x) nx' ∧ ∀ c, o2 = some c → some b = some c ∨ nx ≤ c) :
    r = .ret (.tuple #[]) ∧ ∃ b2, F' = wr W b2 (bs ++ x) ∧ nx ≤ nx' ∧ W < b2 ∧ b2 < nx' ∧ (b2 = b ∨ nx ≤ b2) := by
  obtain ⟨e, o2, e2, h1, ⟨h2, h3, h4⟩, h5⟩ := h
  refine ⟨e, ?_⟩
  cases o2 with
  | none => exact absurd (h3 rfl) (fun e => by rw [List.append_eq_nil_iff] at e; rw [e.1] at hp; exact absurd hp (by simp))
  | some c =>
    refine ⟨c, e2, h1, (h4 c rfl).1, (h4 c rfl).2, ?_⟩
    rcases h5 c rfl with h | h
    · cases h; exact .inl rfl
    · exact .inr h
theorem ones_0 (W : Nat) (l : List Int) (Lb : Nat) (nx : Nat) (hp : 0 < l.length) (hW : W < nx) (hLW : ¬ Lb = W) (hLn : Lb < nx) (hl : l.length ≤ 1000) :
    CallW Try.prog 24 [.pointer (some ⟨W, 0, none⟩), .slice (some ⟨Lb, 0, none⟩) l.length l.length] [(W, ⟨[.slice none 0 0], 53, 1, false, false⟩), (Lb, ⟨ints l, 3, 1, false, false⟩)] nx
      fun r F' nx' => r = .ret (.tuple #[]) ∧ ∃ b2, F' = wr W b2 (l.map toB) ∧ nx ≤ nx' ∧ W < b2 ∧ b2 < nx' ∧ nx ≤ b2 := by
  refine CallW.mono (ones_c W none [] l Lb nx false false 3 ⟨by omega, fun _ => rfl, nofun⟩ hLW nofun hLn hl (by simp)) ?_
  rintro r F' nx' ⟨e, o2, rfl, h1, ⟨h2, h3, h4⟩, h5⟩
  refine ⟨e, ?_⟩
  rw [List.nil_append] at h3 ⊢
  cases o2 with
  | none => exact absurd (h3 rfl) (fun e => by rw [List.map_eq_nil_iff] at e; rw [e] at hp; exact absurd hp (by simp))
  | some c =>
    refine ⟨c, rfl, h1, (h4 c rfl).1, (h4 c rfl).2, ?_⟩
    rcases h5 c rfl with h | h
    · cases h
    · exact h
theorem ones_s (W b : Nat) (bs : List UInt8) (l : List Int) (Lb : Nat) (nx : Nat) (hp : 0 < bs.length) (hb : bs.length ≤ 100000) (hW : W < b) (hbn : b < nx) (hLW : ¬ Lb = W) (hLb : ¬ Lb = b) (hLn : Lb < nx) (hl : l.length ≤ 1000) :
    CallW Try.prog 24 [.pointer (some ⟨W, 0, none⟩), .slice (some ⟨Lb, 0, none⟩) l.length l.length] (wr W b bs ++ [(Lb, ⟨ints l, 3, 1, false, false⟩)]) nx
      fun r F' nx' => r = .ret (.tuple #[]) ∧ ∃ b2, F' = wr W b2 (bs ++ l.map toB) ∧ nx ≤ nx' ∧ W < b2 ∧ b2 < nx' ∧ (b2 = b ∨ nx ≤ b2) :=
  CallW.mono (ones_c W (some b) bs l Lb nx false false 3 ⟨by omega, nofun, fun c e => by cases e; exact ⟨hW, hbn⟩⟩ hLW (fun c e => by cases e; exact hLb) hLn hl hb) fun r F' nx' h => wr_of hp hbn h
theorem twos_s (W b : Nat) (bs : List UInt8) (l : List Int) (Lb : Nat) (nx : Nat) (hp : 0 < bs.length) (hb : bs.length ≤ 100000) (hW : W < b) (hbn : b < nx) (hLW : ¬ Lb = W) (hLb : ¬ Lb = b) (hLn : Lb < nx) (hl : l.length ≤ 1000) :
    CallW Try.prog 25 [.pointer (some ⟨W, 0, none⟩), .slice (some ⟨Lb, 0, none⟩) l.length l.length] (wr W b bs ++ [(Lb, ⟨ints l, 3, 1, false, false⟩)]) nx
      fun r F' nx' => r = .ret (.tuple #[]) ∧ ∃ b2, F' = wr W b2 (bs ++ l.flatMap two) ∧ nx ≤ nx' ∧ W < b2 ∧ b2 < nx' ∧ (b2 = b ∨ nx ≤ b2) :=
  CallW.mono (twos_c W (some b) bs l Lb nx false false 3 ⟨by omega, nofun, fun c e => by cases e; exact ⟨hW, hbn⟩⟩ hLW (fun c e => by cases e; exact hLb) hLn hl hb) fun r F' nx' h => wr_of hp hbn h
theorem wspeed_s (W b : Nat) (bs : List UInt8) (v : Int) (nx : Nat) (h0 : 0 ≤ v) (h1 : v ≤ 262144) (hp : 0 < bs.length) (hb : bs.length ≤ 100000) (hW : W < b) (hbn : b < nx) :
    CallW Try.prog 26 [.pointer (some ⟨W, 0, none⟩), .int .i64 v] (wr W b bs) nx
      fun r F' nx' => r = .ret (.tuple #[]) ∧ ∃ b2, F' = wr W b2 (bs ++ outB (toS v) 8) ∧ nx ≤ nx' ∧ W < b2 ∧ b2 < nx' ∧ (b2 = b ∨ nx ≤ b2) :=
  CallW.mono (wspeed_c W (some b) bs v nx (by omega) (by omega) ⟨by omega, nofun, fun c e => by cases e; exact ⟨hW, hbn⟩⟩ hb (toS v) rfl) fun r F' nx' h => wr_of hp hbn h
theorem leT {X Y T0 : Hp} (h1 : leL Y X) (h2 : ∀ id b, look id T0 = some b → look id Y = some b) : ∀ id b, look id (X ++ T0) = some b → look id Y = some b := by
  induction X with
  | nil => exact h2
  | cons e X ih =>
    obtain ⟨k, x⟩ := e
    intro id b h
    rw [List.cons_append, look_cons] at h
    split at h
    · rename_i e; subst e; cases h; exact h1.1
    · exact ih h1.2 id b h
def kdBytes (k : Kd) : List UInt8 := [k.c0].map toB ++ [k.c1, k.c3, k.c8, k.c9, k.c10, k.c14, k.c15, k.c19].flatMap two ++ [k.c4, k.c5, k.c6, k.c7, k.c11, k.c12, k.c13, k.c16, k.c17, k.c18].map toB ++ outB (toS k.c2) 8
def wpBytes (x : Wp) : List UInt8 := [x.c1].flatMap two ++ [x.c0, x.c3, x.c4, if x.under then 1 else 0].map toB ++ outB (toS x.c2) 8
def headB (ks : List Kd) (ws : List Wp) : List UInt8 := [(ks.length : Int), ws.length].map toB
def encB (ks : List Kd) (ws : List Wp) : List UInt8 := headB ks ws ++ ks.flatMap kdBytes ++ ws.flatMap wpBytes
theorem kdBytes_len (k : Kd) : (kdBytes k).length = 35 := by simp [kdBytes, two, outB_len]
theorem wpBytes_len (k : Wp) : (wpBytes k).length = 14 := by simp [wpBytes, two, outB_len]
theorem btwe (a b v : Int) : btw a b [v] = decide (a ≤ v ∧ v ≤ b) := by simp [btw]
theorem check_ok {ks : List Kd} {ws : List Wp} (h : (checkB ks ws).1 = 0) : (1 ≤ ks.length ∧ ks.length ≤ 16) ∧ ws.length ≤ 16 ∧ (∀ k ∈ ks, kindB k ws.length = true) ∧ (∀ x ∈ ws, weaponB x = true) ∧ checkB ks ws = (0, 0) := by
  unfold checkB at h ⊢
  split at h
  · cases h
  · rename_i hc
    rw [if_neg hc]
    split at h
    · cases h
    · rename_i h1
      split at h
      · cases h
      · rename_i h2
        rw [btwe] at hc
        simp only [Bool.or_eq_true, Bool.not_eq_true', decide_eq_false_iff_not, decide_eq_true_eq] at hc
        rw [List.findIdx?_eq_none_iff] at h1 h2
        refine ⟨by omega, by omega, fun k hk => by simpa using h1 k hk, fun k hk => by simpa using h2 k hk, ?_⟩
        simp only
theorem kindB_speed {k : Kd} {n : Int} (h : kindB k n = true) : 0 ≤ k.c2 ∧ k.c2 ≤ 262144 := by
  simp only [kindB, Bool.and_eq_true, decide_eq_true_eq] at h
  omega
theorem weaponB_speed {k : Wp} (h : weaponB k = true) : 0 ≤ k.c2 ∧ k.c2 ≤ 262144 := by
  simp only [weaponB, Bool.and_eq_true, decide_eq_true_eq] at h
  omega
set_option maxRecDepth 100000 in
set_option maxHeartbeats 4000000 in
theorem encode_c (B : Bk) (nx : Nat) (g : B.Good nx) :
    CallW Try.prog 13 [B.val] B.H nx fun o F' nx' => nx ≤ nx' ∧
      if (checkB B.ks B.ws).1 = 0 then ∃ b, nx ≤ b ∧ b < nx' ∧ o = .ret (.slice (some ⟨b, 0, none⟩) (encB B.ks B.ws).length (encB B.ks B.ws).length) ∧ F' = (b, ⟨bys (encB B.ks B.ws), 5, 1, false, true⟩) :: B.H
      else o = .ret (.slice none 0 0) ∧ F' = B.H := by
  have hC := check_c B (nx + 1) (g.mono (by omega))
  have l1 := g.l1
  have l2 := g.l2
  have t2 := g.t2
  have t3 := g.t3
  have t4 := g.t4
  have t5 := g.t5
  rcases B with ⟨ks, kx, ws, wx, ok, kc, ow, wc, ro, loose⟩
  obtain ⟨hk, hw, hkl, hwl, hkn, hwn, hkw⟩ := g
  unfold Bk.val at hC ⊢
  obtain ⟨T0, hT0⟩ : ∃ T0, Bk.H ⟨ks, kx, ws, wx, ok, kc, ow, wc, ro, loose⟩ = T0 := ⟨_, rfl⟩
  rw [hT0] at t2 t3 t4 t5 hC ⊢
  dsimp only at l1 l2 t2 t3 t4 t5 hk hw hkl hwl hkn hwn hkw hC ⊢
  refine CallW_go (tbOk _) 108 [.tmp 2] Try.func13 rfl (by decide) rfl rfl (by simp) fun hlt => ?_
  simp only [params, Nat.zero_add, Nat.reduceAdd]
  refine JS_go (tbOk _) 99 fun x hx => ?_
  simp only [RN, ↓reduceIte, ↓get8, reduceCtorEq, Nat.reduceLT, Nat.reduceEqDiff, Nat.reduceAdd, Nat.reduceMul, Nat.reduceLeDiff, Nat.reduceSub, Int.reduceToNat, Int.reduceNeg, Nat.reduceBEq, TY, Nat.add_assoc, Nat.left_eq_add, Nat.add_eq_left, Nat.add_left_cancel_iff] at hx
  subst hx
  refine ⟨_, _, rfl, by first | trivial | omega | (simp only [and_true, true_and]; omega), ?_⟩
  refine at_quiet (K := fun o n => o = .ret (.tuple #[.int .i64 (checkB ks ws).1, .int .i64 (checkB ks ws).2]) ∧ nx + 1 ≤ n) (hC.mono fun o F' n h => ⟨⟨h.1, h.2.2⟩, h.2.1⟩) (fun id b h => ?_) ?_
  · have h1 : ¬ id = nx := by have := t5 id b h; omega
    simp only [RN, ↓reduceIte, ↓get8, reduceCtorEq, Nat.reduceLT, Nat.reduceEqDiff, Nat.reduceAdd, Nat.reduceMul, Nat.reduceLeDiff, Nat.reduceSub, Int.reduceToNat, Int.reduceNeg, Nat.reduceBEq, h1, h]
  rintro o W ⟨rfl, hW⟩
  refine ⟨_, by simp only [RN, ↓reduceIte, ↓get8, reduceCtorEq, Nat.reduceLT, Nat.reduceEqDiff, Nat.reduceAdd, Nat.reduceMul, Nat.reduceLeDiff, Nat.reduceSub, Int.reduceToNat, Int.reduceNeg, Nat.reduceBEq]; rfl, ?_⟩
  refine JS_go (tbOk _) 99 fun x hx => ?_
  simp only [RN, ↓reduceIte, ↓get8, reduceCtorEq, Nat.reduceLT, Nat.reduceEqDiff, Nat.reduceAdd, Nat.reduceMul, Nat.reduceLeDiff, Nat.reduceSub, Int.reduceToNat, Int.reduceNeg, Nat.reduceBEq, TY] at hx
  subst hx
  refine ⟨_, _, rfl, by first | trivial | omega | (simp only [and_true, true_and]; omega), ?_⟩
  refine at_cond (fun h => ?_) (fun h => ?_)
  · have h0 : ¬ (checkB ks ws).1 = 0 := by simpa using h
    refine JS_go (tbOk _) 99 fun x hx => ?_
    simp only [RN, ↓reduceIte, ↓get8, reduceCtorEq, Nat.reduceLT, Nat.reduceEqDiff, Nat.reduceAdd, Nat.reduceMul, Nat.reduceLeDiff, Nat.reduceSub, Int.reduceToNat, Int.reduceNeg, Nat.reduceBEq, TY] at hx
    subst hx
    refine ⟨_, _, rfl, by first | trivial | omega | (simp only [and_true, true_and]; omega), ?_⟩
    refine at_ret ?_
    refine ret_endK (by simp only [RN, ↓reduceIte, ↓get8, reduceCtorEq, Nat.reduceLT, Nat.reduceEqDiff, Nat.reduceAdd, Nat.reduceMul, Nat.reduceLeDiff, Nat.reduceSub, Int.reduceToNat, Int.reduceNeg, Nat.reduceBEq]; rfl) rfl trivial ⟨T0, ?_, by show nx ≤ W; omega, by rw [if_neg h0]; exact ⟨rfl, rfl⟩⟩
    intro id b h
    have h1 : ¬ id = nx := by have := t5 id b h; omega
    simp only [RN, ↓reduceIte, ↓get8, reduceCtorEq, Nat.reduceLT, Nat.reduceEqDiff, Nat.reduceAdd, Nat.reduceMul, Nat.reduceLeDiff, Nat.reduceSub, Int.reduceToNat, Int.reduceNeg, Nat.reduceBEq, h1, h]
  have h0 : (checkB ks ws).1 = 0 := by simpa using h
  obtain ⟨hk16, hw16, hkB, hwB, -⟩ := check_ok h0
  have e0 : ¬ nx = W := by omega
  have e1 : ∀ i, ¬ nx = W + i := by intro i; omega
  have e2 : ¬ W = nx := by omega
  have e3 : ∀ i, ¬ W + i = nx := by intro i; omega
  refine JS_go (tbOk _) 99 fun x hx => ?_
  simp only [RN, ↓reduceIte, ↓get8, reduceCtorEq, Nat.reduceLT, Nat.reduceEqDiff, Nat.reduceAdd, Nat.reduceMul, Nat.reduceLeDiff, Nat.reduceSub, Int.reduceToNat, Int.reduceNeg, Nat.reduceBEq, TY, ↓l1, ↓l2, e0, e1, e2, e3, Nat.add_assoc, Nat.left_eq_add, Nat.add_eq_left, Nat.add_left_cancel_iff] at hx
  subst hx
  refine ⟨_, _, rfl, by first | trivial | omega | (simp only [and_true, true_and]; omega), ?_⟩
  have hO := ones_0 W [(ks.length : Int), ws.length] (W + 1) (W + 2) (by simp) (by omega) (by omega) (by omega) (by simp)
  have r0 := t4 [W, W + 1] (by simp; omega)
  rw [show [(ks.length : Int), ↑ws.length].map toB = headB ks ws from rfl] at hO
  refine at_callG hO (by simp only [RN, ↓reduceIte, ↓get8, reduceCtorEq, Nat.reduceLT, Nat.reduceEqDiff, Nat.reduceAdd, Nat.reduceMul, Nat.reduceLeDiff, Nat.reduceSub, Int.reduceToNat, Int.reduceNeg, Nat.reduceBEq, ints, e0, e1, e2, e3, Nat.add_assoc, Nat.left_eq_add, Nat.add_eq_left, Nat.add_left_cancel_iff]; first | done | trivial) ?_
  rintro o L' n ⟨rfl, b, rfl, hn, hWb, hbn, hbl⟩
  refine ⟨_, by simp only [RN, ↓reduceIte, ↓get8, reduceCtorEq, Nat.reduceLT, Nat.reduceEqDiff, Nat.reduceAdd, Nat.reduceMul, Nat.reduceLeDiff, Nat.reduceSub, Int.reduceToNat, Int.reduceNeg, Nat.reduceBEq]; rfl, ?_⟩
  have f0 : ¬ nx = W := by omega
  have f1 : ¬ nx = b := by omega
  have f2 : ¬ nx = n := by omega
  have f3 : ∀ i, ¬ nx = n + i := by intro i; omega
  have f4 : ¬ n = nx := by omega
  have f5 : ∀ i, ¬ n + i = nx := by intro i; omega
  have f6 : ¬ W = nx := by omega
  have f7 : ¬ W = b := by omega
  have f8 : ¬ W = n := by omega
  have f9 : ∀ i, ¬ W = n + i := by intro i; omega
  have f10 : ¬ n = W := by omega
  have f11 : ∀ i, ¬ n + i = W := by intro i; omega
  have f12 : ¬ b = nx := by omega
  have f13 : ¬ b = W := by omega
  have f14 : ¬ b = n := by omega
  have f15 : ∀ i, ¬ b = n + i := by intro i; omega
  have f16 : ¬ n = b := by omega
  have f17 : ∀ i, ¬ n + i = b := by intro i; omega
  refine JS_go (tbOk _) 99 fun x hx => ?_
  simp only [RN, ↓reduceIte, ↓get8, reduceCtorEq, Nat.reduceLT, Nat.reduceEqDiff, Nat.reduceAdd, Nat.reduceMul, Nat.reduceLeDiff, Nat.reduceSub, Int.reduceToNat, Int.reduceNeg, Nat.reduceBEq, TY, ↓l1, e0, e1, e2, e3, f0, f1, f2, f3, f4, f5, f6, f7, f8, f9, f10, f11, f12, f13, f14, f15, f16, f17, r0, wr, Nat.add_assoc, Nat.left_eq_add, Nat.add_eq_left, Nat.add_left_cancel_iff] at hx
  subst hx
  refine ⟨_, _, rfl, by first | trivial | omega | (simp only [and_true, true_and]; omega), ?_⟩
  refine at_loop ?_
  refine JS_loopI (S := fun x : Nat × Nat × Nat => { n := 108, fr := [(29, .int .i64 x.1), (28, .int .i64 ks.length), (27, slv ok ks.length kc), (5, .pointer (some ⟨W, 0, none⟩)), (1, .pointer (some ⟨nx, 0, none⟩))], F := (W, ⟨[.slice (some ⟨x.2.1, 0, none⟩) (headB ks ws ++ (ks.take x.1).flatMap kdBytes).length (headB ks ws ++ (ks.take x.1).flatMap kdBytes).length], 53, 1, false, false⟩) :: (x.2.1, ⟨bys (headB ks ws ++ (ks.take x.1).flatMap kdBytes), 5, 1, false, true⟩) :: (nx, ⟨[slv ok ks.length kc, slv ow ws.length wc], 26, 2, false, false⟩) :: T0, nx := x.2.2, ds := [] })
    (fun p => p.1 ≤ ks.length ∧ W < p.2.1 ∧ p.2.1 < p.2.2) (fun x => ks.length - x.1) (0, b, n) ⟨Nat.zero_le _, hWb, hbn⟩ ?_ ?_
  · refine ⟨rfl, leL_look (by simp only [RN, ↓reduceIte, ↓get8, reduceCtorEq, Nat.reduceLT, Nat.reduceEqDiff, Nat.reduceAdd, Nat.reduceMul, Nat.reduceLeDiff, Nat.reduceSub, Int.reduceToNat, Int.reduceNeg, Nat.reduceBEq]; first | done | trivial), ?_, Nat.le_refl _, rfl⟩
    have e0 : headB ks ws ++ (ks.take 0).flatMap kdBytes = headB ks ws := by simp
    dsimp only
    rw [e0]
    exact fun id b h => h
  clear hbl hWb hbn hn
  rintro ⟨j, b, n⟩ ⟨hj, hWb, hbn⟩
  dsimp only at hj hWb hbn ⊢
  obtain ⟨E0, hE0⟩ : ∃ E0, headB ks ws ++ (ks.take j).flatMap kdBytes = E0 := ⟨_, rfl⟩
  rw [hE0]
  have hEl : E0.length = 2 + 35 * j := by
    rw [← hE0, List.length_append, flat_len kdBytes 35 kdBytes_len, List.length_take]
    simp [headB]; omega
  refine JS_go (tbOk _) 99 fun x hx => ?_
  simp only [RN, ↓reduceIte, ↓get8, reduceCtorEq, Nat.reduceLT, Nat.reduceEqDiff, Nat.reduceAdd, Nat.reduceMul, Nat.reduceLeDiff, Nat.reduceSub, Int.reduceToNat, Int.reduceNeg, Nat.reduceBEq, TY] at hx
  subst hx
  refine ⟨_, _, rfl, by first | trivial | omega | (simp only [and_true, true_and]; omega), ?_⟩
  refine at_cond (fun hlt2 => ?_) (fun hge => ?_)
  · have hlt3 : j < ks.length := by simpa using hlt2
    obtain ⟨q, hq⟩ : ∃ q, ok = some q := by
      cases ok with
      | none => rw [hk rfl] at hlt3; exact absurd hlt3 (by simp)
      | some q => exact ⟨q, rfl⟩
    have hqn := hkn q hq
    have lq := t2 q hq
    have hs : slv ok ks.length kc = .slice (some ⟨q, 0, none⟩) ks.length kc := by rw [hq]; rfl
    have kg := kcells_get (ks := ks ++ kx) (j := j) (by simp; omega)
    rw [List.getElem_append_left hlt3] at kg
    have kl := kcells_len (ks ++ kx)
    rw [List.length_append] at kl
    obtain ⟨k, hkj⟩ : ∃ k, ks[j] = k := ⟨_, rfl⟩
    rw [hkj] at kg
    have hkk : kindB k ws.length = true := by rw [← hkj]; exact hkB _ (List.getElem_mem hlt3)
    obtain ⟨hv0, hv1⟩ := kindB_speed hkk
    have f0 : ¬ nx = W := by omega
    have f1 : ¬ nx = b := by omega
    have f2 : ¬ nx = q := by omega
    have f3 : ¬ nx = n := by omega
    have f4 : ∀ i, ¬ nx = n + i := by intro i; omega
    have f5 : ¬ n = nx := by omega
    have f6 : ∀ i, ¬ n + i = nx := by intro i; omega
    have f7 : ¬ W = nx := by omega
    have f8 : ¬ W = b := by omega
    have f9 : ¬ W = q := by omega
    have f10 : ¬ W = n := by omega
    have f11 : ∀ i, ¬ W = n + i := by intro i; omega
    have f12 : ¬ n = W := by omega
    have f13 : ∀ i, ¬ n + i = W := by intro i; omega
    have f14 : ¬ b = nx := by omega
    have f15 : ¬ b = W := by omega
    have f16 : ¬ b = q := by omega
    have f17 : ¬ b = n := by omega
    have f18 : ∀ i, ¬ b = n + i := by intro i; omega
    have f19 : ¬ n = b := by omega
    have f20 : ∀ i, ¬ n + i = b := by intro i; omega
    have f21 : ¬ q = nx := by omega
    have f22 : ¬ q = W := by omega
    have f23 : ¬ q = b := by omega
    have f24 : ¬ q = n := by omega
    have f25 : ∀ i, ¬ q = n + i := by intro i; omega
    have f26 : ¬ n = q := by omega
    have f27 : ∀ i, ¬ n + i = q := by intro i; omega
    refine JS_go (tbOk _) 99 fun x hx => ?_
    simp only [RN, ↓reduceIte, ↓get8, reduceCtorEq, Nat.reduceLT, Nat.reduceEqDiff, Nat.reduceAdd, Nat.reduceMul, Nat.reduceLeDiff, Nat.reduceSub, Int.reduceToNat, Int.reduceNeg, Nat.reduceBEq, TY, hs, lq, kg, kl, Kd.cells, f0, f1, f2, f3, f4, f5, f6, f7, f8, f9, f10, f11, f12, f13, f14, f15, f16, f17, f18, f19, f20, f21, f22, f23, f24, f25, f26, f27, Nat.add_assoc, Nat.left_eq_add, Nat.add_eq_left, Nat.add_left_cancel_iff] at hx
    subst hx
    refine ⟨_, _, rfl, by first | trivial | omega | (simp only [and_true, true_and]; omega), ?_⟩
    have hO := ones_s W b E0 [k.c0] (n + 1) (n + 2) (by omega) (by omega) (by omega) (by omega) (by omega) (by omega) (by omega) (by simp)
    have r1 := t4 [W, b, n + 1] (by simp; omega)
    obtain ⟨E1, hE1⟩ : ∃ E1, E0 ++ [k.c0].map toB = E1 := ⟨_, rfl⟩
    have hEl1 : E1.length = 2 + 35 * j + 1 := by rw [← hE1]; simp [hEl, two, outB_len] <;> omega
    rw [hE1] at hO
    refine at_callG hO (by simp only [RN, ↓reduceIte, ↓get8, reduceCtorEq, Nat.reduceLT, Nat.reduceEqDiff, Nat.reduceAdd, Nat.reduceMul, Nat.reduceLeDiff, Nat.reduceSub, Int.reduceToNat, Int.reduceNeg, Nat.reduceBEq, wr, ints, f0, f1, f2, f3, f4, f5, f6, f7, f8, f9, f10, f11, f12, f13, f14, f15, f16, f17, f18, f19, f20, f21, f22, f23, f24, f25, f26, f27, Nat.add_assoc, Nat.left_eq_add, Nat.add_eq_left, Nat.add_left_cancel_iff]; first | done | trivial) ?_
    rintro o L' n1 ⟨rfl, b1, rfl, hn1, hWb1, hbn1, hbb1⟩
    refine ⟨_, by simp only [RN, ↓reduceIte, ↓get8, reduceCtorEq, Nat.reduceLT, Nat.reduceEqDiff, Nat.reduceAdd, Nat.reduceMul, Nat.reduceLeDiff, Nat.reduceSub, Int.reduceToNat, Int.reduceNeg, Nat.reduceBEq]; rfl, ?_⟩
    have g1_0 : ¬ nx = W := by omega
    have g1_1 : ¬ nx = b1 := by omega
    have g1_2 : ¬ nx = n := by omega
    have g1_3 : ¬ nx = n1 := by omega
    have g1_4 : ∀ i, ¬ nx = n1 + i := by intro i; omega
    have g1_5 : ¬ n1 = nx := by omega
    have g1_6 : ∀ i, ¬ n1 + i = nx := by intro i; omega
    have g1_7 : ¬ W = nx := by omega
    have g1_8 : ¬ W = b1 := by omega
    have g1_9 : ¬ W = n := by omega
    have g1_10 : ¬ W = n1 := by omega
    have g1_11 : ∀ i, ¬ W = n1 + i := by intro i; omega
    have g1_12 : ¬ n1 = W := by omega
    have g1_13 : ∀ i, ¬ n1 + i = W := by intro i; omega
    have g1_14 : ¬ b1 = nx := by omega
    have g1_15 : ¬ b1 = W := by omega
    have g1_16 : ¬ b1 = n := by omega
    have g1_17 : ¬ b1 = n1 := by omega
    have g1_18 : ∀ i, ¬ b1 = n1 + i := by intro i; omega
    have g1_19 : ¬ n1 = b1 := by omega
    have g1_20 : ∀ i, ¬ n1 + i = b1 := by intro i; omega
    have g1_21 : ¬ n = nx := by omega
    have g1_22 : ¬ n = W := by omega
    have g1_23 : ¬ n = b1 := by omega
    have g1_24 : ¬ n = n1 := by omega
    have g1_25 : ∀ i, ¬ n = n1 + i := by intro i; omega
    have g1_26 : ¬ n1 = n := by omega
    have g1_27 : ∀ i, ¬ n1 + i = n := by intro i; omega
    refine JS_go (tbOk _) 99 fun x hx => ?_
    simp only [RN, ↓reduceIte, ↓get8, reduceCtorEq, Nat.reduceLT, Nat.reduceEqDiff, Nat.reduceAdd, Nat.reduceMul, Nat.reduceLeDiff, Nat.reduceSub, Int.reduceToNat, Int.reduceNeg, Nat.reduceBEq, TY, f0, f1, f2, f3, f4, f5, f6, f7, f8, f9, f10, f11, f12, f13, f14, f15, f16, f17, f18, f19, f20, f21, f22, f23, f24, f25, f26, f27, g1_0, g1_1, g1_2, g1_3, g1_4, g1_5, g1_6, g1_7, g1_8, g1_9, g1_10, g1_11, g1_12, g1_13, g1_14, g1_15, g1_16, g1_17, g1_18, g1_19, g1_20, g1_21, g1_22, g1_23, g1_24, g1_25, g1_26, g1_27, r1, wr,  Nat.add_assoc, Nat.left_eq_add, Nat.add_eq_left, Nat.add_left_cancel_iff] at hx
    subst hx
    refine ⟨_, _, rfl, by first | trivial | omega | (simp only [and_true, true_and]; omega), ?_⟩
    have hO := twos_s W b1 E1 [k.c1, k.c3, k.c8, k.c9, k.c10, k.c14, k.c15, k.c19] (n1) (n1 + 1) (by omega) (by omega) (by omega) (by omega) (by omega) (by omega) (by omega) (by simp)
    have r2 := t4 [W, b1, n1] (by simp; omega)
    obtain ⟨E2, hE2⟩ : ∃ E2, E1 ++ [k.c1, k.c3, k.c8, k.c9, k.c10, k.c14, k.c15, k.c19].flatMap two = E2 := ⟨_, rfl⟩
    have hEl2 : E2.length = 2 + 35 * j + 17 := by rw [← hE2]; simp [hEl1, two, outB_len] <;> omega
    rw [hE2] at hO
    refine at_callG hO (by simp only [RN, ↓reduceIte, ↓get8, reduceCtorEq, Nat.reduceLT, Nat.reduceEqDiff, Nat.reduceAdd, Nat.reduceMul, Nat.reduceLeDiff, Nat.reduceSub, Int.reduceToNat, Int.reduceNeg, Nat.reduceBEq, wr, ints, g1_0, g1_1, g1_2, g1_3, g1_4, g1_5, g1_6, g1_7, g1_8, g1_9, g1_10, g1_11, g1_12, g1_13, g1_14, g1_15, g1_16, g1_17, g1_18, g1_19, g1_20, g1_21, g1_22, g1_23, g1_24, g1_25, g1_26, g1_27, Nat.add_assoc, Nat.left_eq_add, Nat.add_eq_left, Nat.add_left_cancel_iff]; first | done | trivial) ?_
    rintro o L' n2 ⟨rfl, b2, rfl, hn2, hWb2, hbn2, hbb2⟩
    refine ⟨_, by simp only [RN, ↓reduceIte, ↓get8, reduceCtorEq, Nat.reduceLT, Nat.reduceEqDiff, Nat.reduceAdd, Nat.reduceMul, Nat.reduceLeDiff, Nat.reduceSub, Int.reduceToNat, Int.reduceNeg, Nat.reduceBEq]; rfl, ?_⟩
    have g2_0 : ¬ nx = W := by omega
    have g2_1 : ¬ nx = b2 := by omega
    have g2_2 : ¬ nx = n := by omega
    have g2_3 : ¬ nx = n2 := by omega
    have g2_4 : ∀ i, ¬ nx = n2 + i := by intro i; omega
    have g2_5 : ¬ n2 = nx := by omega
    have g2_6 : ∀ i, ¬ n2 + i = nx := by intro i; omega
    have g2_7 : ¬ W = nx := by omega
    have g2_8 : ¬ W = b2 := by omega
    have g2_9 : ¬ W = n := by omega
    have g2_10 : ¬ W = n2 := by omega
    have g2_11 : ∀ i, ¬ W = n2 + i := by intro i; omega
    have g2_12 : ¬ n2 = W := by omega
    have g2_13 : ∀ i, ¬ n2 + i = W := by intro i; omega
    have g2_14 : ¬ b2 = nx := by omega
    have g2_15 : ¬ b2 = W := by omega
    have g2_16 : ¬ b2 = n := by omega
    have g2_17 : ¬ b2 = n2 := by omega
    have g2_18 : ∀ i, ¬ b2 = n2 + i := by intro i; omega
    have g2_19 : ¬ n2 = b2 := by omega
    have g2_20 : ∀ i, ¬ n2 + i = b2 := by intro i; omega
    have g2_21 : ¬ n = nx := by omega
    have g2_22 : ¬ n = W := by omega
    have g2_23 : ¬ n = b2 := by omega
    have g2_24 : ¬ n = n2 := by omega
    have g2_25 : ∀ i, ¬ n = n2 + i := by intro i; omega
    have g2_26 : ¬ n2 = n := by omega
    have g2_27 : ∀ i, ¬ n2 + i = n := by intro i; omega
    refine JS_go (tbOk _) 99 fun x hx => ?_
    simp only [RN, ↓reduceIte, ↓get8, reduceCtorEq, Nat.reduceLT, Nat.reduceEqDiff, Nat.reduceAdd, Nat.reduceMul, Nat.reduceLeDiff, Nat.reduceSub, Int.reduceToNat, Int.reduceNeg, Nat.reduceBEq, TY, g1_0, g1_1, g1_2, g1_3, g1_4, g1_5, g1_6, g1_7, g1_8, g1_9, g1_10, g1_11, g1_12, g1_13, g1_14, g1_15, g1_16, g1_17, g1_18, g1_19, g1_20, g1_21, g1_22, g1_23, g1_24, g1_25, g1_26, g1_27, g2_0, g2_1, g2_2, g2_3, g2_4, g2_5, g2_6, g2_7, g2_8, g2_9, g2_10, g2_11, g2_12, g2_13, g2_14, g2_15, g2_16, g2_17, g2_18, g2_19, g2_20, g2_21, g2_22, g2_23, g2_24, g2_25, g2_26, g2_27, r2, wr,  Nat.add_assoc, Nat.left_eq_add, Nat.add_eq_left, Nat.add_left_cancel_iff] at hx
    subst hx
    refine ⟨_, _, rfl, by first | trivial | omega | (simp only [and_true, true_and]; omega), ?_⟩
    have hO := ones_s W b2 E2 [k.c4, k.c5, k.c6, k.c7, k.c11, k.c12, k.c13, k.c16, k.c17, k.c18] (n2) (n2 + 1) (by omega) (by omega) (by omega) (by omega) (by omega) (by omega) (by omega) (by simp)
    have r3 := t4 [W, b2, n2] (by simp; omega)
    obtain ⟨E3, hE3⟩ : ∃ E3, E2 ++ [k.c4, k.c5, k.c6, k.c7, k.c11, k.c12, k.c13, k.c16, k.c17, k.c18].map toB = E3 := ⟨_, rfl⟩
    have hEl3 : E3.length = 2 + 35 * j + 27 := by rw [← hE3]; simp [hEl2, two, outB_len] <;> omega
    rw [hE3] at hO
    refine at_callG hO (by simp only [RN, ↓reduceIte, ↓get8, reduceCtorEq, Nat.reduceLT, Nat.reduceEqDiff, Nat.reduceAdd, Nat.reduceMul, Nat.reduceLeDiff, Nat.reduceSub, Int.reduceToNat, Int.reduceNeg, Nat.reduceBEq, wr, ints, g2_0, g2_1, g2_2, g2_3, g2_4, g2_5, g2_6, g2_7, g2_8, g2_9, g2_10, g2_11, g2_12, g2_13, g2_14, g2_15, g2_16, g2_17, g2_18, g2_19, g2_20, g2_21, g2_22, g2_23, g2_24, g2_25, g2_26, g2_27, Nat.add_assoc, Nat.left_eq_add, Nat.add_eq_left, Nat.add_left_cancel_iff]; first | done | trivial) ?_
    rintro o L' n3 ⟨rfl, b3, rfl, hn3, hWb3, hbn3, hbb3⟩
    refine ⟨_, by simp only [RN, ↓reduceIte, ↓get8, reduceCtorEq, Nat.reduceLT, Nat.reduceEqDiff, Nat.reduceAdd, Nat.reduceMul, Nat.reduceLeDiff, Nat.reduceSub, Int.reduceToNat, Int.reduceNeg, Nat.reduceBEq]; rfl, ?_⟩
    have g3_0 : ¬ nx = W := by omega
    have g3_1 : ¬ nx = b3 := by omega
    have g3_2 : ¬ nx = n := by omega
    have g3_3 : ¬ nx = n3 := by omega
    have g3_4 : ∀ i, ¬ nx = n3 + i := by intro i; omega
    have g3_5 : ¬ n3 = nx := by omega
    have g3_6 : ∀ i, ¬ n3 + i = nx := by intro i; omega
    have g3_7 : ¬ W = nx := by omega
    have g3_8 : ¬ W = b3 := by omega
    have g3_9 : ¬ W = n := by omega
    have g3_10 : ¬ W = n3 := by omega
    have g3_11 : ∀ i, ¬ W = n3 + i := by intro i; omega
    have g3_12 : ¬ n3 = W := by omega
    have g3_13 : ∀ i, ¬ n3 + i = W := by intro i; omega
    have g3_14 : ¬ b3 = nx := by omega
    have g3_15 : ¬ b3 = W := by omega
    have g3_16 : ¬ b3 = n := by omega
    have g3_17 : ¬ b3 = n3 := by omega
    have g3_18 : ∀ i, ¬ b3 = n3 + i := by intro i; omega
    have g3_19 : ¬ n3 = b3 := by omega
    have g3_20 : ∀ i, ¬ n3 + i = b3 := by intro i; omega
    have g3_21 : ¬ n = nx := by omega
    have g3_22 : ¬ n = W := by omega
    have g3_23 : ¬ n = b3 := by omega
    have g3_24 : ¬ n = n3 := by omega
    have g3_25 : ∀ i, ¬ n = n3 + i := by intro i; omega
    have g3_26 : ¬ n3 = n := by omega
    have g3_27 : ∀ i, ¬ n3 + i = n := by intro i; omega
    refine JS_go (tbOk _) 99 fun x hx => ?_
    simp only [RN, ↓reduceIte, ↓get8, reduceCtorEq, Nat.reduceLT, Nat.reduceEqDiff, Nat.reduceAdd, Nat.reduceMul, Nat.reduceLeDiff, Nat.reduceSub, Int.reduceToNat, Int.reduceNeg, Nat.reduceBEq, TY, g2_0, g2_1, g2_2, g2_3, g2_4, g2_5, g2_6, g2_7, g2_8, g2_9, g2_10, g2_11, g2_12, g2_13, g2_14, g2_15, g2_16, g2_17, g2_18, g2_19, g2_20, g2_21, g2_22, g2_23, g2_24, g2_25, g2_26, g2_27, g3_0, g3_1, g3_2, g3_3, g3_4, g3_5, g3_6, g3_7, g3_8, g3_9, g3_10, g3_11, g3_12, g3_13, g3_14, g3_15, g3_16, g3_17, g3_18, g3_19, g3_20, g3_21, g3_22, g3_23, g3_24, g3_25, g3_26, g3_27, r3, wr,  Nat.add_assoc, Nat.left_eq_add, Nat.add_eq_left, Nat.add_left_cancel_iff] at hx
    subst hx
    refine ⟨_, _, rfl, by first | trivial | omega | (simp only [and_true, true_and]; omega), ?_⟩
    have hw3 : IntKind.i64.wrap ((j : Int) + 1) = ((j + 1 : Nat) : Int) := wrap_i64 (j + 1) (by omega)
    have hO := wspeed_s W b3 E3 k.c2 (n3) hv0 hv1 (by omega) (by omega) (by omega) (by omega)
    have r4 := t4 [W, b3] (by simp; omega)
    obtain ⟨E4, hE4⟩ : ∃ E4, E3 ++ outB (toS k.c2) 8 = E4 := ⟨_, rfl⟩
    have hEl4 : E4.length = 2 + 35 * j + 35 := by rw [← hE4]; simp [hEl3, two, outB_len] <;> omega
    rw [hE4] at hO
    refine at_callG hO (by simp only [RN, ↓reduceIte, ↓get8, reduceCtorEq, Nat.reduceLT, Nat.reduceEqDiff, Nat.reduceAdd, Nat.reduceMul, Nat.reduceLeDiff, Nat.reduceSub, Int.reduceToNat, Int.reduceNeg, Nat.reduceBEq, wr, ints, g3_0, g3_1, g3_2, g3_3, g3_4, g3_5, g3_6, g3_7, g3_8, g3_9, g3_10, g3_11, g3_12, g3_13, g3_14, g3_15, g3_16, g3_17, g3_18, g3_19, g3_20, g3_21, g3_22, g3_23, g3_24, g3_25, g3_26, g3_27, Nat.add_assoc, Nat.left_eq_add, Nat.add_eq_left, Nat.add_left_cancel_iff]; first | done | trivial) ?_
    rintro o L' n4 ⟨rfl, b4, rfl, hn4, hWb4, hbn4, hbb4⟩
    refine ⟨_, by simp only [RN, ↓reduceIte, ↓get8, reduceCtorEq, Nat.reduceLT, Nat.reduceEqDiff, Nat.reduceAdd, Nat.reduceMul, Nat.reduceLeDiff, Nat.reduceSub, Int.reduceToNat, Int.reduceNeg, Nat.reduceBEq]; rfl, ?_⟩
    have g4_0 : ¬ nx = W := by omega
    have g4_1 : ¬ nx = b4 := by omega
    have g4_2 : ¬ nx = n := by omega
    have g4_3 : ¬ nx = n4 := by omega
    have g4_4 : ∀ i, ¬ nx = n4 + i := by intro i; omega
    have g4_5 : ¬ n4 = nx := by omega
    have g4_6 : ∀ i, ¬ n4 + i = nx := by intro i; omega
    have g4_7 : ¬ W = nx := by omega
    have g4_8 : ¬ W = b4 := by omega
    have g4_9 : ¬ W = n := by omega
    have g4_10 : ¬ W = n4 := by omega
    have g4_11 : ∀ i, ¬ W = n4 + i := by intro i; omega
    have g4_12 : ¬ n4 = W := by omega
    have g4_13 : ∀ i, ¬ n4 + i = W := by intro i; omega
    have g4_14 : ¬ b4 = nx := by omega
    have g4_15 : ¬ b4 = W := by omega
    have g4_16 : ¬ b4 = n := by omega
    have g4_17 : ¬ b4 = n4 := by omega
    have g4_18 : ∀ i, ¬ b4 = n4 + i := by intro i; omega
    have g4_19 : ¬ n4 = b4 := by omega
    have g4_20 : ∀ i, ¬ n4 + i = b4 := by intro i; omega
    have g4_21 : ¬ n = nx := by omega
    have g4_22 : ¬ n = W := by omega
    have g4_23 : ¬ n = b4 := by omega
    have g4_24 : ¬ n = n4 := by omega
    have g4_25 : ∀ i, ¬ n = n4 + i := by intro i; omega
    have g4_26 : ¬ n4 = n := by omega
    have g4_27 : ∀ i, ¬ n4 + i = n := by intro i; omega
    refine JS_go (tbOk _) 99 fun x hx => ?_
    simp only [RN, ↓reduceIte, ↓get8, reduceCtorEq, Nat.reduceLT, Nat.reduceEqDiff, Nat.reduceAdd, Nat.reduceMul, Nat.reduceLeDiff, Nat.reduceSub, Int.reduceToNat, Int.reduceNeg, Nat.reduceBEq, TY, g3_0, g3_1, g3_2, g3_3, g3_4, g3_5, g3_6, g3_7, g3_8, g3_9, g3_10, g3_11, g3_12, g3_13, g3_14, g3_15, g3_16, g3_17, g3_18, g3_19, g3_20, g3_21, g3_22, g3_23, g3_24, g3_25, g3_26, g3_27, g4_0, g4_1, g4_2, g4_3, g4_4, g4_5, g4_6, g4_7, g4_8, g4_9, g4_10, g4_11, g4_12, g4_13, g4_14, g4_15, g4_16, g4_17, g4_18, g4_19, g4_20, g4_21, g4_22, g4_23, g4_24, g4_25, g4_26, g4_27, r4, wr, hw3, Nat.add_assoc, Nat.left_eq_add, Nat.add_eq_left, Nat.add_left_cancel_iff] at hx
    subst hx
    refine ⟨_, _, rfl, by first | trivial | omega | (simp only [and_true, true_and]; omega), ?_⟩
    refine at_done (in_nextI (j + 1, b4, n4) ⟨hlt3, hWb4, hbn4⟩ (by show ks.length - (j + 1) < ks.length - j; omega) ?_)
    refine ⟨rfl, leL_look (by simp only [RN, ↓reduceIte, ↓get8, reduceCtorEq, Nat.reduceLT, Nat.reduceEqDiff, Nat.reduceAdd, Nat.reduceMul, Nat.reduceLeDiff, Nat.reduceSub, Int.reduceToNat, Int.reduceNeg, Nat.reduceBEq, hs]; first | done | trivial), ?_, Nat.le_refl _, rfl⟩
    have eJ : headB ks ws ++ (ks.take (j + 1)).flatMap kdBytes = E4 := by
      rw [List.take_succ_eq_append_getElem hlt3, hkj, List.flatMap_append, ← List.append_assoc, hE0, ← hE4, ← hE3, ← hE2, ← hE1]
      simp [kdBytes]
    dsimp only
    rw [eJ]
    refine leT (X := [_, _, _]) ?_ ?_
    · simp only [RN, ↓reduceIte, ↓get8, reduceCtorEq, Nat.reduceLT, Nat.reduceEqDiff, Nat.reduceAdd, Nat.reduceMul, Nat.reduceLeDiff, Nat.reduceSub, Int.reduceToNat, Int.reduceNeg, Nat.reduceBEq, hs, g4_0, g4_1, g4_2, g4_3, g4_4, g4_5, g4_6, g4_7, g4_8, g4_9, g4_10, g4_11, g4_12, g4_13, g4_14, g4_15, g4_16, g4_17, g4_18, g4_19, g4_20, g4_21, g4_22, g4_23, g4_24, g4_25, g4_26, g4_27, Nat.add_assoc, Nat.left_eq_add, Nat.add_eq_left, Nat.add_left_cancel_iff]; first | done | trivial
    · intro id c h
      have u0 := t5 id c h
      have u1 : ¬ id = nx := by omega
      have u2 : ¬ id = W := by omega
      have u3 : ¬ id = b4 := by omega
      have u4 : ¬ id = n := by omega
      simp only [RN, ↓reduceIte, ↓get8, reduceCtorEq, Nat.reduceLT, Nat.reduceEqDiff, Nat.reduceAdd, Nat.reduceMul, Nat.reduceLeDiff, Nat.reduceSub, Int.reduceToNat, Int.reduceNeg, Nat.reduceBEq, u1, u2, u3, u4, h]
  have hj2 : j = ks.length := by simp at hge; omega
  subst hj2
  rw [List.take_length] at hE0
  refine JS_go (tbOk _) 99 fun x hx => ?_
  simp only [RN, ↓reduceIte, ↓get8, reduceCtorEq, Nat.reduceLT, Nat.reduceEqDiff, Nat.reduceAdd, Nat.reduceMul, Nat.reduceLeDiff, Nat.reduceSub, Int.reduceToNat, Int.reduceNeg, Nat.reduceBEq, TY] at hx
  subst hx
  refine ⟨_, _, rfl, by first | trivial | omega | (simp only [and_true, true_and]; omega), ?_⟩
  refine at_exit (in_exitI (by simp only [RN, ↓reduceIte, ↓get8, reduceCtorEq, Nat.reduceLT, Nat.reduceEqDiff, Nat.reduceAdd, Nat.reduceMul, Nat.reduceLeDiff, Nat.reduceSub, Int.reduceToNat, Int.reduceNeg, Nat.reduceBEq]; rfl) ?_)
  have e0 : ¬ nx = W := by omega
  have e1 : ¬ nx = b := by omega
  have e2 : ¬ nx = n := by omega
  have e3 : ∀ i, ¬ nx = n + i := by intro i; omega
  have e4 : ¬ n = nx := by omega
  have e5 : ∀ i, ¬ n + i = nx := by intro i; omega
  have e6 : ¬ W = nx := by omega
  have e7 : ¬ W = b := by omega
  have e8 : ¬ W = n := by omega
  have e9 : ∀ i, ¬ W = n + i := by intro i; omega
  have e10 : ¬ n = W := by omega
  have e11 : ∀ i, ¬ n + i = W := by intro i; omega
  have e12 : ¬ b = nx := by omega
  have e13 : ¬ b = W := by omega
  have e14 : ¬ b = n := by omega
  have e15 : ∀ i, ¬ b = n + i := by intro i; omega
  have e16 : ¬ n = b := by omega
  have e17 : ∀ i, ¬ n + i = b := by intro i; omega
  refine JS_go (tbOk _) 99 fun x hx => ?_
  simp only [RN, ↓reduceIte, ↓get8, reduceCtorEq, Nat.reduceLT, Nat.reduceEqDiff, Nat.reduceAdd, Nat.reduceMul, Nat.reduceLeDiff, Nat.reduceSub, Int.reduceToNat, Int.reduceNeg, Nat.reduceBEq, TY, ↓l2, e0, e1, e2, e3, e4, e5, e6, e7, e8, e9, e10, e11, e12, e13, e14, e15, e16, e17, Nat.add_assoc, Nat.left_eq_add, Nat.add_eq_left, Nat.add_left_cancel_iff] at hx
  subst hx
  refine ⟨_, _, rfl, by first | trivial | omega | (simp only [and_true, true_and]; omega), ?_⟩
  refine at_loop ?_
  refine JS_loopI (S := fun x : Nat × Nat × Nat => { n := 108, fr := [(84, .int .i64 x.1), (83, .int .i64 ws.length), (82, slv ow ws.length wc), (5, .pointer (some ⟨W, 0, none⟩)), (1, .pointer (some ⟨nx, 0, none⟩))], F := (W, ⟨[.slice (some ⟨x.2.1, 0, none⟩) (E0 ++ (ws.take x.1).flatMap wpBytes).length (E0 ++ (ws.take x.1).flatMap wpBytes).length], 53, 1, false, false⟩) :: (x.2.1, ⟨bys (E0 ++ (ws.take x.1).flatMap wpBytes), 5, 1, false, true⟩) :: (nx, ⟨[slv ok ks.length kc, slv ow ws.length wc], 26, 2, false, false⟩) :: T0, nx := x.2.2, ds := [] })
    (fun p => p.1 ≤ ws.length ∧ W < p.2.1 ∧ p.2.1 < p.2.2) (fun x => ws.length - x.1) (0, b, n) ⟨Nat.zero_le _, hWb, hbn⟩ ?_ ?_
  · refine ⟨rfl, leL_look (by simp only [RN, ↓reduceIte, ↓get8, reduceCtorEq, Nat.reduceLT, Nat.reduceEqDiff, Nat.reduceAdd, Nat.reduceMul, Nat.reduceLeDiff, Nat.reduceSub, Int.reduceToNat, Int.reduceNeg, Nat.reduceBEq]; first | done | trivial), ?_, Nat.le_refl _, rfl⟩
    have e0 : E0 ++ (ws.take 0).flatMap wpBytes = E0 := by simp
    dsimp only
    rw [e0]
    exact fun id b h => h
  clear hWb hbn
  obtain ⟨K0, hK0⟩ : ∃ K0, E0 = K0 := ⟨_, rfl⟩
  rw [hK0] at hE0 hEl ⊢
  clear hK0 E0
  rintro ⟨j, b, n⟩ ⟨hj, hWb, hbn⟩
  dsimp only at hj hWb hbn ⊢
  obtain ⟨E0, hE1⟩ : ∃ E0, K0 ++ (ws.take j).flatMap wpBytes = E0 := ⟨_, rfl⟩
  rw [hE1]
  have hE2 : E0.length = 2 + 35 * ks.length + 14 * j := by
    rw [← hE1, List.length_append, flat_len wpBytes 14 wpBytes_len, List.length_take]
    omega
  clear hEl
  have hEl := hE2
  have hE9 := hE1
  clear hE1 hE2
  refine JS_go (tbOk _) 99 fun x hx => ?_
  simp only [RN, ↓reduceIte, ↓get8, reduceCtorEq, Nat.reduceLT, Nat.reduceEqDiff, Nat.reduceAdd, Nat.reduceMul, Nat.reduceLeDiff, Nat.reduceSub, Int.reduceToNat, Int.reduceNeg, Nat.reduceBEq, TY] at hx
  subst hx
  refine ⟨_, _, rfl, by first | trivial | omega | (simp only [and_true, true_and]; omega), ?_⟩
  refine at_cond (fun hlt2 => ?_) (fun hge => ?_)
  · have hlt3 : j < ws.length := by simpa using hlt2
    obtain ⟨q, hq⟩ : ∃ q, ow = some q := by
      cases ow with
      | none => rw [hw rfl] at hlt3; exact absurd hlt3 (by simp)
      | some q => exact ⟨q, rfl⟩
    have hqn := hwn q hq
    have lq := t3 q hq
    have hs : slv ow ws.length wc = .slice (some ⟨q, 0, none⟩) ws.length wc := by rw [hq]; rfl
    have kg := wcells_get (ws := ws ++ wx) (j := j) (by simp; omega)
    rw [List.getElem_append_left hlt3] at kg
    have kl := wcells_len (ws ++ wx)
    rw [List.length_append] at kl
    obtain ⟨k, hkj⟩ : ∃ k, ws[j] = k := ⟨_, rfl⟩
    rw [hkj] at kg
    have hkk : weaponB k = true := by rw [← hkj]; exact hwB _ (List.getElem_mem hlt3)
    obtain ⟨hv0, hv1⟩ := weaponB_speed hkk
    have f0 : ¬ nx = W := by omega
    have f1 : ¬ nx = b := by omega
    have f2 : ¬ nx = q := by omega
    have f3 : ¬ nx = n := by omega
    have f4 : ∀ i, ¬ nx = n + i := by intro i; omega
    have f5 : ¬ n = nx := by omega
    have f6 : ∀ i, ¬ n + i = nx := by intro i; omega
    have f7 : ¬ W = nx := by omega
    have f8 : ¬ W = b := by omega
    have f9 : ¬ W = q := by omega
    have f10 : ¬ W = n := by omega
    have f11 : ∀ i, ¬ W = n + i := by intro i; omega
    have f12 : ¬ n = W := by omega
    have f13 : ∀ i, ¬ n + i = W := by intro i; omega
    have f14 : ¬ b = nx := by omega
    have f15 : ¬ b = W := by omega
    have f16 : ¬ b = q := by omega
    have f17 : ¬ b = n := by omega
    have f18 : ∀ i, ¬ b = n + i := by intro i; omega
    have f19 : ¬ n = b := by omega
    have f20 : ∀ i, ¬ n + i = b := by intro i; omega
    have f21 : ¬ q = nx := by omega
    have f22 : ¬ q = W := by omega
    have f23 : ¬ q = b := by omega
    have f24 : ¬ q = n := by omega
    have f25 : ∀ i, ¬ q = n + i := by intro i; omega
    have f26 : ¬ n = q := by omega
    have f27 : ∀ i, ¬ n + i = q := by intro i; omega
    refine JS_go (tbOk _) 99 fun x hx => ?_
    simp only [RN, ↓reduceIte, ↓get8, reduceCtorEq, Nat.reduceLT, Nat.reduceEqDiff, Nat.reduceAdd, Nat.reduceMul, Nat.reduceLeDiff, Nat.reduceSub, Int.reduceToNat, Int.reduceNeg, Nat.reduceBEq, TY, hs, lq, kg, kl, Wp.cells, f0, f1, f2, f3, f4, f5, f6, f7, f8, f9, f10, f11, f12, f13, f14, f15, f16, f17, f18, f19, f20, f21, f22, f23, f24, f25, f26, f27, Nat.add_assoc, Nat.left_eq_add, Nat.add_eq_left, Nat.add_left_cancel_iff] at hx
    subst hx
    refine ⟨_, _, rfl, by first | trivial | omega | (simp only [and_true, true_and]; omega), ?_⟩
    have hT : ∀ Y : Hp, leL Y [(n, ⟨k.cells, 51, 6, false, false⟩), (W, ⟨[.slice (some ⟨b, 0, none⟩) E0.length E0.length], 53, 1, false, false⟩), (b, ⟨bys E0, 5, 1, false, true⟩), (nx, ⟨[slv ok ks.length kc, slv ow ws.length wc], 26, 2, false, false⟩)] → (∀ id c, id < nx → look id T0 = some c → look id Y = some c) → ∀ id c, look id ([(n, ⟨k.cells, 51, 6, false, false⟩), (W, ⟨[.slice (some ⟨b, 0, none⟩) E0.length E0.length], 53, 1, false, false⟩), (b, ⟨bys E0, 5, 1, false, true⟩), (nx, ⟨[slv ok ks.length kc, slv ow ws.length wc], 26, 2, false, false⟩)] ++ T0) = some c → look id Y = some c :=
      fun Y h1 h2 => leT h1 fun id c h => h2 id c (t5 id c h) h
    refine at_condM { n := 108, fr := [(10, .int .i64 (if k.under then 1 else 0)), (9, .pointer (some ⟨n, 0, none⟩)), (84, .int .i64 j), (83, .int .i64 ws.length), (82, slv ow ws.length wc), (5, .pointer (some ⟨W, 0, none⟩)), (1, .pointer (some ⟨nx, 0, none⟩))], F := [(n, ⟨k.cells, 51, 6, false, false⟩), (W, ⟨[.slice (some ⟨b, 0, none⟩) E0.length E0.length], 53, 1, false, false⟩), (b, ⟨bys E0, 5, 1, false, true⟩), (nx, ⟨[slv ok ks.length kc, slv ow ws.length wc], 26, 2, false, false⟩)] ++ T0, nx := n + 1, ds := [] } (fun h => ?_) (fun h => ?_) ?_
    · skip
      refine JS_go (tbOk _) 99 fun x hx => ?_
      simp only [RN, ↓reduceIte, ↓get8, reduceCtorEq, Nat.reduceLT, Nat.reduceEqDiff, Nat.reduceAdd, Nat.reduceMul, Nat.reduceLeDiff, Nat.reduceSub, Int.reduceToNat, Int.reduceNeg, Nat.reduceBEq, TY] at hx
      subst hx
      refine ⟨_, _, rfl, by first | trivial | omega | (simp only [and_true, true_and]; omega), ?_⟩
      refine at_done (in_cut ⟨rfl, leL_look (by rw [if_pos h]; simp only [RN, ↓reduceIte, ↓get8, reduceCtorEq, Nat.reduceLT, Nat.reduceEqDiff, Nat.reduceAdd, Nat.reduceMul, Nat.reduceLeDiff, Nat.reduceSub, Int.reduceToNat, Int.reduceNeg, Nat.reduceBEq, hs]; first | done | trivial), hT _ (by simp only [RN, ↓reduceIte, ↓get8, reduceCtorEq, Nat.reduceLT, Nat.reduceEqDiff, Nat.reduceAdd, Nat.reduceMul, Nat.reduceLeDiff, Nat.reduceSub, Int.reduceToNat, Int.reduceNeg, Nat.reduceBEq, hs, Wp.cells, f0, f1, f2, f3, f4, f5, f6, f7, f8, f9, f10, f11, f12, f13, f14, f15, f16, f17, f18, f19, f20, f21, f22, f23, f24, f25, f26, f27, Nat.add_assoc, Nat.left_eq_add, Nat.add_eq_left, Nat.add_left_cancel_iff]; first | done | trivial) (fun id c u0 h => ?_), Nat.le_refl _, rfl⟩)
      have u1 : ¬ id = nx := by omega
      have u2 : ¬ id = W := by omega
      have u3 : ¬ id = b := by omega
      have u4 : ¬ id = n := by omega
      simp only [RN, ↓reduceIte, ↓get8, reduceCtorEq, Nat.reduceLT, Nat.reduceEqDiff, Nat.reduceAdd, Nat.reduceMul, Nat.reduceLeDiff, Nat.reduceSub, Int.reduceToNat, Int.reduceNeg, Nat.reduceBEq, u1, u2, u3, u4, h]
    · skip
      refine JS_go (tbOk _) 99 fun x hx => ?_
      simp only [RN, ↓reduceIte, ↓get8, reduceCtorEq, Nat.reduceLT, Nat.reduceEqDiff, Nat.reduceAdd, Nat.reduceMul, Nat.reduceLeDiff, Nat.reduceSub, Int.reduceToNat, Int.reduceNeg, Nat.reduceBEq, TY] at hx
      subst hx
      refine ⟨_, _, rfl, by first | trivial | omega | (simp only [and_true, true_and]; omega), ?_⟩
      refine at_done (in_cut ⟨rfl, leL_look (by rw [h]; simp only [RN, ↓reduceIte, ↓get8, reduceCtorEq, Nat.reduceLT, Nat.reduceEqDiff, Nat.reduceAdd, Nat.reduceMul, Nat.reduceLeDiff, Nat.reduceSub, Int.reduceToNat, Int.reduceNeg, Nat.reduceBEq, hs]; first | done | trivial), hT _ (by simp only [RN, ↓reduceIte, ↓get8, reduceCtorEq, Nat.reduceLT, Nat.reduceEqDiff, Nat.reduceAdd, Nat.reduceMul, Nat.reduceLeDiff, Nat.reduceSub, Int.reduceToNat, Int.reduceNeg, Nat.reduceBEq, hs, Wp.cells, f0, f1, f2, f3, f4, f5, f6, f7, f8, f9, f10, f11, f12, f13, f14, f15, f16, f17, f18, f19, f20, f21, f22, f23, f24, f25, f26, f27, Nat.add_assoc, Nat.left_eq_add, Nat.add_eq_left, Nat.add_left_cancel_iff]; first | done | trivial) (fun id c u0 h => ?_), Nat.le_refl _, rfl⟩)
      have u1 : ¬ id = nx := by omega
      have u2 : ¬ id = W := by omega
      have u3 : ¬ id = b := by omega
      have u4 : ¬ id = n := by omega
      simp only [RN, ↓reduceIte, ↓get8, reduceCtorEq, Nat.reduceLT, Nat.reduceEqDiff, Nat.reduceAdd, Nat.reduceMul, Nat.reduceLeDiff, Nat.reduceSub, Int.reduceToNat, Int.reduceNeg, Nat.reduceBEq, u1, u2, u3, u4, h]
    clear hT
    obtain ⟨uv, huv⟩ : ∃ uv : Int, (if k.under then 1 else 0) = uv := ⟨_, rfl⟩
    rw [huv]
    unfold Wp.cells
    refine JS_go (tbOk _) 99 fun x hx => ?_
    simp only [RN, ↓reduceIte, ↓get8, reduceCtorEq, Nat.reduceLT, Nat.reduceEqDiff, Nat.reduceAdd, Nat.reduceMul, Nat.reduceLeDiff, Nat.reduceSub, Int.reduceToNat, Int.reduceNeg, Nat.reduceBEq, TY, hs, f0, f1, f2, f3, f4, f5, f6, f7, f8, f9, f10, f11, f12, f13, f14, f15, f16, f17, f18, f19, f20, f21, f22, f23, f24, f25, f26, f27, Nat.add_assoc, Nat.left_eq_add, Nat.add_eq_left, Nat.add_left_cancel_iff] at hx
    subst hx
    refine ⟨_, _, rfl, by first | trivial | omega | (simp only [and_true, true_and]; omega), ?_⟩
    have hO := twos_s W b E0 [k.c1] (n + 1) (n + 2) (by omega) (by omega) (by omega) (by omega) (by omega) (by omega) (by omega) (by simp)
    have r1 := t4 [W, b, n + 1] (by simp; omega)
    obtain ⟨E1, hE1⟩ : ∃ E1, E0 ++ [k.c1].flatMap two = E1 := ⟨_, rfl⟩
    have hEl1 : E1.length = 2 + 14 * j + 2 + 35 * ks.length := by rw [← hE1]; simp [hEl, two, outB_len] <;> omega
    rw [hE1] at hO
    refine at_callG hO (by simp only [RN, ↓reduceIte, ↓get8, reduceCtorEq, Nat.reduceLT, Nat.reduceEqDiff, Nat.reduceAdd, Nat.reduceMul, Nat.reduceLeDiff, Nat.reduceSub, Int.reduceToNat, Int.reduceNeg, Nat.reduceBEq, wr, ints, f0, f1, f2, f3, f4, f5, f6, f7, f8, f9, f10, f11, f12, f13, f14, f15, f16, f17, f18, f19, f20, f21, f22, f23, f24, f25, f26, f27, Nat.add_assoc, Nat.left_eq_add, Nat.add_eq_left, Nat.add_left_cancel_iff]; first | done | trivial) ?_
    rintro o L' n1 ⟨rfl, b1, rfl, hn1, hWb1, hbn1, hbb1⟩
    refine ⟨_, by simp only [RN, ↓reduceIte, ↓get8, reduceCtorEq, Nat.reduceLT, Nat.reduceEqDiff, Nat.reduceAdd, Nat.reduceMul, Nat.reduceLeDiff, Nat.reduceSub, Int.reduceToNat, Int.reduceNeg, Nat.reduceBEq]; rfl, ?_⟩
    have g1_0 : ¬ nx = W := by omega
    have g1_1 : ¬ nx = b1 := by omega
    have g1_2 : ¬ nx = n := by omega
    have g1_3 : ¬ nx = n1 := by omega
    have g1_4 : ∀ i, ¬ nx = n1 + i := by intro i; omega
    have g1_5 : ¬ n1 = nx := by omega
    have g1_6 : ∀ i, ¬ n1 + i = nx := by intro i; omega
    have g1_7 : ¬ W = nx := by omega
    have g1_8 : ¬ W = b1 := by omega
    have g1_9 : ¬ W = n := by omega
    have g1_10 : ¬ W = n1 := by omega
    have g1_11 : ∀ i, ¬ W = n1 + i := by intro i; omega
    have g1_12 : ¬ n1 = W := by omega
    have g1_13 : ∀ i, ¬ n1 + i = W := by intro i; omega
    have g1_14 : ¬ b1 = nx := by omega
    have g1_15 : ¬ b1 = W := by omega
    have g1_16 : ¬ b1 = n := by omega
    have g1_17 : ¬ b1 = n1 := by omega
    have g1_18 : ∀ i, ¬ b1 = n1 + i := by intro i; omega
    have g1_19 : ¬ n1 = b1 := by omega
    have g1_20 : ∀ i, ¬ n1 + i = b1 := by intro i; omega
    have g1_21 : ¬ n = nx := by omega
    have g1_22 : ¬ n = W := by omega
    have g1_23 : ¬ n = b1 := by omega
    have g1_24 : ¬ n = n1 := by omega
    have g1_25 : ∀ i, ¬ n = n1 + i := by intro i; omega
    have g1_26 : ¬ n1 = n := by omega
    have g1_27 : ∀ i, ¬ n1 + i = n := by intro i; omega
    refine JS_go (tbOk _) 99 fun x hx => ?_
    simp only [RN, ↓reduceIte, ↓get8, reduceCtorEq, Nat.reduceLT, Nat.reduceEqDiff, Nat.reduceAdd, Nat.reduceMul, Nat.reduceLeDiff, Nat.reduceSub, Int.reduceToNat, Int.reduceNeg, Nat.reduceBEq, TY, f0, f1, f2, f3, f4, f5, f6, f7, f8, f9, f10, f11, f12, f13, f14, f15, f16, f17, f18, f19, f20, f21, f22, f23, f24, f25, f26, f27, g1_0, g1_1, g1_2, g1_3, g1_4, g1_5, g1_6, g1_7, g1_8, g1_9, g1_10, g1_11, g1_12, g1_13, g1_14, g1_15, g1_16, g1_17, g1_18, g1_19, g1_20, g1_21, g1_22, g1_23, g1_24, g1_25, g1_26, g1_27, r1, wr,  Nat.add_assoc, Nat.left_eq_add, Nat.add_eq_left, Nat.add_left_cancel_iff] at hx
    subst hx
    refine ⟨_, _, rfl, by first | trivial | omega | (simp only [and_true, true_and]; omega), ?_⟩
    have hO := ones_s W b1 E1 [k.c0, k.c3, k.c4, uv] (n1) (n1 + 1) (by omega) (by omega) (by omega) (by omega) (by omega) (by omega) (by omega) (by simp)
    have r2 := t4 [W, b1, n1] (by simp; omega)
    obtain ⟨E2, hE2⟩ : ∃ E2, E1 ++ [k.c0, k.c3, k.c4, uv].map toB = E2 := ⟨_, rfl⟩
    have hEl2 : E2.length = 2 + 14 * j + 6 + 35 * ks.length := by rw [← hE2]; simp [hEl1, two, outB_len] <;> omega
    rw [hE2] at hO
    refine at_callG hO (by simp only [RN, ↓reduceIte, ↓get8, reduceCtorEq, Nat.reduceLT, Nat.reduceEqDiff, Nat.reduceAdd, Nat.reduceMul, Nat.reduceLeDiff, Nat.reduceSub, Int.reduceToNat, Int.reduceNeg, Nat.reduceBEq, wr, ints, g1_0, g1_1, g1_2, g1_3, g1_4, g1_5, g1_6, g1_7, g1_8, g1_9, g1_10, g1_11, g1_12, g1_13, g1_14, g1_15, g1_16, g1_17, g1_18, g1_19, g1_20, g1_21, g1_22, g1_23, g1_24, g1_25, g1_26, g1_27, Nat.add_assoc, Nat.left_eq_add, Nat.add_eq_left, Nat.add_left_cancel_iff]; first | done | trivial) ?_
    rintro o L' n2 ⟨rfl, b2, rfl, hn2, hWb2, hbn2, hbb2⟩
    refine ⟨_, by simp only [RN, ↓reduceIte, ↓get8, reduceCtorEq, Nat.reduceLT, Nat.reduceEqDiff, Nat.reduceAdd, Nat.reduceMul, Nat.reduceLeDiff, Nat.reduceSub, Int.reduceToNat, Int.reduceNeg, Nat.reduceBEq]; rfl, ?_⟩
    have g2_0 : ¬ nx = W := by omega
    have g2_1 : ¬ nx = b2 := by omega
    have g2_2 : ¬ nx = n := by omega
    have g2_3 : ¬ nx = n2 := by omega
    have g2_4 : ∀ i, ¬ nx = n2 + i := by intro i; omega
    have g2_5 : ¬ n2 = nx := by omega
    have g2_6 : ∀ i, ¬ n2 + i = nx := by intro i; omega
    have g2_7 : ¬ W = nx := by omega
    have g2_8 : ¬ W = b2 := by omega
    have g2_9 : ¬ W = n := by omega
    have g2_10 : ¬ W = n2 := by omega
    have g2_11 : ∀ i, ¬ W = n2 + i := by intro i; omega
    have g2_12 : ¬ n2 = W := by omega
    have g2_13 : ∀ i, ¬ n2 + i = W := by intro i; omega
    have g2_14 : ¬ b2 = nx := by omega
    have g2_15 : ¬ b2 = W := by omega
    have g2_16 : ¬ b2 = n := by omega
    have g2_17 : ¬ b2 = n2 := by omega
    have g2_18 : ∀ i, ¬ b2 = n2 + i := by intro i; omega
    have g2_19 : ¬ n2 = b2 := by omega
    have g2_20 : ∀ i, ¬ n2 + i = b2 := by intro i; omega
    have g2_21 : ¬ n = nx := by omega
    have g2_22 : ¬ n = W := by omega
    have g2_23 : ¬ n = b2 := by omega
    have g2_24 : ¬ n = n2 := by omega
    have g2_25 : ∀ i, ¬ n = n2 + i := by intro i; omega
    have g2_26 : ¬ n2 = n := by omega
    have g2_27 : ∀ i, ¬ n2 + i = n := by intro i; omega
    refine JS_go (tbOk _) 99 fun x hx => ?_
    simp only [RN, ↓reduceIte, ↓get8, reduceCtorEq, Nat.reduceLT, Nat.reduceEqDiff, Nat.reduceAdd, Nat.reduceMul, Nat.reduceLeDiff, Nat.reduceSub, Int.reduceToNat, Int.reduceNeg, Nat.reduceBEq, TY, g1_0, g1_1, g1_2, g1_3, g1_4, g1_5, g1_6, g1_7, g1_8, g1_9, g1_10, g1_11, g1_12, g1_13, g1_14, g1_15, g1_16, g1_17, g1_18, g1_19, g1_20, g1_21, g1_22, g1_23, g1_24, g1_25, g1_26, g1_27, g2_0, g2_1, g2_2, g2_3, g2_4, g2_5, g2_6, g2_7, g2_8, g2_9, g2_10, g2_11, g2_12, g2_13, g2_14, g2_15, g2_16, g2_17, g2_18, g2_19, g2_20, g2_21, g2_22, g2_23, g2_24, g2_25, g2_26, g2_27, r2, wr,  Nat.add_assoc, Nat.left_eq_add, Nat.add_eq_left, Nat.add_left_cancel_iff] at hx
    subst hx
    refine ⟨_, _, rfl, by first | trivial | omega | (simp only [and_true, true_and]; omega), ?_⟩
    have hw3 : IntKind.i64.wrap ((j : Int) + 1) = ((j + 1 : Nat) : Int) := wrap_i64 (j + 1) (by omega)
    have hO := wspeed_s W b2 E2 k.c2 (n2) hv0 hv1 (by omega) (by omega) (by omega) (by omega)
    have r3 := t4 [W, b2] (by simp; omega)
    obtain ⟨E3, hE3⟩ : ∃ E3, E2 ++ outB (toS k.c2) 8 = E3 := ⟨_, rfl⟩
    have hEl3 : E3.length = 2 + 14 * j + 14 + 35 * ks.length := by rw [← hE3]; simp [hEl2, two, outB_len] <;> omega
    rw [hE3] at hO
    refine at_callG hO (by simp only [RN, ↓reduceIte, ↓get8, reduceCtorEq, Nat.reduceLT, Nat.reduceEqDiff, Nat.reduceAdd, Nat.reduceMul, Nat.reduceLeDiff, Nat.reduceSub, Int.reduceToNat, Int.reduceNeg, Nat.reduceBEq, wr, ints, g2_0, g2_1, g2_2, g2_3, g2_4, g2_5, g2_6, g2_7, g2_8, g2_9, g2_10, g2_11, g2_12, g2_13, g2_14, g2_15, g2_16, g2_17, g2_18, g2_19, g2_20, g2_21, g2_22, g2_23, g2_24, g2_25, g2_26, g2_27, Nat.add_assoc, Nat.left_eq_add, Nat.add_eq_left, Nat.add_left_cancel_iff]; first | done | trivial) ?_
    rintro o L' n3 ⟨rfl, b3, rfl, hn3, hWb3, hbn3, hbb3⟩
    refine ⟨_, by simp only [RN, ↓reduceIte, ↓get8, reduceCtorEq, Nat.reduceLT, Nat.reduceEqDiff, Nat.reduceAdd, Nat.reduceMul, Nat.reduceLeDiff, Nat.reduceSub, Int.reduceToNat, Int.reduceNeg, Nat.reduceBEq]; rfl, ?_⟩
    have g3_0 : ¬ nx = W := by omega
    have g3_1 : ¬ nx = b3 := by omega
    have g3_2 : ¬ nx = n := by omega
    have g3_3 : ¬ nx = n3 := by omega
    have g3_4 : ∀ i, ¬ nx = n3 + i := by intro i; omega
    have g3_5 : ¬ n3 = nx := by omega
    have g3_6 : ∀ i, ¬ n3 + i = nx := by intro i; omega
    have g3_7 : ¬ W = nx := by omega
    have g3_8 : ¬ W = b3 := by omega
    have g3_9 : ¬ W = n := by omega
    have g3_10 : ¬ W = n3 := by omega
    have g3_11 : ∀ i, ¬ W = n3 + i := by intro i; omega
    have g3_12 : ¬ n3 = W := by omega
    have g3_13 : ∀ i, ¬ n3 + i = W := by intro i; omega
    have g3_14 : ¬ b3 = nx := by omega
    have g3_15 : ¬ b3 = W := by omega
    have g3_16 : ¬ b3 = n := by omega
    have g3_17 : ¬ b3 = n3 := by omega
    have g3_18 : ∀ i, ¬ b3 = n3 + i := by intro i; omega
    have g3_19 : ¬ n3 = b3 := by omega
    have g3_20 : ∀ i, ¬ n3 + i = b3 := by intro i; omega
    have g3_21 : ¬ n = nx := by omega
    have g3_22 : ¬ n = W := by omega
    have g3_23 : ¬ n = b3 := by omega
    have g3_24 : ¬ n = n3 := by omega
    have g3_25 : ∀ i, ¬ n = n3 + i := by intro i; omega
    have g3_26 : ¬ n3 = n := by omega
    have g3_27 : ∀ i, ¬ n3 + i = n := by intro i; omega
    refine JS_go (tbOk _) 99 fun x hx => ?_
    simp only [RN, ↓reduceIte, ↓get8, reduceCtorEq, Nat.reduceLT, Nat.reduceEqDiff, Nat.reduceAdd, Nat.reduceMul, Nat.reduceLeDiff, Nat.reduceSub, Int.reduceToNat, Int.reduceNeg, Nat.reduceBEq, TY, g2_0, g2_1, g2_2, g2_3, g2_4, g2_5, g2_6, g2_7, g2_8, g2_9, g2_10, g2_11, g2_12, g2_13, g2_14, g2_15, g2_16, g2_17, g2_18, g2_19, g2_20, g2_21, g2_22, g2_23, g2_24, g2_25, g2_26, g2_27, g3_0, g3_1, g3_2, g3_3, g3_4, g3_5, g3_6, g3_7, g3_8, g3_9, g3_10, g3_11, g3_12, g3_13, g3_14, g3_15, g3_16, g3_17, g3_18, g3_19, g3_20, g3_21, g3_22, g3_23, g3_24, g3_25, g3_26, g3_27, r3, wr, hw3, Nat.add_assoc, Nat.left_eq_add, Nat.add_eq_left, Nat.add_left_cancel_iff] at hx
    subst hx
    refine ⟨_, _, rfl, by first | trivial | omega | (simp only [and_true, true_and]; omega), ?_⟩
    refine at_done (in_nextI (j + 1, b3, n3) ⟨hlt3, hWb3, hbn3⟩ (by show ws.length - (j + 1) < ws.length - j; omega) ?_)
    refine ⟨rfl, leL_look (by simp only [RN, ↓reduceIte, ↓get8, reduceCtorEq, Nat.reduceLT, Nat.reduceEqDiff, Nat.reduceAdd, Nat.reduceMul, Nat.reduceLeDiff, Nat.reduceSub, Int.reduceToNat, Int.reduceNeg, Nat.reduceBEq, hs]; first | done | trivial), ?_, Nat.le_refl _, rfl⟩
    have eJ : K0 ++ (ws.take (j + 1)).flatMap wpBytes = E3 := by
      rw [List.take_succ_eq_append_getElem hlt3, hkj, List.flatMap_append, ← List.append_assoc, hE9, ← hE3, ← hE2, ← hE1, ← huv]
      simp [wpBytes]
    dsimp only
    rw [eJ]
    refine leT (X := [_, _, _]) ?_ ?_
    · simp only [RN, ↓reduceIte, ↓get8, reduceCtorEq, Nat.reduceLT, Nat.reduceEqDiff, Nat.reduceAdd, Nat.reduceMul, Nat.reduceLeDiff, Nat.reduceSub, Int.reduceToNat, Int.reduceNeg, Nat.reduceBEq, hs, g3_0, g3_1, g3_2, g3_3, g3_4, g3_5, g3_6, g3_7, g3_8, g3_9, g3_10, g3_11, g3_12, g3_13, g3_14, g3_15, g3_16, g3_17, g3_18, g3_19, g3_20, g3_21, g3_22, g3_23, g3_24, g3_25, g3_26, g3_27, Nat.add_assoc, Nat.left_eq_add, Nat.add_eq_left, Nat.add_left_cancel_iff]; first | done | trivial
    · intro id c h
      have u0 := t5 id c h
      have u1 : ¬ id = nx := by omega
      have u2 : ¬ id = W := by omega
      have u3 : ¬ id = b3 := by omega
      have u4 : ¬ id = n := by omega
      simp only [RN, ↓reduceIte, ↓get8, reduceCtorEq, Nat.reduceLT, Nat.reduceEqDiff, Nat.reduceAdd, Nat.reduceMul, Nat.reduceLeDiff, Nat.reduceSub, Int.reduceToNat, Int.reduceNeg, Nat.reduceBEq, u1, u2, u3, u4, h]
  have hj2 : j = ws.length := by simp at hge; omega
  subst hj2
  rw [List.take_length, ← hE0] at hE9
  refine JS_go (tbOk _) 99 fun x hx => ?_
  simp only [RN, ↓reduceIte, ↓get8, reduceCtorEq, Nat.reduceLT, Nat.reduceEqDiff, Nat.reduceAdd, Nat.reduceMul, Nat.reduceLeDiff, Nat.reduceSub, Int.reduceToNat, Int.reduceNeg, Nat.reduceBEq, TY] at hx
  subst hx
  refine ⟨_, _, rfl, by first | trivial | omega | (simp only [and_true, true_and]; omega), ?_⟩
  refine at_exit (in_exitI (by simp only [RN, ↓reduceIte, ↓get8, reduceCtorEq, Nat.reduceLT, Nat.reduceEqDiff, Nat.reduceAdd, Nat.reduceMul, Nat.reduceLeDiff, Nat.reduceSub, Int.reduceToNat, Int.reduceNeg, Nat.reduceBEq]; rfl) ?_)
  refine JS_go (tbOk _) 99 fun x hx => ?_
  simp only [RN, ↓reduceIte, ↓get8, reduceCtorEq, Nat.reduceLT, Nat.reduceEqDiff, Nat.reduceAdd, Nat.reduceMul, Nat.reduceLeDiff, Nat.reduceSub, Int.reduceToNat, Int.reduceNeg, Nat.reduceBEq, TY] at hx
  subst hx
  refine ⟨_, _, rfl, by first | trivial | omega | (simp only [and_true, true_and]; omega), ?_⟩
  refine at_ret ?_
  have hEE : encB ks ws = E0 := hE9
  refine ret_endK (by simp only [RN, ↓reduceIte, ↓get8, reduceCtorEq, Nat.reduceLT, Nat.reduceEqDiff, Nat.reduceAdd, Nat.reduceMul, Nat.reduceLeDiff, Nat.reduceSub, Int.reduceToNat, Int.reduceNeg, Nat.reduceBEq]; rfl) rfl trivial ⟨(b, ⟨bys E0, 5, 1, false, true⟩) :: T0, ?_, by show nx ≤ n; omega, ?_⟩
  · refine leT (X := [_]) ?_ ?_
    · have : ¬ b = W := by omega
      simp only [RN, ↓reduceIte, ↓get8, reduceCtorEq, Nat.reduceLT, Nat.reduceEqDiff, Nat.reduceAdd, Nat.reduceMul, Nat.reduceLeDiff, Nat.reduceSub, Int.reduceToNat, Int.reduceNeg, Nat.reduceBEq, this]; first | done | trivial
    · intro id c h
      have u0 := t5 id c h
      have u1 : ¬ id = nx := by omega
      have u2 : ¬ id = W := by omega
      have u3 : ¬ id = b := by omega
      simp only [RN, ↓reduceIte, ↓get8, reduceCtorEq, Nat.reduceLT, Nat.reduceEqDiff, Nat.reduceAdd, Nat.reduceMul, Nat.reduceLeDiff, Nat.reduceSub, Int.reduceToNat, Int.reduceNeg, Nat.reduceBEq, u1, u2, u3, h]
  · rw [if_pos h0, hEE]
    exact ⟨b, by omega, hbn, rfl, rfl⟩
end Go.Proofs.Ytoihmanhldcjhaa.Id
namespace Go.Proofs.Ytoihmanhldcjhaa.Id
open Go Go.Proofs.Ytoihmanhldcjhaa.Rl
set_option linter.unusedSimpArgs false
set_option linter.unusedVariables false
def kdAt (bs : List UInt8) (at_ : Nat) (x : Int × Int) : Kd := ⟨le ((bs.drop (at_ + 0)).take 1), le ((bs.drop (at_ + 1)).take 2), x.1, le ((bs.drop (at_ + 3)).take 2), le ((bs.drop (at_ + 17)).take 1), le ((bs.drop (at_ + 18)).take 1), le ((bs.drop (at_ + 19)).take 1), le ((bs.drop (at_ + 20)).take 1), le ((bs.drop (at_ + 5)).take 2), le ((bs.drop (at_ + 7)).take 2), le ((bs.drop (at_ + 9)).take 2), le ((bs.drop (at_ + 21)).take 1), le ((bs.drop (at_ + 22)).take 1), le ((bs.drop (at_ + 23)).take 1), le ((bs.drop (at_ + 11)).take 2), le ((bs.drop (at_ + 13)).take 2), le ((bs.drop (at_ + 24)).take 1), le ((bs.drop (at_ + 25)).take 1), le ((bs.drop (at_ + 26)).take 1), le ((bs.drop (at_ + 15)).take 2)⟩
set_option maxRecDepth 100000 in
set_option maxHeartbeats 4000000 in
theorem rkind_c (bs : List UInt8) (ln cp : Nat) (at_ : Nat) (r b : Nat) (nx : Nat) (ro loose : Bool) (ha : at_ + 35 ≤ ln) (hl : ln ≤ bs.length ∧ ln ≤ 1000000) (hbr : ¬ b = r) (hrn : r < nx) (hbn : b < nx) (x : Int × Int) (hx : ofS (le ((bs.drop (at_ + 27)).take 8)) = x) :
    CallW Try.prog 31 [.pointer (some ⟨r, 0, none⟩)] (rdH bs ln cp at_ r b ro loose) nx fun o F' nx' => o = okOr x.2 ((at_ + 27 : Nat) : Int) (.agg (kdAt bs at_ x).cells.toArray) ∧ F' = rdH bs ln cp (at_ + 35) r b ro loose ∧ nx' = nx + 2 := by
  have hrb : ¬ r = b := fun e => hbr e.symm
  have hr0 : ¬ r = nx := by omega
  have hr1 : ∀ i, ¬ r = nx + i := by intro i; omega
  have hb0 : ¬ b = nx := by omega
  have hb1 : ∀ i, ¬ b = nx + i := by intro i; omega
  have hr2 : ¬ nx = r := by omega
  have hr3 : ∀ i, ¬ nx + i = r := by intro i; omega
  have hb2 : ¬ nx = b := by omega
  have hb3 : ∀ i, ¬ nx + i = b := by intro i; omega
  unfold rdH
  refine CallW_go (tbOk _) 65 [.cell 2 46] Try.func31 rfl (by decide) rfl rfl (by simp) fun hlt => ?_
  simp only [params, Nat.zero_add, Nat.reduceAdd]
  have h0 := one_c bs ln cp (at_ + 0) r b (nx + 1) ro loose (by omega) hl hbr
  unfold rdH at h0
  refine JS_go (tbOk _) 99 fun x hx => ?_
  simp only [RN, ↓reduceIte, ↓get8, reduceCtorEq, Nat.reduceLT, Nat.reduceEqDiff, Nat.reduceAdd, Nat.reduceMul, Nat.reduceLeDiff, Nat.reduceSub, Int.reduceToNat, Int.reduceNeg, Nat.reduceBEq, TY, hbr, hr0, hr1, hb0, hb1, hr2, hr3, hb2, hb3, hrb, Nat.add_assoc, Nat.left_eq_add, Nat.add_eq_left, Nat.add_left_cancel_iff] at hx
  subst hx
  refine ⟨_, _, rfl, by first | trivial | omega | (simp only [and_true, true_and]; omega), ?_⟩
  refine at_callK (h0) (by simp only [RN, ↓reduceIte, ↓get8, reduceCtorEq, Nat.reduceLT, Nat.reduceEqDiff, Nat.reduceAdd, Nat.reduceMul, Nat.reduceLeDiff, Nat.reduceSub, Int.reduceToNat, Int.reduceNeg, Nat.reduceBEq, hbr, hr0, hr1, hb0, hb1, hr2, hr3, hb2, hb3, hrb, Nat.add_assoc, Nat.left_eq_add, Nat.add_eq_left, Nat.add_left_cancel_iff]; first | done | trivial) (by simp only [RN, ↓reduceIte, ↓get8, reduceCtorEq, Nat.reduceLT, Nat.reduceEqDiff, Nat.reduceAdd, Nat.reduceMul, Nat.reduceLeDiff, Nat.reduceSub, Int.reduceToNat, Int.reduceNeg, Nat.reduceBEq, hbr, hr0, hr1, hb0, hb1, hr2, hr3, hb2, hb3, hrb, Nat.add_assoc, Nat.left_eq_add, Nat.add_eq_left, Nat.add_left_cancel_iff]; rfl) ?_
  have h1 := two_c bs ln cp (at_ + 1) r b (nx + 2) ro loose (by omega) hl hbr
  unfold rdH at h1
  refine JS_go (tbOk _) 99 fun x hx => ?_
  simp only [RN, ↓reduceIte, ↓get8, reduceCtorEq, Nat.reduceLT, Nat.reduceEqDiff, Nat.reduceAdd, Nat.reduceMul, Nat.reduceLeDiff, Nat.reduceSub, Int.reduceToNat, Int.reduceNeg, Nat.reduceBEq, TY, hbr, hr0, hr1, hb0, hb1, hr2, hr3, hb2, hb3, hrb, Nat.add_assoc, Nat.left_eq_add, Nat.add_eq_left, Nat.add_left_cancel_iff] at hx
  subst hx
  refine ⟨_, _, rfl, by first | trivial | omega | (simp only [and_true, true_and]; omega), ?_⟩
  refine at_callK (h1) (by simp only [RN, ↓reduceIte, ↓get8, reduceCtorEq, Nat.reduceLT, Nat.reduceEqDiff, Nat.reduceAdd, Nat.reduceMul, Nat.reduceLeDiff, Nat.reduceSub, Int.reduceToNat, Int.reduceNeg, Nat.reduceBEq, hbr, hr0, hr1, hb0, hb1, hr2, hr3, hb2, hb3, hrb, Nat.add_assoc, Nat.left_eq_add, Nat.add_eq_left, Nat.add_left_cancel_iff]; first | done | trivial) (by simp only [RN, ↓reduceIte, ↓get8, reduceCtorEq, Nat.reduceLT, Nat.reduceEqDiff, Nat.reduceAdd, Nat.reduceMul, Nat.reduceLeDiff, Nat.reduceSub, Int.reduceToNat, Int.reduceNeg, Nat.reduceBEq, hbr, hr0, hr1, hb0, hb1, hr2, hr3, hb2, hb3, hrb, Nat.add_assoc, Nat.left_eq_add, Nat.add_eq_left, Nat.add_left_cancel_iff]; rfl) ?_
  have h2 := two_c bs ln cp (at_ + 3) r b (nx + 2) ro loose (by omega) hl hbr
  unfold rdH at h2
  refine JS_go (tbOk _) 99 fun x hx => ?_
  simp only [RN, ↓reduceIte, ↓get8, reduceCtorEq, Nat.reduceLT, Nat.reduceEqDiff, Nat.reduceAdd, Nat.reduceMul, Nat.reduceLeDiff, Nat.reduceSub, Int.reduceToNat, Int.reduceNeg, Nat.reduceBEq, TY, hbr, hr0, hr1, hb0, hb1, hr2, hr3, hb2, hb3, hrb, Nat.add_assoc, Nat.left_eq_add, Nat.add_eq_left, Nat.add_left_cancel_iff] at hx
  subst hx
  refine ⟨_, _, rfl, by first | trivial | omega | (simp only [and_true, true_and]; omega), ?_⟩
  refine at_callK (h2) (by simp only [RN, ↓reduceIte, ↓get8, reduceCtorEq, Nat.reduceLT, Nat.reduceEqDiff, Nat.reduceAdd, Nat.reduceMul, Nat.reduceLeDiff, Nat.reduceSub, Int.reduceToNat, Int.reduceNeg, Nat.reduceBEq, hbr, hr0, hr1, hb0, hb1, hr2, hr3, hb2, hb3, hrb, Nat.add_assoc, Nat.left_eq_add, Nat.add_eq_left, Nat.add_left_cancel_iff]; first | done | trivial) (by simp only [RN, ↓reduceIte, ↓get8, reduceCtorEq, Nat.reduceLT, Nat.reduceEqDiff, Nat.reduceAdd, Nat.reduceMul, Nat.reduceLeDiff, Nat.reduceSub, Int.reduceToNat, Int.reduceNeg, Nat.reduceBEq, hbr, hr0, hr1, hb0, hb1, hr2, hr3, hb2, hb3, hrb, Nat.add_assoc, Nat.left_eq_add, Nat.add_eq_left, Nat.add_left_cancel_iff]; rfl) ?_
  have h3 := two_c bs ln cp (at_ + 5) r b (nx + 2) ro loose (by omega) hl hbr
  unfold rdH at h3
  refine JS_go (tbOk _) 99 fun x hx => ?_
  simp only [RN, ↓reduceIte, ↓get8, reduceCtorEq, Nat.reduceLT, Nat.reduceEqDiff, Nat.reduceAdd, Nat.reduceMul, Nat.reduceLeDiff, Nat.reduceSub, Int.reduceToNat, Int.reduceNeg, Nat.reduceBEq, TY, hbr, hr0, hr1, hb0, hb1, hr2, hr3, hb2, hb3, hrb, Nat.add_assoc, Nat.left_eq_add, Nat.add_eq_left, Nat.add_left_cancel_iff] at hx
  subst hx
  refine ⟨_, _, rfl, by first | trivial | omega | (simp only [and_true, true_and]; omega), ?_⟩
  refine at_callK (h3) (by simp only [RN, ↓reduceIte, ↓get8, reduceCtorEq, Nat.reduceLT, Nat.reduceEqDiff, Nat.reduceAdd, Nat.reduceMul, Nat.reduceLeDiff, Nat.reduceSub, Int.reduceToNat, Int.reduceNeg, Nat.reduceBEq, hbr, hr0, hr1, hb0, hb1, hr2, hr3, hb2, hb3, hrb, Nat.add_assoc, Nat.left_eq_add, Nat.add_eq_left, Nat.add_left_cancel_iff]; first | done | trivial) (by simp only [RN, ↓reduceIte, ↓get8, reduceCtorEq, Nat.reduceLT, Nat.reduceEqDiff, Nat.reduceAdd, Nat.reduceMul, Nat.reduceLeDiff, Nat.reduceSub, Int.reduceToNat, Int.reduceNeg, Nat.reduceBEq, hbr, hr0, hr1, hb0, hb1, hr2, hr3, hb2, hb3, hrb, Nat.add_assoc, Nat.left_eq_add, Nat.add_eq_left, Nat.add_left_cancel_iff]; rfl) ?_
  have h4 := two_c bs ln cp (at_ + 7) r b (nx + 2) ro loose (by omega) hl hbr
  unfold rdH at h4
  refine JS_go (tbOk _) 99 fun x hx => ?_
  simp only [RN, ↓reduceIte, ↓get8, reduceCtorEq, Nat.reduceLT, Nat.reduceEqDiff, Nat.reduceAdd, Nat.reduceMul, Nat.reduceLeDiff, Nat.reduceSub, Int.reduceToNat, Int.reduceNeg, Nat.reduceBEq, TY, hbr, hr0, hr1, hb0, hb1, hr2, hr3, hb2, hb3, hrb, Nat.add_assoc, Nat.left_eq_add, Nat.add_eq_left, Nat.add_left_cancel_iff] at hx
  subst hx
  refine ⟨_, _, rfl, by first | trivial | omega | (simp only [and_true, true_and]; omega), ?_⟩
  refine at_callK (h4) (by simp only [RN, ↓reduceIte, ↓get8, reduceCtorEq, Nat.reduceLT, Nat.reduceEqDiff, Nat.reduceAdd, Nat.reduceMul, Nat.reduceLeDiff, Nat.reduceSub, Int.reduceToNat, Int.reduceNeg, Nat.reduceBEq, hbr, hr0, hr1, hb0, hb1, hr2, hr3, hb2, hb3, hrb, Nat.add_assoc, Nat.left_eq_add, Nat.add_eq_left, Nat.add_left_cancel_iff]; first | done | trivial) (by simp only [RN, ↓reduceIte, ↓get8, reduceCtorEq, Nat.reduceLT, Nat.reduceEqDiff, Nat.reduceAdd, Nat.reduceMul, Nat.reduceLeDiff, Nat.reduceSub, Int.reduceToNat, Int.reduceNeg, Nat.reduceBEq, hbr, hr0, hr1, hb0, hb1, hr2, hr3, hb2, hb3, hrb, Nat.add_assoc, Nat.left_eq_add, Nat.add_eq_left, Nat.add_left_cancel_iff]; rfl) ?_
  have h5 := two_c bs ln cp (at_ + 9) r b (nx + 2) ro loose (by omega) hl hbr
  unfold rdH at h5
  refine JS_go (tbOk _) 99 fun x hx => ?_
  simp only [RN, ↓reduceIte, ↓get8, reduceCtorEq, Nat.reduceLT, Nat.reduceEqDiff, Nat.reduceAdd, Nat.reduceMul, Nat.reduceLeDiff, Nat.reduceSub, Int.reduceToNat, Int.reduceNeg, Nat.reduceBEq, TY, hbr, hr0, hr1, hb0, hb1, hr2, hr3, hb2, hb3, hrb, Nat.add_assoc, Nat.left_eq_add, Nat.add_eq_left, Nat.add_left_cancel_iff] at hx
  subst hx
  refine ⟨_, _, rfl, by first | trivial | omega | (simp only [and_true, true_and]; omega), ?_⟩
  refine at_callK (h5) (by simp only [RN, ↓reduceIte, ↓get8, reduceCtorEq, Nat.reduceLT, Nat.reduceEqDiff, Nat.reduceAdd, Nat.reduceMul, Nat.reduceLeDiff, Nat.reduceSub, Int.reduceToNat, Int.reduceNeg, Nat.reduceBEq, hbr, hr0, hr1, hb0, hb1, hr2, hr3, hb2, hb3, hrb, Nat.add_assoc, Nat.left_eq_add, Nat.add_eq_left, Nat.add_left_cancel_iff]; first | done | trivial) (by simp only [RN, ↓reduceIte, ↓get8, reduceCtorEq, Nat.reduceLT, Nat.reduceEqDiff, Nat.reduceAdd, Nat.reduceMul, Nat.reduceLeDiff, Nat.reduceSub, Int.reduceToNat, Int.reduceNeg, Nat.reduceBEq, hbr, hr0, hr1, hb0, hb1, hr2, hr3, hb2, hb3, hrb, Nat.add_assoc, Nat.left_eq_add, Nat.add_eq_left, Nat.add_left_cancel_iff]; rfl) ?_
  have h6 := two_c bs ln cp (at_ + 11) r b (nx + 2) ro loose (by omega) hl hbr
  unfold rdH at h6
  refine JS_go (tbOk _) 99 fun x hx => ?_
  simp only [RN, ↓reduceIte, ↓get8, reduceCtorEq, Nat.reduceLT, Nat.reduceEqDiff, Nat.reduceAdd, Nat.reduceMul, Nat.reduceLeDiff, Nat.reduceSub, Int.reduceToNat, Int.reduceNeg, Nat.reduceBEq, TY, hbr, hr0, hr1, hb0, hb1, hr2, hr3, hb2, hb3, hrb, Nat.add_assoc, Nat.left_eq_add, Nat.add_eq_left, Nat.add_left_cancel_iff] at hx
  subst hx
  refine ⟨_, _, rfl, by first | trivial | omega | (simp only [and_true, true_and]; omega), ?_⟩
  refine at_callK (h6) (by simp only [RN, ↓reduceIte, ↓get8, reduceCtorEq, Nat.reduceLT, Nat.reduceEqDiff, Nat.reduceAdd, Nat.reduceMul, Nat.reduceLeDiff, Nat.reduceSub, Int.reduceToNat, Int.reduceNeg, Nat.reduceBEq, hbr, hr0, hr1, hb0, hb1, hr2, hr3, hb2, hb3, hrb, Nat.add_assoc, Nat.left_eq_add, Nat.add_eq_left, Nat.add_left_cancel_iff]; first | done | trivial) (by simp only [RN, ↓reduceIte, ↓get8, reduceCtorEq, Nat.reduceLT, Nat.reduceEqDiff, Nat.reduceAdd, Nat.reduceMul, Nat.reduceLeDiff, Nat.reduceSub, Int.reduceToNat, Int.reduceNeg, Nat.reduceBEq, hbr, hr0, hr1, hb0, hb1, hr2, hr3, hb2, hb3, hrb, Nat.add_assoc, Nat.left_eq_add, Nat.add_eq_left, Nat.add_left_cancel_iff]; rfl) ?_
  have h7 := two_c bs ln cp (at_ + 13) r b (nx + 2) ro loose (by omega) hl hbr
  unfold rdH at h7
  refine JS_go (tbOk _) 99 fun x hx => ?_
  simp only [RN, ↓reduceIte, ↓get8, reduceCtorEq, Nat.reduceLT, Nat.reduceEqDiff, Nat.reduceAdd, Nat.reduceMul, Nat.reduceLeDiff, Nat.reduceSub, Int.reduceToNat, Int.reduceNeg, Nat.reduceBEq, TY, hbr, hr0, hr1, hb0, hb1, hr2, hr3, hb2, hb3, hrb, Nat.add_assoc, Nat.left_eq_add, Nat.add_eq_left, Nat.add_left_cancel_iff] at hx
  subst hx
  refine ⟨_, _, rfl, by first | trivial | omega | (simp only [and_true, true_and]; omega), ?_⟩
  refine at_callK (h7) (by simp only [RN, ↓reduceIte, ↓get8, reduceCtorEq, Nat.reduceLT, Nat.reduceEqDiff, Nat.reduceAdd, Nat.reduceMul, Nat.reduceLeDiff, Nat.reduceSub, Int.reduceToNat, Int.reduceNeg, Nat.reduceBEq, hbr, hr0, hr1, hb0, hb1, hr2, hr3, hb2, hb3, hrb, Nat.add_assoc, Nat.left_eq_add, Nat.add_eq_left, Nat.add_left_cancel_iff]; first | done | trivial) (by simp only [RN, ↓reduceIte, ↓get8, reduceCtorEq, Nat.reduceLT, Nat.reduceEqDiff, Nat.reduceAdd, Nat.reduceMul, Nat.reduceLeDiff, Nat.reduceSub, Int.reduceToNat, Int.reduceNeg, Nat.reduceBEq, hbr, hr0, hr1, hb0, hb1, hr2, hr3, hb2, hb3, hrb, Nat.add_assoc, Nat.left_eq_add, Nat.add_eq_left, Nat.add_left_cancel_iff]; rfl) ?_
  have h8 := two_c bs ln cp (at_ + 15) r b (nx + 2) ro loose (by omega) hl hbr
  unfold rdH at h8
  refine JS_go (tbOk _) 99 fun x hx => ?_
  simp only [RN, ↓reduceIte, ↓get8, reduceCtorEq, Nat.reduceLT, Nat.reduceEqDiff, Nat.reduceAdd, Nat.reduceMul, Nat.reduceLeDiff, Nat.reduceSub, Int.reduceToNat, Int.reduceNeg, Nat.reduceBEq, TY, hbr, hr0, hr1, hb0, hb1, hr2, hr3, hb2, hb3, hrb, Nat.add_assoc, Nat.left_eq_add, Nat.add_eq_left, Nat.add_left_cancel_iff] at hx
  subst hx
  refine ⟨_, _, rfl, by first | trivial | omega | (simp only [and_true, true_and]; omega), ?_⟩
  refine at_callK (h8) (by simp only [RN, ↓reduceIte, ↓get8, reduceCtorEq, Nat.reduceLT, Nat.reduceEqDiff, Nat.reduceAdd, Nat.reduceMul, Nat.reduceLeDiff, Nat.reduceSub, Int.reduceToNat, Int.reduceNeg, Nat.reduceBEq, hbr, hr0, hr1, hb0, hb1, hr2, hr3, hb2, hb3, hrb, Nat.add_assoc, Nat.left_eq_add, Nat.add_eq_left, Nat.add_left_cancel_iff]; first | done | trivial) (by simp only [RN, ↓reduceIte, ↓get8, reduceCtorEq, Nat.reduceLT, Nat.reduceEqDiff, Nat.reduceAdd, Nat.reduceMul, Nat.reduceLeDiff, Nat.reduceSub, Int.reduceToNat, Int.reduceNeg, Nat.reduceBEq, hbr, hr0, hr1, hb0, hb1, hr2, hr3, hb2, hb3, hrb, Nat.add_assoc, Nat.left_eq_add, Nat.add_eq_left, Nat.add_left_cancel_iff]; rfl) ?_
  have h9 := one_c bs ln cp (at_ + 17) r b (nx + 2) ro loose (by omega) hl hbr
  unfold rdH at h9
  refine JS_go (tbOk _) 99 fun x hx => ?_
  simp only [RN, ↓reduceIte, ↓get8, reduceCtorEq, Nat.reduceLT, Nat.reduceEqDiff, Nat.reduceAdd, Nat.reduceMul, Nat.reduceLeDiff, Nat.reduceSub, Int.reduceToNat, Int.reduceNeg, Nat.reduceBEq, TY, hbr, hr0, hr1, hb0, hb1, hr2, hr3, hb2, hb3, hrb, Nat.add_assoc, Nat.left_eq_add, Nat.add_eq_left, Nat.add_left_cancel_iff] at hx
  subst hx
  refine ⟨_, _, rfl, by first | trivial | omega | (simp only [and_true, true_and]; omega), ?_⟩
  refine at_callK (h9) (by simp only [RN, ↓reduceIte, ↓get8, reduceCtorEq, Nat.reduceLT, Nat.reduceEqDiff, Nat.reduceAdd, Nat.reduceMul, Nat.reduceLeDiff, Nat.reduceSub, Int.reduceToNat, Int.reduceNeg, Nat.reduceBEq, hbr, hr0, hr1, hb0, hb1, hr2, hr3, hb2, hb3, hrb, Nat.add_assoc, Nat.left_eq_add, Nat.add_eq_left, Nat.add_left_cancel_iff]; first | done | trivial) (by simp only [RN, ↓reduceIte, ↓get8, reduceCtorEq, Nat.reduceLT, Nat.reduceEqDiff, Nat.reduceAdd, Nat.reduceMul, Nat.reduceLeDiff, Nat.reduceSub, Int.reduceToNat, Int.reduceNeg, Nat.reduceBEq, hbr, hr0, hr1, hb0, hb1, hr2, hr3, hb2, hb3, hrb, Nat.add_assoc, Nat.left_eq_add, Nat.add_eq_left, Nat.add_left_cancel_iff]; rfl) ?_
  have h10 := one_c bs ln cp (at_ + 18) r b (nx + 2) ro loose (by omega) hl hbr
  unfold rdH at h10
  refine JS_go (tbOk _) 99 fun x hx => ?_
  simp only [RN, ↓reduceIte, ↓get8, reduceCtorEq, Nat.reduceLT, Nat.reduceEqDiff, Nat.reduceAdd, Nat.reduceMul, Nat.reduceLeDiff, Nat.reduceSub, Int.reduceToNat, Int.reduceNeg, Nat.reduceBEq, TY, hbr, hr0, hr1, hb0, hb1, hr2, hr3, hb2, hb3, hrb, Nat.add_assoc, Nat.left_eq_add, Nat.add_eq_left, Nat.add_left_cancel_iff] at hx
  subst hx
  refine ⟨_, _, rfl, by first | trivial | omega | (simp only [and_true, true_and]; omega), ?_⟩
  refine at_callK (h10) (by simp only [RN, ↓reduceIte, ↓get8, reduceCtorEq, Nat.reduceLT, Nat.reduceEqDiff, Nat.reduceAdd, Nat.reduceMul, Nat.reduceLeDiff, Nat.reduceSub, Int.reduceToNat, Int.reduceNeg, Nat.reduceBEq, hbr, hr0, hr1, hb0, hb1, hr2, hr3, hb2, hb3, hrb, Nat.add_assoc, Nat.left_eq_add, Nat.add_eq_left, Nat.add_left_cancel_iff]; first | done | trivial) (by simp only [RN, ↓reduceIte, ↓get8, reduceCtorEq, Nat.reduceLT, Nat.reduceEqDiff, Nat.reduceAdd, Nat.reduceMul, Nat.reduceLeDiff, Nat.reduceSub, Int.reduceToNat, Int.reduceNeg, Nat.reduceBEq, hbr, hr0, hr1, hb0, hb1, hr2, hr3, hb2, hb3, hrb, Nat.add_assoc, Nat.left_eq_add, Nat.add_eq_left, Nat.add_left_cancel_iff]; rfl) ?_
  have h11 := one_c bs ln cp (at_ + 19) r b (nx + 2) ro loose (by omega) hl hbr
  unfold rdH at h11
  refine JS_go (tbOk _) 99 fun x hx => ?_
  simp only [RN, ↓reduceIte, ↓get8, reduceCtorEq, Nat.reduceLT, Nat.reduceEqDiff, Nat.reduceAdd, Nat.reduceMul, Nat.reduceLeDiff, Nat.reduceSub, Int.reduceToNat, Int.reduceNeg, Nat.reduceBEq, TY, hbr, hr0, hr1, hb0, hb1, hr2, hr3, hb2, hb3, hrb, Nat.add_assoc, Nat.left_eq_add, Nat.add_eq_left, Nat.add_left_cancel_iff] at hx
  subst hx
  refine ⟨_, _, rfl, by first | trivial | omega | (simp only [and_true, true_and]; omega), ?_⟩
  refine at_callK (h11) (by simp only [RN, ↓reduceIte, ↓get8, reduceCtorEq, Nat.reduceLT, Nat.reduceEqDiff, Nat.reduceAdd, Nat.reduceMul, Nat.reduceLeDiff, Nat.reduceSub, Int.reduceToNat, Int.reduceNeg, Nat.reduceBEq, hbr, hr0, hr1, hb0, hb1, hr2, hr3, hb2, hb3, hrb, Nat.add_assoc, Nat.left_eq_add, Nat.add_eq_left, Nat.add_left_cancel_iff]; first | done | trivial) (by simp only [RN, ↓reduceIte, ↓get8, reduceCtorEq, Nat.reduceLT, Nat.reduceEqDiff, Nat.reduceAdd, Nat.reduceMul, Nat.reduceLeDiff, Nat.reduceSub, Int.reduceToNat, Int.reduceNeg, Nat.reduceBEq, hbr, hr0, hr1, hb0, hb1, hr2, hr3, hb2, hb3, hrb, Nat.add_assoc, Nat.left_eq_add, Nat.add_eq_left, Nat.add_left_cancel_iff]; rfl) ?_
  have h12 := one_c bs ln cp (at_ + 20) r b (nx + 2) ro loose (by omega) hl hbr
  unfold rdH at h12
  refine JS_go (tbOk _) 99 fun x hx => ?_
  simp only [RN, ↓reduceIte, ↓get8, reduceCtorEq, Nat.reduceLT, Nat.reduceEqDiff, Nat.reduceAdd, Nat.reduceMul, Nat.reduceLeDiff, Nat.reduceSub, Int.reduceToNat, Int.reduceNeg, Nat.reduceBEq, TY, hbr, hr0, hr1, hb0, hb1, hr2, hr3, hb2, hb3, hrb, Nat.add_assoc, Nat.left_eq_add, Nat.add_eq_left, Nat.add_left_cancel_iff] at hx
  subst hx
  refine ⟨_, _, rfl, by first | trivial | omega | (simp only [and_true, true_and]; omega), ?_⟩
  refine at_callK (h12) (by simp only [RN, ↓reduceIte, ↓get8, reduceCtorEq, Nat.reduceLT, Nat.reduceEqDiff, Nat.reduceAdd, Nat.reduceMul, Nat.reduceLeDiff, Nat.reduceSub, Int.reduceToNat, Int.reduceNeg, Nat.reduceBEq, hbr, hr0, hr1, hb0, hb1, hr2, hr3, hb2, hb3, hrb, Nat.add_assoc, Nat.left_eq_add, Nat.add_eq_left, Nat.add_left_cancel_iff]; first | done | trivial) (by simp only [RN, ↓reduceIte, ↓get8, reduceCtorEq, Nat.reduceLT, Nat.reduceEqDiff, Nat.reduceAdd, Nat.reduceMul, Nat.reduceLeDiff, Nat.reduceSub, Int.reduceToNat, Int.reduceNeg, Nat.reduceBEq, hbr, hr0, hr1, hb0, hb1, hr2, hr3, hb2, hb3, hrb, Nat.add_assoc, Nat.left_eq_add, Nat.add_eq_left, Nat.add_left_cancel_iff]; rfl) ?_
  have h13 := one_c bs ln cp (at_ + 21) r b (nx + 2) ro loose (by omega) hl hbr
  unfold rdH at h13
  refine JS_go (tbOk _) 99 fun x hx => ?_
  simp only [RN, ↓reduceIte, ↓get8, reduceCtorEq, Nat.reduceLT, Nat.reduceEqDiff, Nat.reduceAdd, Nat.reduceMul, Nat.reduceLeDiff, Nat.reduceSub, Int.reduceToNat, Int.reduceNeg, Nat.reduceBEq, TY, hbr, hr0, hr1, hb0, hb1, hr2, hr3, hb2, hb3, hrb, Nat.add_assoc, Nat.left_eq_add, Nat.add_eq_left, Nat.add_left_cancel_iff] at hx
  subst hx
  refine ⟨_, _, rfl, by first | trivial | omega | (simp only [and_true, true_and]; omega), ?_⟩
  refine at_callK (h13) (by simp only [RN, ↓reduceIte, ↓get8, reduceCtorEq, Nat.reduceLT, Nat.reduceEqDiff, Nat.reduceAdd, Nat.reduceMul, Nat.reduceLeDiff, Nat.reduceSub, Int.reduceToNat, Int.reduceNeg, Nat.reduceBEq, hbr, hr0, hr1, hb0, hb1, hr2, hr3, hb2, hb3, hrb, Nat.add_assoc, Nat.left_eq_add, Nat.add_eq_left, Nat.add_left_cancel_iff]; first | done | trivial) (by simp only [RN, ↓reduceIte, ↓get8, reduceCtorEq, Nat.reduceLT, Nat.reduceEqDiff, Nat.reduceAdd, Nat.reduceMul, Nat.reduceLeDiff, Nat.reduceSub, Int.reduceToNat, Int.reduceNeg, Nat.reduceBEq, hbr, hr0, hr1, hb0, hb1, hr2, hr3, hb2, hb3, hrb, Nat.add_assoc, Nat.left_eq_add, Nat.add_eq_left, Nat.add_left_cancel_iff]; rfl) ?_
  have h14 := one_c bs ln cp (at_ + 22) r b (nx + 2) ro loose (by omega) hl hbr
  unfold rdH at h14
  refine JS_go (tbOk _) 99 fun x hx => ?_
  simp only [RN, ↓reduceIte, ↓get8, reduceCtorEq, Nat.reduceLT, Nat.reduceEqDiff, Nat.reduceAdd, Nat.reduceMul, Nat.reduceLeDiff, Nat.reduceSub, Int.reduceToNat, Int.reduceNeg, Nat.reduceBEq, TY, hbr, hr0, hr1, hb0, hb1, hr2, hr3, hb2, hb3, hrb, Nat.add_assoc, Nat.left_eq_add, Nat.add_eq_left, Nat.add_left_cancel_iff] at hx
  subst hx
  refine ⟨_, _, rfl, by first | trivial | omega | (simp only [and_true, true_and]; omega), ?_⟩
  refine at_callK (h14) (by simp only [RN, ↓reduceIte, ↓get8, reduceCtorEq, Nat.reduceLT, Nat.reduceEqDiff, Nat.reduceAdd, Nat.reduceMul, Nat.reduceLeDiff, Nat.reduceSub, Int.reduceToNat, Int.reduceNeg, Nat.reduceBEq, hbr, hr0, hr1, hb0, hb1, hr2, hr3, hb2, hb3, hrb, Nat.add_assoc, Nat.left_eq_add, Nat.add_eq_left, Nat.add_left_cancel_iff]; first | done | trivial) (by simp only [RN, ↓reduceIte, ↓get8, reduceCtorEq, Nat.reduceLT, Nat.reduceEqDiff, Nat.reduceAdd, Nat.reduceMul, Nat.reduceLeDiff, Nat.reduceSub, Int.reduceToNat, Int.reduceNeg, Nat.reduceBEq, hbr, hr0, hr1, hb0, hb1, hr2, hr3, hb2, hb3, hrb, Nat.add_assoc, Nat.left_eq_add, Nat.add_eq_left, Nat.add_left_cancel_iff]; rfl) ?_
  have h15 := one_c bs ln cp (at_ + 23) r b (nx + 2) ro loose (by omega) hl hbr
  unfold rdH at h15
  refine JS_go (tbOk _) 99 fun x hx => ?_
  simp only [RN, ↓reduceIte, ↓get8, reduceCtorEq, Nat.reduceLT, Nat.reduceEqDiff, Nat.reduceAdd, Nat.reduceMul, Nat.reduceLeDiff, Nat.reduceSub, Int.reduceToNat, Int.reduceNeg, Nat.reduceBEq, TY, hbr, hr0, hr1, hb0, hb1, hr2, hr3, hb2, hb3, hrb, Nat.add_assoc, Nat.left_eq_add, Nat.add_eq_left, Nat.add_left_cancel_iff] at hx
  subst hx
  refine ⟨_, _, rfl, by first | trivial | omega | (simp only [and_true, true_and]; omega), ?_⟩
  refine at_callK (h15) (by simp only [RN, ↓reduceIte, ↓get8, reduceCtorEq, Nat.reduceLT, Nat.reduceEqDiff, Nat.reduceAdd, Nat.reduceMul, Nat.reduceLeDiff, Nat.reduceSub, Int.reduceToNat, Int.reduceNeg, Nat.reduceBEq, hbr, hr0, hr1, hb0, hb1, hr2, hr3, hb2, hb3, hrb, Nat.add_assoc, Nat.left_eq_add, Nat.add_eq_left, Nat.add_left_cancel_iff]; first | done | trivial) (by simp only [RN, ↓reduceIte, ↓get8, reduceCtorEq, Nat.reduceLT, Nat.reduceEqDiff, Nat.reduceAdd, Nat.reduceMul, Nat.reduceLeDiff, Nat.reduceSub, Int.reduceToNat, Int.reduceNeg, Nat.reduceBEq, hbr, hr0, hr1, hb0, hb1, hr2, hr3, hb2, hb3, hrb, Nat.add_assoc, Nat.left_eq_add, Nat.add_eq_left, Nat.add_left_cancel_iff]; rfl) ?_
  have h16 := one_c bs ln cp (at_ + 24) r b (nx + 2) ro loose (by omega) hl hbr
  unfold rdH at h16
  refine JS_go (tbOk _) 99 fun x hx => ?_
  simp only [RN, ↓reduceIte, ↓get8, reduceCtorEq, Nat.reduceLT, Nat.reduceEqDiff, Nat.reduceAdd, Nat.reduceMul, Nat.reduceLeDiff, Nat.reduceSub, Int.reduceToNat, Int.reduceNeg, Nat.reduceBEq, TY, hbr, hr0, hr1, hb0, hb1, hr2, hr3, hb2, hb3, hrb, Nat.add_assoc, Nat.left_eq_add, Nat.add_eq_left, Nat.add_left_cancel_iff] at hx
  subst hx
  refine ⟨_, _, rfl, by first | trivial | omega | (simp only [and_true, true_and]; omega), ?_⟩
  refine at_callK (h16) (by simp only [RN, ↓reduceIte, ↓get8, reduceCtorEq, Nat.reduceLT, Nat.reduceEqDiff, Nat.reduceAdd, Nat.reduceMul, Nat.reduceLeDiff, Nat.reduceSub, Int.reduceToNat, Int.reduceNeg, Nat.reduceBEq, hbr, hr0, hr1, hb0, hb1, hr2, hr3, hb2, hb3, hrb, Nat.add_assoc, Nat.left_eq_add, Nat.add_eq_left, Nat.add_left_cancel_iff]; first | done | trivial) (by simp only [RN, ↓reduceIte, ↓get8, reduceCtorEq, Nat.reduceLT, Nat.reduceEqDiff, Nat.reduceAdd, Nat.reduceMul, Nat.reduceLeDiff, Nat.reduceSub, Int.reduceToNat, Int.reduceNeg, Nat.reduceBEq, hbr, hr0, hr1, hb0, hb1, hr2, hr3, hb2, hb3, hrb, Nat.add_assoc, Nat.left_eq_add, Nat.add_eq_left, Nat.add_left_cancel_iff]; rfl) ?_
  have h17 := one_c bs ln cp (at_ + 25) r b (nx + 2) ro loose (by omega) hl hbr
  unfold rdH at h17
  refine JS_go (tbOk _) 99 fun x hx => ?_
  simp only [RN, ↓reduceIte, ↓get8, reduceCtorEq, Nat.reduceLT, Nat.reduceEqDiff, Nat.reduceAdd, Nat.reduceMul, Nat.reduceLeDiff, Nat.reduceSub, Int.reduceToNat, Int.reduceNeg, Nat.reduceBEq, TY, hbr, hr0, hr1, hb0, hb1, hr2, hr3, hb2, hb3, hrb, Nat.add_assoc, Nat.left_eq_add, Nat.add_eq_left, Nat.add_left_cancel_iff] at hx
  subst hx
  refine ⟨_, _, rfl, by first | trivial | omega | (simp only [and_true, true_and]; omega), ?_⟩
  refine at_callK (h17) (by simp only [RN, ↓reduceIte, ↓get8, reduceCtorEq, Nat.reduceLT, Nat.reduceEqDiff, Nat.reduceAdd, Nat.reduceMul, Nat.reduceLeDiff, Nat.reduceSub, Int.reduceToNat, Int.reduceNeg, Nat.reduceBEq, hbr, hr0, hr1, hb0, hb1, hr2, hr3, hb2, hb3, hrb, Nat.add_assoc, Nat.left_eq_add, Nat.add_eq_left, Nat.add_left_cancel_iff]; first | done | trivial) (by simp only [RN, ↓reduceIte, ↓get8, reduceCtorEq, Nat.reduceLT, Nat.reduceEqDiff, Nat.reduceAdd, Nat.reduceMul, Nat.reduceLeDiff, Nat.reduceSub, Int.reduceToNat, Int.reduceNeg, Nat.reduceBEq, hbr, hr0, hr1, hb0, hb1, hr2, hr3, hb2, hb3, hrb, Nat.add_assoc, Nat.left_eq_add, Nat.add_eq_left, Nat.add_left_cancel_iff]; rfl) ?_
  have h18 := one_c bs ln cp (at_ + 26) r b (nx + 2) ro loose (by omega) hl hbr
  unfold rdH at h18
  refine JS_go (tbOk _) 99 fun x hx => ?_
  simp only [RN, ↓reduceIte, ↓get8, reduceCtorEq, Nat.reduceLT, Nat.reduceEqDiff, Nat.reduceAdd, Nat.reduceMul, Nat.reduceLeDiff, Nat.reduceSub, Int.reduceToNat, Int.reduceNeg, Nat.reduceBEq, TY, hbr, hr0, hr1, hb0, hb1, hr2, hr3, hb2, hb3, hrb, Nat.add_assoc, Nat.left_eq_add, Nat.add_eq_left, Nat.add_left_cancel_iff] at hx
  subst hx
  refine ⟨_, _, rfl, by first | trivial | omega | (simp only [and_true, true_and]; omega), ?_⟩
  refine at_callK (h18) (by simp only [RN, ↓reduceIte, ↓get8, reduceCtorEq, Nat.reduceLT, Nat.reduceEqDiff, Nat.reduceAdd, Nat.reduceMul, Nat.reduceLeDiff, Nat.reduceSub, Int.reduceToNat, Int.reduceNeg, Nat.reduceBEq, hbr, hr0, hr1, hb0, hb1, hr2, hr3, hb2, hb3, hrb, Nat.add_assoc, Nat.left_eq_add, Nat.add_eq_left, Nat.add_left_cancel_iff]; first | done | trivial) (by simp only [RN, ↓reduceIte, ↓get8, reduceCtorEq, Nat.reduceLT, Nat.reduceEqDiff, Nat.reduceAdd, Nat.reduceMul, Nat.reduceLeDiff, Nat.reduceSub, Int.reduceToNat, Int.reduceNeg, Nat.reduceBEq, hbr, hr0, hr1, hb0, hb1, hr2, hr3, hb2, hb3, hrb, Nat.add_assoc, Nat.left_eq_add, Nat.add_eq_left, Nat.add_left_cancel_iff]; rfl) ?_
  have hs := speed_c bs ln cp (at_ + 27) r b (nx + 2) ro loose (by omega) hl hbr x hx
  unfold rdH at hs
  refine JS_go (tbOk _) 99 fun x hx => ?_
  simp only [RN, ↓reduceIte, ↓get8, reduceCtorEq, Nat.reduceLT, Nat.reduceEqDiff, Nat.reduceAdd, Nat.reduceMul, Nat.reduceLeDiff, Nat.reduceSub, Int.reduceToNat, Int.reduceNeg, Nat.reduceBEq, TY, hbr, hr0, hr1, hb0, hb1, hr2, hr3, hb2, hb3, hrb, Nat.add_assoc, Nat.left_eq_add, Nat.add_eq_left, Nat.add_left_cancel_iff] at hx
  subst hx
  refine ⟨_, _, rfl, by first | trivial | omega | (simp only [and_true, true_and]; omega), ?_⟩
  refine at_callG hs (by simp only [RN, ↓reduceIte, ↓get8, reduceCtorEq, Nat.reduceLT, Nat.reduceEqDiff, Nat.reduceAdd, Nat.reduceMul, Nat.reduceLeDiff, Nat.reduceSub, Int.reduceToNat, Int.reduceNeg, Nat.reduceBEq, hbr, hr0, hr1, hb0, hb1, hr2, hr3, hb2, hb3, hrb, Nat.add_assoc, Nat.left_eq_add, Nat.add_eq_left, Nat.add_left_cancel_iff]; first | done | trivial) ?_
  rintro o L' n ⟨rfl, rfl, rfl⟩
  unfold okOr
  by_cases hc : x.2 = 0
  · simp only [if_pos hc]
    refine ⟨_, by simp only [RN, ↓reduceIte, ↓get8, reduceCtorEq, Nat.reduceLT, Nat.reduceEqDiff, Nat.reduceAdd, Nat.reduceMul, Nat.reduceLeDiff, Nat.reduceSub, Int.reduceToNat, Int.reduceNeg, Nat.reduceBEq, hbr, hr0, hr1, hb0, hb1, hr2, hr3, hb2, hb3, hrb, Nat.add_assoc, Nat.left_eq_add, Nat.add_eq_left, Nat.add_left_cancel_iff]; rfl, ?_⟩
    refine JS_go (tbOk _) 99 fun x hx => ?_
    simp only [RN, ↓reduceIte, ↓get8, reduceCtorEq, Nat.reduceLT, Nat.reduceEqDiff, Nat.reduceAdd, Nat.reduceMul, Nat.reduceLeDiff, Nat.reduceSub, Int.reduceToNat, Int.reduceNeg, Nat.reduceBEq, TY, hbr, hr0, hr1, hb0, hb1, hr2, hr3, hb2, hb3, hrb, Nat.add_assoc, Nat.left_eq_add, Nat.add_eq_left, Nat.add_left_cancel_iff] at hx
    subst hx
    refine ⟨_, _, rfl, by first | trivial | omega | (simp only [and_true, true_and]; omega), ?_⟩
    first | refine at_ret ?_ | refine at_done ?_
    repeat (first | refine in_ret ?_ | refine in_retI ?_)
    first | refine ret_endK (by simp only [RN, ↓reduceIte, ↓get8, reduceCtorEq, Nat.reduceLT, Nat.reduceEqDiff, Nat.reduceAdd, Nat.reduceMul, Nat.reduceLeDiff, Nat.reduceSub, Int.reduceToNat, Int.reduceNeg, Nat.reduceBEq]; rfl) rfl trivial ?_ | refine nrm_endK (by simp only [RN, ↓reduceIte, ↓get8, reduceCtorEq, Nat.reduceLT, Nat.reduceEqDiff, Nat.reduceAdd, Nat.reduceMul, Nat.reduceLeDiff, Nat.reduceSub, Int.reduceToNat, Int.reduceNeg, Nat.reduceBEq]; rfl) rfl trivial ?_ | refine ret_endK (by simp only [RN, ↓reduceIte, ↓get8, reduceCtorEq, Nat.reduceLT, Nat.reduceEqDiff, Nat.reduceAdd, Nat.reduceMul, Nat.reduceLeDiff, Nat.reduceSub, Int.reduceToNat, Int.reduceNeg, Nat.reduceBEq, TY, hbr, hr0, hr1, hb0, hb1, hr2, hr3, hb2, hb3, hrb, Nat.add_assoc, Nat.left_eq_add, Nat.add_eq_left, Nat.add_left_cancel_iff]; rfl) rfl (by first | trivial | omega) ?_
    refine ⟨_, ?_, rfl, rfl, rfl⟩
    exact leL_look (by simp only [RN, ↓reduceIte, ↓get8, reduceCtorEq, Nat.reduceLT, Nat.reduceEqDiff, Nat.reduceAdd, Nat.reduceMul, Nat.reduceLeDiff, Nat.reduceSub, Int.reduceToNat, Int.reduceNeg, Nat.reduceBEq, hbr, hr0, hr1, hb0, hb1, hr2, hr3, hb2, hb3, hrb, Nat.add_assoc, Nat.left_eq_add, Nat.add_eq_left, Nat.add_left_cancel_iff]; first | done | trivial)
  · simp only [if_neg hc]
    refine pan_endK rfl ⟨_, ?_, rfl, rfl, rfl⟩
    exact leL_look (by simp only [RN, ↓reduceIte, ↓get8, reduceCtorEq, Nat.reduceLT, Nat.reduceEqDiff, Nat.reduceAdd, Nat.reduceMul, Nat.reduceLeDiff, Nat.reduceSub, Int.reduceToNat, Int.reduceNeg, Nat.reduceBEq, hbr, hr0, hr1, hb0, hb1, hr2, hr3, hb2, hb3, hrb, Nat.add_assoc, Nat.left_eq_add, Nat.add_eq_left, Nat.add_left_cancel_iff]; first | done | trivial)
end Go.Proofs.Ytoihmanhldcjhaa.Id
namespace Go.Proofs.Ytoihmanhldcjhaa.Id
open Go Go.Proofs.Ytoihmanhldcjhaa.Rl
set_option linter.unusedSimpArgs false
set_option linter.unusedVariables false
def wpAt (bs : List UInt8) (at_ : Nat) (u : Nat) (x : Int × Int) : Wp := ⟨le ((bs.drop (at_ + 2)).take 1), le ((bs.drop (at_ + 0)).take 2), x.1, le ((bs.drop (at_ + 3)).take 1), le ((bs.drop (at_ + 4)).take 1), (u : Int) == 1⟩
set_option maxRecDepth 100000 in
set_option maxHeartbeats 4000000 in
theorem rweapon_no (bs : List UInt8) (ln cp : Nat) (at_ : Nat) (r b : Nat) (nx : Nat) (ro loose : Bool) (ha : at_ + 14 ≤ ln) (hl : ln ≤ bs.length ∧ ln ≤ 1000000) (hbr : ¬ b = r) (hrn : r < nx) (hbn : b < nx) (u : Nat) (hu : le ((bs.drop (at_ + 5)).take 1) = u) (h1 : 1 < u) :
    CallW Try.prog 32 [.pointer (some ⟨r, 0, none⟩)] (rdH bs ln cp at_ r b ro loose) nx fun o F' nx' => o = .pan (.iface 60 (.agg #[.int .i64 3, .int .i64 ((at_ + 5 : Nat) : Int)])) ∧ F' = rdH bs ln cp (at_ + 6) r b ro loose ∧ nx' = nx + 2 := by
  have hrb : ¬ r = b := fun e => hbr e.symm
  have hr0 : ¬ r = nx := by omega
  have hr1 : ∀ i, ¬ r = nx + i := by intro i; omega
  have hb0 : ¬ b = nx := by omega
  have hb1 : ∀ i, ¬ b = nx + i := by intro i; omega
  have hr2 : ¬ nx = r := by omega
  have hr3 : ∀ i, ¬ nx + i = r := by intro i; omega
  have hb2 : ¬ nx = b := by omega
  have hb3 : ∀ i, ¬ nx + i = b := by intro i; omega
  unfold rdH
  refine CallW_go (tbOk _) 36 [.cell 2 51] Try.func32 rfl (by decide) rfl rfl (by simp) fun hlt => ?_
  simp only [params, Nat.zero_add, Nat.reduceAdd]
  have h0 := two_c bs ln cp (at_ + 0) r b (nx + 1) ro loose (by omega) hl hbr
  unfold rdH at h0
  refine JS_go (tbOk _) 99 fun x hx => ?_
  simp only [RN, ↓reduceIte, ↓get8, reduceCtorEq, Nat.reduceLT, Nat.reduceEqDiff, Nat.reduceAdd, Nat.reduceMul, Nat.reduceLeDiff, Nat.reduceSub, Int.reduceToNat, Int.reduceNeg, Nat.reduceBEq, TY, hbr, hr0, hr1, hb0, hb1, hr2, hr3, hb2, hb3, hrb, Nat.add_assoc, Nat.left_eq_add, Nat.add_eq_left, Nat.add_left_cancel_iff] at hx
  subst hx
  refine ⟨_, _, rfl, by first | trivial | omega | (simp only [and_true, true_and]; omega), ?_⟩
  refine at_callK (h0) (by simp only [RN, ↓reduceIte, ↓get8, reduceCtorEq, Nat.reduceLT, Nat.reduceEqDiff, Nat.reduceAdd, Nat.reduceMul, Nat.reduceLeDiff, Nat.reduceSub, Int.reduceToNat, Int.reduceNeg, Nat.reduceBEq, hbr, hr0, hr1, hb0, hb1, hr2, hr3, hb2, hb3, hrb, Nat.add_assoc, Nat.left_eq_add, Nat.add_eq_left, Nat.add_left_cancel_iff]; first | done | trivial) (by simp only [RN, ↓reduceIte, ↓get8, reduceCtorEq, Nat.reduceLT, Nat.reduceEqDiff, Nat.reduceAdd, Nat.reduceMul, Nat.reduceLeDiff, Nat.reduceSub, Int.reduceToNat, Int.reduceNeg, Nat.reduceBEq, hbr, hr0, hr1, hb0, hb1, hr2, hr3, hb2, hb3, hrb, Nat.add_assoc, Nat.left_eq_add, Nat.add_eq_left, Nat.add_left_cancel_iff]; rfl) ?_
  have h1 := one_c bs ln cp (at_ + 2) r b (nx + 2) ro loose (by omega) hl hbr
  unfold rdH at h1
  refine JS_go (tbOk _) 99 fun x hx => ?_
  simp only [RN, ↓reduceIte, ↓get8, reduceCtorEq, Nat.reduceLT, Nat.reduceEqDiff, Nat.reduceAdd, Nat.reduceMul, Nat.reduceLeDiff, Nat.reduceSub, Int.reduceToNat, Int.reduceNeg, Nat.reduceBEq, TY, hbr, hr0, hr1, hb0, hb1, hr2, hr3, hb2, hb3, hrb, Nat.add_assoc, Nat.left_eq_add, Nat.add_eq_left, Nat.add_left_cancel_iff] at hx
  subst hx
  refine ⟨_, _, rfl, by first | trivial | omega | (simp only [and_true, true_and]; omega), ?_⟩
  refine at_callK (h1) (by simp only [RN, ↓reduceIte, ↓get8, reduceCtorEq, Nat.reduceLT, Nat.reduceEqDiff, Nat.reduceAdd, Nat.reduceMul, Nat.reduceLeDiff, Nat.reduceSub, Int.reduceToNat, Int.reduceNeg, Nat.reduceBEq, hbr, hr0, hr1, hb0, hb1, hr2, hr3, hb2, hb3, hrb, Nat.add_assoc, Nat.left_eq_add, Nat.add_eq_left, Nat.add_left_cancel_iff]; first | done | trivial) (by simp only [RN, ↓reduceIte, ↓get8, reduceCtorEq, Nat.reduceLT, Nat.reduceEqDiff, Nat.reduceAdd, Nat.reduceMul, Nat.reduceLeDiff, Nat.reduceSub, Int.reduceToNat, Int.reduceNeg, Nat.reduceBEq, hbr, hr0, hr1, hb0, hb1, hr2, hr3, hb2, hb3, hrb, Nat.add_assoc, Nat.left_eq_add, Nat.add_eq_left, Nat.add_left_cancel_iff]; rfl) ?_
  have h2 := one_c bs ln cp (at_ + 3) r b (nx + 2) ro loose (by omega) hl hbr
  unfold rdH at h2
  refine JS_go (tbOk _) 99 fun x hx => ?_
  simp only [RN, ↓reduceIte, ↓get8, reduceCtorEq, Nat.reduceLT, Nat.reduceEqDiff, Nat.reduceAdd, Nat.reduceMul, Nat.reduceLeDiff, Nat.reduceSub, Int.reduceToNat, Int.reduceNeg, Nat.reduceBEq, TY, hbr, hr0, hr1, hb0, hb1, hr2, hr3, hb2, hb3, hrb, Nat.add_assoc, Nat.left_eq_add, Nat.add_eq_left, Nat.add_left_cancel_iff] at hx
  subst hx
  refine ⟨_, _, rfl, by first | trivial | omega | (simp only [and_true, true_and]; omega), ?_⟩
  refine at_callK (h2) (by simp only [RN, ↓reduceIte, ↓get8, reduceCtorEq, Nat.reduceLT, Nat.reduceEqDiff, Nat.reduceAdd, Nat.reduceMul, Nat.reduceLeDiff, Nat.reduceSub, Int.reduceToNat, Int.reduceNeg, Nat.reduceBEq, hbr, hr0, hr1, hb0, hb1, hr2, hr3, hb2, hb3, hrb, Nat.add_assoc, Nat.left_eq_add, Nat.add_eq_left, Nat.add_left_cancel_iff]; first | done | trivial) (by simp only [RN, ↓reduceIte, ↓get8, reduceCtorEq, Nat.reduceLT, Nat.reduceEqDiff, Nat.reduceAdd, Nat.reduceMul, Nat.reduceLeDiff, Nat.reduceSub, Int.reduceToNat, Int.reduceNeg, Nat.reduceBEq, hbr, hr0, hr1, hb0, hb1, hr2, hr3, hb2, hb3, hrb, Nat.add_assoc, Nat.left_eq_add, Nat.add_eq_left, Nat.add_left_cancel_iff]; rfl) ?_
  have h3 := one_c bs ln cp (at_ + 4) r b (nx + 2) ro loose (by omega) hl hbr
  unfold rdH at h3
  refine JS_go (tbOk _) 99 fun x hx => ?_
  simp only [RN, ↓reduceIte, ↓get8, reduceCtorEq, Nat.reduceLT, Nat.reduceEqDiff, Nat.reduceAdd, Nat.reduceMul, Nat.reduceLeDiff, Nat.reduceSub, Int.reduceToNat, Int.reduceNeg, Nat.reduceBEq, TY, hbr, hr0, hr1, hb0, hb1, hr2, hr3, hb2, hb3, hrb, Nat.add_assoc, Nat.left_eq_add, Nat.add_eq_left, Nat.add_left_cancel_iff] at hx
  subst hx
  refine ⟨_, _, rfl, by first | trivial | omega | (simp only [and_true, true_and]; omega), ?_⟩
  refine at_callK (h3) (by simp only [RN, ↓reduceIte, ↓get8, reduceCtorEq, Nat.reduceLT, Nat.reduceEqDiff, Nat.reduceAdd, Nat.reduceMul, Nat.reduceLeDiff, Nat.reduceSub, Int.reduceToNat, Int.reduceNeg, Nat.reduceBEq, hbr, hr0, hr1, hb0, hb1, hr2, hr3, hb2, hb3, hrb, Nat.add_assoc, Nat.left_eq_add, Nat.add_eq_left, Nat.add_left_cancel_iff]; first | done | trivial) (by simp only [RN, ↓reduceIte, ↓get8, reduceCtorEq, Nat.reduceLT, Nat.reduceEqDiff, Nat.reduceAdd, Nat.reduceMul, Nat.reduceLeDiff, Nat.reduceSub, Int.reduceToNat, Int.reduceNeg, Nat.reduceBEq, hbr, hr0, hr1, hb0, hb1, hr2, hr3, hb2, hb3, hrb, Nat.add_assoc, Nat.left_eq_add, Nat.add_eq_left, Nat.add_left_cancel_iff]; rfl) ?_
  have h4 := one_c bs ln cp (at_ + 5) r b (nx + 2) ro loose (by omega) hl hbr
  rw [hu] at h4
  unfold rdH at h4
  refine JS_go (tbOk _) 99 fun x hx => ?_
  simp only [RN, ↓reduceIte, ↓get8, reduceCtorEq, Nat.reduceLT, Nat.reduceEqDiff, Nat.reduceAdd, Nat.reduceMul, Nat.reduceLeDiff, Nat.reduceSub, Int.reduceToNat, Int.reduceNeg, Nat.reduceBEq, TY, hbr, hr0, hr1, hb0, hb1, hr2, hr3, hb2, hb3, hrb, Nat.add_assoc, Nat.left_eq_add, Nat.add_eq_left, Nat.add_left_cancel_iff] at hx
  subst hx
  refine ⟨_, _, rfl, by first | trivial | omega | (simp only [and_true, true_and]; omega), ?_⟩
  refine at_callK (h4) (by simp only [RN, ↓reduceIte, ↓get8, reduceCtorEq, Nat.reduceLT, Nat.reduceEqDiff, Nat.reduceAdd, Nat.reduceMul, Nat.reduceLeDiff, Nat.reduceSub, Int.reduceToNat, Int.reduceNeg, Nat.reduceBEq, hbr, hr0, hr1, hb0, hb1, hr2, hr3, hb2, hb3, hrb, Nat.add_assoc, Nat.left_eq_add, Nat.add_eq_left, Nat.add_left_cancel_iff]; first | done | trivial) (by simp only [RN, ↓reduceIte, ↓get8, reduceCtorEq, Nat.reduceLT, Nat.reduceEqDiff, Nat.reduceAdd, Nat.reduceMul, Nat.reduceLeDiff, Nat.reduceSub, Int.reduceToNat, Int.reduceNeg, Nat.reduceBEq, hbr, hr0, hr1, hb0, hb1, hr2, hr3, hb2, hb3, hrb, Nat.add_assoc, Nat.left_eq_add, Nat.add_eq_left, Nat.add_left_cancel_iff]; rfl) ?_
  refine JS_go (tbOk _) 99 fun x hx => ?_
  simp only [RN, ↓reduceIte, ↓get8, reduceCtorEq, Nat.reduceLT, Nat.reduceEqDiff, Nat.reduceAdd, Nat.reduceMul, Nat.reduceLeDiff, Nat.reduceSub, Int.reduceToNat, Int.reduceNeg, Nat.reduceBEq, TY, hbr, hr0, hr1, hb0, hb1, hr2, hr3, hb2, hb3, hrb, Nat.add_assoc, Nat.left_eq_add, Nat.add_eq_left, Nat.add_left_cancel_iff] at hx
  subst hx
  refine ⟨_, _, rfl, by first | trivial | omega | (simp only [and_true, true_and]; omega), ?_⟩
  refine at_cond (fun h => ?_) (fun h => (by simp at h; omega))
  refine JS_go (tbOk _) 99 fun x hx => ?_
  simp only [RN, ↓reduceIte, ↓get8, reduceCtorEq, Nat.reduceLT, Nat.reduceEqDiff, Nat.reduceAdd, Nat.reduceMul, Nat.reduceLeDiff, Nat.reduceSub, Int.reduceToNat, Int.reduceNeg, Nat.reduceBEq, TY, hbr, hr0, hr1, hb0, hb1, hr2, hr3, hb2, hb3, hrb, Nat.add_assoc, Nat.left_eq_add, Nat.add_eq_left, Nat.add_left_cancel_iff] at hx
  subst hx
  refine ⟨_, _, rfl, by first | trivial | omega | (simp only [and_true, true_and]; omega), ?_⟩
  refine at_pan ?_
  repeat (first | refine in_pan ?_ | refine in_panI ?_)
  refine pan_endK rfl ⟨_, ?_, rfl, rfl, rfl⟩
  exact leL_look (by simp only [RN, ↓reduceIte, ↓get8, reduceCtorEq, Nat.reduceLT, Nat.reduceEqDiff, Nat.reduceAdd, Nat.reduceMul, Nat.reduceLeDiff, Nat.reduceSub, Int.reduceToNat, Int.reduceNeg, Nat.reduceBEq, hbr, hr0, hr1, hb0, hb1, hr2, hr3, hb2, hb3, hrb, Nat.add_assoc, Nat.left_eq_add, Nat.add_eq_left, Nat.add_left_cancel_iff]; first | done | trivial)
set_option maxRecDepth 100000 in
set_option maxHeartbeats 4000000 in
theorem rweapon_c (bs : List UInt8) (ln cp : Nat) (at_ : Nat) (r b : Nat) (nx : Nat) (ro loose : Bool) (ha : at_ + 14 ≤ ln) (hl : ln ≤ bs.length ∧ ln ≤ 1000000) (hbr : ¬ b = r) (hrn : r < nx) (hbn : b < nx) (u : Nat) (hu : le ((bs.drop (at_ + 5)).take 1) = u) (h1 : u ≤ 1) (x : Int × Int) (hx : ofS (le ((bs.drop (at_ + 6)).take 8)) = x) :
    CallW Try.prog 32 [.pointer (some ⟨r, 0, none⟩)] (rdH bs ln cp at_ r b ro loose) nx fun o F' nx' => o = okOr x.2 ((at_ + 6 : Nat) : Int) (.agg (wpAt bs at_ u x).cells.toArray) ∧ F' = rdH bs ln cp (at_ + 14) r b ro loose ∧ nx' = nx + 2 := by
  have hrb : ¬ r = b := fun e => hbr e.symm
  have hr0 : ¬ r = nx := by omega
  have hr1 : ∀ i, ¬ r = nx + i := by intro i; omega
  have hb0 : ¬ b = nx := by omega
  have hb1 : ∀ i, ¬ b = nx + i := by intro i; omega
  have hr2 : ¬ nx = r := by omega
  have hr3 : ∀ i, ¬ nx + i = r := by intro i; omega
  have hb2 : ¬ nx = b := by omega
  have hb3 : ∀ i, ¬ nx + i = b := by intro i; omega
  unfold rdH
  refine CallW_go (tbOk _) 36 [.cell 2 51] Try.func32 rfl (by decide) rfl rfl (by simp) fun hlt => ?_
  simp only [params, Nat.zero_add, Nat.reduceAdd]
  have h0 := two_c bs ln cp (at_ + 0) r b (nx + 1) ro loose (by omega) hl hbr
  unfold rdH at h0
  refine JS_go (tbOk _) 99 fun x hx => ?_
  simp only [RN, ↓reduceIte, ↓get8, reduceCtorEq, Nat.reduceLT, Nat.reduceEqDiff, Nat.reduceAdd, Nat.reduceMul, Nat.reduceLeDiff, Nat.reduceSub, Int.reduceToNat, Int.reduceNeg, Nat.reduceBEq, TY, hbr, hr0, hr1, hb0, hb1, hr2, hr3, hb2, hb3, hrb, Nat.add_assoc, Nat.left_eq_add, Nat.add_eq_left, Nat.add_left_cancel_iff] at hx
  subst hx
  refine ⟨_, _, rfl, by first | trivial | omega | (simp only [and_true, true_and]; omega), ?_⟩
  refine at_callK (h0) (by simp only [RN, ↓reduceIte, ↓get8, reduceCtorEq, Nat.reduceLT, Nat.reduceEqDiff, Nat.reduceAdd, Nat.reduceMul, Nat.reduceLeDiff, Nat.reduceSub, Int.reduceToNat, Int.reduceNeg, Nat.reduceBEq, hbr, hr0, hr1, hb0, hb1, hr2, hr3, hb2, hb3, hrb, Nat.add_assoc, Nat.left_eq_add, Nat.add_eq_left, Nat.add_left_cancel_iff]; first | done | trivial) (by simp only [RN, ↓reduceIte, ↓get8, reduceCtorEq, Nat.reduceLT, Nat.reduceEqDiff, Nat.reduceAdd, Nat.reduceMul, Nat.reduceLeDiff, Nat.reduceSub, Int.reduceToNat, Int.reduceNeg, Nat.reduceBEq, hbr, hr0, hr1, hb0, hb1, hr2, hr3, hb2, hb3, hrb, Nat.add_assoc, Nat.left_eq_add, Nat.add_eq_left, Nat.add_left_cancel_iff]; rfl) ?_
  have h1 := one_c bs ln cp (at_ + 2) r b (nx + 2) ro loose (by omega) hl hbr
  unfold rdH at h1
  refine JS_go (tbOk _) 99 fun x hx => ?_
  simp only [RN, ↓reduceIte, ↓get8, reduceCtorEq, Nat.reduceLT, Nat.reduceEqDiff, Nat.reduceAdd, Nat.reduceMul, Nat.reduceLeDiff, Nat.reduceSub, Int.reduceToNat, Int.reduceNeg, Nat.reduceBEq, TY, hbr, hr0, hr1, hb0, hb1, hr2, hr3, hb2, hb3, hrb, Nat.add_assoc, Nat.left_eq_add, Nat.add_eq_left, Nat.add_left_cancel_iff] at hx
  subst hx
  refine ⟨_, _, rfl, by first | trivial | omega | (simp only [and_true, true_and]; omega), ?_⟩
  refine at_callK (h1) (by simp only [RN, ↓reduceIte, ↓get8, reduceCtorEq, Nat.reduceLT, Nat.reduceEqDiff, Nat.reduceAdd, Nat.reduceMul, Nat.reduceLeDiff, Nat.reduceSub, Int.reduceToNat, Int.reduceNeg, Nat.reduceBEq, hbr, hr0, hr1, hb0, hb1, hr2, hr3, hb2, hb3, hrb, Nat.add_assoc, Nat.left_eq_add, Nat.add_eq_left, Nat.add_left_cancel_iff]; first | done | trivial) (by simp only [RN, ↓reduceIte, ↓get8, reduceCtorEq, Nat.reduceLT, Nat.reduceEqDiff, Nat.reduceAdd, Nat.reduceMul, Nat.reduceLeDiff, Nat.reduceSub, Int.reduceToNat, Int.reduceNeg, Nat.reduceBEq, hbr, hr0, hr1, hb0, hb1, hr2, hr3, hb2, hb3, hrb, Nat.add_assoc, Nat.left_eq_add, Nat.add_eq_left, Nat.add_left_cancel_iff]; rfl) ?_
  have h2 := one_c bs ln cp (at_ + 3) r b (nx + 2) ro loose (by omega) hl hbr
  unfold rdH at h2
  refine JS_go (tbOk _) 99 fun x hx => ?_
  simp only [RN, ↓reduceIte, ↓get8, reduceCtorEq, Nat.reduceLT, Nat.reduceEqDiff, Nat.reduceAdd, Nat.reduceMul, Nat.reduceLeDiff, Nat.reduceSub, Int.reduceToNat, Int.reduceNeg, Nat.reduceBEq, TY, hbr, hr0, hr1, hb0, hb1, hr2, hr3, hb2, hb3, hrb, Nat.add_assoc, Nat.left_eq_add, Nat.add_eq_left, Nat.add_left_cancel_iff] at hx
  subst hx
  refine ⟨_, _, rfl, by first | trivial | omega | (simp only [and_true, true_and]; omega), ?_⟩
  refine at_callK (h2) (by simp only [RN, ↓reduceIte, ↓get8, reduceCtorEq, Nat.reduceLT, Nat.reduceEqDiff, Nat.reduceAdd, Nat.reduceMul, Nat.reduceLeDiff, Nat.reduceSub, Int.reduceToNat, Int.reduceNeg, Nat.reduceBEq, hbr, hr0, hr1, hb0, hb1, hr2, hr3, hb2, hb3, hrb, Nat.add_assoc, Nat.left_eq_add, Nat.add_eq_left, Nat.add_left_cancel_iff]; first | done | trivial) (by simp only [RN, ↓reduceIte, ↓get8, reduceCtorEq, Nat.reduceLT, Nat.reduceEqDiff, Nat.reduceAdd, Nat.reduceMul, Nat.reduceLeDiff, Nat.reduceSub, Int.reduceToNat, Int.reduceNeg, Nat.reduceBEq, hbr, hr0, hr1, hb0, hb1, hr2, hr3, hb2, hb3, hrb, Nat.add_assoc, Nat.left_eq_add, Nat.add_eq_left, Nat.add_left_cancel_iff]; rfl) ?_
  have h3 := one_c bs ln cp (at_ + 4) r b (nx + 2) ro loose (by omega) hl hbr
  unfold rdH at h3
  refine JS_go (tbOk _) 99 fun x hx => ?_
  simp only [RN, ↓reduceIte, ↓get8, reduceCtorEq, Nat.reduceLT, Nat.reduceEqDiff, Nat.reduceAdd, Nat.reduceMul, Nat.reduceLeDiff, Nat.reduceSub, Int.reduceToNat, Int.reduceNeg, Nat.reduceBEq, TY, hbr, hr0, hr1, hb0, hb1, hr2, hr3, hb2, hb3, hrb, Nat.add_assoc, Nat.left_eq_add, Nat.add_eq_left, Nat.add_left_cancel_iff] at hx
  subst hx
  refine ⟨_, _, rfl, by first | trivial | omega | (simp only [and_true, true_and]; omega), ?_⟩
  refine at_callK (h3) (by simp only [RN, ↓reduceIte, ↓get8, reduceCtorEq, Nat.reduceLT, Nat.reduceEqDiff, Nat.reduceAdd, Nat.reduceMul, Nat.reduceLeDiff, Nat.reduceSub, Int.reduceToNat, Int.reduceNeg, Nat.reduceBEq, hbr, hr0, hr1, hb0, hb1, hr2, hr3, hb2, hb3, hrb, Nat.add_assoc, Nat.left_eq_add, Nat.add_eq_left, Nat.add_left_cancel_iff]; first | done | trivial) (by simp only [RN, ↓reduceIte, ↓get8, reduceCtorEq, Nat.reduceLT, Nat.reduceEqDiff, Nat.reduceAdd, Nat.reduceMul, Nat.reduceLeDiff, Nat.reduceSub, Int.reduceToNat, Int.reduceNeg, Nat.reduceBEq, hbr, hr0, hr1, hb0, hb1, hr2, hr3, hb2, hb3, hrb, Nat.add_assoc, Nat.left_eq_add, Nat.add_eq_left, Nat.add_left_cancel_iff]; rfl) ?_
  have h4 := one_c bs ln cp (at_ + 5) r b (nx + 2) ro loose (by omega) hl hbr
  rw [hu] at h4
  unfold rdH at h4
  refine JS_go (tbOk _) 99 fun x hx => ?_
  simp only [RN, ↓reduceIte, ↓get8, reduceCtorEq, Nat.reduceLT, Nat.reduceEqDiff, Nat.reduceAdd, Nat.reduceMul, Nat.reduceLeDiff, Nat.reduceSub, Int.reduceToNat, Int.reduceNeg, Nat.reduceBEq, TY, hbr, hr0, hr1, hb0, hb1, hr2, hr3, hb2, hb3, hrb, Nat.add_assoc, Nat.left_eq_add, Nat.add_eq_left, Nat.add_left_cancel_iff] at hx
  subst hx
  refine ⟨_, _, rfl, by first | trivial | omega | (simp only [and_true, true_and]; omega), ?_⟩
  refine at_callK (h4) (by simp only [RN, ↓reduceIte, ↓get8, reduceCtorEq, Nat.reduceLT, Nat.reduceEqDiff, Nat.reduceAdd, Nat.reduceMul, Nat.reduceLeDiff, Nat.reduceSub, Int.reduceToNat, Int.reduceNeg, Nat.reduceBEq, hbr, hr0, hr1, hb0, hb1, hr2, hr3, hb2, hb3, hrb, Nat.add_assoc, Nat.left_eq_add, Nat.add_eq_left, Nat.add_left_cancel_iff]; first | done | trivial) (by simp only [RN, ↓reduceIte, ↓get8, reduceCtorEq, Nat.reduceLT, Nat.reduceEqDiff, Nat.reduceAdd, Nat.reduceMul, Nat.reduceLeDiff, Nat.reduceSub, Int.reduceToNat, Int.reduceNeg, Nat.reduceBEq, hbr, hr0, hr1, hb0, hb1, hr2, hr3, hb2, hb3, hrb, Nat.add_assoc, Nat.left_eq_add, Nat.add_eq_left, Nat.add_left_cancel_iff]; rfl) ?_
  refine JS_go (tbOk _) 99 fun x hx => ?_
  simp only [RN, ↓reduceIte, ↓get8, reduceCtorEq, Nat.reduceLT, Nat.reduceEqDiff, Nat.reduceAdd, Nat.reduceMul, Nat.reduceLeDiff, Nat.reduceSub, Int.reduceToNat, Int.reduceNeg, Nat.reduceBEq, TY, hbr, hr0, hr1, hb0, hb1, hr2, hr3, hb2, hb3, hrb, Nat.add_assoc, Nat.left_eq_add, Nat.add_eq_left, Nat.add_left_cancel_iff] at hx
  subst hx
  refine ⟨_, _, rfl, by first | trivial | omega | (simp only [and_true, true_and]; omega), ?_⟩
  refine at_cond (fun h => (by simp at h; omega)) (fun h => ?_)
  have hs := speed_c bs ln cp (at_ + 6) r b (nx + 2) ro loose (by omega) hl hbr x hx
  unfold rdH at hs
  refine JS_go (tbOk _) 99 fun x hx => ?_
  simp only [RN, ↓reduceIte, ↓get8, reduceCtorEq, Nat.reduceLT, Nat.reduceEqDiff, Nat.reduceAdd, Nat.reduceMul, Nat.reduceLeDiff, Nat.reduceSub, Int.reduceToNat, Int.reduceNeg, Nat.reduceBEq, TY, hbr, hr0, hr1, hb0, hb1, hr2, hr3, hb2, hb3, hrb, Nat.add_assoc, Nat.left_eq_add, Nat.add_eq_left, Nat.add_left_cancel_iff] at hx
  subst hx
  refine ⟨_, _, rfl, by first | trivial | omega | (simp only [and_true, true_and]; omega), ?_⟩
  refine at_callG hs (by simp only [RN, ↓reduceIte, ↓get8, reduceCtorEq, Nat.reduceLT, Nat.reduceEqDiff, Nat.reduceAdd, Nat.reduceMul, Nat.reduceLeDiff, Nat.reduceSub, Int.reduceToNat, Int.reduceNeg, Nat.reduceBEq, hbr, hr0, hr1, hb0, hb1, hr2, hr3, hb2, hb3, hrb, Nat.add_assoc, Nat.left_eq_add, Nat.add_eq_left, Nat.add_left_cancel_iff]; first | done | trivial) ?_
  rintro o L' n ⟨rfl, rfl, rfl⟩
  unfold okOr
  by_cases hc : x.2 = 0
  · simp only [if_pos hc]
    refine ⟨_, by simp only [RN, ↓reduceIte, ↓get8, reduceCtorEq, Nat.reduceLT, Nat.reduceEqDiff, Nat.reduceAdd, Nat.reduceMul, Nat.reduceLeDiff, Nat.reduceSub, Int.reduceToNat, Int.reduceNeg, Nat.reduceBEq, hbr, hr0, hr1, hb0, hb1, hr2, hr3, hb2, hb3, hrb, Nat.add_assoc, Nat.left_eq_add, Nat.add_eq_left, Nat.add_left_cancel_iff]; rfl, ?_⟩
    refine JS_go (tbOk _) 99 fun x hx => ?_
    simp only [RN, ↓reduceIte, ↓get8, reduceCtorEq, Nat.reduceLT, Nat.reduceEqDiff, Nat.reduceAdd, Nat.reduceMul, Nat.reduceLeDiff, Nat.reduceSub, Int.reduceToNat, Int.reduceNeg, Nat.reduceBEq, TY, hbr, hr0, hr1, hb0, hb1, hr2, hr3, hb2, hb3, hrb, Nat.add_assoc, Nat.left_eq_add, Nat.add_eq_left, Nat.add_left_cancel_iff] at hx
    subst hx
    refine ⟨_, _, rfl, by first | trivial | omega | (simp only [and_true, true_and]; omega), ?_⟩
    first | refine at_ret ?_ | refine at_done ?_
    repeat (first | refine in_ret ?_ | refine in_retI ?_)
    first | refine ret_endK (by simp only [RN, ↓reduceIte, ↓get8, reduceCtorEq, Nat.reduceLT, Nat.reduceEqDiff, Nat.reduceAdd, Nat.reduceMul, Nat.reduceLeDiff, Nat.reduceSub, Int.reduceToNat, Int.reduceNeg, Nat.reduceBEq]; rfl) rfl trivial ?_ | refine nrm_endK (by simp only [RN, ↓reduceIte, ↓get8, reduceCtorEq, Nat.reduceLT, Nat.reduceEqDiff, Nat.reduceAdd, Nat.reduceMul, Nat.reduceLeDiff, Nat.reduceSub, Int.reduceToNat, Int.reduceNeg, Nat.reduceBEq]; rfl) rfl trivial ?_ | refine ret_endK (by simp only [RN, ↓reduceIte, ↓get8, reduceCtorEq, Nat.reduceLT, Nat.reduceEqDiff, Nat.reduceAdd, Nat.reduceMul, Nat.reduceLeDiff, Nat.reduceSub, Int.reduceToNat, Int.reduceNeg, Nat.reduceBEq, TY, hbr, hr0, hr1, hb0, hb1, hr2, hr3, hb2, hb3, hrb, Nat.add_assoc, Nat.left_eq_add, Nat.add_eq_left, Nat.add_left_cancel_iff]; rfl) rfl (by first | trivial | omega) ?_
    refine ⟨_, ?_, rfl, rfl, rfl⟩
    exact leL_look (by simp only [RN, ↓reduceIte, ↓get8, reduceCtorEq, Nat.reduceLT, Nat.reduceEqDiff, Nat.reduceAdd, Nat.reduceMul, Nat.reduceLeDiff, Nat.reduceSub, Int.reduceToNat, Int.reduceNeg, Nat.reduceBEq, hbr, hr0, hr1, hb0, hb1, hr2, hr3, hb2, hb3, hrb, Nat.add_assoc, Nat.left_eq_add, Nat.add_eq_left, Nat.add_left_cancel_iff]; first | done | trivial)
  · simp only [if_neg hc]
    refine pan_endK rfl ⟨_, ?_, rfl, rfl, rfl⟩
    exact leL_look (by simp only [RN, ↓reduceIte, ↓get8, reduceCtorEq, Nat.reduceLT, Nat.reduceEqDiff, Nat.reduceAdd, Nat.reduceMul, Nat.reduceLeDiff, Nat.reduceSub, Int.reduceToNat, Int.reduceNeg, Nat.reduceBEq, hbr, hr0, hr1, hb0, hb1, hr2, hr3, hb2, hb3, hrb, Nat.add_assoc, Nat.left_eq_add, Nat.add_eq_left, Nat.add_left_cancel_iff]; first | done | trivial)
end Go.Proofs.Ytoihmanhldcjhaa.Id
namespace Go.Proofs.Ytoihmanhldcjhaa.Id
open Go Go.Proofs.Ytoihmanhldcjhaa.Rl
set_option linter.unusedSimpArgs false
set_option linter.unusedVariables false
def kE (bs : List UInt8) (i : Nat) : Int × Int := ofS (le ((bs.drop (2 + 35 * i + 27)).take 8))
def kX (bs : List UInt8) (i : Nat) : Kd := kdAt bs (2 + 35 * i) (kE bs i)
def wU (bs : List UInt8) (a : Nat) : Nat := le ((bs.drop (a + 5)).take 1)
def wS (bs : List UInt8) (a : Nat) : Int × Int := ofS (le ((bs.drop (a + 6)).take 8))
def wE (bs : List UInt8) (a : Nat) : Int × Int := if 1 < wU bs a then (3, ((a + 5 : Nat) : Int)) else ((wS bs a).2, ((a + 6 : Nat) : Int))
def wX (bs : List UInt8) (a : Nat) : Wp := wpAt bs a (wU bs a) (wS bs a)
def wsF (bs : List UInt8) (m j : Nat) : List Wp := (List.range j).map fun x => wX bs (2 + 35 * m + 14 * x)
def decB (bs : List UInt8) (ln : Nat) : List Kd × List Wp × Int × Int :=
  if ln < 2 then ([], [], 2, ln) else
  if ln < 2 + 35 * le ((bs.drop 0).take 1) + 14 * le ((bs.drop 1).take 1) then ([], [], 2, ln) else
  if 2 + 35 * le ((bs.drop 0).take 1) + 14 * le ((bs.drop 1).take 1) < ln then ([], [], 7, (2 + 35 * le ((bs.drop 0).take 1) + 14 * le ((bs.drop 1).take 1) : Nat)) else
  match (List.range (le ((bs.drop 0).take 1))).find? fun i => decide ((kE bs i).2 ≠ 0) with
  | some i => ([], [], (kE bs i).2, (2 + 35 * i + 27 : Nat))
  | none => match (List.range (le ((bs.drop 1).take 1))).find? fun i => decide ((wE bs (2 + 35 * le ((bs.drop 0).take 1) + 14 * i)).1 ≠ 0) with
    | some i => ([], [], wE bs (2 + 35 * le ((bs.drop 0).take 1) + 14 * i))
    | none =>
      let ks := (List.range (le ((bs.drop 0).take 1))).map (kX bs)
      let ws := wsF bs (le ((bs.drop 0).take 1)) (le ((bs.drop 1).take 1))
      if (checkB ks ws).1 = 0 then (ks, ws, 0, 0) else ([], [], checkB ks ws)
structure Rd where
  bs : List UInt8
  ln : Nat
  oq : Option Nat
  cp : Nat
  ro : Bool
  loose : Bool
def Rd.val (R : Rd) : Value := slv R.oq R.ln R.cp
def Rd.H (R : Rd) : Hp := match R.oq with
  | none => []
  | some q => [(q, ⟨bys R.bs, 5, 1, R.ro, R.loose⟩)]
structure Rd.Good (R : Rd) (nx : Nat) : Prop where
  hl : R.ln ≤ R.bs.length ∧ R.ln ≤ 1000000
  h0 : R.oq = none → R.ln = 0
  hq : ∀ q, R.oq = some q → q < nx
  hc : R.ln ≤ R.cp
def decK (bs : List UInt8) (ln : Nat) (H : Hp) (nx : Nat) : Out → Hp → Nat → Prop := fun o F' nx' =>
  ∃ B : Bk, B.ks = (decB bs ln).1 ∧ B.ws = (decB bs ln).2.1 ∧ B.Good nx' ∧ (B.kx = [] ∧ B.wx = [] ∧ B.ro = false ∧ B.loose = true) ∧ (∀ b, B.ok = some b → nx ≤ b) ∧ (∀ b, B.ow = some b → nx ≤ b) ∧ nx ≤ nx' ∧
    o = .ret (.tuple #[B.val, .int .i64 (decB bs ln).2.2.1, .int .i64 (decB bs ln).2.2.2]) ∧ F' = H ++ B.H
theorem dec_err {bs : List UInt8} {ln : Nat} {H : Hp} {nx nx' : Nat} {e a : Int} (h : decB bs ln = ([], [], e, a)) (hn : nx ≤ nx') : decK bs ln H nx (.ret (.tuple #[.agg #[.slice none 0 0, .slice none 0 0], .int .i64 e, .int .i64 a])) H nx' := by
  unfold decK
  rw [h]
  exact ⟨⟨[], [], [], [], none, 0, none, 0, false, true⟩, rfl, rfl, ⟨fun _ => rfl, fun _ => rfl, by simp, by simp, nofun, nofun, nofun⟩, ⟨rfl, rfl, rfl, rfl⟩, nofun, nofun, hn, rfl, by simp [Bk.H, kblk, wpblk]⟩
theorem remN_farR (nx : Nat) (ids : List Nat) (hi : ∀ i ∈ ids, nx ≤ i) {R : Rd} (hq : ∀ q, R.oq = some q → q < nx) : remN ids R.H = R.H := by
  refine remN_farL nx ids hi fun e he => ?_
  unfold Rd.H at he
  split at he
  · cases he
  · rename_i q hq2
    rw [List.mem_singleton] at he
    subst he
    exact hq q hq2
theorem Rd.lt {R : Rd} {nx : Nat} (g : R.Good nx) : ∀ id b, look id R.H = some b → id < nx := by
  intro id b h
  unfold Rd.H at h
  split at h
  · cases h
  · rename_i q hq2
    rw [look_cons] at h
    split at h
    · rename_i e; subst e; exact g.hq _ hq2
    · cases h
theorem le1 (l : List UInt8) : le (l.take 1) < 256 := by
  have h := le_lt (l.take 1)
  have h2 : (l.take 1).length ≤ 1 := by simp; omega
  have : (256 : Nat) ^ (l.take 1).length ≤ 256 ^ 1 := Nat.pow_le_pow_right (by omega) h2
  omega
theorem remN_not (ids : List Nat) : ∀ {T0 : Hp}, (∀ e ∈ T0, ∀ i ∈ ids, ¬ e.1 = i) → remN ids T0 = T0
  | [], _ => rfl
  | (k, b) :: T0, h => by
    have : ids.contains k = false := by
      rw [List.contains_eq_mem, decide_eq_false_iff_not]
      intro hm
      exact h (k, b) (by simp) k hm rfl
    rw [remN, remN_not ids fun e he => h e (by simp [he]), hasN_eq, this]
    rfl
theorem del_not (b : Nat) : ∀ {T0 : Hp}, (∀ e ∈ T0, ¬ e.1 = b) → del b T0 = T0
  | [], _ => rfl
  | (k, x) :: T0, h => by
    have : ¬ k = b := h (k, x) (by simp)
    rw [del_cons, if_neg this, del_not b fun e he => h e (by simp [he])]
set_option maxRecDepth 100000 in
set_option maxHeartbeats 4000000 in
theorem decode_c (R : Rd) (nx : Nat) (g : R.Good nx) : CallW Try.prog 15 [R.val] R.H nx (decK R.bs R.ln R.H nx) := by
  have tl := ilen_slv (tbOf Try.prog) 34 5 (by rw [und_eq, Try.underlying34]) R.oq R.ln R.cp g.h0
  have tR := fun ids h => remN_farR nx ids h g.hq
  have tlt := Rd.lt g
  rcases R with ⟨bs, ln, oq, cp, ro, loose⟩
  obtain ⟨hl, hq0, hq, hc⟩ := g
  unfold Rd.val
  obtain ⟨T1, hT1⟩ : ∃ T1, Rd.H ⟨bs, ln, oq, cp, ro, loose⟩ = T1 := ⟨_, rfl⟩
  rw [hT1] at tR tlt ⊢
  dsimp only at tl tR tlt hl hq0 hq ⊢
  refine CallW_goD (tbOk _) 77 [.cell 2 26, .cell 3 28, .cell 4 3] Try.func15 rfl (by decide) rfl rfl (by simp) fun hlt => ?_
  simp only [params, Nat.zero_add, Nat.reduceAdd]
  cases c0 : decide ((ln : Int) < 2)
  case true =>
    skip
    have d0 : decB bs ln = ([], [], 2, (ln : Int)) := by unfold decB; rw [if_pos (by have := of_decide_eq_true c0; omega)]
    refine JS_go (tbOk _) 99 fun x hx => ?_
    simp only [RN, ↓reduceIte, ↓get8, reduceCtorEq, Nat.reduceLT, Nat.reduceEqDiff, Nat.reduceAdd, Nat.reduceMul, Nat.reduceLeDiff, Nat.reduceSub, Int.reduceToNat, Int.reduceNeg, Nat.reduceBEq, TY, ↓tl, c0, Nat.add_assoc, Nat.left_eq_add, Nat.add_eq_left, Nat.add_left_cancel_iff] at hx
    subst hx
    refine ⟨_, _, rfl, by first | trivial | omega | (simp only [and_true, true_and]; omega), ?_⟩
    refine at_cond (fun _ => ?_) (fun h => nomatch h)
    refine JS_go (tbOk _) 99 fun x hx => ?_
    simp only [RN, ↓reduceIte, ↓get8, reduceCtorEq, Nat.reduceLT, Nat.reduceEqDiff, Nat.reduceAdd, Nat.reduceMul, Nat.reduceLeDiff, Nat.reduceSub, Int.reduceToNat, Int.reduceNeg, Nat.reduceBEq, TY, ↓tl, Nat.add_assoc, Nat.left_eq_add, Nat.add_eq_left, Nat.add_left_cancel_iff] at hx
    subst hx
    refine ⟨_, _, rfl, by first | trivial | omega | (simp only [and_true, true_and]; omega), ?_⟩
    refine at_ret ?_
    refine deferQ_of (f := 29) (L := resH nx (nx + 1) (nx + 2) (.slice none 0 0) (.slice none 0 0) (.int .i64 2) (.int .i64 ln)) rfl (catch_nil nx (nx + 1) (nx + 2) (nx + 3) (.slice none 0 0) (.slice none 0 0) (.int .i64 2) (.int .i64 ln) (by omega) (by omega) (by omega)) (by unfold resH; simp only [RN, ↓reduceIte, ↓get8, reduceCtorEq, Nat.reduceLT, Nat.reduceEqDiff, Nat.reduceAdd, Nat.reduceMul, Nat.reduceLeDiff, Nat.reduceSub, Int.reduceToNat, Int.reduceNeg, Nat.reduceBEq, Nat.add_assoc, Nat.left_eq_add, Nat.add_eq_left, Nat.add_left_cancel_iff]; first | done | trivial) ?_
    rintro L' n' ⟨rfl, rfl⟩
    have rT := tR [nx, nx + 1, nx + 2] (by simp)
    refine ⟨_, _, by unfold resH; simp only [RN, ↓reduceIte, ↓get8, reduceCtorEq, Nat.reduceLT, Nat.reduceEqDiff, Nat.reduceAdd, Nat.reduceMul, Nat.reduceLeDiff, Nat.reduceSub, Int.reduceToNat, Int.reduceNeg, Nat.reduceBEq, TY, Nat.add_assoc, Nat.left_eq_add, Nat.add_eq_left, Nat.add_left_cancel_iff]; rfl, by first | trivial | omega, T1, fun id b h => ?_, dec_err d0 (by show nx ≤ nx + 3; omega)⟩
    have u0 := tlt id b h
    have w0 : ¬ id = nx := by omega
    have w1 : ¬ id = nx + 1 := by omega
    have w2 : ¬ id = nx + 2 := by omega
    simp only [RN, ↓reduceIte, ↓get8, reduceCtorEq, Nat.reduceLT, Nat.reduceEqDiff, Nat.reduceAdd, Nat.reduceMul, Nat.reduceLeDiff, Nat.reduceSub, Int.reduceToNat, Int.reduceNeg, Nat.reduceBEq, resH, rT, w0, w1, w2, Nat.add_assoc, Nat.left_eq_add, Nat.add_eq_left, Nat.add_left_cancel_iff, h]
  have c0' : 2 ≤ ln := by have := of_decide_eq_false c0; omega
  obtain ⟨q, rfl⟩ : ∃ q, oq = some q := by
    cases oq with
    | none => have := hq0 rfl; omega
    | some q => exact ⟨q, rfl⟩
  have hqn := hq q rfl
  obtain rfl : [(q, ⟨bys bs, 5, 1, ro, loose⟩)] = T1 := hT1
  clear tR tlt hq0 hq
  unfold slv
  clear tl
  obtain ⟨m, hm⟩ : ∃ m, le ((bs.drop 0).take 1) = m := ⟨_, rfl⟩
  obtain ⟨w, hw⟩ : ∃ w, le ((bs.drop 1).take 1) = w := ⟨_, rfl⟩
  have hm1 : m < 256 := by rw [← hm]; exact le1 _
  have hw1 : w < 256 := by rw [← hw]; exact le1 _
  have e1 : IntKind.i64.wrap (35 * (m : Int)) = ((35 * m : Nat) : Int) := by rw [show 35 * (m : Int) = ((35 * m : Nat) : Int) by omega]; exact wrap_i64 _ (by omega)
  have e2 : IntKind.i64.wrap (2 + ((35 * m : Nat) : Int)) = ((2 + 35 * m : Nat) : Int) := by rw [show 2 + ((35 * m : Nat) : Int) = ((2 + 35 * m : Nat) : Int) by omega]; exact wrap_i64 _ (by omega)
  have e3 : IntKind.i64.wrap (14 * (w : Int)) = ((14 * w : Nat) : Int) := by rw [show 14 * (w : Int) = ((14 * w : Nat) : Int) by omega]; exact wrap_i64 _ (by omega)
  obtain ⟨al, hal⟩ : ∃ al, 2 + 35 * m + 14 * w = al := ⟨_, rfl⟩
  have e4 : IntKind.i64.wrap (((2 + 35 * m : Nat) : Int) + ((14 * w : Nat) : Int)) = (al : Int) := by rw [show ((2 + 35 * m : Nat) : Int) + ((14 * w : Nat) : Int) = (al : Int) by omega]; exact wrap_i64 _ (by omega)
  have o1 := one_c bs ln cp 0 (nx + 3) q (nx + 4) ro loose (by omega) hl (by omega)
  have o2 := one_c bs ln cp 1 (nx + 3) q (nx + 4) ro loose (by omega) hl (by omega)
  rw [hm] at o1
  rw [hw] at o2
  unfold rdH at o1 o2
  have a0 : ¬ q = nx := by omega
  have a1 : ∀ i, ¬ q = nx + i := by intro i; omega
  have a2 : ¬ nx = q := by omega
  have a3 : ∀ i, ¬ nx + i = q := by intro i; omega
  have aq1 : ¬ nx + 3 = q := by omega
  refine JS_go (tbOk _) 99 fun x hx => ?_
  simp only [RN, ↓reduceIte, ↓get8, reduceCtorEq, Nat.reduceLT, Nat.reduceEqDiff, Nat.reduceAdd, Nat.reduceMul, Nat.reduceLeDiff, Nat.reduceSub, Int.reduceToNat, Int.reduceNeg, Nat.reduceBEq, TY, c0, a0, a1, a2, a3, aq1, Nat.add_assoc, Nat.left_eq_add, Nat.add_eq_left, Nat.add_left_cancel_iff] at hx
  subst hx
  refine ⟨_, _, rfl, by first | trivial | omega | (simp only [and_true, true_and]; omega), ?_⟩
  refine at_cond (fun h => nomatch h) (fun _ => ?_)
  refine JS_go (tbOk _) 99 fun x hx => ?_
  simp only [RN, ↓reduceIte, ↓get8, reduceCtorEq, Nat.reduceLT, Nat.reduceEqDiff, Nat.reduceAdd, Nat.reduceMul, Nat.reduceLeDiff, Nat.reduceSub, Int.reduceToNat, Int.reduceNeg, Nat.reduceBEq, TY, a0, a1, a2, a3, aq1, Nat.add_assoc, Nat.left_eq_add, Nat.add_eq_left, Nat.add_left_cancel_iff] at hx
  subst hx
  refine ⟨_, _, rfl, by first | trivial | omega | (simp only [and_true, true_and]; omega), ?_⟩
  refine at_callK (o1) (by simp only [RN, ↓reduceIte, ↓get8, reduceCtorEq, Nat.reduceLT, Nat.reduceEqDiff, Nat.reduceAdd, Nat.reduceMul, Nat.reduceLeDiff, Nat.reduceSub, Int.reduceToNat, Int.reduceNeg, Nat.reduceBEq, a0, a1, a2, a3, aq1, Nat.add_assoc, Nat.left_eq_add, Nat.add_eq_left, Nat.add_left_cancel_iff]; first | done | trivial) (by simp only [RN, ↓reduceIte, ↓get8, reduceCtorEq, Nat.reduceLT, Nat.reduceEqDiff, Nat.reduceAdd, Nat.reduceMul, Nat.reduceLeDiff, Nat.reduceSub, Int.reduceToNat, Int.reduceNeg, Nat.reduceBEq, a0, a1, a2, a3, aq1, Nat.add_assoc, Nat.left_eq_add, Nat.add_eq_left, Nat.add_left_cancel_iff]; rfl) ?_
  refine JS_go (tbOk _) 99 fun x hx => ?_
  simp only [RN, ↓reduceIte, ↓get8, reduceCtorEq, Nat.reduceLT, Nat.reduceEqDiff, Nat.reduceAdd, Nat.reduceMul, Nat.reduceLeDiff, Nat.reduceSub, Int.reduceToNat, Int.reduceNeg, Nat.reduceBEq, TY, a0, a1, a2, a3, aq1, Nat.add_assoc, Nat.left_eq_add, Nat.add_eq_left, Nat.add_left_cancel_iff] at hx
  subst hx
  refine ⟨_, _, rfl, by first | trivial | omega | (simp only [and_true, true_and]; omega), ?_⟩
  refine at_callK (o2) (by simp only [RN, ↓reduceIte, ↓get8, reduceCtorEq, Nat.reduceLT, Nat.reduceEqDiff, Nat.reduceAdd, Nat.reduceMul, Nat.reduceLeDiff, Nat.reduceSub, Int.reduceToNat, Int.reduceNeg, Nat.reduceBEq, a0, a1, a2, a3, aq1, Nat.add_assoc, Nat.left_eq_add, Nat.add_eq_left, Nat.add_left_cancel_iff]; first | done | trivial) (by simp only [RN, ↓reduceIte, ↓get8, reduceCtorEq, Nat.reduceLT, Nat.reduceEqDiff, Nat.reduceAdd, Nat.reduceMul, Nat.reduceLeDiff, Nat.reduceSub, Int.reduceToNat, Int.reduceNeg, Nat.reduceBEq, a0, a1, a2, a3, aq1, Nat.add_assoc, Nat.left_eq_add, Nat.add_eq_left, Nat.add_left_cancel_iff]; rfl) ?_
  cases c1 : decide ((ln : Int) < (al : Int))
  case true =>
    skip
    have d0 : decB bs ln = ([], [], 2, (ln : Int)) := by unfold decB; rw [hm, hw, hal, if_neg (by omega), if_pos (by have := of_decide_eq_true c1; omega)]
    refine JS_go (tbOk _) 99 fun x hx => ?_
    simp only [RN, ↓reduceIte, ↓get8, reduceCtorEq, Nat.reduceLT, Nat.reduceEqDiff, Nat.reduceAdd, Nat.reduceMul, Nat.reduceLeDiff, Nat.reduceSub, Int.reduceToNat, Int.reduceNeg, Nat.reduceBEq, TY, c1, e1, e2, e3, e4, a0, a1, a2, a3, aq1, Nat.add_assoc, Nat.left_eq_add, Nat.add_eq_left, Nat.add_left_cancel_iff] at hx
    subst hx
    refine ⟨_, _, rfl, by first | trivial | omega | (simp only [and_true, true_and]; omega), ?_⟩
    refine at_cond (fun _ => ?_) (fun h => nomatch h)
    refine JS_go (tbOk _) 99 fun x hx => ?_
    simp only [RN, ↓reduceIte, ↓get8, reduceCtorEq, Nat.reduceLT, Nat.reduceEqDiff, Nat.reduceAdd, Nat.reduceMul, Nat.reduceLeDiff, Nat.reduceSub, Int.reduceToNat, Int.reduceNeg, Nat.reduceBEq, TY, a0, a1, a2, a3, aq1, Nat.add_assoc, Nat.left_eq_add, Nat.add_eq_left, Nat.add_left_cancel_iff] at hx
    subst hx
    refine ⟨_, _, rfl, by first | trivial | omega | (simp only [and_true, true_and]; omega), ?_⟩
    refine at_ret ?_
    refine deferQ_of (f := 29) (L := resH nx (nx + 1) (nx + 2) (.slice none 0 0) (.slice none 0 0) (.int .i64 2) (.int .i64 ln)) rfl (catch_nil nx (nx + 1) (nx + 2) (nx + 4) (.slice none 0 0) (.slice none 0 0) (.int .i64 2) (.int .i64 ln) (by omega) (by omega) (by omega)) (by unfold resH; simp only [RN, ↓reduceIte, ↓get8, reduceCtorEq, Nat.reduceLT, Nat.reduceEqDiff, Nat.reduceAdd, Nat.reduceMul, Nat.reduceLeDiff, Nat.reduceSub, Int.reduceToNat, Int.reduceNeg, Nat.reduceBEq, a0, a1, a2, a3, aq1, Nat.add_assoc, Nat.left_eq_add, Nat.add_eq_left, Nat.add_left_cancel_iff]; first | done | trivial) ?_
    rintro L' n' ⟨rfl, rfl⟩
    refine ⟨_, _, by unfold resH; simp only [RN, ↓reduceIte, ↓get8, reduceCtorEq, Nat.reduceLT, Nat.reduceEqDiff, Nat.reduceAdd, Nat.reduceMul, Nat.reduceLeDiff, Nat.reduceSub, Int.reduceToNat, Int.reduceNeg, Nat.reduceBEq, TY, keepFr, a0, a1, a2, a3, aq1, Nat.add_assoc, Nat.left_eq_add, Nat.add_eq_left, Nat.add_left_cancel_iff]; rfl, by first | trivial | omega, [(q, ⟨bys bs, 5, 1, ro, loose⟩)], leL_look (by unfold resH; simp only [RN, ↓reduceIte, ↓get8, reduceCtorEq, Nat.reduceLT, Nat.reduceEqDiff, Nat.reduceAdd, Nat.reduceMul, Nat.reduceLeDiff, Nat.reduceSub, Int.reduceToNat, Int.reduceNeg, Nat.reduceBEq, a0, a1, a2, a3, aq1, Nat.add_assoc, Nat.left_eq_add, Nat.add_eq_left, Nat.add_left_cancel_iff]; first | done | trivial), dec_err d0 (by show nx ≤ nx + 4; omega)⟩
  cases c2 : decide ((ln : Int) > (al : Int))
  case true =>
    skip
    have d0 : decB bs ln = ([], [], 7, (al : Int)) := by unfold decB; rw [hm, hw, hal, if_neg (by omega), if_neg (by have := of_decide_eq_false c1; omega), if_pos (by have := of_decide_eq_true c2; omega)]
    refine JS_go (tbOk _) 99 fun x hx => ?_
    simp only [RN, ↓reduceIte, ↓get8, reduceCtorEq, Nat.reduceLT, Nat.reduceEqDiff, Nat.reduceAdd, Nat.reduceMul, Nat.reduceLeDiff, Nat.reduceSub, Int.reduceToNat, Int.reduceNeg, Nat.reduceBEq, TY, c1, c2, e1, e2, e3, e4, a0, a1, a2, a3, aq1, Nat.add_assoc, Nat.left_eq_add, Nat.add_eq_left, Nat.add_left_cancel_iff] at hx
    subst hx
    refine ⟨_, _, rfl, by first | trivial | omega | (simp only [and_true, true_and]; omega), ?_⟩
    refine at_cond (fun h => nomatch h) (fun _ => ?_)
    refine JS_go (tbOk _) 99 fun x hx => ?_
    simp only [RN, ↓reduceIte, ↓get8, reduceCtorEq, Nat.reduceLT, Nat.reduceEqDiff, Nat.reduceAdd, Nat.reduceMul, Nat.reduceLeDiff, Nat.reduceSub, Int.reduceToNat, Int.reduceNeg, Nat.reduceBEq, TY, c1, c2, e1, e2, e3, e4, a0, a1, a2, a3, aq1, Nat.add_assoc, Nat.left_eq_add, Nat.add_eq_left, Nat.add_left_cancel_iff] at hx
    subst hx
    refine ⟨_, _, rfl, by first | trivial | omega | (simp only [and_true, true_and]; omega), ?_⟩
    refine at_cond (fun _ => ?_) (fun h => nomatch h)
    refine JS_go (tbOk _) 99 fun x hx => ?_
    simp only [RN, ↓reduceIte, ↓get8, reduceCtorEq, Nat.reduceLT, Nat.reduceEqDiff, Nat.reduceAdd, Nat.reduceMul, Nat.reduceLeDiff, Nat.reduceSub, Int.reduceToNat, Int.reduceNeg, Nat.reduceBEq, TY, a0, a1, a2, a3, aq1, Nat.add_assoc, Nat.left_eq_add, Nat.add_eq_left, Nat.add_left_cancel_iff] at hx
    subst hx
    refine ⟨_, _, rfl, by first | trivial | omega | (simp only [and_true, true_and]; omega), ?_⟩
    refine at_ret ?_
    refine deferQ_of (f := 29) (L := resH nx (nx + 1) (nx + 2) (.slice none 0 0) (.slice none 0 0) (.int .i64 7) (.int .i64 al)) rfl (catch_nil nx (nx + 1) (nx + 2) (nx + 4) (.slice none 0 0) (.slice none 0 0) (.int .i64 7) (.int .i64 al) (by omega) (by omega) (by omega)) (by unfold resH; simp only [RN, ↓reduceIte, ↓get8, reduceCtorEq, Nat.reduceLT, Nat.reduceEqDiff, Nat.reduceAdd, Nat.reduceMul, Nat.reduceLeDiff, Nat.reduceSub, Int.reduceToNat, Int.reduceNeg, Nat.reduceBEq, a0, a1, a2, a3, aq1, Nat.add_assoc, Nat.left_eq_add, Nat.add_eq_left, Nat.add_left_cancel_iff]; first | done | trivial) ?_
    rintro L' n' ⟨rfl, rfl⟩
    refine ⟨_, _, by unfold resH; simp only [RN, ↓reduceIte, ↓get8, reduceCtorEq, Nat.reduceLT, Nat.reduceEqDiff, Nat.reduceAdd, Nat.reduceMul, Nat.reduceLeDiff, Nat.reduceSub, Int.reduceToNat, Int.reduceNeg, Nat.reduceBEq, TY, keepFr, a0, a1, a2, a3, aq1, Nat.add_assoc, Nat.left_eq_add, Nat.add_eq_left, Nat.add_left_cancel_iff]; rfl, by first | trivial | omega, [(q, ⟨bys bs, 5, 1, ro, loose⟩)], leL_look (by unfold resH; simp only [RN, ↓reduceIte, ↓get8, reduceCtorEq, Nat.reduceLT, Nat.reduceEqDiff, Nat.reduceAdd, Nat.reduceMul, Nat.reduceLeDiff, Nat.reduceSub, Int.reduceToNat, Int.reduceNeg, Nat.reduceBEq, a0, a1, a2, a3, aq1, Nat.add_assoc, Nat.left_eq_add, Nat.add_eq_left, Nat.add_left_cancel_iff]; first | done | trivial), dec_err d0 (by show nx ≤ nx + 4; omega)⟩
  have hall : ln = al := by have := of_decide_eq_false c1; have := of_decide_eq_false c2; omega
  refine JS_go (tbOk _) 99 fun x hx => ?_
  simp only [RN, ↓reduceIte, ↓get8, reduceCtorEq, Nat.reduceLT, Nat.reduceEqDiff, Nat.reduceAdd, Nat.reduceMul, Nat.reduceLeDiff, Nat.reduceSub, Int.reduceToNat, Int.reduceNeg, Nat.reduceBEq, TY, c1, c2, e1, e2, e3, e4, a0, a1, a2, a3, aq1, Nat.add_assoc, Nat.left_eq_add, Nat.add_eq_left, Nat.add_left_cancel_iff] at hx
  subst hx
  refine ⟨_, _, rfl, by first | trivial | omega | (simp only [and_true, true_and]; omega), ?_⟩
  refine at_cond (fun h => nomatch h) (fun _ => ?_)
  refine JS_go (tbOk _) 99 fun x hx => ?_
  simp only [RN, ↓reduceIte, ↓get8, reduceCtorEq, Nat.reduceLT, Nat.reduceEqDiff, Nat.reduceAdd, Nat.reduceMul, Nat.reduceLeDiff, Nat.reduceSub, Int.reduceToNat, Int.reduceNeg, Nat.reduceBEq, TY, c1, c2, e1, e2, e3, e4, a0, a1, a2, a3, aq1, Nat.add_assoc, Nat.left_eq_add, Nat.add_eq_left, Nat.add_left_cancel_iff] at hx
  subst hx
  refine ⟨_, _, rfl, by first | trivial | omega | (simp only [and_true, true_and]; omega), ?_⟩
  refine at_cond (fun h => nomatch h) (fun _ => ?_)
  refine JS_go (tbOk _) 99 fun x hx => ?_
  simp only [RN, ↓reduceIte, ↓get8, reduceCtorEq, Nat.reduceLT, Nat.reduceEqDiff, Nat.reduceAdd, Nat.reduceMul, Nat.reduceLeDiff, Nat.reduceSub, Int.reduceToNat, Int.reduceNeg, Nat.reduceBEq, TY, a0, a1, a2, a3, aq1, Nat.add_assoc, Nat.left_eq_add, Nat.add_eq_left, Nat.add_left_cancel_iff] at hx
  subst hx
  refine ⟨_, _, rfl, by first | trivial | omega | (simp only [and_true, true_and]; omega), ?_⟩
  refine at_loop ?_
  obtain ⟨B1, hB1⟩ : ∃ B1, B1 = nx + 1 := ⟨_, rfl⟩
  obtain ⟨B2, hB2⟩ : ∃ B2, B2 = nx + 2 := ⟨_, rfl⟩
  obtain ⟨r, hr⟩ : ∃ r, r = nx + 3 := ⟨_, rfl⟩
  refine JS_loopI (S := fun x : Nat × Option Nat × Nat => { n := 77, fr := [(45, .int .i64 x.1), (44, .int .i64 m), (7, .int .i64 w), (5, .pointer (some ⟨r, 0, none⟩)), (4, .pointer (some ⟨B2, 0, none⟩)), (3, .pointer (some ⟨B1, 0, none⟩)), (2, .pointer (some ⟨nx, 0, none⟩))], F := [(nx, ⟨[slv x.2.1 x.1 x.1, .slice none 0 0], 26, 2, false, false⟩), (B1, ⟨[.int .i64 0], 28, 1, false, false⟩), (B2, ⟨[.int .i64 0], 3, 1, false, false⟩), (r, ⟨[.slice (some ⟨q, 0, none⟩) ln cp, .int .i64 ((2 + 35 * x.1 : Nat) : Int)], 63, 2, false, false⟩), (q, ⟨bys bs, 5, 1, ro, loose⟩)] ++ kblk x.2.1 ((List.range x.1).map (kX bs)) false true, nx := x.2.2, ds := [{ target := .fn (.func 29) #[.pointer (some ⟨nx, 0, none⟩), .pointer (some ⟨B1, 0, none⟩), .pointer (some ⟨B2, 0, none⟩)], args := #[] }] })
    (fun p => p.1 ≤ m ∧ nx + 4 ≤ p.2.2 ∧ (p.2.1 = none → p.1 = 0) ∧ (∀ b, p.2.1 = some b → nx + 4 ≤ b ∧ b < p.2.2) ∧ ∀ j, j < p.1 → (kE bs j).2 = 0) (fun x => m - x.1) (0, none, nx + 4) ⟨Nat.zero_le _, Nat.le_refl _, fun _ => rfl, nofun, fun j hj => absurd hj (Nat.not_lt_zero j)⟩ ?_ ?_
  · subst hB1 hB2 hr
    exact le_of rfl (by simp only [RN, ↓reduceIte, ↓get8, reduceCtorEq, Nat.reduceLT, Nat.reduceEqDiff, Nat.reduceAdd, Nat.reduceMul, Nat.reduceLeDiff, Nat.reduceSub, Int.reduceToNat, Int.reduceNeg, Nat.reduceBEq]; first | done | trivial) (by simp only [RN, ↓reduceIte, ↓get8, reduceCtorEq, Nat.reduceLT, Nat.reduceEqDiff, Nat.reduceAdd, Nat.reduceMul, Nat.reduceLeDiff, Nat.reduceSub, Int.reduceToNat, Int.reduceNeg, Nat.reduceBEq, slv, kblk, a0, a1, a2, a3, aq1, Nat.add_assoc, Nat.left_eq_add, Nat.add_eq_left, Nat.add_left_cancel_iff]; first | done | trivial) (Nat.le_refl _) rfl
  rintro ⟨i, o, n⟩ ⟨hi, hn, hno, hso, hgood⟩
  dsimp only at hi hn hno hso hgood ⊢
  have hw3 : IntKind.i64.wrap ((i : Int) + 1) = ((i + 1 : Nat) : Int) := wrap_i64 (i + 1) (by omega)
  refine JS_go (tbOk _) 99 fun x hx => ?_
  simp only [RN, ↓reduceIte, ↓get8, reduceCtorEq, Nat.reduceLT, Nat.reduceEqDiff, Nat.reduceAdd, Nat.reduceMul, Nat.reduceLeDiff, Nat.reduceSub, Int.reduceToNat, Int.reduceNeg, Nat.reduceBEq, TY] at hx
  subst hx
  refine ⟨_, _, rfl, by first | trivial | omega | (simp only [and_true, true_and]; omega), ?_⟩
  refine at_cond (fun hlt2 => ?_) (fun hge => ?_)
  · have hlt3 : i < m := by simpa using hlt2
    have hK := rkind_c bs ln cp (2 + 35 * i) r q n ro loose (by omega) hl (by omega) (by omega) (by omega) (kE bs i) rfl
    obtain ⟨k, hk⟩ : ∃ k, kX bs i = k := ⟨_, rfl⟩
    rw [show kdAt bs (2 + 35 * i) (kE bs i) = k from hk] at hK
    obtain ⟨at_, hat⟩ : ∃ at_, 2 + 35 * i = at_ := ⟨_, rfl⟩
    rw [hat] at hK ⊢
    have hat2 : at_ + 35 = 2 + 35 * (i + 1) := by omega
    rw [hat2] at hK
    obtain ⟨a2, ha2⟩ : ∃ a2, 2 + 35 * (i + 1) = a2 := ⟨_, rfl⟩
    rw [ha2] at hK
    unfold rdH at hK
    cases o with
    | none =>
      obtain rfl := hno rfl
      have g0 : ¬ nx = B1 := by omega
      have g1 : ¬ nx = B2 := by omega
      have g2 : ¬ nx = r := by omega
      have g3 : ¬ nx = q := by omega
      have g4 : ¬ nx = n := by omega
      have g5 : ∀ i, ¬ nx = n + i := by intro i; omega
      have g6 : ¬ n = nx := by omega
      have g7 : ∀ i, ¬ n + i = nx := by intro i; omega
      have g8 : ¬ B1 = nx := by omega
      have g9 : ¬ B1 = B2 := by omega
      have g10 : ¬ B1 = r := by omega
      have g11 : ¬ B1 = q := by omega
      have g12 : ¬ B1 = n := by omega
      have g13 : ∀ i, ¬ B1 = n + i := by intro i; omega
      have g14 : ¬ n = B1 := by omega
      have g15 : ∀ i, ¬ n + i = B1 := by intro i; omega
      have g16 : ¬ B2 = nx := by omega
      have g17 : ¬ B2 = B1 := by omega
      have g18 : ¬ B2 = r := by omega
      have g19 : ¬ B2 = q := by omega
      have g20 : ¬ B2 = n := by omega
      have g21 : ∀ i, ¬ B2 = n + i := by intro i; omega
      have g22 : ¬ n = B2 := by omega
      have g23 : ∀ i, ¬ n + i = B2 := by intro i; omega
      have g24 : ¬ r = nx := by omega
      have g25 : ¬ r = B1 := by omega
      have g26 : ¬ r = B2 := by omega
      have g27 : ¬ r = q := by omega
      have g28 : ¬ r = n := by omega
      have g29 : ∀ i, ¬ r = n + i := by intro i; omega
      have g30 : ¬ n = r := by omega
      have g31 : ∀ i, ¬ n + i = r := by intro i; omega
      have g32 : ¬ q = nx := by omega
      have g33 : ¬ q = B1 := by omega
      have g34 : ¬ q = B2 := by omega
      have g35 : ¬ q = r := by omega
      have g36 : ¬ q = n := by omega
      have g37 : ∀ i, ¬ q = n + i := by intro i; omega
      have g38 : ¬ n = q := by omega
      have g39 : ∀ i, ¬ n + i = q := by intro i; omega
      simp only [slv, kblk]
      refine JS_go (tbOk _) 99 fun x hx => ?_
      simp only [RN, ↓reduceIte, ↓get8, reduceCtorEq, Nat.reduceLT, Nat.reduceEqDiff, Nat.reduceAdd, Nat.reduceMul, Nat.reduceLeDiff, Nat.reduceSub, Int.reduceToNat, Int.reduceNeg, Nat.reduceBEq, TY, g0, g1, g2, g3, g4, g5, g6, g7, g8, g9, g10, g11, g12, g13, g14, g15, g16, g17, g18, g19, g20, g21, g22, g23, g24, g25, g26, g27, g28, g29, g30, g31, g32, g33, g34, g35, g36, g37, g38, g39, Nat.add_assoc, Nat.left_eq_add, Nat.add_eq_left, Nat.add_left_cancel_iff] at hx
      subst hx
      refine ⟨_, _, rfl, by first | trivial | omega | (simp only [and_true, true_and]; omega), ?_⟩
      rw [CRJ]
      refine JS_draw (tbOk _) { wr := [(47, 0), (48, 1), (49, 2), (50, 3), (51, 4), (52, 5), (53, 6)], anc := [[], [0], [], [2], [2, 3], [0, 1, 2, 3, 4], [0, 1, 2, 3, 4, 5], [0, 1, 2, 3, 4, 5, 6]], ch := [(3, []), (4, []), (5, []), (7, [])], ac := [[0, 1, 2], [0, 1], [0, 1], [6], []], nw := [[0, 1, 2], [], [], [6], []], fl := [[], [0, 1], [0, 1], [], []] } (by kernel_rfl) (by kernel_rfl) (by kernel_rfl) (by kernel_rfl) ?_
      refine JS_go (tbOk _) 99 fun x hx => ?_
      simp only [RN, ↓reduceIte, ↓get8, reduceCtorEq, Nat.reduceLT, Nat.reduceEqDiff, Nat.reduceAdd, Nat.reduceMul, Nat.reduceLeDiff, Nat.reduceSub, Int.reduceToNat, Int.reduceNeg, Nat.reduceBEq, TY, g0, g1, g2, g3, g4, g5, g6, g7, g8, g9, g10, g11, g12, g13, g14, g15, g16, g17, g18, g19, g20, g21, g22, g23, g24, g25, g26, g27, g28, g29, g30, g31, g32, g33, g34, g35, g36, g37, g38, g39, Nat.add_assoc, Nat.left_eq_add, Nat.add_eq_left, Nat.add_left_cancel_iff] at hx
      subst hx
      refine ⟨_, _, rfl, by first | trivial | omega | (simp only [and_true, true_and]; omega), ?_⟩
      refine at_dcallG hK (by simp only [RN, ↓reduceIte, ↓get8, reduceCtorEq, Nat.reduceLT, Nat.reduceEqDiff, Nat.reduceAdd, Nat.reduceMul, Nat.reduceLeDiff, Nat.reduceSub, Int.reduceToNat, Int.reduceNeg, Nat.reduceBEq, g0, g1, g2, g3, g4, g5, g6, g7, g8, g9, g10, g11, g12, g13, g14, g15, g16, g17, g18, g19, g20, g21, g22, g23, g24, g25, g26, g27, g28, g29, g30, g31, g32, g33, g34, g35, g36, g37, g38, g39, Nat.add_assoc, Nat.left_eq_add, Nat.add_eq_left, Nat.add_left_cancel_iff]; first | done | trivial) ?_
      rintro o2 L' n2 ⟨rfl, rfl, rfl⟩
      unfold okOr
      by_cases hc : (kE bs 0).2 = 0
      · simp only [if_pos hc]
        have v2 : k.cells = kcells ((List.range (0 + 1)).map (kX bs)) := by rw [← hk]; simp [kcells]
        unfold Kd.cells at v2
        refine JS_go (tbOk _) 99 fun x hx => ?_
        simp only [RN, ↓reduceIte, ↓get8, reduceCtorEq, Nat.reduceLT, Nat.reduceEqDiff, Nat.reduceAdd, Nat.reduceMul, Nat.reduceLeDiff, Nat.reduceSub, Int.reduceToNat, Int.reduceNeg, Nat.reduceBEq, TY, Kd.cells, hw3, g0, g1, g2, g3, g4, g5, g6, g7, g8, g9, g10, g11, g12, g13, g14, g15, g16, g17, g18, g19, g20, g21, g22, g23, g24, g25, g26, g27, g28, g29, g30, g31, g32, g33, g34, g35, g36, g37, g38, g39, Nat.add_assoc, Nat.left_eq_add, Nat.add_eq_left, Nat.add_left_cancel_iff] at hx
        subst hx
        refine ⟨_, _, rfl, by first | trivial | omega | (simp only [and_true, true_and]; omega), ?_⟩
        refine at_done (in_nextI (0 + 1, some (n + 3), n + 4) ⟨hlt3, by show nx + 4 ≤ n + 4; omega, nofun, fun c hc => ?_, fun j hj => ?_⟩ (by show m - (0 + 1) < m - 0; omega) ?_)
        · cases hc; exact ⟨by omega, by show n + 3 < n + 4; omega⟩
        · rcases Nat.lt_or_ge j 0 with h | h
          · exact hgood j h
          · obtain rfl : j = 0 := by have : j < 0 + 1 := hj; omega
            exact hc
        · dsimp only
          rw [ha2]
          exact le_of rfl (by simp only [RN, ↓reduceIte, ↓get8, reduceCtorEq, Nat.reduceLT, Nat.reduceEqDiff, Nat.reduceAdd, Nat.reduceMul, Nat.reduceLeDiff, Nat.reduceSub, Int.reduceToNat, Int.reduceNeg, Nat.reduceBEq]; first | done | trivial) (by simp only [RN, ↓reduceIte, ↓get8, reduceCtorEq, Nat.reduceLT, Nat.reduceEqDiff, Nat.reduceAdd, Nat.reduceMul, Nat.reduceLeDiff, Nat.reduceSub, Int.reduceToNat, Int.reduceNeg, Nat.reduceBEq, slv, kblk, v2, g0, g1, g2, g3, g4, g5, g6, g7, g8, g9, g10, g11, g12, g13, g14, g15, g16, g17, g18, g19, g20, g21, g22, g23, g24, g25, g26, g27, g28, g29, g30, g31, g32, g33, g34, g35, g36, g37, g38, g39, Nat.add_assoc, Nat.left_eq_add, Nat.add_eq_left, Nat.add_left_cancel_iff]; first | done | trivial) (Nat.le_refl _) rfl
      · simp only [if_neg hc]
        have hfd : (List.range m).find? (fun i => decide ((kE bs i).2 ≠ 0)) = some 0 := by
          rw [List.find?_range_eq_some]
          exact ⟨by simpa using hc, by simpa using hlt3, fun j hj => by simpa using hgood j hj⟩
        have d0 : decB bs ln = ([], [], (kE bs 0).2, ((at_ + 27 : Nat) : Int)) := by
          unfold decB
          rw [hm, hw, hal, if_neg (by omega), if_neg (by omega), if_neg (by omega), hfd, ← hat]
        refine in_panI ?_
        refine deferQ_of (f := 29) (L := resH nx B1 B2 (.slice none 0 0) (.slice none 0 0) (.int .i64 0) (.int .i64 0)) rfl (catch_no nx B1 B2 (n + 2) (.slice none 0 0) (.slice none 0 0) (.int .i64 0) (.int .i64 0) (kE bs 0).2 ((at_ + 27 : Nat) : Int) (by omega) (by omega) (by omega)) (by unfold resH; simp only [RN, ↓reduceIte, ↓get8, reduceCtorEq, Nat.reduceLT, Nat.reduceEqDiff, Nat.reduceAdd, Nat.reduceMul, Nat.reduceLeDiff, Nat.reduceSub, Int.reduceToNat, Int.reduceNeg, Nat.reduceBEq, g0, g1, g2, g3, g4, g5, g6, g7, g8, g9, g10, g11, g12, g13, g14, g15, g16, g17, g18, g19, g20, g21, g22, g23, g24, g25, g26, g27, g28, g29, g30, g31, g32, g33, g34, g35, g36, g37, g38, g39, Nat.add_assoc, Nat.left_eq_add, Nat.add_eq_left, Nat.add_left_cancel_iff]; first | done | trivial) ?_
        rintro L' n' ⟨rfl, rfl⟩
        refine ⟨_, _, by unfold resH; simp only [RN, ↓reduceIte, ↓get8, reduceCtorEq, Nat.reduceLT, Nat.reduceEqDiff, Nat.reduceAdd, Nat.reduceMul, Nat.reduceLeDiff, Nat.reduceSub, Int.reduceToNat, Int.reduceNeg, Nat.reduceBEq, TY, keepFr, g0, g1, g2, g3, g4, g5, g6, g7, g8, g9, g10, g11, g12, g13, g14, g15, g16, g17, g18, g19, g20, g21, g22, g23, g24, g25, g26, g27, g28, g29, g30, g31, g32, g33, g34, g35, g36, g37, g38, g39, Nat.add_assoc, Nat.left_eq_add, Nat.add_eq_left, Nat.add_left_cancel_iff]; rfl, by first | trivial | omega, [(q, ⟨bys bs, 5, 1, ro, loose⟩)], leL_look (by unfold resH; simp only [RN, ↓reduceIte, ↓get8, reduceCtorEq, Nat.reduceLT, Nat.reduceEqDiff, Nat.reduceAdd, Nat.reduceMul, Nat.reduceLeDiff, Nat.reduceSub, Int.reduceToNat, Int.reduceNeg, Nat.reduceBEq, g0, g1, g2, g3, g4, g5, g6, g7, g8, g9, g10, g11, g12, g13, g14, g15, g16, g17, g18, g19, g20, g21, g22, g23, g24, g25, g26, g27, g28, g29, g30, g31, g32, g33, g34, g35, g36, g37, g38, g39, Nat.add_assoc, Nat.left_eq_add, Nat.add_eq_left, Nat.add_left_cancel_iff]; first | done | trivial), dec_err d0 (by show nx ≤ n + 2 + 1; omega)⟩
    | some b =>
      obtain ⟨hb1, hb2⟩ := hso b rfl
      have g0 : ¬ nx = B1 := by omega
      have g1 : ¬ nx = B2 := by omega
      have g2 : ¬ nx = r := by omega
      have g3 : ¬ nx = q := by omega
      have g4 : ¬ nx = b := by omega
      have g5 : ¬ nx = n := by omega
      have g6 : ∀ i, ¬ nx = n + i := by intro i; omega
      have g7 : ¬ n = nx := by omega
      have g8 : ∀ i, ¬ n + i = nx := by intro i; omega
      have g9 : ¬ B1 = nx := by omega
      have g10 : ¬ B1 = B2 := by omega
      have g11 : ¬ B1 = r := by omega
      have g12 : ¬ B1 = q := by omega
      have g13 : ¬ B1 = b := by omega
      have g14 : ¬ B1 = n := by omega
      have g15 : ∀ i, ¬ B1 = n + i := by intro i; omega
      have g16 : ¬ n = B1 := by omega
      have g17 : ∀ i, ¬ n + i = B1 := by intro i; omega
      have g18 : ¬ B2 = nx := by omega
      have g19 : ¬ B2 = B1 := by omega
      have g20 : ¬ B2 = r := by omega
      have g21 : ¬ B2 = q := by omega
      have g22 : ¬ B2 = b := by omega
      have g23 : ¬ B2 = n := by omega
      have g24 : ∀ i, ¬ B2 = n + i := by intro i; omega
      have g25 : ¬ n = B2 := by omega
      have g26 : ∀ i, ¬ n + i = B2 := by intro i; omega
      have g27 : ¬ r = nx := by omega
      have g28 : ¬ r = B1 := by omega
      have g29 : ¬ r = B2 := by omega
      have g30 : ¬ r = q := by omega
      have g31 : ¬ r = b := by omega
      have g32 : ¬ r = n := by omega
      have g33 : ∀ i, ¬ r = n + i := by intro i; omega
      have g34 : ¬ n = r := by omega
      have g35 : ∀ i, ¬ n + i = r := by intro i; omega
      have g36 : ¬ q = nx := by omega
      have g37 : ¬ q = B1 := by omega
      have g38 : ¬ q = B2 := by omega
      have g39 : ¬ q = r := by omega
      have g40 : ¬ q = b := by omega
      have g41 : ¬ q = n := by omega
      have g42 : ∀ i, ¬ q = n + i := by intro i; omega
      have g43 : ¬ n = q := by omega
      have g44 : ∀ i, ¬ n + i = q := by intro i; omega
      have g45 : ¬ b = nx := by omega
      have g46 : ¬ b = B1 := by omega
      have g47 : ¬ b = B2 := by omega
      have g48 : ¬ b = r := by omega
      have g49 : ¬ b = q := by omega
      have g50 : ¬ b = n := by omega
      have g51 : ∀ i, ¬ b = n + i := by intro i; omega
      have g52 : ¬ n = b := by omega
      have g53 : ∀ i, ¬ n + i = b := by intro i; omega
      simp only [slv, kblk]
      refine JS_go (tbOk _) 99 fun x hx => ?_
      simp only [RN, ↓reduceIte, ↓get8, reduceCtorEq, Nat.reduceLT, Nat.reduceEqDiff, Nat.reduceAdd, Nat.reduceMul, Nat.reduceLeDiff, Nat.reduceSub, Int.reduceToNat, Int.reduceNeg, Nat.reduceBEq, TY, g0, g1, g2, g3, g4, g5, g6, g7, g8, g9, g10, g11, g12, g13, g14, g15, g16, g17, g18, g19, g20, g21, g22, g23, g24, g25, g26, g27, g28, g29, g30, g31, g32, g33, g34, g35, g36, g37, g38, g39, g40, g41, g42, g43, g44, g45, g46, g47, g48, g49, g50, g51, g52, g53, Nat.add_assoc, Nat.left_eq_add, Nat.add_eq_left, Nat.add_left_cancel_iff] at hx
      subst hx
      refine ⟨_, _, rfl, by first | trivial | omega | (simp only [and_true, true_and]; omega), ?_⟩
      rw [CRJ]
      refine JS_draw (tbOk _) { wr := [(47, 0), (48, 1), (49, 2), (50, 3), (51, 4), (52, 5), (53, 6)], anc := [[], [0], [], [2], [2, 3], [0, 1, 2, 3, 4], [0, 1, 2, 3, 4, 5], [0, 1, 2, 3, 4, 5, 6]], ch := [(3, []), (4, []), (5, []), (7, [])], ac := [[0, 1, 2], [0, 1], [0, 1], [6], []], nw := [[0, 1, 2], [], [], [6], []], fl := [[], [0, 1], [0, 1], [], []] } (by kernel_rfl) (by kernel_rfl) (by kernel_rfl) (by kernel_rfl) ?_
      refine JS_go (tbOk _) 99 fun x hx => ?_
      simp only [RN, ↓reduceIte, ↓get8, reduceCtorEq, Nat.reduceLT, Nat.reduceEqDiff, Nat.reduceAdd, Nat.reduceMul, Nat.reduceLeDiff, Nat.reduceSub, Int.reduceToNat, Int.reduceNeg, Nat.reduceBEq, TY, g0, g1, g2, g3, g4, g5, g6, g7, g8, g9, g10, g11, g12, g13, g14, g15, g16, g17, g18, g19, g20, g21, g22, g23, g24, g25, g26, g27, g28, g29, g30, g31, g32, g33, g34, g35, g36, g37, g38, g39, g40, g41, g42, g43, g44, g45, g46, g47, g48, g49, g50, g51, g52, g53, Nat.add_assoc, Nat.left_eq_add, Nat.add_eq_left, Nat.add_left_cancel_iff] at hx
      subst hx
      refine ⟨_, _, rfl, by first | trivial | omega | (simp only [and_true, true_and]; omega), ?_⟩
      refine at_dcallG hK (by simp only [RN, ↓reduceIte, ↓get8, reduceCtorEq, Nat.reduceLT, Nat.reduceEqDiff, Nat.reduceAdd, Nat.reduceMul, Nat.reduceLeDiff, Nat.reduceSub, Int.reduceToNat, Int.reduceNeg, Nat.reduceBEq, g0, g1, g2, g3, g4, g5, g6, g7, g8, g9, g10, g11, g12, g13, g14, g15, g16, g17, g18, g19, g20, g21, g22, g23, g24, g25, g26, g27, g28, g29, g30, g31, g32, g33, g34, g35, g36, g37, g38, g39, g40, g41, g42, g43, g44, g45, g46, g47, g48, g49, g50, g51, g52, g53, Nat.add_assoc, Nat.left_eq_add, Nat.add_eq_left, Nat.add_left_cancel_iff]; first | done | trivial) ?_
      rintro o2 L' n2 ⟨rfl, rfl, rfl⟩
      unfold okOr
      by_cases hc : (kE bs i).2 = 0
      · simp only [if_pos hc]
        have v1 : (kcells ((List.range i).map (kX bs))).length = i * 20 := by rw [kcells_len]; simp
        have v2 : kcells ((List.range i).map (kX bs)) ++ k.cells = kcells ((List.range (i + 1)).map (kX bs)) := by rw [← hk]; simp [List.range_succ, kcells]
        have v3 : ¬ i + 1 ≤ i := by omega
        unfold Kd.cells at v2
        refine JS_go (tbOk _) 99 fun x hx => ?_
        simp only [RN, ↓reduceIte, ↓get8, reduceCtorEq, Nat.reduceLT, Nat.reduceEqDiff, Nat.reduceAdd, Nat.reduceMul, Nat.reduceLeDiff, Nat.reduceSub, Int.reduceToNat, Int.reduceNeg, Nat.reduceBEq, TY, Kd.cells, v1, v2, v3, hw3, g0, g1, g2, g3, g4, g5, g6, g7, g8, g9, g10, g11, g12, g13, g14, g15, g16, g17, g18, g19, g20, g21, g22, g23, g24, g25, g26, g27, g28, g29, g30, g31, g32, g33, g34, g35, g36, g37, g38, g39, g40, g41, g42, g43, g44, g45, g46, g47, g48, g49, g50, g51, g52, g53, Nat.add_assoc, Nat.left_eq_add, Nat.add_eq_left, Nat.add_left_cancel_iff] at hx
        subst hx
        refine ⟨_, _, rfl, by first | trivial | omega | (simp only [and_true, true_and]; omega), ?_⟩
        refine at_done (in_nextI (i + 1, some (n + 3), n + 4) ⟨hlt3, by show nx + 4 ≤ n + 4; omega, nofun, fun c hc => ?_, fun j hj => ?_⟩ (by show m - (i + 1) < m - i; omega) ?_)
        · cases hc; exact ⟨by omega, by show n + 3 < n + 4; omega⟩
        · rcases Nat.lt_or_ge j i with h | h
          · exact hgood j h
          · obtain rfl : j = i := by have : j < i + 1 := hj; omega
            exact hc
        · dsimp only
          rw [ha2]
          exact le_of rfl (by simp only [RN, ↓reduceIte, ↓get8, reduceCtorEq, Nat.reduceLT, Nat.reduceEqDiff, Nat.reduceAdd, Nat.reduceMul, Nat.reduceLeDiff, Nat.reduceSub, Int.reduceToNat, Int.reduceNeg, Nat.reduceBEq]; first | done | trivial) (by simp only [RN, ↓reduceIte, ↓get8, reduceCtorEq, Nat.reduceLT, Nat.reduceEqDiff, Nat.reduceAdd, Nat.reduceMul, Nat.reduceLeDiff, Nat.reduceSub, Int.reduceToNat, Int.reduceNeg, Nat.reduceBEq, slv, kblk, v2, g0, g1, g2, g3, g4, g5, g6, g7, g8, g9, g10, g11, g12, g13, g14, g15, g16, g17, g18, g19, g20, g21, g22, g23, g24, g25, g26, g27, g28, g29, g30, g31, g32, g33, g34, g35, g36, g37, g38, g39, g40, g41, g42, g43, g44, g45, g46, g47, g48, g49, g50, g51, g52, g53, Nat.add_assoc, Nat.left_eq_add, Nat.add_eq_left, Nat.add_left_cancel_iff]; first | done | trivial) (Nat.le_refl _) rfl
      · simp only [if_neg hc]
        have hfd : (List.range m).find? (fun i => decide ((kE bs i).2 ≠ 0)) = some i := by
          rw [List.find?_range_eq_some]
          exact ⟨by simpa using hc, by simpa using hlt3, fun j hj => by simpa using hgood j hj⟩
        have d0 : decB bs ln = ([], [], (kE bs i).2, ((at_ + 27 : Nat) : Int)) := by
          unfold decB
          rw [hm, hw, hal, if_neg (by omega), if_neg (by omega), if_neg (by omega), hfd, ← hat]
        refine in_panI ?_
        refine deferQ_of (f := 29) (L := resH nx B1 B2 (.slice (some ⟨b, 0, none⟩) i i) (.slice none 0 0) (.int .i64 0) (.int .i64 0)) rfl (catch_no nx B1 B2 (n + 2) (.slice (some ⟨b, 0, none⟩) i i) (.slice none 0 0) (.int .i64 0) (.int .i64 0) (kE bs i).2 ((at_ + 27 : Nat) : Int) (by omega) (by omega) (by omega)) (by unfold resH; simp only [RN, ↓reduceIte, ↓get8, reduceCtorEq, Nat.reduceLT, Nat.reduceEqDiff, Nat.reduceAdd, Nat.reduceMul, Nat.reduceLeDiff, Nat.reduceSub, Int.reduceToNat, Int.reduceNeg, Nat.reduceBEq, g0, g1, g2, g3, g4, g5, g6, g7, g8, g9, g10, g11, g12, g13, g14, g15, g16, g17, g18, g19, g20, g21, g22, g23, g24, g25, g26, g27, g28, g29, g30, g31, g32, g33, g34, g35, g36, g37, g38, g39, g40, g41, g42, g43, g44, g45, g46, g47, g48, g49, g50, g51, g52, g53, Nat.add_assoc, Nat.left_eq_add, Nat.add_eq_left, Nat.add_left_cancel_iff]; first | done | trivial) ?_
        rintro L' n' ⟨rfl, rfl⟩
        refine ⟨_, _, by unfold resH; simp only [RN, ↓reduceIte, ↓get8, reduceCtorEq, Nat.reduceLT, Nat.reduceEqDiff, Nat.reduceAdd, Nat.reduceMul, Nat.reduceLeDiff, Nat.reduceSub, Int.reduceToNat, Int.reduceNeg, Nat.reduceBEq, TY, keepFr, g0, g1, g2, g3, g4, g5, g6, g7, g8, g9, g10, g11, g12, g13, g14, g15, g16, g17, g18, g19, g20, g21, g22, g23, g24, g25, g26, g27, g28, g29, g30, g31, g32, g33, g34, g35, g36, g37, g38, g39, g40, g41, g42, g43, g44, g45, g46, g47, g48, g49, g50, g51, g52, g53, Nat.add_assoc, Nat.left_eq_add, Nat.add_eq_left, Nat.add_left_cancel_iff]; rfl, by first | trivial | omega, [(q, ⟨bys bs, 5, 1, ro, loose⟩)], leL_look (by unfold resH; simp only [RN, ↓reduceIte, ↓get8, reduceCtorEq, Nat.reduceLT, Nat.reduceEqDiff, Nat.reduceAdd, Nat.reduceMul, Nat.reduceLeDiff, Nat.reduceSub, Int.reduceToNat, Int.reduceNeg, Nat.reduceBEq, g0, g1, g2, g3, g4, g5, g6, g7, g8, g9, g10, g11, g12, g13, g14, g15, g16, g17, g18, g19, g20, g21, g22, g23, g24, g25, g26, g27, g28, g29, g30, g31, g32, g33, g34, g35, g36, g37, g38, g39, g40, g41, g42, g43, g44, g45, g46, g47, g48, g49, g50, g51, g52, g53, Nat.add_assoc, Nat.left_eq_add, Nat.add_eq_left, Nat.add_left_cancel_iff]; first | done | trivial), dec_err d0 (by show nx ≤ n + 2 + 1; omega)⟩
  have hi2 : i = m := by simp at hge; omega
  subst hi2
  clear hge hi
  have hf1 : (List.range i).find? (fun i => decide ((kE bs i).2 ≠ 0)) = none := by
    rw [List.find?_eq_none]
    intro j hj
    simpa using hgood j (by simpa using hj)
  obtain ⟨KS, hKS⟩ : ∃ KS, (List.range i).map (kX bs) = KS := ⟨_, rfl⟩
  have hKl : KS.length = i := by rw [← hKS]; simp
  obtain ⟨KB, hKB⟩ : ∃ KB, kblk o KS false true = KB := ⟨_, rfl⟩
  have kbn : ∀ e ∈ KB, nx + 4 ≤ e.1 ∧ e.1 < n := by
    intro e he
    rw [← hKB] at he
    cases o with
    | none => simp [kblk] at he
    | some b => simp [kblk] at he; subst he; exact hso b rfl
  have kbl : ∀ id c, look id KB = some c → nx + 4 ≤ id ∧ id < n := by
    intro id c h
    obtain ⟨e, he, rfl⟩ := List.mem_map.1 (look_mem h)
    exact kbn e he
  have kbr : ∀ ids : List Nat, (∀ i ∈ ids, i < nx + 4 ∨ n ≤ i) → remN ids KB = KB := fun ids h => remN_not ids fun e he i hi e2 => by have := kbn e he; have := h i hi; omega
  have kbd : ∀ b, n ≤ b → del b KB = KB := fun b h => del_not b fun e he e2 => by have := kbn e he; omega
  obtain ⟨KV, hKV⟩ : ∃ KV, slv o i i = KV := ⟨_, rfl⟩
  rw [hKS, hKB, hKV]
  have h0 : ¬ nx = B1 := by omega
  have h1 : ¬ nx = B2 := by omega
  have h2 : ¬ nx = r := by omega
  have h3 : ¬ nx = q := by omega
  have h4 : ¬ nx = n := by omega
  have h5 : ∀ i, ¬ nx = n + i := by intro i; omega
  have h6 : ¬ n = nx := by omega
  have h7 : ∀ i, ¬ n + i = nx := by intro i; omega
  have h8 : ¬ B1 = nx := by omega
  have h9 : ¬ B1 = B2 := by omega
  have h10 : ¬ B1 = r := by omega
  have h11 : ¬ B1 = q := by omega
  have h12 : ¬ B1 = n := by omega
  have h13 : ∀ i, ¬ B1 = n + i := by intro i; omega
  have h14 : ¬ n = B1 := by omega
  have h15 : ∀ i, ¬ n + i = B1 := by intro i; omega
  have h16 : ¬ B2 = nx := by omega
  have h17 : ¬ B2 = B1 := by omega
  have h18 : ¬ B2 = r := by omega
  have h19 : ¬ B2 = q := by omega
  have h20 : ¬ B2 = n := by omega
  have h21 : ∀ i, ¬ B2 = n + i := by intro i; omega
  have h22 : ¬ n = B2 := by omega
  have h23 : ∀ i, ¬ n + i = B2 := by intro i; omega
  have h24 : ¬ r = nx := by omega
  have h25 : ¬ r = B1 := by omega
  have h26 : ¬ r = B2 := by omega
  have h27 : ¬ r = q := by omega
  have h28 : ¬ r = n := by omega
  have h29 : ∀ i, ¬ r = n + i := by intro i; omega
  have h30 : ¬ n = r := by omega
  have h31 : ∀ i, ¬ n + i = r := by intro i; omega
  have h32 : ¬ q = nx := by omega
  have h33 : ¬ q = B1 := by omega
  have h34 : ¬ q = B2 := by omega
  have h35 : ¬ q = r := by omega
  have h36 : ¬ q = n := by omega
  have h37 : ∀ i, ¬ q = n + i := by intro i; omega
  have h38 : ¬ n = q := by omega
  have h39 : ∀ i, ¬ n + i = q := by intro i; omega
  refine JS_go (tbOk _) 99 fun x hx => ?_
  simp only [RN, ↓reduceIte, ↓get8, reduceCtorEq, Nat.reduceLT, Nat.reduceEqDiff, Nat.reduceAdd, Nat.reduceMul, Nat.reduceLeDiff, Nat.reduceSub, Int.reduceToNat, Int.reduceNeg, Nat.reduceBEq, TY] at hx
  subst hx
  refine ⟨_, _, rfl, by first | trivial | omega | (simp only [and_true, true_and]; omega), ?_⟩
  refine at_exit (in_exitI (by simp only [RN, ↓reduceIte, ↓get8, reduceCtorEq, Nat.reduceLT, Nat.reduceEqDiff, Nat.reduceAdd, Nat.reduceMul, Nat.reduceLeDiff, Nat.reduceSub, Int.reduceToNat, Int.reduceNeg, Nat.reduceBEq]; rfl) ?_)
  refine JS_go (tbOk _) 99 fun x hx => ?_
  simp only [RN, ↓reduceIte, ↓get8, reduceCtorEq, Nat.reduceLT, Nat.reduceEqDiff, Nat.reduceAdd, Nat.reduceMul, Nat.reduceLeDiff, Nat.reduceSub, Int.reduceToNat, Int.reduceNeg, Nat.reduceBEq, TY, h0, h1, h2, h3, h4, h5, h6, h7, h8, h9, h10, h11, h12, h13, h14, h15, h16, h17, h18, h19, h20, h21, h22, h23, h24, h25, h26, h27, h28, h29, h30, h31, h32, h33, h34, h35, h36, h37, h38, h39, Nat.add_assoc, Nat.left_eq_add, Nat.add_eq_left, Nat.add_left_cancel_iff] at hx
  subst hx
  refine ⟨_, _, rfl, by first | trivial | omega | (simp only [and_true, true_and]; omega), ?_⟩
  refine at_loop ?_
  refine JS_loopI (S := fun x : Nat × Option Nat × Nat => { n := 77, fr := [(56, .int .i64 x.1), (55, .int .i64 w), (7, .int .i64 w), (5, .pointer (some ⟨r, 0, none⟩)), (4, .pointer (some ⟨B2, 0, none⟩)), (3, .pointer (some ⟨B1, 0, none⟩)), (2, .pointer (some ⟨nx, 0, none⟩))], F := [(nx, ⟨[KV, slv x.2.1 x.1 x.1], 26, 2, false, false⟩), (B1, ⟨[.int .i64 0], 28, 1, false, false⟩), (B2, ⟨[.int .i64 0], 3, 1, false, false⟩), (r, ⟨[.slice (some ⟨q, 0, none⟩) ln cp, .int .i64 ((2 + 35 * i + 14 * x.1 : Nat) : Int)], 63, 2, false, false⟩), (q, ⟨bys bs, 5, 1, ro, loose⟩)] ++ (wpblk x.2.1 (wsF bs i x.1) false true ++ KB), nx := x.2.2, ds := [{ target := .fn (.func 29) #[.pointer (some ⟨nx, 0, none⟩), .pointer (some ⟨B1, 0, none⟩), .pointer (some ⟨B2, 0, none⟩)], args := #[] }] })
    (fun p => p.1 ≤ w ∧ n ≤ p.2.2 ∧ (p.2.1 = none → p.1 = 0) ∧ (∀ b, p.2.1 = some b → n ≤ b ∧ b < p.2.2) ∧ ∀ j, j < p.1 → (wE bs (2 + 35 * i + 14 * j)).1 = 0) (fun x => w - x.1) (0, none, n) ⟨Nat.zero_le _, Nat.le_refl _, fun _ => rfl, nofun, fun j hj => absurd hj (Nat.not_lt_zero j)⟩ ?_ ?_
  · exact ⟨rfl, leL_look (by simp only [RN, ↓reduceIte, ↓get8, reduceCtorEq, Nat.reduceLT, Nat.reduceEqDiff, Nat.reduceAdd, Nat.reduceMul, Nat.reduceLeDiff, Nat.reduceSub, Int.reduceToNat, Int.reduceNeg, Nat.reduceBEq]; first | done | trivial), fun id c h => h, Nat.le_refl _, rfl⟩
  rintro ⟨j, ow, n2⟩ ⟨hj, hn2, hnw, hsw, hgw⟩
  dsimp only at hj hn2 hnw hsw hgw ⊢
  have hw3 : IntKind.i64.wrap ((j : Int) + 1) = ((j + 1 : Nat) : Int) := wrap_i64 (j + 1) (by omega)
  refine JS_go (tbOk _) 99 fun x hx => ?_
  simp only [RN, ↓reduceIte, ↓get8, reduceCtorEq, Nat.reduceLT, Nat.reduceEqDiff, Nat.reduceAdd, Nat.reduceMul, Nat.reduceLeDiff, Nat.reduceSub, Int.reduceToNat, Int.reduceNeg, Nat.reduceBEq, TY] at hx
  subst hx
  refine ⟨_, _, rfl, by first | trivial | omega | (simp only [and_true, true_and]; omega), ?_⟩
  refine at_cond (fun hlt2 => ?_) (fun hge => ?_)
  · have hlt3 : j < w := by simpa using hlt2
    obtain ⟨at_, hat⟩ : ∃ at_, 2 + 35 * i + 14 * j = at_ := ⟨_, rfl⟩
    have hat2 : at_ + 14 = 2 + 35 * i + 14 * (j + 1) := by omega
    obtain ⟨a2, ha2⟩ : ∃ a2, at_ + 14 = a2 := ⟨_, rfl⟩
    have ha3 : 2 + 35 * i + 14 * (j + 1) = a2 := by omega
    have rK := kbr [r, q] (by simp; omega)
    have rK2 := kbr [nx, B1, B2] (by simp; omega)
    rw [hat]
    cases ow with
    | none =>
      obtain rfl := hnw rfl
      have g0 : ¬ nx = B1 := by omega
      have g1 : ¬ nx = B2 := by omega
      have g2 : ¬ nx = r := by omega
      have g3 : ¬ nx = q := by omega
      have g4 : ¬ nx = n2 := by omega
      have g5 : ∀ i, ¬ nx = n2 + i := by intro i; omega
      have g6 : ¬ n2 = nx := by omega
      have g7 : ∀ i, ¬ n2 + i = nx := by intro i; omega
      have g8 : ¬ B1 = nx := by omega
      have g9 : ¬ B1 = B2 := by omega
      have g10 : ¬ B1 = r := by omega
      have g11 : ¬ B1 = q := by omega
      have g12 : ¬ B1 = n2 := by omega
      have g13 : ∀ i, ¬ B1 = n2 + i := by intro i; omega
      have g14 : ¬ n2 = B1 := by omega
      have g15 : ∀ i, ¬ n2 + i = B1 := by intro i; omega
      have g16 : ¬ B2 = nx := by omega
      have g17 : ¬ B2 = B1 := by omega
      have g18 : ¬ B2 = r := by omega
      have g19 : ¬ B2 = q := by omega
      have g20 : ¬ B2 = n2 := by omega
      have g21 : ∀ i, ¬ B2 = n2 + i := by intro i; omega
      have g22 : ¬ n2 = B2 := by omega
      have g23 : ∀ i, ¬ n2 + i = B2 := by intro i; omega
      have g24 : ¬ r = nx := by omega
      have g25 : ¬ r = B1 := by omega
      have g26 : ¬ r = B2 := by omega
      have g27 : ¬ r = q := by omega
      have g28 : ¬ r = n2 := by omega
      have g29 : ∀ i, ¬ r = n2 + i := by intro i; omega
      have g30 : ¬ n2 = r := by omega
      have g31 : ∀ i, ¬ n2 + i = r := by intro i; omega
      have g32 : ¬ q = nx := by omega
      have g33 : ¬ q = B1 := by omega
      have g34 : ¬ q = B2 := by omega
      have g35 : ¬ q = r := by omega
      have g36 : ¬ q = n2 := by omega
      have g37 : ∀ i, ¬ q = n2 + i := by intro i; omega
      have g38 : ¬ n2 = q := by omega
      have g39 : ∀ i, ¬ n2 + i = q := by intro i; omega
      simp only [slv, wpblk]
      refine JS_go (tbOk _) 99 fun x hx => ?_
      simp only [RN, ↓reduceIte, ↓get8, reduceCtorEq, Nat.reduceLT, Nat.reduceEqDiff, Nat.reduceAdd, Nat.reduceMul, Nat.reduceLeDiff, Nat.reduceSub, Int.reduceToNat, Int.reduceNeg, Nat.reduceBEq, TY, g0, g1, g2, g3, g4, g5, g6, g7, g8, g9, g10, g11, g12, g13, g14, g15, g16, g17, g18, g19, g20, g21, g22, g23, g24, g25, g26, g27, g28, g29, g30, g31, g32, g33, g34, g35, g36, g37, g38, g39, Nat.add_assoc, Nat.left_eq_add, Nat.add_eq_left, Nat.add_left_cancel_iff] at hx
      subst hx
      refine ⟨_, _, rfl, by first | trivial | omega | (simp only [and_true, true_and]; omega), ?_⟩
      rw [CRJ]
      refine JS_draw (tbOk _) { wr := [(58, 0), (59, 1), (60, 2), (61, 3), (62, 4), (63, 5), (64, 6)], anc := [[], [0], [], [2], [2, 3], [0, 1, 2, 3, 4], [0, 1, 2, 3, 4, 5], [0, 1, 2, 3, 4, 5, 6]], ch := [(3, []), (4, []), (5, []), (7, [])], ac := [[0, 1, 2], [0, 1], [0, 1], [6], []], nw := [[0, 1, 2], [], [], [6], []], fl := [[], [0, 1], [0, 1], [], []] } (by kernel_rfl) (by kernel_rfl) (by kernel_rfl) (by kernel_rfl) ?_
      refine JS_go (tbOk _) 99 fun x hx => ?_
      simp only [RN, ↓reduceIte, ↓get8, reduceCtorEq, Nat.reduceLT, Nat.reduceEqDiff, Nat.reduceAdd, Nat.reduceMul, Nat.reduceLeDiff, Nat.reduceSub, Int.reduceToNat, Int.reduceNeg, Nat.reduceBEq, TY, g0, g1, g2, g3, g4, g5, g6, g7, g8, g9, g10, g11, g12, g13, g14, g15, g16, g17, g18, g19, g20, g21, g22, g23, g24, g25, g26, g27, g28, g29, g30, g31, g32, g33, g34, g35, g36, g37, g38, g39, Nat.add_assoc, Nat.left_eq_add, Nat.add_eq_left, Nat.add_left_cancel_iff] at hx
      subst hx
      refine ⟨_, _, rfl, by first | trivial | omega | (simp only [and_true, true_and]; omega), ?_⟩
      obtain ⟨u, hu⟩ : ∃ u, le ((bs.drop (at_ + 5)).take 1) = u := ⟨_, rfl⟩
      by_cases hu1 : 1 < u
      · have hK := rweapon_no bs ln cp at_ r q n2 ro loose (by omega) hl (by omega) (by omega) (by omega) u hu hu1
        unfold rdH at hK
        refine at_dcallG hK (by simp only [RN, ↓reduceIte, ↓get8, reduceCtorEq, Nat.reduceLT, Nat.reduceEqDiff, Nat.reduceAdd, Nat.reduceMul, Nat.reduceLeDiff, Nat.reduceSub, Int.reduceToNat, Int.reduceNeg, Nat.reduceBEq, g0, g1, g2, g3, g4, g5, g6, g7, g8, g9, g10, g11, g12, g13, g14, g15, g16, g17, g18, g19, g20, g21, g22, g23, g24, g25, g26, g27, g28, g29, g30, g31, g32, g33, g34, g35, g36, g37, g38, g39, Nat.add_assoc, Nat.left_eq_add, Nat.add_eq_left, Nat.add_left_cancel_iff]; first | done | trivial) ?_
        rintro o2 L' n4 ⟨rfl, rfl, rfl⟩
        have hwE : wE bs at_ = (3, ((at_ + 5 : Nat) : Int)) := by unfold wE; rw [show wU bs at_ = u from hu, if_pos hu1]
        have hfd : (List.range w).find? (fun x => decide ((wE bs (2 + 35 * i + 14 * x)).1 ≠ 0)) = some 0 := by
          rw [List.find?_range_eq_some]
          refine ⟨?_, by simpa using hlt3, fun x hx => by simpa using hgw x hx⟩
          rw [hat, hwE]; rfl
        have d0 : decB bs ln = ([], [], 3, ((at_ + 5 : Nat) : Int)) := by
          unfold decB
          rw [hm, hw, hal, if_neg (by omega), if_neg (by omega), if_neg (by omega), hf1]
          dsimp only
          rw [hfd]
          dsimp only
          rw [hat, hwE]
        refine in_panI ?_
        refine deferQ_of (f := 29) (L := resH nx B1 B2 (KV) (.slice none 0 0) (.int .i64 0) (.int .i64 0)) rfl (catch_no nx B1 B2 (n2 + 2) (KV) (.slice none 0 0) (.int .i64 0) (.int .i64 0) 3 ((at_ + 5 : Nat) : Int) (by omega) (by omega) (by omega)) (by unfold resH; simp only [RN, ↓reduceIte, ↓get8, reduceCtorEq, Nat.reduceLT, Nat.reduceEqDiff, Nat.reduceAdd, Nat.reduceMul, Nat.reduceLeDiff, Nat.reduceSub, Int.reduceToNat, Int.reduceNeg, Nat.reduceBEq, rK, rK2, g0, g1, g2, g3, g4, g5, g6, g7, g8, g9, g10, g11, g12, g13, g14, g15, g16, g17, g18, g19, g20, g21, g22, g23, g24, g25, g26, g27, g28, g29, g30, g31, g32, g33, g34, g35, g36, g37, g38, g39, Nat.add_assoc, Nat.left_eq_add, Nat.add_eq_left, Nat.add_left_cancel_iff]; first | done | trivial) ?_
        rintro L' n' ⟨rfl, rfl⟩
        refine ⟨_, _, by unfold resH; simp only [RN, ↓reduceIte, ↓get8, reduceCtorEq, Nat.reduceLT, Nat.reduceEqDiff, Nat.reduceAdd, Nat.reduceMul, Nat.reduceLeDiff, Nat.reduceSub, Int.reduceToNat, Int.reduceNeg, Nat.reduceBEq, TY, keepFr, rK, rK2, g0, g1, g2, g3, g4, g5, g6, g7, g8, g9, g10, g11, g12, g13, g14, g15, g16, g17, g18, g19, g20, g21, g22, g23, g24, g25, g26, g27, g28, g29, g30, g31, g32, g33, g34, g35, g36, g37, g38, g39, Nat.add_assoc, Nat.left_eq_add, Nat.add_eq_left, Nat.add_left_cancel_iff]; rfl, by first | trivial | omega, [(q, ⟨bys bs, 5, 1, ro, loose⟩)], leL_look (by unfold resH; simp only [RN, ↓reduceIte, ↓get8, reduceCtorEq, Nat.reduceLT, Nat.reduceEqDiff, Nat.reduceAdd, Nat.reduceMul, Nat.reduceLeDiff, Nat.reduceSub, Int.reduceToNat, Int.reduceNeg, Nat.reduceBEq, rK, rK2, g0, g1, g2, g3, g4, g5, g6, g7, g8, g9, g10, g11, g12, g13, g14, g15, g16, g17, g18, g19, g20, g21, g22, g23, g24, g25, g26, g27, g28, g29, g30, g31, g32, g33, g34, g35, g36, g37, g38, g39, Nat.add_assoc, Nat.left_eq_add, Nat.add_eq_left, Nat.add_left_cancel_iff]; first | done | trivial), dec_err d0 (by show nx ≤ n2 + 2 + 1; omega)⟩
      have hK := rweapon_c bs ln cp at_ r q n2 ro loose (by omega) hl (by omega) (by omega) (by omega) u hu (by omega) (wS bs at_) rfl
      have hwE : wE bs at_ = ((wS bs at_).2, ((at_ + 6 : Nat) : Int)) := by unfold wE; rw [show wU bs at_ = u from hu, if_neg hu1]
      obtain ⟨k, hk⟩ : ∃ k, wX bs at_ = k := ⟨_, rfl⟩
      rw [show wpAt bs at_ u (wS bs at_) = k from by rw [← hk, ← hu]; rfl, ha2] at hK
      unfold rdH at hK
      refine at_dcallG hK (by simp only [RN, ↓reduceIte, ↓get8, reduceCtorEq, Nat.reduceLT, Nat.reduceEqDiff, Nat.reduceAdd, Nat.reduceMul, Nat.reduceLeDiff, Nat.reduceSub, Int.reduceToNat, Int.reduceNeg, Nat.reduceBEq, g0, g1, g2, g3, g4, g5, g6, g7, g8, g9, g10, g11, g12, g13, g14, g15, g16, g17, g18, g19, g20, g21, g22, g23, g24, g25, g26, g27, g28, g29, g30, g31, g32, g33, g34, g35, g36, g37, g38, g39, Nat.add_assoc, Nat.left_eq_add, Nat.add_eq_left, Nat.add_left_cancel_iff]; first | done | trivial) ?_
      rintro o2 L' n4 ⟨rfl, rfl, rfl⟩
      unfold okOr
      by_cases hc : (wS bs at_).2 = 0
      · simp only [if_pos hc]
        have v2 : k.cells = wcells (wsF bs i (0 + 1)) := by rw [← hk, ← hat]; simp [wsF, wcells]
        unfold Wp.cells at v2
        refine JS_go (tbOk _) 99 fun x hx => ?_
        simp only [RN, ↓reduceIte, ↓get8, reduceCtorEq, Nat.reduceLT, Nat.reduceEqDiff, Nat.reduceAdd, Nat.reduceMul, Nat.reduceLeDiff, Nat.reduceSub, Int.reduceToNat, Int.reduceNeg, Nat.reduceBEq, TY, Wp.cells, hw3, rK, g0, g1, g2, g3, g4, g5, g6, g7, g8, g9, g10, g11, g12, g13, g14, g15, g16, g17, g18, g19, g20, g21, g22, g23, g24, g25, g26, g27, g28, g29, g30, g31, g32, g33, g34, g35, g36, g37, g38, g39, Nat.add_assoc, Nat.left_eq_add, Nat.add_eq_left, Nat.add_left_cancel_iff] at hx
        subst hx
        refine ⟨_, _, rfl, by first | trivial | omega | (simp only [and_true, true_and]; omega), ?_⟩
        refine at_done (in_nextI (0 + 1, some (n2 + 3), n2 + 4) ⟨hlt3, by show n ≤ n2 + 4; omega, nofun, fun c hc => ?_, fun x hx => ?_⟩ (by show w - (0 + 1) < w - 0; omega) ?_)
        · cases hc; exact ⟨by omega, by show n2 + 3 < n2 + 4; omega⟩
        · rcases Nat.lt_or_ge x 0 with h | h
          · exact hgw x h
          · obtain rfl : x = 0 := by have : x < 0 + 1 := hx; omega
            rw [hat, hwE]; exact hc
        · dsimp only
          rw [ha3]
          refine ⟨rfl, leL_look (by simp only [RN, ↓reduceIte, ↓get8, reduceCtorEq, Nat.reduceLT, Nat.reduceEqDiff, Nat.reduceAdd, Nat.reduceMul, Nat.reduceLeDiff, Nat.reduceSub, Int.reduceToNat, Int.reduceNeg, Nat.reduceBEq]; first | done | trivial), ?_, Nat.le_refl _, rfl⟩
          simp only [slv, wpblk]
          refine leT (X := [_, _, _, _, _, _]) ?_ ?_
          · simp only [RN, ↓reduceIte, ↓get8, reduceCtorEq, Nat.reduceLT, Nat.reduceEqDiff, Nat.reduceAdd, Nat.reduceMul, Nat.reduceLeDiff, Nat.reduceSub, Int.reduceToNat, Int.reduceNeg, Nat.reduceBEq, v2, rK, g0, g1, g2, g3, g4, g5, g6, g7, g8, g9, g10, g11, g12, g13, g14, g15, g16, g17, g18, g19, g20, g21, g22, g23, g24, g25, g26, g27, g28, g29, g30, g31, g32, g33, g34, g35, g36, g37, g38, g39, Nat.add_assoc, Nat.left_eq_add, Nat.add_eq_left, Nat.add_left_cancel_iff]; first | done | trivial
          · intro id c h
            have u0 := kbl id c h
            have w0 : ¬ id = nx := by omega
            have w1 : ¬ id = B1 := by omega
            have w2 : ¬ id = B2 := by omega
            have w3 : ¬ id = r := by omega
            have w4 : ¬ id = q := by omega
            have w5 : ¬ id = n2 := by omega
            have w6 : ¬ id = n2 + 2 := by omega
            have w7 : ¬ id = n2 + 3 := by omega
            simp only [RN, ↓reduceIte, ↓get8, reduceCtorEq, Nat.reduceLT, Nat.reduceEqDiff, Nat.reduceAdd, Nat.reduceMul, Nat.reduceLeDiff, Nat.reduceSub, Int.reduceToNat, Int.reduceNeg, Nat.reduceBEq, rK, w0, w1, w2, w3, w4, w5, w6, w7, g0, g1, g2, g3, g4, g5, g6, g7, g8, g9, g10, g11, g12, g13, g14, g15, g16, g17, g18, g19, g20, g21, g22, g23, g24, g25, g26, g27, g28, g29, g30, g31, g32, g33, g34, g35, g36, g37, g38, g39, Nat.add_assoc, Nat.left_eq_add, Nat.add_eq_left, Nat.add_left_cancel_iff, h]
      · simp only [if_neg hc]
        have hfd : (List.range w).find? (fun x => decide ((wE bs (2 + 35 * i + 14 * x)).1 ≠ 0)) = some 0 := by
          rw [List.find?_range_eq_some]
          refine ⟨?_, by simpa using hlt3, fun x hx => by simpa using hgw x hx⟩
          rw [hat, hwE]; simpa using hc
        have d0 : decB bs ln = ([], [], (wS bs at_).2, ((at_ + 6 : Nat) : Int)) := by
          unfold decB
          rw [hm, hw, hal, if_neg (by omega), if_neg (by omega), if_neg (by omega), hf1]
          dsimp only
          rw [hfd]
          dsimp only
          rw [hat, hwE]
        refine in_panI ?_
        refine deferQ_of (f := 29) (L := resH nx B1 B2 (KV) (.slice none 0 0) (.int .i64 0) (.int .i64 0)) rfl (catch_no nx B1 B2 (n2 + 2) (KV) (.slice none 0 0) (.int .i64 0) (.int .i64 0) (wS bs at_).2 ((at_ + 6 : Nat) : Int) (by omega) (by omega) (by omega)) (by unfold resH; simp only [RN, ↓reduceIte, ↓get8, reduceCtorEq, Nat.reduceLT, Nat.reduceEqDiff, Nat.reduceAdd, Nat.reduceMul, Nat.reduceLeDiff, Nat.reduceSub, Int.reduceToNat, Int.reduceNeg, Nat.reduceBEq, rK, rK2, g0, g1, g2, g3, g4, g5, g6, g7, g8, g9, g10, g11, g12, g13, g14, g15, g16, g17, g18, g19, g20, g21, g22, g23, g24, g25, g26, g27, g28, g29, g30, g31, g32, g33, g34, g35, g36, g37, g38, g39, Nat.add_assoc, Nat.left_eq_add, Nat.add_eq_left, Nat.add_left_cancel_iff]; first | done | trivial) ?_
        rintro L' n' ⟨rfl, rfl⟩
        refine ⟨_, _, by unfold resH; simp only [RN, ↓reduceIte, ↓get8, reduceCtorEq, Nat.reduceLT, Nat.reduceEqDiff, Nat.reduceAdd, Nat.reduceMul, Nat.reduceLeDiff, Nat.reduceSub, Int.reduceToNat, Int.reduceNeg, Nat.reduceBEq, TY, keepFr, rK, rK2, g0, g1, g2, g3, g4, g5, g6, g7, g8, g9, g10, g11, g12, g13, g14, g15, g16, g17, g18, g19, g20, g21, g22, g23, g24, g25, g26, g27, g28, g29, g30, g31, g32, g33, g34, g35, g36, g37, g38, g39, Nat.add_assoc, Nat.left_eq_add, Nat.add_eq_left, Nat.add_left_cancel_iff]; rfl, by first | trivial | omega, [(q, ⟨bys bs, 5, 1, ro, loose⟩)], leL_look (by unfold resH; simp only [RN, ↓reduceIte, ↓get8, reduceCtorEq, Nat.reduceLT, Nat.reduceEqDiff, Nat.reduceAdd, Nat.reduceMul, Nat.reduceLeDiff, Nat.reduceSub, Int.reduceToNat, Int.reduceNeg, Nat.reduceBEq, rK, rK2, g0, g1, g2, g3, g4, g5, g6, g7, g8, g9, g10, g11, g12, g13, g14, g15, g16, g17, g18, g19, g20, g21, g22, g23, g24, g25, g26, g27, g28, g29, g30, g31, g32, g33, g34, g35, g36, g37, g38, g39, Nat.add_assoc, Nat.left_eq_add, Nat.add_eq_left, Nat.add_left_cancel_iff]; first | done | trivial), dec_err d0 (by show nx ≤ n2 + 2 + 1; omega)⟩
    | some b =>
      obtain ⟨hb1, hb2⟩ := hsw b rfl
      have dK := kbd b hb1
      have g0 : ¬ nx = B1 := by omega
      have g1 : ¬ nx = B2 := by omega
      have g2 : ¬ nx = r := by omega
      have g3 : ¬ nx = q := by omega
      have g4 : ¬ nx = b := by omega
      have g5 : ¬ nx = n2 := by omega
      have g6 : ∀ i, ¬ nx = n2 + i := by intro i; omega
      have g7 : ¬ n2 = nx := by omega
      have g8 : ∀ i, ¬ n2 + i = nx := by intro i; omega
      have g9 : ¬ B1 = nx := by omega
      have g10 : ¬ B1 = B2 := by omega
      have g11 : ¬ B1 = r := by omega
      have g12 : ¬ B1 = q := by omega
      have g13 : ¬ B1 = b := by omega
      have g14 : ¬ B1 = n2 := by omega
      have g15 : ∀ i, ¬ B1 = n2 + i := by intro i; omega
      have g16 : ¬ n2 = B1 := by omega
      have g17 : ∀ i, ¬ n2 + i = B1 := by intro i; omega
      have g18 : ¬ B2 = nx := by omega
      have g19 : ¬ B2 = B1 := by omega
      have g20 : ¬ B2 = r := by omega
      have g21 : ¬ B2 = q := by omega
      have g22 : ¬ B2 = b := by omega
      have g23 : ¬ B2 = n2 := by omega
      have g24 : ∀ i, ¬ B2 = n2 + i := by intro i; omega
      have g25 : ¬ n2 = B2 := by omega
      have g26 : ∀ i, ¬ n2 + i = B2 := by intro i; omega
      have g27 : ¬ r = nx := by omega
      have g28 : ¬ r = B1 := by omega
      have g29 : ¬ r = B2 := by omega
      have g30 : ¬ r = q := by omega
      have g31 : ¬ r = b := by omega
      have g32 : ¬ r = n2 := by omega
      have g33 : ∀ i, ¬ r = n2 + i := by intro i; omega
      have g34 : ¬ n2 = r := by omega
      have g35 : ∀ i, ¬ n2 + i = r := by intro i; omega
      have g36 : ¬ q = nx := by omega
      have g37 : ¬ q = B1 := by omega
      have g38 : ¬ q = B2 := by omega
      have g39 : ¬ q = r := by omega
      have g40 : ¬ q = b := by omega
      have g41 : ¬ q = n2 := by omega
      have g42 : ∀ i, ¬ q = n2 + i := by intro i; omega
      have g43 : ¬ n2 = q := by omega
      have g44 : ∀ i, ¬ n2 + i = q := by intro i; omega
      have g45 : ¬ b = nx := by omega
      have g46 : ¬ b = B1 := by omega
      have g47 : ¬ b = B2 := by omega
      have g48 : ¬ b = r := by omega
      have g49 : ¬ b = q := by omega
      have g50 : ¬ b = n2 := by omega
      have g51 : ∀ i, ¬ b = n2 + i := by intro i; omega
      have g52 : ¬ n2 = b := by omega
      have g53 : ∀ i, ¬ n2 + i = b := by intro i; omega
      simp only [slv, wpblk]
      refine JS_go (tbOk _) 99 fun x hx => ?_
      simp only [RN, ↓reduceIte, ↓get8, reduceCtorEq, Nat.reduceLT, Nat.reduceEqDiff, Nat.reduceAdd, Nat.reduceMul, Nat.reduceLeDiff, Nat.reduceSub, Int.reduceToNat, Int.reduceNeg, Nat.reduceBEq, TY, g0, g1, g2, g3, g4, g5, g6, g7, g8, g9, g10, g11, g12, g13, g14, g15, g16, g17, g18, g19, g20, g21, g22, g23, g24, g25, g26, g27, g28, g29, g30, g31, g32, g33, g34, g35, g36, g37, g38, g39, g40, g41, g42, g43, g44, g45, g46, g47, g48, g49, g50, g51, g52, g53, Nat.add_assoc, Nat.left_eq_add, Nat.add_eq_left, Nat.add_left_cancel_iff] at hx
      subst hx
      refine ⟨_, _, rfl, by first | trivial | omega | (simp only [and_true, true_and]; omega), ?_⟩
      rw [CRJ]
      refine JS_draw (tbOk _) { wr := [(58, 0), (59, 1), (60, 2), (61, 3), (62, 4), (63, 5), (64, 6)], anc := [[], [0], [], [2], [2, 3], [0, 1, 2, 3, 4], [0, 1, 2, 3, 4, 5], [0, 1, 2, 3, 4, 5, 6]], ch := [(3, []), (4, []), (5, []), (7, [])], ac := [[0, 1, 2], [0, 1], [0, 1], [6], []], nw := [[0, 1, 2], [], [], [6], []], fl := [[], [0, 1], [0, 1], [], []] } (by kernel_rfl) (by kernel_rfl) (by kernel_rfl) (by kernel_rfl) ?_
      refine JS_go (tbOk _) 99 fun x hx => ?_
      simp only [RN, ↓reduceIte, ↓get8, reduceCtorEq, Nat.reduceLT, Nat.reduceEqDiff, Nat.reduceAdd, Nat.reduceMul, Nat.reduceLeDiff, Nat.reduceSub, Int.reduceToNat, Int.reduceNeg, Nat.reduceBEq, TY, g0, g1, g2, g3, g4, g5, g6, g7, g8, g9, g10, g11, g12, g13, g14, g15, g16, g17, g18, g19, g20, g21, g22, g23, g24, g25, g26, g27, g28, g29, g30, g31, g32, g33, g34, g35, g36, g37, g38, g39, g40, g41, g42, g43, g44, g45, g46, g47, g48, g49, g50, g51, g52, g53, Nat.add_assoc, Nat.left_eq_add, Nat.add_eq_left, Nat.add_left_cancel_iff] at hx
      subst hx
      refine ⟨_, _, rfl, by first | trivial | omega | (simp only [and_true, true_and]; omega), ?_⟩
      obtain ⟨u, hu⟩ : ∃ u, le ((bs.drop (at_ + 5)).take 1) = u := ⟨_, rfl⟩
      by_cases hu1 : 1 < u
      · have hK := rweapon_no bs ln cp at_ r q n2 ro loose (by omega) hl (by omega) (by omega) (by omega) u hu hu1
        unfold rdH at hK
        refine at_dcallG hK (by simp only [RN, ↓reduceIte, ↓get8, reduceCtorEq, Nat.reduceLT, Nat.reduceEqDiff, Nat.reduceAdd, Nat.reduceMul, Nat.reduceLeDiff, Nat.reduceSub, Int.reduceToNat, Int.reduceNeg, Nat.reduceBEq, g0, g1, g2, g3, g4, g5, g6, g7, g8, g9, g10, g11, g12, g13, g14, g15, g16, g17, g18, g19, g20, g21, g22, g23, g24, g25, g26, g27, g28, g29, g30, g31, g32, g33, g34, g35, g36, g37, g38, g39, g40, g41, g42, g43, g44, g45, g46, g47, g48, g49, g50, g51, g52, g53, Nat.add_assoc, Nat.left_eq_add, Nat.add_eq_left, Nat.add_left_cancel_iff]; first | done | trivial) ?_
        rintro o2 L' n4 ⟨rfl, rfl, rfl⟩
        have hwE : wE bs at_ = (3, ((at_ + 5 : Nat) : Int)) := by unfold wE; rw [show wU bs at_ = u from hu, if_pos hu1]
        have hfd : (List.range w).find? (fun x => decide ((wE bs (2 + 35 * i + 14 * x)).1 ≠ 0)) = some j := by
          rw [List.find?_range_eq_some]
          refine ⟨?_, by simpa using hlt3, fun x hx => by simpa using hgw x hx⟩
          rw [hat, hwE]; rfl
        have d0 : decB bs ln = ([], [], 3, ((at_ + 5 : Nat) : Int)) := by
          unfold decB
          rw [hm, hw, hal, if_neg (by omega), if_neg (by omega), if_neg (by omega), hf1]
          dsimp only
          rw [hfd]
          dsimp only
          rw [hat, hwE]
        refine in_panI ?_
        refine deferQ_of (f := 29) (L := resH nx B1 B2 (KV) (.slice (some ⟨b, 0, none⟩) j j) (.int .i64 0) (.int .i64 0)) rfl (catch_no nx B1 B2 (n2 + 2) (KV) (.slice (some ⟨b, 0, none⟩) j j) (.int .i64 0) (.int .i64 0) 3 ((at_ + 5 : Nat) : Int) (by omega) (by omega) (by omega)) (by unfold resH; simp only [RN, ↓reduceIte, ↓get8, reduceCtorEq, Nat.reduceLT, Nat.reduceEqDiff, Nat.reduceAdd, Nat.reduceMul, Nat.reduceLeDiff, Nat.reduceSub, Int.reduceToNat, Int.reduceNeg, Nat.reduceBEq, rK, rK2, g0, g1, g2, g3, g4, g5, g6, g7, g8, g9, g10, g11, g12, g13, g14, g15, g16, g17, g18, g19, g20, g21, g22, g23, g24, g25, g26, g27, g28, g29, g30, g31, g32, g33, g34, g35, g36, g37, g38, g39, g40, g41, g42, g43, g44, g45, g46, g47, g48, g49, g50, g51, g52, g53, Nat.add_assoc, Nat.left_eq_add, Nat.add_eq_left, Nat.add_left_cancel_iff]; first | done | trivial) ?_
        rintro L' n' ⟨rfl, rfl⟩
        refine ⟨_, _, by unfold resH; simp only [RN, ↓reduceIte, ↓get8, reduceCtorEq, Nat.reduceLT, Nat.reduceEqDiff, Nat.reduceAdd, Nat.reduceMul, Nat.reduceLeDiff, Nat.reduceSub, Int.reduceToNat, Int.reduceNeg, Nat.reduceBEq, TY, keepFr, rK, rK2, g0, g1, g2, g3, g4, g5, g6, g7, g8, g9, g10, g11, g12, g13, g14, g15, g16, g17, g18, g19, g20, g21, g22, g23, g24, g25, g26, g27, g28, g29, g30, g31, g32, g33, g34, g35, g36, g37, g38, g39, g40, g41, g42, g43, g44, g45, g46, g47, g48, g49, g50, g51, g52, g53, Nat.add_assoc, Nat.left_eq_add, Nat.add_eq_left, Nat.add_left_cancel_iff]; rfl, by first | trivial | omega, [(q, ⟨bys bs, 5, 1, ro, loose⟩)], leL_look (by unfold resH; simp only [RN, ↓reduceIte, ↓get8, reduceCtorEq, Nat.reduceLT, Nat.reduceEqDiff, Nat.reduceAdd, Nat.reduceMul, Nat.reduceLeDiff, Nat.reduceSub, Int.reduceToNat, Int.reduceNeg, Nat.reduceBEq, rK, rK2, g0, g1, g2, g3, g4, g5, g6, g7, g8, g9, g10, g11, g12, g13, g14, g15, g16, g17, g18, g19, g20, g21, g22, g23, g24, g25, g26, g27, g28, g29, g30, g31, g32, g33, g34, g35, g36, g37, g38, g39, g40, g41, g42, g43, g44, g45, g46, g47, g48, g49, g50, g51, g52, g53, Nat.add_assoc, Nat.left_eq_add, Nat.add_eq_left, Nat.add_left_cancel_iff]; first | done | trivial), dec_err d0 (by show nx ≤ n2 + 2 + 1; omega)⟩
      have hK := rweapon_c bs ln cp at_ r q n2 ro loose (by omega) hl (by omega) (by omega) (by omega) u hu (by omega) (wS bs at_) rfl
      have hwE : wE bs at_ = ((wS bs at_).2, ((at_ + 6 : Nat) : Int)) := by unfold wE; rw [show wU bs at_ = u from hu, if_neg hu1]
      obtain ⟨k, hk⟩ : ∃ k, wX bs at_ = k := ⟨_, rfl⟩
      rw [show wpAt bs at_ u (wS bs at_) = k from by rw [← hk, ← hu]; rfl, ha2] at hK
      unfold rdH at hK
      refine at_dcallG hK (by simp only [RN, ↓reduceIte, ↓get8, reduceCtorEq, Nat.reduceLT, Nat.reduceEqDiff, Nat.reduceAdd, Nat.reduceMul, Nat.reduceLeDiff, Nat.reduceSub, Int.reduceToNat, Int.reduceNeg, Nat.reduceBEq, g0, g1, g2, g3, g4, g5, g6, g7, g8, g9, g10, g11, g12, g13, g14, g15, g16, g17, g18, g19, g20, g21, g22, g23, g24, g25, g26, g27, g28, g29, g30, g31, g32, g33, g34, g35, g36, g37, g38, g39, g40, g41, g42, g43, g44, g45, g46, g47, g48, g49, g50, g51, g52, g53, Nat.add_assoc, Nat.left_eq_add, Nat.add_eq_left, Nat.add_left_cancel_iff]; first | done | trivial) ?_
      rintro o2 L' n4 ⟨rfl, rfl, rfl⟩
      unfold okOr
      by_cases hc : (wS bs at_).2 = 0
      · simp only [if_pos hc]
        have v1 : (wcells (wsF bs i j)).length = j * 6 := by rw [wcells_len]; simp [wsF]
        have v2 : wcells (wsF bs i j) ++ k.cells = wcells (wsF bs i (j + 1)) := by rw [← hk, ← hat]; simp [wsF, List.range_succ, wcells]
        have v3 : ¬ j + 1 ≤ j := by omega
        unfold Wp.cells at v2
        refine JS_go (tbOk _) 99 fun x hx => ?_
        simp only [RN, ↓reduceIte, ↓get8, reduceCtorEq, Nat.reduceLT, Nat.reduceEqDiff, Nat.reduceAdd, Nat.reduceMul, Nat.reduceLeDiff, Nat.reduceSub, Int.reduceToNat, Int.reduceNeg, Nat.reduceBEq, TY, Wp.cells, v1, v2, v3, dK, hw3, rK, g0, g1, g2, g3, g4, g5, g6, g7, g8, g9, g10, g11, g12, g13, g14, g15, g16, g17, g18, g19, g20, g21, g22, g23, g24, g25, g26, g27, g28, g29, g30, g31, g32, g33, g34, g35, g36, g37, g38, g39, g40, g41, g42, g43, g44, g45, g46, g47, g48, g49, g50, g51, g52, g53, Nat.add_assoc, Nat.left_eq_add, Nat.add_eq_left, Nat.add_left_cancel_iff] at hx
        subst hx
        refine ⟨_, _, rfl, by first | trivial | omega | (simp only [and_true, true_and]; omega), ?_⟩
        refine at_done (in_nextI (j + 1, some (n2 + 3), n2 + 4) ⟨hlt3, by show n ≤ n2 + 4; omega, nofun, fun c hc => ?_, fun x hx => ?_⟩ (by show w - (j + 1) < w - j; omega) ?_)
        · cases hc; exact ⟨by omega, by show n2 + 3 < n2 + 4; omega⟩
        · rcases Nat.lt_or_ge x j with h | h
          · exact hgw x h
          · obtain rfl : x = j := by have : x < j + 1 := hx; omega
            rw [hat, hwE]; exact hc
        · dsimp only
          rw [ha3]
          refine ⟨rfl, leL_look (by simp only [RN, ↓reduceIte, ↓get8, reduceCtorEq, Nat.reduceLT, Nat.reduceEqDiff, Nat.reduceAdd, Nat.reduceMul, Nat.reduceLeDiff, Nat.reduceSub, Int.reduceToNat, Int.reduceNeg, Nat.reduceBEq]; first | done | trivial), ?_, Nat.le_refl _, rfl⟩
          simp only [slv, wpblk]
          refine leT (X := [_, _, _, _, _, _]) ?_ ?_
          · simp only [RN, ↓reduceIte, ↓get8, reduceCtorEq, Nat.reduceLT, Nat.reduceEqDiff, Nat.reduceAdd, Nat.reduceMul, Nat.reduceLeDiff, Nat.reduceSub, Int.reduceToNat, Int.reduceNeg, Nat.reduceBEq, v2, rK, g0, g1, g2, g3, g4, g5, g6, g7, g8, g9, g10, g11, g12, g13, g14, g15, g16, g17, g18, g19, g20, g21, g22, g23, g24, g25, g26, g27, g28, g29, g30, g31, g32, g33, g34, g35, g36, g37, g38, g39, g40, g41, g42, g43, g44, g45, g46, g47, g48, g49, g50, g51, g52, g53, Nat.add_assoc, Nat.left_eq_add, Nat.add_eq_left, Nat.add_left_cancel_iff]; first | done | trivial
          · intro id c h
            have u0 := kbl id c h
            have w0 : ¬ id = nx := by omega
            have w1 : ¬ id = B1 := by omega
            have w2 : ¬ id = B2 := by omega
            have w3 : ¬ id = r := by omega
            have w4 : ¬ id = q := by omega
            have w5 : ¬ id = n2 := by omega
            have w6 : ¬ id = n2 + 2 := by omega
            have w7 : ¬ id = n2 + 3 := by omega
            have w8 : ¬ id = b := by omega
            simp only [RN, ↓reduceIte, ↓get8, reduceCtorEq, Nat.reduceLT, Nat.reduceEqDiff, Nat.reduceAdd, Nat.reduceMul, Nat.reduceLeDiff, Nat.reduceSub, Int.reduceToNat, Int.reduceNeg, Nat.reduceBEq, rK, w0, w1, w2, w3, w4, w5, w6, w7, w8, g0, g1, g2, g3, g4, g5, g6, g7, g8, g9, g10, g11, g12, g13, g14, g15, g16, g17, g18, g19, g20, g21, g22, g23, g24, g25, g26, g27, g28, g29, g30, g31, g32, g33, g34, g35, g36, g37, g38, g39, g40, g41, g42, g43, g44, g45, g46, g47, g48, g49, g50, g51, g52, g53, Nat.add_assoc, Nat.left_eq_add, Nat.add_eq_left, Nat.add_left_cancel_iff, h]
      · simp only [if_neg hc]
        have hfd : (List.range w).find? (fun x => decide ((wE bs (2 + 35 * i + 14 * x)).1 ≠ 0)) = some j := by
          rw [List.find?_range_eq_some]
          refine ⟨?_, by simpa using hlt3, fun x hx => by simpa using hgw x hx⟩
          rw [hat, hwE]; simpa using hc
        have d0 : decB bs ln = ([], [], (wS bs at_).2, ((at_ + 6 : Nat) : Int)) := by
          unfold decB
          rw [hm, hw, hal, if_neg (by omega), if_neg (by omega), if_neg (by omega), hf1]
          dsimp only
          rw [hfd]
          dsimp only
          rw [hat, hwE]
        refine in_panI ?_
        refine deferQ_of (f := 29) (L := resH nx B1 B2 (KV) (.slice (some ⟨b, 0, none⟩) j j) (.int .i64 0) (.int .i64 0)) rfl (catch_no nx B1 B2 (n2 + 2) (KV) (.slice (some ⟨b, 0, none⟩) j j) (.int .i64 0) (.int .i64 0) (wS bs at_).2 ((at_ + 6 : Nat) : Int) (by omega) (by omega) (by omega)) (by unfold resH; simp only [RN, ↓reduceIte, ↓get8, reduceCtorEq, Nat.reduceLT, Nat.reduceEqDiff, Nat.reduceAdd, Nat.reduceMul, Nat.reduceLeDiff, Nat.reduceSub, Int.reduceToNat, Int.reduceNeg, Nat.reduceBEq, rK, rK2, g0, g1, g2, g3, g4, g5, g6, g7, g8, g9, g10, g11, g12, g13, g14, g15, g16, g17, g18, g19, g20, g21, g22, g23, g24, g25, g26, g27, g28, g29, g30, g31, g32, g33, g34, g35, g36, g37, g38, g39, g40, g41, g42, g43, g44, g45, g46, g47, g48, g49, g50, g51, g52, g53, Nat.add_assoc, Nat.left_eq_add, Nat.add_eq_left, Nat.add_left_cancel_iff]; first | done | trivial) ?_
        rintro L' n' ⟨rfl, rfl⟩
        refine ⟨_, _, by unfold resH; simp only [RN, ↓reduceIte, ↓get8, reduceCtorEq, Nat.reduceLT, Nat.reduceEqDiff, Nat.reduceAdd, Nat.reduceMul, Nat.reduceLeDiff, Nat.reduceSub, Int.reduceToNat, Int.reduceNeg, Nat.reduceBEq, TY, keepFr, rK, rK2, g0, g1, g2, g3, g4, g5, g6, g7, g8, g9, g10, g11, g12, g13, g14, g15, g16, g17, g18, g19, g20, g21, g22, g23, g24, g25, g26, g27, g28, g29, g30, g31, g32, g33, g34, g35, g36, g37, g38, g39, g40, g41, g42, g43, g44, g45, g46, g47, g48, g49, g50, g51, g52, g53, Nat.add_assoc, Nat.left_eq_add, Nat.add_eq_left, Nat.add_left_cancel_iff]; rfl, by first | trivial | omega, [(q, ⟨bys bs, 5, 1, ro, loose⟩)], leL_look (by unfold resH; simp only [RN, ↓reduceIte, ↓get8, reduceCtorEq, Nat.reduceLT, Nat.reduceEqDiff, Nat.reduceAdd, Nat.reduceMul, Nat.reduceLeDiff, Nat.reduceSub, Int.reduceToNat, Int.reduceNeg, Nat.reduceBEq, rK, rK2, g0, g1, g2, g3, g4, g5, g6, g7, g8, g9, g10, g11, g12, g13, g14, g15, g16, g17, g18, g19, g20, g21, g22, g23, g24, g25, g26, g27, g28, g29, g30, g31, g32, g33, g34, g35, g36, g37, g38, g39, g40, g41, g42, g43, g44, g45, g46, g47, g48, g49, g50, g51, g52, g53, Nat.add_assoc, Nat.left_eq_add, Nat.add_eq_left, Nat.add_left_cancel_iff]; first | done | trivial), dec_err d0 (by show nx ≤ n2 + 2 + 1; omega)⟩
  have hj2 : j = w := by simp at hge; omega
  subst hj2
  clear hge hj
  have hf2 : (List.range j).find? (fun x => decide ((wE bs (2 + 35 * i + 14 * x)).1 ≠ 0)) = none := by
    rw [List.find?_eq_none]
    intro x hx
    simpa using hgw x (by simpa using hx)
  obtain ⟨WS, hWS⟩ : ∃ WS, wsF bs i j = WS := ⟨_, rfl⟩
  have hWl : WS.length = j := by rw [← hWS]; simp [wsF]
  obtain ⟨B0, hB0⟩ : ∃ B0 : Bk, B0 = ⟨KS, [], WS, [], o, i, ow, j, false, true⟩ := ⟨_, rfl⟩
  have g0 : B0.Good n2 := by
    rw [hB0]
    refine ⟨fun h => ?_, fun h => ?_, by show KS.length ≤ 1000; omega, by show WS.length ≤ 1000; omega, fun b h => ?_, fun b h => (hsw b h).2, fun b c h1 h2 => ?_⟩
    · have := hno h; show KS = []; exact List.eq_nil_of_length_eq_zero (by omega)
    · have := hnw h; show WS = []; exact List.eq_nil_of_length_eq_zero (by omega)
    · have := (hso b h).2; omega
    · have := (hso b h1).2; have := (hsw c h2).1; omega
  have hC := check_c B0 n2 g0
  obtain ⟨TB, hTB⟩ : ∃ TB, wpblk ow WS false true ++ KB = TB := ⟨_, rfl⟩
  have tbn : ∀ e ∈ TB, nx + 4 ≤ e.1 := by
    intro e he
    rw [← hTB] at he
    rcases List.mem_append.1 he with he | he
    · cases ow with
      | none => simp [wpblk] at he
      | some b => simp [wpblk] at he; subst he; have := (hsw b rfl).1; show nx + 4 ≤ b; omega
    · exact (kbn e he).1
  have tbr : ∀ ids : List Nat, (∀ i ∈ ids, i < nx + 4) → remN ids TB = TB := fun ids h => remN_not ids fun e he i hi e2 => by have := tbn e he; have := h i hi; omega
  have tbl : ∀ id c, look id B0.H = some c → look id TB = some c := by
    intro id c h
    rw [hB0] at h
    unfold Bk.H at h
    dsimp only at h
    rw [List.append_nil, List.append_nil, look_append, hKB] at h
    rw [← hTB, look_append]
    cases hk : look id KB with
    | none => rw [hk] at h; dsimp only at h; rw [h]
    | some x =>
      rw [hk] at h
      dsimp only at h
      have : look id (wpblk ow WS false true) = none := by
        cases ow with
        | none => rfl
        | some b =>
          have h1 := kbl id x hk
          have h2 := (hsw b rfl).1
          simp only [wpblk]
          rw [look_cons, if_neg (by omega)]
          rfl
      rw [this]
      exact h
  have tbg : ∀ id c, look id B0.H = some c → nx + 4 ≤ id := by
    intro id c h
    obtain ⟨e, he, rfl⟩ := List.mem_map.1 (look_mem (tbl id c h))
    exact tbn e he
  obtain ⟨WV, hWV⟩ : ∃ WV, slv ow j j = WV := ⟨_, rfl⟩
  have hBv : B0.val = .agg #[KV, WV] := by rw [hB0]; unfold Bk.val; dsimp only; rw [hKl, hWl, hKV, hWV]
  have hBk : B0.ks = KS := by rw [hB0]
  have hBw : B0.ws = WS := by rw [hB0]
  rw [hBv, hBk, hBw] at hC
  rw [hWS, hTB, hWV]
  refine JS_go (tbOk _) 99 fun x hx => ?_
  simp only [RN, ↓reduceIte, ↓get8, reduceCtorEq, Nat.reduceLT, Nat.reduceEqDiff, Nat.reduceAdd, Nat.reduceMul, Nat.reduceLeDiff, Nat.reduceSub, Int.reduceToNat, Int.reduceNeg, Nat.reduceBEq, TY] at hx
  subst hx
  refine ⟨_, _, rfl, by first | trivial | omega | (simp only [and_true, true_and]; omega), ?_⟩
  refine at_exit (in_exitI (by simp only [RN, ↓reduceIte, ↓get8, reduceCtorEq, Nat.reduceLT, Nat.reduceEqDiff, Nat.reduceAdd, Nat.reduceMul, Nat.reduceLeDiff, Nat.reduceSub, Int.reduceToNat, Int.reduceNeg, Nat.reduceBEq]; rfl) ?_)
  have m0 : ¬ nx = B1 := by omega
  have m1 : ¬ nx = B2 := by omega
  have m2 : ¬ nx = r := by omega
  have m3 : ¬ nx = q := by omega
  have m4 : ¬ nx = n2 := by omega
  have m5 : ∀ i, ¬ nx = n2 + i := by intro i; omega
  have m6 : ¬ n2 = nx := by omega
  have m7 : ∀ i, ¬ n2 + i = nx := by intro i; omega
  have m8 : ¬ B1 = nx := by omega
  have m9 : ¬ B1 = B2 := by omega
  have m10 : ¬ B1 = r := by omega
  have m11 : ¬ B1 = q := by omega
  have m12 : ¬ B1 = n2 := by omega
  have m13 : ∀ i, ¬ B1 = n2 + i := by intro i; omega
  have m14 : ¬ n2 = B1 := by omega
  have m15 : ∀ i, ¬ n2 + i = B1 := by intro i; omega
  have m16 : ¬ B2 = nx := by omega
  have m17 : ¬ B2 = B1 := by omega
  have m18 : ¬ B2 = r := by omega
  have m19 : ¬ B2 = q := by omega
  have m20 : ¬ B2 = n2 := by omega
  have m21 : ∀ i, ¬ B2 = n2 + i := by intro i; omega
  have m22 : ¬ n2 = B2 := by omega
  have m23 : ∀ i, ¬ n2 + i = B2 := by intro i; omega
  have m24 : ¬ r = nx := by omega
  have m25 : ¬ r = B1 := by omega
  have m26 : ¬ r = B2 := by omega
  have m27 : ¬ r = q := by omega
  have m28 : ¬ r = n2 := by omega
  have m29 : ∀ i, ¬ r = n2 + i := by intro i; omega
  have m30 : ¬ n2 = r := by omega
  have m31 : ∀ i, ¬ n2 + i = r := by intro i; omega
  have m32 : ¬ q = nx := by omega
  have m33 : ¬ q = B1 := by omega
  have m34 : ¬ q = B2 := by omega
  have m35 : ¬ q = r := by omega
  have m36 : ¬ q = n2 := by omega
  have m37 : ∀ i, ¬ q = n2 + i := by intro i; omega
  have m38 : ¬ n2 = q := by omega
  have m39 : ∀ i, ¬ n2 + i = q := by intro i; omega
  refine JS_go (tbOk _) 99 fun x hx => ?_
  simp only [RN, ↓reduceIte, ↓get8, reduceCtorEq, Nat.reduceLT, Nat.reduceEqDiff, Nat.reduceAdd, Nat.reduceMul, Nat.reduceLeDiff, Nat.reduceSub, Int.reduceToNat, Int.reduceNeg, Nat.reduceBEq, TY, m0, m1, m2, m3, m4, m5, m6, m7, m8, m9, m10, m11, m12, m13, m14, m15, m16, m17, m18, m19, m20, m21, m22, m23, m24, m25, m26, m27, m28, m29, m30, m31, m32, m33, m34, m35, m36, m37, m38, m39, Nat.add_assoc, Nat.left_eq_add, Nat.add_eq_left, Nat.add_left_cancel_iff] at hx
  subst hx
  refine ⟨_, _, rfl, by first | trivial | omega | (simp only [and_true, true_and]; omega), ?_⟩
  refine at_quiet (K := fun o n => o = .ret (.tuple #[.int .i64 (checkB KS WS).1, .int .i64 (checkB KS WS).2]) ∧ n2 ≤ n) (hC.mono fun o F' n h => ⟨⟨h.1, h.2.2⟩, h.2.1⟩) (fun id c h => ?_) ?_
  · have u0 := tbg id c h
    have u1 := tbl id c h
    have w0 : ¬ id = nx := by omega
    have w1 : ¬ id = B1 := by omega
    have w2 : ¬ id = B2 := by omega
    have w3 : ¬ id = r := by omega
    have w4 : ¬ id = q := by omega
    simp only [RN, ↓reduceIte, ↓get8, reduceCtorEq, Nat.reduceLT, Nat.reduceEqDiff, Nat.reduceAdd, Nat.reduceMul, Nat.reduceLeDiff, Nat.reduceSub, Int.reduceToNat, Int.reduceNeg, Nat.reduceBEq, w0, w1, w2, w3, w4, u1]
  rintro o3 n3 ⟨rfl, hn3⟩
  refine ⟨_, by simp only [RN, ↓reduceIte, ↓get8, reduceCtorEq, Nat.reduceLT, Nat.reduceEqDiff, Nat.reduceAdd, Nat.reduceMul, Nat.reduceLeDiff, Nat.reduceSub, Int.reduceToNat, Int.reduceNeg, Nat.reduceBEq]; rfl, ?_⟩
  have rT := tbr [nx, B1, B2] (by simp; omega)
  have k0 : ¬ nx = B1 := by omega
  have k1 : ¬ nx = B2 := by omega
  have k2 : ¬ nx = r := by omega
  have k3 : ¬ nx = q := by omega
  have k4 : ¬ nx = n3 := by omega
  have k5 : ∀ i, ¬ nx = n3 + i := by intro i; omega
  have k6 : ¬ n3 = nx := by omega
  have k7 : ∀ i, ¬ n3 + i = nx := by intro i; omega
  have k8 : ¬ B1 = nx := by omega
  have k9 : ¬ B1 = B2 := by omega
  have k10 : ¬ B1 = r := by omega
  have k11 : ¬ B1 = q := by omega
  have k12 : ¬ B1 = n3 := by omega
  have k13 : ∀ i, ¬ B1 = n3 + i := by intro i; omega
  have k14 : ¬ n3 = B1 := by omega
  have k15 : ∀ i, ¬ n3 + i = B1 := by intro i; omega
  have k16 : ¬ B2 = nx := by omega
  have k17 : ¬ B2 = B1 := by omega
  have k18 : ¬ B2 = r := by omega
  have k19 : ¬ B2 = q := by omega
  have k20 : ¬ B2 = n3 := by omega
  have k21 : ∀ i, ¬ B2 = n3 + i := by intro i; omega
  have k22 : ¬ n3 = B2 := by omega
  have k23 : ∀ i, ¬ n3 + i = B2 := by intro i; omega
  have k24 : ¬ r = nx := by omega
  have k25 : ¬ r = B1 := by omega
  have k26 : ¬ r = B2 := by omega
  have k27 : ¬ r = q := by omega
  have k28 : ¬ r = n3 := by omega
  have k29 : ∀ i, ¬ r = n3 + i := by intro i; omega
  have k30 : ¬ n3 = r := by omega
  have k31 : ∀ i, ¬ n3 + i = r := by intro i; omega
  have k32 : ¬ q = nx := by omega
  have k33 : ¬ q = B1 := by omega
  have k34 : ¬ q = B2 := by omega
  have k35 : ¬ q = r := by omega
  have k36 : ¬ q = n3 := by omega
  have k37 : ∀ i, ¬ q = n3 + i := by intro i; omega
  have k38 : ¬ n3 = q := by omega
  have k39 : ∀ i, ¬ n3 + i = q := by intro i; omega
  refine JS_go (tbOk _) 99 fun x hx => ?_
  simp only [RN, ↓reduceIte, ↓get8, reduceCtorEq, Nat.reduceLT, Nat.reduceEqDiff, Nat.reduceAdd, Nat.reduceMul, Nat.reduceLeDiff, Nat.reduceSub, Int.reduceToNat, Int.reduceNeg, Nat.reduceBEq, TY, k0, k1, k2, k3, k4, k5, k6, k7, k8, k9, k10, k11, k12, k13, k14, k15, k16, k17, k18, k19, k20, k21, k22, k23, k24, k25, k26, k27, k28, k29, k30, k31, k32, k33, k34, k35, k36, k37, k38, k39, Nat.add_assoc, Nat.left_eq_add, Nat.add_eq_left, Nat.add_left_cancel_iff] at hx
  subst hx
  refine ⟨_, _, rfl, by first | trivial | omega | (simp only [and_true, true_and]; omega), ?_⟩
  refine at_cond (fun h => ?_) (fun h => ?_)
  · have h0 : ¬ (checkB KS WS).1 = 0 := by simpa using h
    have d0 : decB bs ln = ([], [], (checkB KS WS).1, (checkB KS WS).2) := by
      unfold decB
      rw [hm, hw, hal, if_neg (by omega), if_neg (by omega), if_neg (by omega), hf1]
      dsimp only
      rw [hf2]
      dsimp only
      rw [hKS, hWS, if_neg h0]
    refine JS_go (tbOk _) 99 fun x hx => ?_
    simp only [RN, ↓reduceIte, ↓get8, reduceCtorEq, Nat.reduceLT, Nat.reduceEqDiff, Nat.reduceAdd, Nat.reduceMul, Nat.reduceLeDiff, Nat.reduceSub, Int.reduceToNat, Int.reduceNeg, Nat.reduceBEq, TY] at hx
    subst hx
    refine ⟨_, _, rfl, by first | trivial | omega | (simp only [and_true, true_and]; omega), ?_⟩
    rw [CRJ]
    refine JS_draw (tbOk _) { wr := [(73, 0), (74, 1), (75, 2)], anc := [[], [], [], [0], [0, 1, 3], [0, 1, 2, 3, 4]], ch := [(3, []), (4, []), (5, [])], ac := [[0, 1, 2], [1, 2], [2], []], nw := [[0, 1, 2], [], [], []], fl := [[], [1, 2], [2], []] } (by kernel_rfl) (by kernel_rfl) (by kernel_rfl) (by kernel_rfl) ?_
    refine JS_go (tbOk _) 99 fun x hx => ?_
    simp only [RN, ↓reduceIte, ↓get8, reduceCtorEq, Nat.reduceLT, Nat.reduceEqDiff, Nat.reduceAdd, Nat.reduceMul, Nat.reduceLeDiff, Nat.reduceSub, Int.reduceToNat, Int.reduceNeg, Nat.reduceBEq, TY, k0, k1, k2, k3, k4, k5, k6, k7, k8, k9, k10, k11, k12, k13, k14, k15, k16, k17, k18, k19, k20, k21, k22, k23, k24, k25, k26, k27, k28, k29, k30, k31, k32, k33, k34, k35, k36, k37, k38, k39, Nat.add_assoc, Nat.left_eq_add, Nat.add_eq_left, Nat.add_left_cancel_iff] at hx
    subst hx
    refine ⟨_, _, rfl, by first | trivial | omega | (simp only [and_true, true_and]; omega), ?_⟩
    refine at_ret ?_
    refine deferQ_of (f := 29) (L := resH nx B1 B2 (.slice none 0 0) (.slice none 0 0) (.int .i64 (checkB KS WS).1) (.int .i64 (checkB KS WS).2)) rfl (catch_nil nx B1 B2 n3 (.slice none 0 0) (.slice none 0 0) (.int .i64 (checkB KS WS).1) (.int .i64 (checkB KS WS).2) (by omega) (by omega) (by omega)) (by unfold resH; simp only [RN, ↓reduceIte, ↓get8, reduceCtorEq, Nat.reduceLT, Nat.reduceEqDiff, Nat.reduceAdd, Nat.reduceMul, Nat.reduceLeDiff, Nat.reduceSub, Int.reduceToNat, Int.reduceNeg, Nat.reduceBEq, rT, k0, k1, k2, k3, k4, k5, k6, k7, k8, k9, k10, k11, k12, k13, k14, k15, k16, k17, k18, k19, k20, k21, k22, k23, k24, k25, k26, k27, k28, k29, k30, k31, k32, k33, k34, k35, k36, k37, k38, k39, Nat.add_assoc, Nat.left_eq_add, Nat.add_eq_left, Nat.add_left_cancel_iff]; first | done | trivial) ?_
    rintro L' n' ⟨rfl, rfl⟩
    refine ⟨_, _, by unfold resH; simp only [RN, ↓reduceIte, ↓get8, reduceCtorEq, Nat.reduceLT, Nat.reduceEqDiff, Nat.reduceAdd, Nat.reduceMul, Nat.reduceLeDiff, Nat.reduceSub, Int.reduceToNat, Int.reduceNeg, Nat.reduceBEq, TY, keepFr, rT, k0, k1, k2, k3, k4, k5, k6, k7, k8, k9, k10, k11, k12, k13, k14, k15, k16, k17, k18, k19, k20, k21, k22, k23, k24, k25, k26, k27, k28, k29, k30, k31, k32, k33, k34, k35, k36, k37, k38, k39, Nat.add_assoc, Nat.left_eq_add, Nat.add_eq_left, Nat.add_left_cancel_iff]; rfl, by first | trivial | omega, [(q, ⟨bys bs, 5, 1, ro, loose⟩)], leL_look (by unfold resH; simp only [RN, ↓reduceIte, ↓get8, reduceCtorEq, Nat.reduceLT, Nat.reduceEqDiff, Nat.reduceAdd, Nat.reduceMul, Nat.reduceLeDiff, Nat.reduceSub, Int.reduceToNat, Int.reduceNeg, Nat.reduceBEq, rT, k0, k1, k2, k3, k4, k5, k6, k7, k8, k9, k10, k11, k12, k13, k14, k15, k16, k17, k18, k19, k20, k21, k22, k23, k24, k25, k26, k27, k28, k29, k30, k31, k32, k33, k34, k35, k36, k37, k38, k39, Nat.add_assoc, Nat.left_eq_add, Nat.add_eq_left, Nat.add_left_cancel_iff]; first | done | trivial), dec_err d0 (by show nx ≤ _; omega)⟩
  · have h0 : (checkB KS WS).1 = 0 := by simpa using h
    have d0 : decB bs ln = (KS, WS, 0, 0) := by
      unfold decB
      rw [hm, hw, hal, if_neg (by omega), if_neg (by omega), if_neg (by omega), hf1]
      dsimp only
      rw [hf2]
      dsimp only
      rw [hKS, hWS, if_pos h0]
    refine JS_go (tbOk _) 99 fun x hx => ?_
    simp only [RN, ↓reduceIte, ↓get8, reduceCtorEq, Nat.reduceLT, Nat.reduceEqDiff, Nat.reduceAdd, Nat.reduceMul, Nat.reduceLeDiff, Nat.reduceSub, Int.reduceToNat, Int.reduceNeg, Nat.reduceBEq, TY, k0, k1, k2, k3, k4, k5, k6, k7, k8, k9, k10, k11, k12, k13, k14, k15, k16, k17, k18, k19, k20, k21, k22, k23, k24, k25, k26, k27, k28, k29, k30, k31, k32, k33, k34, k35, k36, k37, k38, k39, Nat.add_assoc, Nat.left_eq_add, Nat.add_eq_left, Nat.add_left_cancel_iff] at hx
    subst hx
    refine ⟨_, _, rfl, by first | trivial | omega | (simp only [and_true, true_and]; omega), ?_⟩
    refine at_ret ?_
    refine deferQ_of (f := 29) (L := resH nx B1 B2 KV WV (.int .i64 0) (.int .i64 0)) rfl (catch_nil nx B1 B2 n3 KV WV (.int .i64 0) (.int .i64 0) (by omega) (by omega) (by omega)) (by unfold resH; simp only [RN, ↓reduceIte, ↓get8, reduceCtorEq, Nat.reduceLT, Nat.reduceEqDiff, Nat.reduceAdd, Nat.reduceMul, Nat.reduceLeDiff, Nat.reduceSub, Int.reduceToNat, Int.reduceNeg, Nat.reduceBEq, k0, k1, k2, k3, k4, k5, k6, k7, k8, k9, k10, k11, k12, k13, k14, k15, k16, k17, k18, k19, k20, k21, k22, k23, k24, k25, k26, k27, k28, k29, k30, k31, k32, k33, k34, k35, k36, k37, k38, k39, Nat.add_assoc, Nat.left_eq_add, Nat.add_eq_left, Nat.add_left_cancel_iff]; first | done | trivial) ?_
    rintro L' n' ⟨rfl, rfl⟩
    refine ⟨_, _, by unfold resH; simp only [RN, ↓reduceIte, ↓get8, reduceCtorEq, Nat.reduceLT, Nat.reduceEqDiff, Nat.reduceAdd, Nat.reduceMul, Nat.reduceLeDiff, Nat.reduceSub, Int.reduceToNat, Int.reduceNeg, Nat.reduceBEq, TY, k0, k1, k2, k3, k4, k5, k6, k7, k8, k9, k10, k11, k12, k13, k14, k15, k16, k17, k18, k19, k20, k21, k22, k23, k24, k25, k26, k27, k28, k29, k30, k31, k32, k33, k34, k35, k36, k37, k38, k39, Nat.add_assoc, Nat.left_eq_add, Nat.add_eq_left, Nat.add_left_cancel_iff]; rfl, by first | trivial | omega, [(q, ⟨bys bs, 5, 1, ro, loose⟩)] ++ B0.H, ?_, ?_⟩
    · refine leT (X := [_]) (by unfold resH; simp only [RN, ↓reduceIte, ↓get8, reduceCtorEq, Nat.reduceLT, Nat.reduceEqDiff, Nat.reduceAdd, Nat.reduceMul, Nat.reduceLeDiff, Nat.reduceSub, Int.reduceToNat, Int.reduceNeg, Nat.reduceBEq, rT, k0, k1, k2, k3, k4, k5, k6, k7, k8, k9, k10, k11, k12, k13, k14, k15, k16, k17, k18, k19, k20, k21, k22, k23, k24, k25, k26, k27, k28, k29, k30, k31, k32, k33, k34, k35, k36, k37, k38, k39, Nat.add_assoc, Nat.left_eq_add, Nat.add_eq_left, Nat.add_left_cancel_iff]; first | done | trivial) ?_
      intro id c h
      have u0 := tbg id c h
      have u1 := tbl id c h
      have w0 : ¬ id = nx := by omega
      have w1 : ¬ id = B1 := by omega
      have w2 : ¬ id = B2 := by omega
      have w3 : ¬ id = r := by omega
      have w4 : ¬ id = q := by omega
      unfold resH
      simp only [RN, ↓reduceIte, ↓get8, reduceCtorEq, Nat.reduceLT, Nat.reduceEqDiff, Nat.reduceAdd, Nat.reduceMul, Nat.reduceLeDiff, Nat.reduceSub, Int.reduceToNat, Int.reduceNeg, Nat.reduceBEq, rT, w0, w1, w2, w3, w4, k0, k1, k2, k3, k4, k5, k6, k7, k8, k9, k10, k11, k12, k13, k14, k15, k16, k17, k18, k19, k20, k21, k22, k23, k24, k25, k26, k27, k28, k29, k30, k31, k32, k33, k34, k35, k36, k37, k38, k39, Nat.add_assoc, Nat.left_eq_add, Nat.add_eq_left, Nat.add_left_cancel_iff, u1]
    · unfold decK
      rw [d0]
      refine ⟨B0, hBk, hBw, g0.mono hn3, by rw [hB0]; exact ⟨rfl, rfl, rfl, rfl⟩, ?_, ?_, by show nx ≤ _; omega, by rw [hBv], rfl⟩
      · intro b hb; rw [hB0] at hb; have := (hso b hb).1; omega
      · intro b hb; rw [hB0] at hb; have := (hsw b hb).1; omega
end Go.Proofs.Ytoihmanhldcjhaa.Id
namespace Go.Proofs.Ytoihmanhldcjhaa.Rl
open Ieee
theorem toS_zero : toS 0 = 0 := by
  unfold toS
  rw [show decide ((0 : Int) < 0) = false from rfl, show (0 : Int).natAbs = 0 from rfl, by_one_zero]; rfl
end Go.Proofs.Ytoihmanhldcjhaa.Rl
namespace Go.Proofs.Ytoihmanhldcjhaa.Id
open Go
theorem look_mem2 {α : Type} {k : Nat} {v : α} : ∀ {l : List (Nat × α)}, look k l = some v → (k, v) ∈ l
  | [], h => by cases h
  | (j, u) :: l, h => by
    rw [look_cons] at h
    split at h
    · rename_i e; subst e; cases h; simp
    · exact List.mem_cons_of_mem _ (look_mem2 h)
theorem look_some_of {α : Type} {k : Nat} : ∀ {l : List (Nat × α)}, (∃ e ∈ l, e.1 = k) → ∃ v, look k l = some v
  | [], ⟨e, h, _⟩ => by cases h
  | (j, u) :: l, ⟨e, h, hk⟩ => by
    rw [look_cons]
    by_cases hj : k = j
    · exact ⟨u, by rw [if_pos hj]⟩
    · rw [if_neg hj]
      rcases List.mem_cons.1 h with rfl | h
      · exact absurd hk.symm hj
      · exact look_some_of ⟨e, h, hk⟩
theorem CallW.new {P : Program} {f : FuncId} {args : List Value} {L F : Hp} {nx : Nat} {K : Out → Hp → Nat → Prop} (h : CallW P f args L nx fun o F' n => ∃ X, K o X n ∧ F' = L ++ X ∧ ∀ e ∈ X, nx ≤ e.1) (hL : ∀ id b, look id L = some b → look id F = some b) :
    CallW P f args F nx fun o F' n => ∃ X, K o X n ∧ F' = F ++ X ∧ ∀ e ∈ X, nx ≤ e.1 := by
  refine ⟨fun m w args' hh hv => ((h.frame hL).run m w args' hh hv).mono ?_⟩
  rintro e w' ⟨o, F', nx', m', ⟨L', ⟨X, hk, rfl, hX⟩, rfl⟩, a, b, c⟩
  have hincl : ∀ id bk, look id (F ++ X) = some bk → look id ((L ++ X) ++ rem (L.map (·.1)) F) = some bk := by
    intro id bk hb
    rw [look_append] at hb
    rw [look_append, look_append]
    cases hF : look id F with
    | none =>
      rw [hF] at hb
      dsimp only at hb
      have hl : look id L = none := by
        cases hl : look id L with
        | none => rfl
        | some y => have := hL id y hl; rw [hF] at this; cases this
      rw [hl, hb]
    | some y =>
      rw [hF] at hb
      cases hb
      have hlt := hh.lt hF
      have hx : look id X = none := by
        cases hx : look id X with
        | none => rfl
        | some z => have := hX _ (look_mem2 hx); dsimp only at this; omega
      cases hl : look id L with
      | some z => have := hL id z hl; rw [hF] at this; cases this; rfl
      | none =>
        rw [hx]
        dsimp only
        rw [look_rem, if_neg, hF]
        intro hc
        rw [List.contains_iff_mem] at hc
        obtain ⟨e, he, hek⟩ := List.mem_map.1 hc
        obtain ⟨v, hv⟩ := look_some_of ⟨e, he, hek⟩
        rw [hl] at hv; cases hv
  exact ⟨o, F ++ X, nx', m', ⟨X, hk, rfl, hX⟩, a.drop hincl, b.drop hincl, c⟩
section
variable {P : Program} {Q : IExit → St → Prop} {st : St}
theorem at_new {f : FuncId} {args : List Value} {dst : Option Nat} {k : List Kt} {L : Hp} {K : Out → Hp → Nat → Prop} (h : CallW P f args L st.nx fun o F' n => ∃ X, K o X n ∧ F' = L ++ X ∧ ∀ e ∈ X, st.nx ≤ e.1) (hL : ∀ id b, look id L = some b → look id st.F = some b)
    (hj : ∀ o X n, K o X n → (∀ e ∈ X, st.nx ≤ e.1) → match o with
      | .ret v => ∃ st', St.put { st with F := st.F ++ X, nx := n } dst v = some st' ∧ JS P k Q st'
      | .pan v => Q (.pan v) { st with F := st.F ++ X, nx := n }) : CRJ P Q (.call f args dst k st) := by
  refine at_call (CallW.mono (h.new hL) ?_)
  rintro o F' nx' ⟨X, hk, rfl, hX⟩
  have := hj o X nx' hk hX
  cases o with
  | ret v => exact this
  | pan v => exact this
end
end Go.Proofs.Ytoihmanhldcjhaa.Id
namespace Go.Proofs.Ytoihmanhldcjhaa.Id
open Go Go.Proofs.Ytoihmanhldcjhaa.Rl
set_option linter.unusedSimpArgs false
set_option linter.unusedVariables false
def leastK : Kd := ⟨0, 1, 0, 0, 0, 0, 0, 0, 0, 0, 1, 0, 0, 0, 0, 0, 0, 0, 255, 0⟩
def leastBk (b : Nat) : Bk := ⟨[leastK], [], [], [], some b, 1, none, 0, false, false⟩
theorem leastBk_good {b nx : Nat} (h : b < nx) : (leastBk b).Good nx :=
  ⟨nofun, fun _ => rfl, by simp [leastBk], by simp [leastBk], fun c e => (by cases e; exact h), nofun, nofun⟩
set_option maxRecDepth 100000 in
theorem least_c (nx : Nat) : CallW Try.prog 18 [] [] nx fun o F' n => ∃ X, (o = .ret (leastBk (nx + 1)).val ∧ X = (leastBk (nx + 1)).H ∧ n = nx + 2) ∧ F' = [] ++ X ∧ ∀ e ∈ X, nx ≤ e.1 := by
  refine CallW_go (tbOk _) 4 [.cell 0 26] Try.func18 rfl (by decide) rfl rfl (by simp) fun hlt => ?_
  simp only [params, Nat.zero_add, Nat.reduceAdd]
  refine JS_go (tbOk _) 99 fun x hx => ?_
  simp only [RN, ↓reduceIte, ↓get8, reduceCtorEq, Nat.reduceLT, Nat.reduceEqDiff, Nat.reduceAdd, Nat.reduceMul, Nat.reduceLeDiff, Nat.reduceSub, Int.reduceToNat, Int.reduceNeg, Nat.reduceBEq, TY, Nat.add_assoc, Nat.left_eq_add, Nat.add_eq_left, Nat.add_left_cancel_iff] at hx
  subst hx
  refine ⟨_, _, rfl, by first | trivial | omega | (simp only [and_true, true_and]; omega), ?_⟩
  refine at_ret ?_
  refine ret_endK (by simp only [RN, ↓reduceIte, ↓get8, reduceCtorEq, Nat.reduceLT, Nat.reduceEqDiff, Nat.reduceAdd, Nat.reduceMul, Nat.reduceLeDiff, Nat.reduceSub, Int.reduceToNat, Int.reduceNeg, Nat.reduceBEq, TY, Nat.add_assoc, Nat.left_eq_add, Nat.add_eq_left, Nat.add_left_cancel_iff]; rfl) rfl (by first | trivial | omega) ⟨(leastBk (nx + 1)).H, ?_, (leastBk (nx + 1)).H, ⟨rfl, rfl, rfl⟩, rfl, ?_⟩
  · exact leL_look (by simp only [Bk.H, leastBk, kblk, wpblk, kcells, leastK, Kd.cells, List.flatMap_cons, List.flatMap_nil, RN, ↓reduceIte, ↓get8, reduceCtorEq, Nat.reduceLT, Nat.reduceEqDiff, Nat.reduceAdd, Nat.reduceMul, Nat.reduceLeDiff, Nat.reduceSub, Int.reduceToNat, Int.reduceNeg, Nat.reduceBEq, Nat.add_assoc, Nat.left_eq_add, Nat.add_eq_left, Nat.add_left_cancel_iff]; first | done | trivial)
  · intro e he
    simp [Bk.H, leastBk, kblk, wpblk] at he
    subst he
    show nx ≤ nx + 1
    omega
theorem decode_n (R : Rd) (nx : Nat) (g : R.Good nx) : CallW Try.prog 15 [R.val] R.H nx fun o F' nx' => ∃ X, (∃ B : Bk, B.ks = (decB R.bs R.ln).1 ∧ B.ws = (decB R.bs R.ln).2.1 ∧ B.Good nx' ∧ nx ≤ nx' ∧
    o = .ret (.tuple #[B.val, .int .i64 (decB R.bs R.ln).2.2.1, .int .i64 (decB R.bs R.ln).2.2.2]) ∧ X = B.H) ∧ F' = R.H ++ X ∧ ∀ e ∈ X, nx ≤ e.1 := by
  refine (decode_c R nx g).mono ?_
  rintro o F' n ⟨B, h1, h2, h3, h4, h5, h6, h7, rfl, rfl⟩
  refine ⟨B.H, ⟨B, h1, h2, h3, h7, rfl, rfl⟩, rfl, fun e he => ?_⟩
  rcases B with ⟨ks, kx, ws, wx, ok, kc, ow, wc, ro, loose⟩
  unfold Bk.H at he
  rcases List.mem_append.1 he with he | he
  · cases ok with
    | none => simp [kblk] at he
    | some b => simp [kblk] at he; subst he; exact h5 b rfl
  · cases ow with
    | none => simp [wpblk] at he
    | some b => simp [wpblk] at he; subst he; exact h6 b rfl
def leastB : List UInt8 := [1, 0, 0, 1, 0, 0, 0, 0, 0, 0, 0, 1, 0, 0, 0, 0, 0, 0, 0, 0, 0, 0, 0, 0, 0, 0, 0, 0, 255, 0, 0, 0, 0, 0, 0, 0, 0]
def leastN : List UInt8 := [1, 0, 0, 1, 0, 0, 0, 0, 0, 0, 0, 1, 0, 0, 0, 0, 0, 0, 0, 0, 0, 0, 0, 0, 0, 0, 0, 0, 255, 0, 0, 0, 0, 0, 0, 248, 127]
theorem least_enc : encB [leastK] [] = leastB := by
  have h0 : toS leastK.c2 = 0 := toS_zero
  unfold encB
  simp only [List.flatMap_cons, List.flatMap_nil, List.append_nil, kdBytes, h0]
  decide
theorem least_ok : checkB [leastK] [] = (0, 0) := by decide
theorem dec36 : decB leastB 36 = ([], [], 2, 36) := by
  unfold decB
  rw [if_neg (by decide), if_pos (by decide)]
  rfl
theorem dec37 : decB leastN 37 = ([], [], 14, 29) := by
  unfold decB
  have hm : le ((leastN.drop 0).take 1) = 1 := by decide
  have hw : le ((leastN.drop 1).take 1) = 0 := by decide
  rw [hm, hw, if_neg (by decide), if_neg (by decide), if_neg (by decide)]
  have hk : kE leastN 0 = (0, 14) := by
    unfold kE
    rw [show le ((leastN.drop (2 + 35 * 0 + 27)).take 8) = 0x7FF8000000000000 by decide]
    unfold ofS
    rw [show Ieee.double.read 0x7FF8000000000000 = .nan false 2251799813685248 by decide]
  have hf : (List.range 1).find? (fun i => decide ((kE leastN i).2 ≠ 0)) = some 0 := by
    rw [List.find?_range_eq_some]
    exact ⟨by rw [hk]; decide, by simp, fun j hj => absurd hj (Nat.not_lt_zero j)⟩
  rw [hf]
  dsimp only
  rw [hk]
  rfl
end Go.Proofs.Ytoihmanhldcjhaa.Id
namespace Go.Proofs.Ytoihmanhldcjhaa.Id
open Go Go.Proofs.Ytoihmanhldcjhaa.Rl
set_option linter.unusedSimpArgs false
set_option linter.unusedVariables false
theorem leastH (b : Nat) : (leastBk b).H = [(b, ⟨kcells [leastK], 46, 20, false, false⟩)] := rfl
set_option maxRecDepth 100000 in
set_option maxHeartbeats 4000000 in
theorem awake_c (nx : Nat) : CallW Try.prog 9 [] [] nx fun o F' n => (o = .ret (.bool true) ∧ nx ≤ n) ∧ F' = [] := by
  refine CallW_go (tbOk _) 62 [.tmp 0] Try.func9 rfl (by decide) rfl rfl (by simp) fun hlt => ?_
  simp only [params, Nat.zero_add, Nat.reduceAdd]
  refine JS_go (tbOk _) 99 fun x hx => ?_
  simp only [RN, ↓reduceIte, ↓get8, reduceCtorEq, Nat.reduceLT, Nat.reduceEqDiff, Nat.reduceAdd, Nat.reduceMul, Nat.reduceLeDiff, Nat.reduceSub, Int.reduceToNat, Int.reduceNeg, Nat.reduceBEq, TY] at hx
  subst hx
  refine ⟨_, _, rfl, by first | trivial | omega | (simp only [and_true, true_and]; omega), ?_⟩
  refine at_new (least_c nx) (fun _ _ h => by cases h) ?_
  rintro o X n ⟨rfl, rfl, rfl⟩ -
  refine ⟨_, by simp only [RN, ↓reduceIte, ↓get8, reduceCtorEq, Nat.reduceLT, Nat.reduceEqDiff, Nat.reduceAdd, Nat.reduceMul, Nat.reduceLeDiff, Nat.reduceSub, Int.reduceToNat, Int.reduceNeg, Nat.reduceBEq]; rfl, ?_⟩
  rw [leastH]
  refine JS_go (tbOk _) 99 fun x hx => ?_
  simp only [RN, ↓reduceIte, ↓get8, reduceCtorEq, Nat.reduceLT, Nat.reduceEqDiff, Nat.reduceAdd, Nat.reduceMul, Nat.reduceLeDiff, Nat.reduceSub, Int.reduceToNat, Int.reduceNeg, Nat.reduceBEq, TY] at hx
  subst hx
  refine ⟨_, _, rfl, by first | trivial | omega | (simp only [and_true, true_and]; omega), ?_⟩
  have hE := encode_c (leastBk (nx + 1)) (nx + 2) (leastBk_good (by omega))
  rw [leastH] at hE
  refine at_callG hE (by simp only [RN, ↓reduceIte, ↓get8, reduceCtorEq, Nat.reduceLT, Nat.reduceEqDiff, Nat.reduceAdd, Nat.reduceMul, Nat.reduceLeDiff, Nat.reduceSub, Int.reduceToNat, Int.reduceNeg, Nat.reduceBEq]; first | done | trivial) ?_
  rintro o L' n ⟨h1, h2⟩
  rw [if_pos (show (checkB (leastBk (nx + 1)).ks (leastBk (nx + 1)).ws).1 = 0 from congrArg Prod.fst least_ok), show encB (leastBk (nx + 1)).ks (leastBk (nx + 1)).ws = leastB from least_enc, show leastB.length = 37 from rfl] at h2
  obtain ⟨b, hb1, hb2, rfl, rfl⟩ := h2
  refine ⟨_, by simp only [RN, ↓reduceIte, ↓get8, reduceCtorEq, Nat.reduceLT, Nat.reduceEqDiff, Nat.reduceAdd, Nat.reduceMul, Nat.reduceLeDiff, Nat.reduceSub, Int.reduceToNat, Int.reduceNeg, Nat.reduceBEq]; rfl, ?_⟩
  have g0 : ¬ b = nx + 1 := by omega
  have g1 : ¬ nx + 1 = b := by omega
  refine JS_go (tbOk _) 99 fun x hx => ?_
  simp only [RN, ↓reduceIte, ↓get8, reduceCtorEq, Nat.reduceLT, Nat.reduceEqDiff, Nat.reduceAdd, Nat.reduceMul, Nat.reduceLeDiff, Nat.reduceSub, Int.reduceToNat, Int.reduceNeg, Nat.reduceBEq, TY, g0, g1, Nat.add_assoc, Nat.left_eq_add, Nat.add_eq_left, Nat.add_left_cancel_iff] at hx
  subst hx
  refine ⟨_, _, rfl, by first | trivial | omega | (simp only [and_true, true_and]; omega), ?_⟩
  refine at_cond (fun h => nomatch h) (fun _ => ?_)
  refine JS_go (tbOk _) 99 fun x hx => ?_
  simp only [RN, ↓reduceIte, ↓get8, reduceCtorEq, Nat.reduceLT, Nat.reduceEqDiff, Nat.reduceAdd, Nat.reduceMul, Nat.reduceLeDiff, Nat.reduceSub, Int.reduceToNat, Int.reduceNeg, Nat.reduceBEq, TY, g0, g1, Nat.add_assoc, Nat.left_eq_add, Nat.add_eq_left, Nat.add_left_cancel_iff] at hx
  subst hx
  refine ⟨_, _, rfl, by first | trivial | omega | (simp only [and_true, true_and]; omega), ?_⟩
  have hD := decode_n ⟨leastB, 36, some b, 37, false, true⟩ n ⟨(by decide : 36 ≤ leastB.length ∧ 36 ≤ 1000000), nofun, fun q e => (by cases e; exact hb2), (by decide : 36 ≤ 37)⟩
  rw [show decB leastB 36 = _ from dec36] at hD
  refine at_new hD (leL_look (by simp only [Rd.H, RN, ↓reduceIte, ↓get8, reduceCtorEq, Nat.reduceLT, Nat.reduceEqDiff, Nat.reduceAdd, Nat.reduceMul, Nat.reduceLeDiff, Nat.reduceSub, Int.reduceToNat, Int.reduceNeg, Nat.reduceBEq]; first | done | trivial)) ?_
  rintro o X n2 ⟨B, -, -, -, hn2, rfl, rfl⟩ hX
  refine ⟨_, by simp only [RN, ↓reduceIte, ↓get8, reduceCtorEq, Nat.reduceLT, Nat.reduceEqDiff, Nat.reduceAdd, Nat.reduceMul, Nat.reduceLeDiff, Nat.reduceSub, Int.reduceToNat, Int.reduceNeg, Nat.reduceBEq]; rfl, ?_⟩
  unfold Bk.val
  clear hX hD hE
  obtain ⟨X, hX⟩ : ∃ X, B.H = X := ⟨_, rfl⟩
  rw [hX]
  have f0 : ¬ b = n2 := by omega
  have f1 : ∀ i, ¬ b = n2 + i := by intro i; omega
  have f2 : ¬ n2 = b := by omega
  have f3 : ¬ n2 = nx + 1 := by omega
  have f4 : ¬ nx + 1 = n2 := by omega
  have s1 : (bys leastB).length = 37 := rfl
  have s2 : ((bys leastB).set 35 (.int .u8 248)).length = 37 := rfl
  have s3 : ((bys leastB).set 35 (.int .u8 248)).set 36 (.int .u8 127) = bys leastN := rfl
  have s4 : (bys leastN).length = 37 := rfl
  refine JS_go (tbOk _) 99 fun x hx => ?_
  simp only [RN, ↓reduceIte, ↓get8, reduceCtorEq, Nat.reduceLT, Nat.reduceEqDiff, Nat.reduceAdd, Nat.reduceMul, Nat.reduceLeDiff, Nat.reduceSub, Int.reduceToNat, Int.reduceNeg, Nat.reduceBEq, TY, g0, g1, f0, f1, f2, f3, f4, s1, s2, s3, s4, Nat.add_assoc, Nat.left_eq_add, Nat.add_eq_left, Nat.add_left_cancel_iff] at hx
  subst hx
  refine ⟨_, _, rfl, by first | trivial | omega | (simp only [and_true, true_and]; omega), ?_⟩
  have hD := decode_n ⟨leastN, 37, some b, 37, false, true⟩ (n2 + 1) ⟨(by decide : 37 ≤ leastN.length ∧ 37 ≤ 1000000), nofun, fun q e => (by cases e; exact Nat.lt_of_lt_of_le hb2 (Nat.le_succ_of_le hn2)), (by decide : 37 ≤ 37)⟩
  rw [show decB leastN 37 = _ from dec37] at hD
  refine at_new hD (leL_look (by simp only [Rd.H, RN, ↓reduceIte, ↓get8, reduceCtorEq, Nat.reduceLT, Nat.reduceEqDiff, Nat.reduceAdd, Nat.reduceMul, Nat.reduceLeDiff, Nat.reduceSub, Int.reduceToNat, Int.reduceNeg, Nat.reduceBEq]; first | done | trivial)) ?_
  rintro o Y n3 ⟨C, -, -, -, hn3, rfl, rfl⟩ hY
  refine ⟨_, by simp only [RN, ↓reduceIte, ↓get8, reduceCtorEq, Nat.reduceLT, Nat.reduceEqDiff, Nat.reduceAdd, Nat.reduceMul, Nat.reduceLeDiff, Nat.reduceSub, Int.reduceToNat, Int.reduceNeg, Nat.reduceBEq]; rfl, ?_⟩
  unfold Bk.val
  clear hY hD
  obtain ⟨Y, hY⟩ : ∃ Y, C.H = Y := ⟨_, rfl⟩
  rw [hY]
  have e0 : ¬ b = n3 := by omega
  have e1 : ¬ n3 = b := by omega
  have e2 : ∀ i, ¬ b = n3 + i := by intro i; omega
  have s5 : (bys leastN)[0]? = some (.int .u8 1) := rfl
  have s6 : (bys leastN)[1]? = some (.int .u8 0) := rfl
  have s7 : (bys leastN)[3]? = some (.int .u8 1) := rfl
  refine JS_go (tbOk _) 99 fun x hx => ?_
  simp only [RN, ↓reduceIte, ↓get8, reduceCtorEq, Nat.reduceLT, Nat.reduceEqDiff, Nat.reduceAdd, Nat.reduceMul, Nat.reduceLeDiff, Nat.reduceSub, Int.reduceToNat, Int.reduceNeg, Nat.reduceBEq, TY, g0, g1, f0, f1, f2, f3, f4, e0, e1, e2, s4, s5, s6, s7, Nat.add_assoc, Nat.left_eq_add, Nat.add_eq_left, Nat.add_left_cancel_iff] at hx
  subst hx
  refine ⟨_, _, rfl, by first | trivial | omega | (simp only [and_true, true_and]; omega), ?_⟩
  refine at_ret (ret_endK (by simp only [RN, ↓reduceIte, ↓get8, reduceCtorEq, Nat.reduceLT, Nat.reduceEqDiff, Nat.reduceAdd, Nat.reduceMul, Nat.reduceLeDiff, Nat.reduceSub, Int.reduceToNat, Int.reduceNeg, Nat.reduceBEq]; first | done | rfl) rfl trivial ⟨[], fun _ _ h => (by cases h), ⟨rfl, by show nx ≤ n3 + 1; omega⟩, rfl⟩)
end Go.Proofs.Ytoihmanhldcjhaa.Id
