/- What the claim's proof leans on: texts of this claim, laid together. -/
import Derived.Test.YtbcddiaplpbhjaaDoorB6
import Derived.Test.YtbcddiaplpbhjaaDoorProg
import Derived.Below
import Derived.Deep.Draws
import Derived.Deep.AppendLies
import Derived.Maps.AppendAt
import Derived.OwnWalk
import Derived.Laws.BytesArg
import Derived.Laws.MakeOwn
import Derived.Laws.OwnMore
import Derived.Deep.OwnRows
import Derived.Tactics
import Derived.Lib.ConvBytes
import Derived.Laws.Slices
import Derived.WalkKit
import Derived.KernelRfl
import Derived.RowKit3
import Derived.Deep.LoopGhost
import Derived.Deep.QuietTactic
import Derived.BigQuiet
import Derived.WideLaws
import Derived.Deep.DeepCutAuto
import Derived.Deep.CutBlock
import Derived.Deep.RegionHeld3
import Derived.Laws.Rows
import Derived.Lib.AppendStr
import Derived.ArgAppend
import Derived.Laws.IdiomCopy
import Derived.OrdersHeld
import Derived.Laws.BitsLemmas
import Derived.RowKit
namespace Go.Proofs.YtbcddiaplpbhjaaDoor.Ap
open Go Go.RowKit Go.Proofs.YtbcddiaplpbhjaaDoorW.PrintMore Go.Proofs.YtbcddiaplpbhjaaDoorW.PrintWords Go.Proofs.YtbcddiaplpbhjaaDoor.MAi
set_option linter.unusedVariables false
set_option linter.unusedSimpArgs false
theorem vel (a c : Int) (ha : -262144 ≤ a ∧ a ≤ 262144) (hc : -65536 ≤ c ∧ c ≤ 65536) : (-262144 ≤ a * c / 65536 ∧ a * c / 65536 ≤ 262144) ∧ fix_Mul.f a c = some (a * c / 65536, 0) ∧ bivouacref17_times.f a c = some (a * c / 65536) := by
  have hm := mul_in (a := a) (b := c) (A := 262144) (B := 65536) (by omega) (by omega)
  have e1 : mulDiv a c 65536 = (a * c / 65536, 0) := by
    unfold mulDiv
    rw [if_neg (by decide)]
    unfold flr
    rw [if_pos (by decide)]
    exact fitted_in (by unfold fits; omega)
  have e2 : timesS a c = a * c / 65536 := by
    unfold timesS Bg.floorS
    rw [if_pos (by unfold Bg.I64; omega)]
  refine ⟨by omega, ?_, ?_⟩
  · unfold fix_Mul.f num_MulDiv.f
    rw [if_pos (by unfold fits; omega), if_pos (by unfold fits; omega), if_pos (by unfold fits; omega), e1]
    rfl
  · unfold bivouacref17_times.f
    rw [if_pos (by unfold fits; omega), if_pos (by unfold fits; omega), e2]
theorem far_no {v : Int} (h0 : -1073741824 ≤ v) (h1 : v ≤ 1073741824) : Tg.farB v = false := by
  unfold Tg.farB; simp; omega
theorem tfar_no {v : Int} (h0 : -1073741824 ≤ v) (h1 : v ≤ 1073741824) : trig_far.f v = some false := by
  unfold trig_far.f; rw [if_neg (by omega), decide_eq_false (by omega)]
theorem headR_range (x y : Int) : 0 ≤ Tr.headR x y ∧ Tr.headR x y < 256 := (Tr.headR_best x y).1
theorem vec_f (d a : Int) (ha : -262144 ≤ a ∧ a ≤ 262144) : trig_Vec.f d a = some (a * Tr.cosA d / 65536, a * Tr.sinA d / 65536, 0) := by
  unfold trig_Vec.f trig_Cos.f trig_Sin.f
  rw [tfar_no (by omega) (by omega), Option.bind_some, if_neg (by decide), Option.bind_some, (vel a _ ha (Tr.cosA_bound d)).2.1, Option.bind_some, Option.bind_some, (vel a _ ha (Tr.sinA_bound d)).2.1, Option.bind_some]
def May (X Y x y sp k : Int) : Prop := 0 ≤ k ∧ k ≤ 64 ∧ 1 ≤ sp ∧ sp ≤ 262144 ∧ 0 ≤ X ∧ X ≤ 4194304 ∧ 0 ≤ Y ∧ Y ≤ 4194304 ∧ 0 ≤ x ∧ x ≤ 4194304 ∧ 0 ≤ y ∧ y ≤ 4194304
instance (X Y x y sp k : Int) : Decidable (May X Y x y sp k) := by unfold May; infer_instance
def flatV (sp k : Int) : Int := sp * Tr.cosA (256 * k) / 65536
def shotS (X Y Z x y sp k : Int) : Sh := ⟨X, Y, Z, flatV sp k * Tr.cosA (256 * Tr.headR (x - X) (y - Y)) / 65536, flatV sp k * Tr.sinA (256 * Tr.headR (x - X) (y - Y)) / 65536, sp * Tr.sinA (256 * k) / 65536⟩
theorem flatV_in {sp : Int} (h : 1 ≤ sp ∧ sp ≤ 262144) (k : Int) : -262144 ≤ flatV sp k ∧ flatV sp k ≤ 262144 := (vel sp _ (by omega) (Tr.cosA_bound (256 * k))).1
theorem shotS_small {X Y Z x y sp k : Int} (h : May X Y x y sp k) (hz : 0 ≤ Z ∧ Z ≤ 1073741824) : Small (shotS X Y Z x y sp k) := by
  unfold May at h
  have f := flatV_in (sp := sp) (by omega) k
  have a := (vel _ _ f (Tr.cosA_bound (256 * Tr.headR (x - X) (y - Y)))).1
  have b := (vel _ _ f (Tr.sinA_bound (256 * Tr.headR (x - X) (y - Y)))).1
  have c := (vel sp _ (by omega) (Tr.sinA_bound (256 * k))).1
  unfold Small shotS
  dsimp only
  omega
theorem rmay_f (X Y Z a b c x y sp k : Int) : bivouacref17_May.f X Y Z a b c x y sp k = some (decide (May X Y x y sp k)) := by
  unfold bivouacref17_May.f bivouacref17_place.f
  by_cases h : May X Y x y sp k
  · rw [decide_eq_true h]
    unfold May at h
    rw [if_pos (by omega), if_pos (by omega), if_pos (by omega), if_pos (by omega), if_pos (by omega), Option.bind_some, if_pos (decide_eq_true (by omega)), if_pos (by omega), Option.bind_some, if_pos (decide_eq_true (by omega)), if_pos (by omega), Option.bind_some, if_pos (decide_eq_true (by omega)), if_pos (by omega), Option.bind_some, decide_eq_true (by omega)]
  · rw [decide_eq_false h]
    unfold May at h
    have pl : ∀ v : Int, (if 0 ≤ v then some (decide (v ≤ 4194304)) else some false) = some (decide (0 ≤ v ∧ v ≤ 4194304)) := by
      intro v
      split
      · congr 1; exact decide_eq_decide.2 ⟨fun q => ⟨by assumption, q⟩, fun q => q.2⟩
      · rw [decide_eq_false (by omega)]
    simp only [pl, Option.bind_some, decide_eq_true_eq]
    repeat' split
    all_goals first
      | rfl
      | (congr 1; exact decide_eq_false (by omega))
theorem shot_not {X Y x y sp k : Int} (h : ¬ May X Y x y sp k) (Z a b c : Int) (K : Nat) : aim_Shot.f (K + 6) X Y Z a b c x y sp k = some (0, 0, 0, 0, 0, 0, 1) := by
  have hj : aim_Shot.j0 (K + 6) x y sp k true X Y Z a b c = some (0, 0, 0, 0, 0, 0, 1) := by rw [show K + 6 = (K + 5) + 1 from rfl, aim_Shot.j0, if_pos rfl]
  unfold aim_Shot.f aim_fast.f
  by_cases h1 : k < 0
  · rw [if_pos h1, hj]
  · rw [if_neg h1]
    by_cases h2 : k ≥ 65
    · rw [if_pos h2, hj]
    · rw [if_neg h2]
      by_cases h3 : sp ≥ 1
      · rw [if_pos h3, Option.bind_some]
        by_cases h4 : sp ≤ 262144
        · rw [if_pos (decide_eq_true h4), show K + 6 = (K + 1) + 5 from rfl, inside4, Option.bind_some, decide_eq_false (by unfold May at h; omega)]
          exact hj
        · rw [if_neg (by simpa using h4), hj]
      · rw [if_neg h3, Option.bind_some, if_neg (by decide), hj]
theorem shot_f {X Y x y sp k : Int} (h : May X Y x y sp k) (Z a b c : Int) (K : Nat) :
    aim_Shot.f (K + 6) X Y Z a b c x y sp k = some ((shotS X Y Z x y sp k).x, (shotS X Y Z x y sp k).y, (shotS X Y Z x y sp k).z, (shotS X Y Z x y sp k).u, (shotS X Y Z x y sp k).v, (shotS X Y Z x y sp k).t, 0) := by
  unfold May at h
  have hr := headR_range (x - X) (y - Y)
  have hhead : trig_Heading.f (x - X) (y - Y) = some (Tr.headR (x - X) (y - Y), 0) := by
    unfold trig_Heading.f
    rw [if_neg (by rw [far_no (by omega) (by omega)]; decide), if_neg (by rw [far_no (by omega) (by omega)]; decide), Tr.head_eq _ _ (by omega) (by omega)]
  unfold aim_Shot.f aim_fast.f
  rw [if_neg (by omega), if_neg (by omega), if_pos (by omega), Option.bind_some, if_pos (decide_eq_true (by omega)), show K + 6 = (K + 1) + 5 from rfl, inside4, Option.bind_some, decide_eq_true (by omega), show K + 1 + 5 = (K + 5) + 1 from rfl, aim_Shot.j0, if_neg (by decide),
    w_in (x := x - X) (by omega) (by omega), w_in (x := y - Y) (by omega) (by omega), hhead, Option.bind_some, w_in (x := k * 256) (by omega) (by omega), vec_f _ _ (by omega), Option.bind_some]
  dsimp only
  rw [Int.mul_comm k 256, w_in (x := Tr.headR (x - X) (y - Y) * 256) (by omega) (by omega), Int.mul_comm (Tr.headR (x - X) (y - Y)) 256, show sp * Tr.cosA (256 * k) / 65536 = flatV sp k from rfl, vec_f _ _ (flatV_in (sp := sp) (by omega) k), Option.bind_some]
  rfl
theorem rshot_f {X Y x y sp k : Int} (h : May X Y x y sp k) (Z a b c : Int) :
    bivouacref17_Shot.f X Y Z a b c x y sp k = some ((shotS X Y Z x y sp k).x, (shotS X Y Z x y sp k).y, (shotS X Y Z x y sp k).z, (shotS X Y Z x y sp k).u, (shotS X Y Z x y sp k).v, (shotS X Y Z x y sp k).t) := by
  unfold May at h
  have hr := headR_range (x - X) (y - Y)
  have f := flatV_in (sp := sp) (by omega) k
  have hhead : bivouacref03_Heading.f (x - X) (y - Y) = some (Tr.headR (x - X) (y - Y)) := by
    unfold bivouacref03_Heading.f
    rw [if_neg (by rw [far_no (by omega) (by omega)]; decide), if_neg (by rw [far_no (by omega) (by omega)]; decide)]
  unfold bivouacref17_Shot.f bivouacref03_Cos.f bivouacref03_Sin.f
  rw [w_in (x := x - X) (by omega) (by omega), w_in (x := y - Y) (by omega) (by omega), hhead, Option.bind_some, w_in (x := 256 * k) (by omega) (by omega), Option.bind_some, (vel sp _ (by omega) (Tr.cosA_bound (256 * k))).2.2, Option.bind_some, w_in (x := 256 * Tr.headR (x - X) (y - Y)) (by omega) (by omega), Option.bind_some]
  rw [show sp * Tr.cosA (256 * k) / 65536 = flatV sp k from rfl, (vel _ _ f (Tr.cosA_bound _)).2.2, Option.bind_some, Option.bind_some, (vel _ _ f (Tr.sinA_bound _)).2.2, Option.bind_some, Option.bind_some, (vel sp _ (by omega) (Tr.sinA_bound (256 * k))).2.2, Option.bind_some]
  rfl
def hit (W H Wa : Int) (l : List Int) (s : Sh) (x y : Int) : Bool :=
  (decide ((fly W H Wa l s 1024 1).2.1 = 1) || decide ((fly W H Wa l s 1024 1).2.1 = 2)) && (decide ((fly W H Wa l s 1024 1).2.2.x / 65536 = x / 65536) && decide ((fly W H Wa l s 1024 1).2.2.y / 65536 = y / 65536))
variable {W H Wa : Int} {l : List Int}
def Asked (W H Wa : Int) (l : List Int) (X Y Z x y sp : Int) : Prop := chk W H Wa l = 0 ∧ On W H X Y ∧ On W H x y ∧ 0 ≤ Z ∧ Z ≤ 1073741824 ∧ 1 ≤ sp ∧ sp ≤ 262144
instance (W H Wa : Int) (l : List Int) (X Y Z x y sp : Int) : Decidable (Asked W H Wa l X Y Z x y sp) := by unfold Asked; infer_instance
theorem asked_may {X Y Z x y sp : Int} (h : Asked W H Wa l X Y Z x y sp) {k : Int} (h0 : 0 ≤ k) (h1 : k ≤ 64) : May X Y x y sp k := by
  obtain ⟨hc, ho, ho', _, _, s0, s1⟩ := h
  have a := on_small hc ho
  have b := on_small hc ho'
  unfold May
  omega
theorem rasked_f (X Y Z a b c x y sp : Int) (K : Nat) : bivouacref17_Asked.f (K + 1) W H Wa l X Y Z a b c x y sp = some (decide (Asked W H Wa l X Y Z x y sp)) := by
  unfold bivouacref17_Asked.f
  rw [rchk_f, Option.bind_some]
  by_cases hc : chk W H Wa l = 0
  · rw [if_pos hc, ron_f l (chk_zero hc).1, Option.bind_some]
    by_cases h1 : On W H X Y
    · rw [if_pos (decide_eq_true h1), ron_f l (chk_zero hc).1, Option.bind_some]
      by_cases h2 : On W H x y
      · rw [if_pos (decide_eq_true h2)]
        repeat' split
        · congr 1
          exact decide_eq_decide.2 ⟨fun q => ⟨hc, h1, h2, by assumption, by assumption, by assumption, q⟩, fun q => q.2.2.2.2.2.2⟩
        all_goals rw [decide_eq_false (by unfold Asked; intro q; omega)]
      · rw [if_neg (by simpa using h2), decide_eq_false (fun q => h2 q.2.2.1)]
    · rw [if_neg (by simpa using h1), decide_eq_false (fun q => h1 q.2.1)]
  · rw [if_neg hc, decide_eq_false (fun q => hc q.1)]
section
variable {X Y Z x y sp : Int}
theorem try_f (hA : Asked W H Wa l X Y Z x y sp) (hl : Bytes l) (a b c : Int) {k : Int} (h0 : 0 ≤ k) (h1 : k ≤ 64) (K : Nat) : aim_try (K + 1030) W H Wa l X Y Z a b c x y sp k = some (hit W H Wa l (shotS X Y Z x y sp k) x y) := by
  have hm := asked_may hA h0 h1
  have hs := shotS_small hm (Z := Z) ⟨hA.2.2.2.1, hA.2.2.2.2.1⟩
  unfold aim_try
  rw [show K + 1030 = (K + 1024) + 6 from rfl, shot_f hm, Option.bind_some, show K + 1024 + 6 = K + 1030 from rfl]
  dsimp only
  rw [fly_f hA.1 hl hs hA.2.1, Option.bind_some]
  rfl
theorem rhits_f (hA : Asked W H Wa l X Y Z x y sp) (hl : Bytes l) {k : Int} (h0 : 0 ≤ k) (h1 : k ≤ 64) (K : Nat) :
    bivouacref17_Hits.f (K + 1030) W H Wa l (shotS X Y Z x y sp k).x (shotS X Y Z x y sp k).y (shotS X Y Z x y sp k).z (shotS X Y Z x y sp k).u (shotS X Y Z x y sp k).v (shotS X Y Z x y sp k).t x y = some (hit W H Wa l (shotS X Y Z x y sp k) x y) := by
  have hm := asked_may hA h0 h1
  have hs := shotS_small hm (Z := Z) ⟨hA.2.2.2.1, hA.2.2.2.2.1⟩
  have hxy := on_small hA.1 hA.2.2.1
  unfold bivouacref17_Hits.f
  rw [rfly_f hA.1 hl hs, Option.bind_some]
  unfold flat hit
  dsimp only
  have tx : wrap64 (Int.tdiv x 65536) = x / 65536 := by rw [Int.tdiv_eq_ediv_of_nonneg (by omega), w_in (by omega) (by omega)]
  have ty : wrap64 (Int.tdiv y 65536) = y / 65536 := by rw [Int.tdiv_eq_ediv_of_nonneg (by omega), w_in (by omega) (by omega)]
  have tow : (fly W H Wa l (shotS X Y Z x y sp k) 1024 1).2.1 = 1 ∨ (fly W H Wa l (shotS X Y Z x y sp k) 1024 1).2.1 = 2 →
      wrap64 (Int.tdiv (fly W H Wa l (shotS X Y Z x y sp k) 1024 1).2.2.x 65536) = (fly W H Wa l (shotS X Y Z x y sp k) 1024 1).2.2.x / 65536 ∧ wrap64 (Int.tdiv (fly W H Wa l (shotS X Y Z x y sp k) 1024 1).2.2.y 65536) = (fly W H Wa l (shotS X Y Z x y sp k) 1024 1).2.2.y / 65536 := by
    intro h
    have ho := on_small hA.1 (fly_on 1024 1 h)
    rw [Int.tdiv_eq_ediv_of_nonneg (by omega), Int.tdiv_eq_ediv_of_nonneg (by omega), w_in (by omega) (by omega), w_in (by omega) (by omega)]
    exact ⟨rfl, rfl⟩
  generalize (fly W H Wa l (shotS X Y Z x y sp k) 1024 1) = e at tow ⊢
  have fin : e.2.1 = 1 ∨ e.2.1 = 2 → (if wrap64 (Int.tdiv e.2.2.x 65536) = wrap64 (Int.tdiv x 65536) then some (wrap64 (Int.tdiv e.2.2.y 65536) == wrap64 (Int.tdiv y 65536)) else some false) = some (decide (e.2.2.x / 65536 = x / 65536) && decide (e.2.2.y / 65536 = y / 65536)) := by
    intro h
    rw [(tow h).1, (tow h).2, tx, ty]
    by_cases q : e.2.2.x / 65536 = x / 65536
    · rw [if_pos q, decide_eq_true q, Bool.true_and]
      congr 1
    · rw [if_neg q, decide_eq_false q, Bool.false_and]
  by_cases g1 : e.2.1 = 1
  · rw [if_pos g1, fin (.inl g1), decide_eq_true g1]; rfl
  · rw [if_neg g1, decide_eq_false g1]
    by_cases g2 : e.2.1 = 2
    · rw [if_pos g2, fin (.inr g2), decide_eq_true g2]; rfl
    · rw [if_neg g2, decide_eq_false g2]; rfl
end
def search (W H Wa : Int) (l : List Int) (X Y Z x y sp : Int) : Nat → Int → Option Int
  | 0, _ => none
  | f + 1, n => if hit W H Wa l (shotS X Y Z x y sp n) x y = true then some n else search W H Wa l X Y Z x y sp f (n + 1)
theorem search_in {X Y Z x y sp : Int} : ∀ (f : Nat) (n j : Int), search W H Wa l X Y Z x y sp f n = some j → n ≤ j ∧ j < n + f ∧ hit W H Wa l (shotS X Y Z x y sp j) x y = true ∧ ∀ i, n ≤ i → i < j → hit W H Wa l (shotS X Y Z x y sp i) x y = false
  | 0, n, j, h => by cases h
  | f + 1, n, j, h => by
    rw [search] at h
    by_cases q : hit W H Wa l (shotS X Y Z x y sp n) x y = true
    · rw [if_pos q] at h
      obtain rfl := Option.some.inj h
      exact ⟨Int.le_refl _, by omega, q, fun i h0 h1 => by omega⟩
    · rw [if_neg q] at h
      obtain ⟨a, b, c, d⟩ := search_in f (n + 1) j h
      refine ⟨by omega, by omega, c, fun i h0 h1 => ?_⟩
      by_cases e : i = n
      · subst e; simpa using q
      · exact d i (by omega) h1
def solveS (W H Wa : Int) (l : List Int) (X Y Z x y sp : Int) : Sh × Int × Int :=
  if Asked W H Wa l X Y Z x y sp then (match search W H Wa l X Y Z x y sp 65 0 with | some j => (shotS X Y Z x y sp j, j, 0) | none => (⟨0, 0, 0, 0, 0, 0⟩, 0, 6)) else (⟨0, 0, 0, 0, 0, 0⟩, 0, 1)
theorem first_f {X Y Z x y sp : Int} (hA : Asked W H Wa l X Y Z x y sp) (hl : Bytes l) (a b c : Int) (K' : Nat) (f : Nat) : ∀ (n : Int) (K : Nat), 0 ≤ n → n + f = 65 → f < K →
    firstO (aim_try (K' + 1030) W H Wa l X Y Z a b c x y sp) 65 K n = some (match search W H Wa l X Y Z x y sp f n with | some j => (j, true) | none => (0, false)) := by
  induction f with
  | zero =>
    intro n K h0 h hK
    obtain ⟨K, rfl⟩ : ∃ m, K = m + 1 := ⟨K - 1, by omega⟩
    rw [firstO, if_neg (by omega), search]
  | succ f ih =>
    intro n K h0 h hK
    obtain ⟨K, rfl⟩ : ∃ m, K = m + 1 := ⟨K - 1, by omega⟩
    rw [firstO, if_pos (by omega), try_f hA hl a b c h0 (by omega), Option.bind_some, search]
    by_cases q : hit W H Wa l (shotS X Y Z x y sp n) x y = true
    · rw [if_pos q, if_pos q]
    · rw [if_neg q, if_neg q, ih (n + 1) K (by omega) (by omega) (by omega)]
theorem solve_f (hl : Bytes l) (X Y Z a b c x y sp : Int) (K : Nat) :
    aim_Solve.f (K + 1030) W H Wa l X Y Z a b c x y sp = some ((solveS W H Wa l X Y Z x y sp).1.x, (solveS W H Wa l X Y Z x y sp).1.y, (solveS W H Wa l X Y Z x y sp).1.z, (solveS W H Wa l X Y Z x y sp).1.u, (solveS W H Wa l X Y Z x y sp).1.v, (solveS W H Wa l X Y Z x y sp).1.t, (solveS W H Wa l X Y Z x y sp).2.1, (solveS W H Wa l X Y Z x y sp).2.2) := by
  have hno : ¬ Asked W H Wa l X Y Z x y sp → solveS W H Wa l X Y Z x y sp = (⟨0, 0, 0, 0, 0, 0⟩, 0, 1) := fun h => by unfold solveS; rw [if_neg h]
  unfold aim_Solve.f
  rw [show K + 1030 = (K + 1029) + 1 from rfl, on_f, Option.bind_some]
  by_cases h1 : chk W H Wa l = 0 ∧ On W H X Y
  · rw [if_pos (decide_eq_true h1), on_f, Option.bind_some]
    by_cases h2 : chk W H Wa l = 0 ∧ On W H x y
    · rw [if_pos (decide_eq_true h2)]
      by_cases h3 : Z < 0
      · rw [if_pos h3, hno (fun q => by have := q.2.2.2.1; omega)]
      · rw [if_neg h3]
        by_cases h4 : Z > 1073741824
        · rw [if_pos h4, hno (fun q => by have := q.2.2.2.2.1; omega)]
        · rw [if_neg h4]
          unfold aim_fast.f
          by_cases h5 : sp ≥ 1
          · rw [if_pos h5, Option.bind_some]
            by_cases h6 : sp ≤ 262144
            · have hA : Asked W H Wa l X Y Z x y sp := ⟨h1.1, h1.2, h2.2, by omega, by omega, h5, h6⟩
              rw [if_pos (decide_eq_true h6), show K + 1029 + 1 = K + 1030 from rfl, first_f hA hl a b c K 65 0 (K + 1030) (by omega) (by omega) (by omega), Option.bind_some]
              unfold solveS
              rw [if_pos hA]
              cases hs : search W H Wa l X Y Z x y sp 65 0 with
              | none => rfl
              | some j =>
                obtain ⟨j0, j1, _⟩ := search_in 65 0 j hs
                dsimp only
                rw [if_pos rfl, show K + 1030 = (K + 1024) + 6 from rfl, shot_f (asked_may hA j0 (by omega)), Option.bind_some]
            · rw [if_neg (by simpa using h6), hno (fun q => h6 q.2.2.2.2.2.2)]
          · rw [if_neg h5, Option.bind_some, if_neg (by decide), hno (fun q => h5 q.2.2.2.2.2.1)]
    · rw [if_neg (by simpa using h2), hno (fun q => h2 ⟨q.1, q.2.2.1⟩)]
  · rw [if_neg (by simpa using h1), hno (fun q => h1 ⟨q.1, q.2.1⟩)]
noncomputable def reachS (X Y x y r : Int) : Bool := decide (0 ≤ r ∧ r ≤ 32 ∧ 0 ≤ X ∧ X ≤ 4194304 ∧ 0 ≤ Y ∧ Y ≤ 4194304 ∧ 0 ≤ x ∧ x ≤ 4194304 ∧ 0 ≤ y ∧ y ≤ 4194304 ∧ Rt.rt ((x - X) * (x - X) + (y - Y) * (y - Y)) ≤ r * 65536)
theorem rt_bound {n m : Int} (h0 : 0 ≤ n) (hm : 0 ≤ m) (h : n < m * m) : 0 ≤ Rt.rt n ∧ Rt.rt n < m := ⟨(Rt.rt_is h0).1, Rt.rt_lt h0 hm h⟩
theorem reach_in {X Y x y : Int} (h : 0 ≤ X ∧ X ≤ 4194304 ∧ 0 ≤ Y ∧ Y ≤ 4194304 ∧ 0 ≤ x ∧ x ≤ 4194304 ∧ 0 ≤ y ∧ y ≤ 4194304) :
    0 ≤ (x - X) * (x - X) ∧ (x - X) * (x - X) ≤ 17592186044416 ∧ 0 ≤ (y - Y) * (y - Y) ∧ (y - Y) * (y - Y) ≤ 17592186044416 := by
  have h1 := mul_in (a := x - X) (b := x - X) (A := 4194304) (B := 4194304) (by omega) (by omega)
  have h2 := mul_in (a := y - Y) (b := y - Y) (A := 4194304) (B := 4194304) (by omega) (by omega)
  have h3 := sq_nonneg' (x - X)
  have h4 := sq_nonneg' (y - Y)
  omega
theorem reach_f (X Y x y r : Int) (K : Nat) : aim_InReach.f (K + 5) X Y x y r = some (reachS X Y x y r) := by
  unfold aim_InReach.f reachS
  by_cases h1 : r < 0
  · rw [if_pos h1, decide_eq_false (by omega)]
  · rw [if_neg h1]
    by_cases h2 : r > 32
    · rw [if_pos h2, decide_eq_false (by omega)]
    · rw [if_neg h2, inside4, Option.bind_some]
      by_cases h3 : 0 ≤ X ∧ X ≤ 4194304 ∧ 0 ≤ Y ∧ Y ≤ 4194304 ∧ 0 ≤ x ∧ x ≤ 4194304 ∧ 0 ≤ y ∧ y ≤ 4194304
      · have hq := reach_in h3
        have hb := rt_bound (n := (x - X) * (x - X) + (y - Y) * (y - Y)) (m := 8388608) (by omega) (by decide) (by omega)
        rw [if_pos (decide_eq_true h3)]
        unfold fix_Length.f fix_Root.f
        rw [w_in (x := x - X) (by omega) (by omega), w_in (x := y - Y) (by omega) (by omega), if_neg (by omega), if_neg (by omega), if_neg (by omega), if_neg (by omega), w_in (x := (x - X) * (x - X)) (by omega) (by omega), w_in (x := (y - Y) * (y - Y)) (by omega) (by omega), w_in (x := _ + _) (by omega) (by omega), u_in (by omega) (by omega),
          if_pos (by omega), if_pos (by omega), Option.bind_some, w_in (x := Rt.rt _) (by omega) (by omega), Option.bind_some, w_in (x := r * 65536) (by omega) (by omega)]
        congr 1
        exact decide_eq_decide.2 ⟨fun q => ⟨by omega, by omega, h3.1, h3.2.1, h3.2.2.1, h3.2.2.2.1, h3.2.2.2.2.1, h3.2.2.2.2.2.1, h3.2.2.2.2.2.2.1, h3.2.2.2.2.2.2.2, q⟩, fun q => q.2.2.2.2.2.2.2.2.2.2⟩
      · rw [if_neg (by simpa using h3), decide_eq_false (by omega)]
theorem rreach_f (X Y x y r : Int) : bivouacref17_InReach.f X Y x y r = some (reachS X Y x y r) := by
  have pl : ∀ v : Int, bivouacref17_place.f v = some (decide (0 ≤ v ∧ v ≤ 4194304)) := by
    intro v
    unfold bivouacref17_place.f
    split
    · congr 1; exact decide_eq_decide.2 ⟨fun q => ⟨by assumption, q⟩, fun q => q.2⟩
    · rw [decide_eq_false (by omega)]
  unfold bivouacref17_InReach.f reachS
  simp only [pl, Option.bind_some, decide_eq_true_eq]
  by_cases h1 : r < 0
  · rw [if_pos h1, decide_eq_false (by omega)]
  · rw [if_neg h1]
    by_cases h2 : r > 32
    · rw [if_pos h2, decide_eq_false (by omega)]
    · rw [if_neg h2]
      by_cases h3 : 0 ≤ X ∧ X ≤ 4194304 ∧ 0 ≤ Y ∧ Y ≤ 4194304 ∧ 0 ≤ x ∧ x ≤ 4194304 ∧ 0 ≤ y ∧ y ≤ 4194304
      · have hq := reach_in h3
        have hb := rt_bound (n := (x - X) * (x - X) + (y - Y) * (y - Y)) (m := 8388608) (by omega) (by decide) (by omega)
        unfold bivouacref02_Root.f
        rw [if_pos (by omega), if_pos (by omega), if_pos (by omega), if_pos (by omega), w_in (x := x - X) (by omega) (by omega), w_in (x := y - Y) (by omega) (by omega), w_in (x := (x - X) * (x - X)) (by omega) (by omega), w_in (x := (y - Y) * (y - Y)) (by omega) (by omega), w_in (x := _ + _) (by omega) (by omega), u_in (by omega) (by omega),
          if_pos (by omega), if_pos (by omega), Option.bind_some, w_in (x := Rt.rt _) (by omega) (by omega), w_in (x := r * 65536) (by omega) (by omega)]
        congr 1
        exact decide_eq_decide.2 ⟨fun q => ⟨by omega, by omega, h3.1, h3.2.1, h3.2.2.1, h3.2.2.2.1, h3.2.2.2.2.1, h3.2.2.2.2.2.1, h3.2.2.2.2.2.2.1, h3.2.2.2.2.2.2.2, q⟩, fun q => q.2.2.2.2.2.2.2.2.2.2⟩
      · rw [decide_eq_false (by omega)]
        repeat' split
        all_goals first | rfl | (exfalso; omega)
end Go.Proofs.YtbcddiaplpbhjaaDoor.Ap
namespace Go.Proofs.YtbcddiaplpbhjaaDoor.MAi
open Go.RowKit Go.Proofs.YtbcddiaplpbhjaaDoorW.PrintWords Go.Proofs.YtbcddiaplpbhjaaDoorW.PrintLast Go.Proofs.YtbcddiaplpbhjaaDoorW.PrintMore
attribute [local go_sem] max2_int min2_int max_two min_two max_three min_three max_four min_four
set_option linter.unusedVariables false
set_option linter.unusedSimpArgs false
end Go.Proofs.YtbcddiaplpbhjaaDoor.MAi
namespace Go.Proofs.YtbcddiaplpbhjaaDoor.MAi
open Go.RowKit Go.Proofs.YtbcddiaplpbhjaaDoorW.PrintWords Go.Proofs.YtbcddiaplpbhjaaDoorW.PrintLast Go.Proofs.YtbcddiaplpbhjaaDoorW.PrintMore
attribute [local go_sem] max2_int min2_int max_two min_two max_three min_three max_four min_four
set_option linter.unusedVariables false
set_option linter.unusedSimpArgs false
end Go.Proofs.YtbcddiaplpbhjaaDoor.MAi
namespace Go.Proofs.YtbcddiaplpbhjaaDoor.MAi
open Go.RowKit Go.Proofs.YtbcddiaplpbhjaaDoorW.PrintWords Go.Proofs.YtbcddiaplpbhjaaDoorW.PrintLast Go.Proofs.YtbcddiaplpbhjaaDoorW.PrintMore
attribute [local go_sem] max2_int min2_int max_two min_two max_three min_three max_four min_four
set_option linter.unusedVariables false
set_option linter.unusedSimpArgs false
theorem eqA47 (d : Nat) (w : World) (x0 y0 : Int) (x1 y1 : Int) (x2 y2 : Int) (x3 y3 : Int) (x4 y4 : Int) (x5 y5 : Int) :
    (Op.equalIn (d + 2) 47 (.agg #[.int .i64 x0, .int .i64 x1, .int .i64 x2, .int .i64 x3, .int .i64 x4, .int .i64 x5]) (.agg #[.int .i64 y0, .int .i64 y1, .int .i64 y2, .int .i64 y3, .int .i64 y4, .int .i64 y5])).run Tryd.prog w = .ok (x0 == y0 && (x1 == y1 && (x2 == y2 && (x3 == y3 && (x4 == y4 && (x5 == y5)))))) w := by
  refine eqA_of Tryd.underlying47 (by kernel_rfl) ?_
  refine eqf_cons (by rfl) (by go_simp; rfl) (by go_simp; rfl) (by go_simp) ?_
  refine eqf_cons (by rfl) (by go_simp; rfl) (by go_simp; rfl) (by go_simp) ?_
  refine eqf_cons (by rfl) (by go_simp; rfl) (by go_simp; rfl) (by go_simp) ?_
  refine eqf_cons (by rfl) (by go_simp; rfl) (by go_simp; rfl) (by go_simp) ?_
  refine eqf_cons (by rfl) (by go_simp; rfl) (by go_simp; rfl) (by go_simp) ?_
  exact eqf_last (by rfl) (by go_simp; rfl) (by go_simp; rfl) (by go_simp)
end Go.Proofs.YtbcddiaplpbhjaaDoor.MAi
namespace Go.Proofs.YtbcddiaplpbhjaaDoor.Ap
open Go Go.RowKit Go.Proofs.YtbcddiaplpbhjaaDoorW.PrintMore Go.Proofs.YtbcddiaplpbhjaaDoorW.PrintWords Go.Proofs.YtbcddiaplpbhjaaDoor.MAi
set_option linter.unusedVariables false
set_option linter.unusedSimpArgs false
theorem flat_bytes : Bytes (List.replicate 100 0) := by
  intro z hz
  rw [(List.mem_replicate.1 hz).2]
  decide
set_option maxRecDepth 100000 in
theorem s1 : (solveS 9 9 0 (List.replicate 100 0) 0 0 65536 425984 0 32768).2 = (0, 0) := by kernel_rfl
set_option maxRecDepth 100000 in
theorem s2 : (solveS 9 9 0 (List.replicate 100 0) 0 0 0 425984 0 32768).2 = (8, 0) := by kernel_rfl
set_option maxRecDepth 100000 in
theorem s3 : (solveS 9 9 0 (List.replicate 100 0) 0 0 0 0 0 1).2 = (0, 0) := by kernel_rfl
theorem rt3 : Rt.rt ((196608 - 0) * (196608 - 0) + (0 - 0) * (0 - 0)) = 196608 := Rt.rt_eq (by decide) (by unfold Rt.isRoot; decide)
theorem r3 : reachS 0 0 196608 0 3 = true := by unfold reachS; rw [rt3]; decide
theorem r2 : reachS 0 0 196608 0 2 = false := by unfold reachS; rw [rt3]; decide
theorem awake_k (K : Nat) : bivouaclaw17_awake.f (K + 1030) = some true := by
  unfold bivouaclaw17_awake.f
  rw [solve_f flat_bytes, Option.bind_some, solve_f flat_bytes, Option.bind_some, solve_f flat_bytes, Option.bind_some, show K + 1030 = (K + 1025) + 5 from rfl, reach_f, Option.bind_some, reach_f, Option.bind_some]
  dsimp only
  rw [s1, s2, s3, r3, r2]
  rfl
theorem few_f (W H Wa : Int) (l : List Int) : bivouaclaw17_few.f W H Wa l = some (W, H, Wa, l.take 4300) := by
  unfold bivouaclaw17_few.f
  split
  · rw [if_pos (by omega)]
  · rw [List.take_of_length_le (by omega)]
theorem few_bytes {l : List Int} (h : Bytes l) (n : Nat) : Bytes (l.take n) := fun z hz => h z (List.mem_of_mem_take hz)
end Go.Proofs.YtbcddiaplpbhjaaDoor.Ap
namespace Go.Proofs.YtbcddiaplpbhjaaDoor.MAi
open Go.RowKit Go.Proofs.YtbcddiaplpbhjaaDoorW.PrintWords Go.Proofs.YtbcddiaplpbhjaaDoorW.PrintLast Go.Proofs.YtbcddiaplpbhjaaDoorW.PrintMore
attribute [local go_sem] max2_int min2_int max_two min_two max_three min_three max_four min_four
set_option linter.unusedVariables false
set_option linter.unusedSimpArgs false
attribute [local go_sem high] eqA47
end Go.Proofs.YtbcddiaplpbhjaaDoor.MAi
namespace Go.Proofs.YtbcddiaplpbhjaaDoor.MAi
open Go.RowKit Go.Proofs.YtbcddiaplpbhjaaDoorW.PrintWords Go.Proofs.YtbcddiaplpbhjaaDoorW.PrintLast Go.Proofs.YtbcddiaplpbhjaaDoorW.PrintMore
attribute [local go_sem] max2_int min2_int max_two min_two max_three min_three max_four min_four
set_option linter.unusedVariables false
set_option linter.unusedSimpArgs false
end Go.Proofs.YtbcddiaplpbhjaaDoor.MAi
namespace Go.Proofs.YtbcddiaplpbhjaaDoor.MAi
open Go.RowKit Go.Proofs.YtbcddiaplpbhjaaDoorW.PrintWords Go.Proofs.YtbcddiaplpbhjaaDoorW.PrintLast Go.Proofs.YtbcddiaplpbhjaaDoorW.PrintMore
attribute [local go_sem] max2_int min2_int max_two min_two max_three min_three max_four min_four
set_option linter.unusedVariables false
set_option linter.unusedSimpArgs false
attribute [local go_sem high] eqA47
end Go.Proofs.YtbcddiaplpbhjaaDoor.MAi
