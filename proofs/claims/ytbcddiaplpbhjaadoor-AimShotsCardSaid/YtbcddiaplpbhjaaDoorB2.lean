/- What the claim's proof leans on: texts of this claim, laid together. -/
import Derived.Test.YtbcddiaplpbhjaaDoorB1
import Derived.Below
import Derived.Test.YtbcddiaplpbhjaaDoorProg
import Derived.WalkKit
import Derived.WalkSpells
import Derived.WalkLawsBesides
import Derived.Deep.QuietTactic
import Derived.BigQuiet
import Derived.Lib.Hide
import Derived.Deep.RegionHeld3
import Derived.Test.YtbcddiaplpbhjaaDoorRows
import Derived.ProofKit
import Derived.OpenShut
import Derived.LaidMore
import Derived.MakeChecks
import Derived.Stop.Joined
import Derived.ChangeSlices
import Derived.Shelf.Small.Bits
import Derived.Shelf.Strconv.Itoa0
import Derived.Shelf.Bits.Mul64
import Derived.Laws.BitsLemmas
import Derived.Deep.DeepCutAuto
import Derived.Deep.CutBlock
import Derived.Lib.ItoaNum
import Derived.Deep.RegionWith
import Derived.WalkMore
import Derived.IntWalk
import Derived.Deep.OwnRows
import Derived.StillTailTactics
import Derived.Deep.Draws
import Derived.Deep.AppendLies
import Derived.Maps.AppendAt
import Derived.OwnWalk
import Derived.Laws.BytesArg
import Derived.Laws.MakeOwn
import Derived.Laws.OwnMore
import Derived.Tactics
import Derived.Lib.ConvBytes
import Derived.Laws.Slices
import Derived.KernelRfl
import Derived.RowKit3
import Derived.Deep.LoopGhost
import Derived.WideLaws
import Derived.Laws.Rows
import Derived.Lib.AppendStr
import Derived.ArgAppend
import Derived.Laws.IdiomCopy
import Derived.OrdersHeld
import Derived.RowKit
namespace Go.Proofs.YtbcddiaplpbhjaaDoor.Tr
open Go Go.RowKit
set_option linter.unusedVariables false
def tab : List Int := [0, 1608, 3216, 4821, 6424, 8022, 9616, 11204, 12785, 14359, 15924, 17479, 19024, 20557, 22078, 23586, 25080, 26558, 28020, 29466, 30893, 32303, 33692, 35062, 36410, 37736, 39040, 40320, 41576, 42806, 44011, 45190, 46341, 47464, 48559, 49624, 50660, 51665, 52639, 53581, 54491, 55368, 56212, 57022, 57798, 58538, 59244, 59914, 60547, 61145, 61705, 62228, 62714, 63162, 63572, 63944, 64277, 64571, 64827, 65043, 65220, 65358, 65457, 65516, 65536]
def at_ (i : Int) : Int := tab.getD i.toNat 0
def core (r : Int) : Int := at_ (r / 256) + (at_ (r / 256 + 1) - at_ (r / 256)) * (r % 256) / 256
def sinP (p : Int) : Int :=
  if p ≥ 32768 then -core (if p / 16384 % 2 = 1 then 16384 - p % 16384 else p % 16384)
  else core (if p / 16384 % 2 = 1 then 16384 - p % 16384 else p % 16384)
def nrm (a : Int) : Int := a % 65536
def sinA (a : Int) : Int := sinP (nrm a)
def cosA (a : Int) : Int := sinA (nrm a + 16384)
theorem nrm_range (a : Int) : 0 ≤ nrm a ∧ nrm a < 65536 := by unfold nrm; omega
theorem tmod_pos (a n : Int) (h : 0 ≤ a) : a.tmod n = a % n := Int.tmod_eq_emod_of_nonneg h
theorem tmod_neg (a n : Int) (h : a ≤ 0) : a.tmod n = -((-a) % n) := by
  have h1 := Int.neg_tmod (-a) n
  rw [Int.neg_neg] at h1
  rw [h1, Int.tmod_eq_emod_of_nonneg (show 0 ≤ -a by omega)]
theorem at_nat (n : Nat) (h : n < 64) : at_ (n : Int) ≤ at_ ((n : Int) + 1) ∧ at_ ((n : Int) + 1) ≤ at_ n + 1700 ∧ 0 ≤ at_ n ∧ at_ ((n : Int) + 1) ≤ 65536 := by
  have key : ∀ k : Fin 64, at_ (k.val : Int) ≤ at_ ((k.val : Int) + 1) ∧ at_ ((k.val : Int) + 1) ≤ at_ k.val + 1700 ∧ 0 ≤ at_ k.val ∧ at_ ((k.val : Int) + 1) ≤ 65536 := by decide +kernel
  exact key ⟨n, h⟩
theorem at_rise (i : Int) (h0 : 0 ≤ i) (h1 : i < 64) : at_ i ≤ at_ (i + 1) ∧ at_ (i + 1) ≤ at_ i + 1700 ∧ 0 ≤ at_ i ∧ at_ (i + 1) ≤ 65536 := by
  obtain ⟨n, rfl⟩ : ∃ n : Nat, i = n := ⟨i.toNat, by omega⟩
  exact at_nat n (by omega)
theorem at_mono_nat (i d : Nat) : i + d ≤ 64 → at_ (i : Int) ≤ at_ ((i + d : Nat) : Int) := by
  induction d with
  | zero => intro _; exact Int.le_refl _
  | succ d ih =>
    intro h
    have h1 := ih (by omega)
    have h2 := (at_nat (i + d) (by omega)).1
    have e : (((i + (d + 1) : Nat)) : Int) = ((i + d : Nat) : Int) + 1 := by omega
    rw [e]; omega
theorem at_mono (i j : Int) (h0 : 0 ≤ i) (h : i ≤ j) (h1 : j ≤ 64) : at_ i ≤ at_ j := by
  obtain ⟨n, rfl⟩ : ∃ n : Nat, i = n := ⟨i.toNat, by omega⟩
  have := at_mono_nat n (j - n).toNat (by omega)
  have e : ((n + (j - n).toNat : Nat) : Int) = j := by omega
  rw [e] at this; exact this
theorem at_bound (i : Int) (h0 : 0 ≤ i) (h1 : i < 65) : 0 ≤ at_ i ∧ at_ i ≤ 65536 := by
  have a1 := at_mono 0 i (by omega) h0 (by omega)
  have a2 := at_mono i 64 h0 (by omega) (by omega)
  have e1 : at_ 0 = 0 := by decide +kernel
  have e2 : at_ 64 = 65536 := by decide +kernel
  omega
theorem part_range (d f : Int) (hd : 0 ≤ d) (f0 : 0 ≤ f) (f1 : f < 256) : 0 ≤ d * f / 256 ∧ d * f / 256 ≤ d := by
  have h1 : 0 ≤ d * f := Int.mul_nonneg hd f0
  have h2 : d * f ≤ d * 256 := Int.mul_le_mul_of_nonneg_left (by omega) hd
  constructor
  · omega
  · omega
theorem core_range (r : Int) (h0 : 0 ≤ r) (h1 : r < 16384) : at_ (r / 256) ≤ core r ∧ core r ≤ at_ (r / 256 + 1) := by
  have h := at_rise (r / 256) (by omega) (by omega)
  have hp := part_range (at_ (r / 256 + 1) - at_ (r / 256)) (r % 256) (by omega) (by omega) (by omega)
  unfold core; omega
theorem core_top : core 16384 = 65536 := by decide +kernel
theorem core_zero : core 0 = 0 := by decide +kernel
theorem core_mono (x y : Int) (h0 : 0 ≤ x) (h : x ≤ y) (h1 : y ≤ 16384) : core x ≤ core y := by
  by_cases hy : y = 16384
  · subst hy; rw [core_top]
    by_cases hx : x = 16384
    · subst hx; rw [core_top]; omega
    · have := core_range x h0 (by omega)
      have := (at_rise (x / 256) (by omega) (by omega))
      omega
  · by_cases e : x / 256 = y / 256
    · unfold core
      rw [e]
      have h := at_rise (y / 256) (by omega) (by omega)
      have : (at_ (y / 256 + 1) - at_ (y / 256)) * (x % 256) ≤ (at_ (y / 256 + 1) - at_ (y / 256)) * (y % 256) :=
        Int.mul_le_mul_of_nonneg_left (by omega) (by omega)
      omega
    · have a1 := (core_range x h0 (by omega)).2
      have a2 := (core_range y (by omega) (by omega)).1
      have a3 := at_mono (x / 256 + 1) (y / 256) (by omega) (by omega) (by omega)
      omega
theorem core_bound (r : Int) (h0 : 0 ≤ r) (h1 : r ≤ 16384) : 0 ≤ core r ∧ core r ≤ 65536 := by
  have a := core_mono 0 r (by omega) h0 h1
  have b := core_mono r 16384 h0 h1 (by omega)
  rw [core_zero] at a; rw [core_top] at b
  exact ⟨a, b⟩
theorem fold_range (p : Int) (h0 : 0 ≤ p) (h1 : p < 65536) : 0 ≤ (if p / 16384 % 2 = 1 then 16384 - p % 16384 else p % 16384) ∧ (if p / 16384 % 2 = 1 then 16384 - p % 16384 else p % 16384) ≤ 16384 := by
  split <;> omega
theorem sinP_bound (p : Int) (h0 : 0 ≤ p) (h1 : p < 65536) : -65536 ≤ sinP p ∧ sinP p ≤ 65536 := by
  have hf := fold_range p h0 h1
  have hb := core_bound _ hf.1 hf.2
  unfold sinP
  split <;> omega
theorem sinA_bound (a : Int) : -65536 ≤ sinA a ∧ sinA a ≤ 65536 := sinP_bound _ (nrm_range a).1 (nrm_range a).2
theorem cosA_bound (a : Int) : -65536 ≤ cosA a ∧ cosA a ≤ 65536 := sinA_bound _
theorem sinP_1 (p : Int) (h0 : 0 ≤ p) (h1 : p ≤ 16384) : sinP p = core p := by
  unfold sinP
  rw [if_neg (by omega)]
  by_cases e : p = 16384
  · subst e; rfl
  · rw [if_neg (by omega)]; congr 1; omega
theorem sinP_2 (p : Int) (h0 : 16384 ≤ p) (h1 : p < 32768) : sinP p = core (32768 - p) := by
  unfold sinP
  rw [if_neg (by omega), if_pos (by omega)]; congr 1; omega
theorem sinP_3 (p : Int) (h0 : 32768 ≤ p) (h1 : p < 49152) : sinP p = -core (p - 32768) := by
  unfold sinP
  rw [if_pos (by omega), if_neg (by omega)]; congr 2; omega
theorem sinP_4 (p : Int) (h0 : 49152 ≤ p) (h1 : p < 65536) : sinP p = -core (65536 - p) := by
  unfold sinP
  rw [if_pos (by omega), if_pos (by omega)]; congr 2; omega
end Go.Proofs.YtbcddiaplpbhjaaDoor.Tr
namespace Go.Proofs.YtbcddiaplpbhjaaDoor.Tr
open Go Go.RowKit
set_option linter.unusedVariables false
def S (d : Int) : Int := sinA (256 * d)
def C (d : Int) : Int := cosA (256 * d)
def vel (x y d : Int) : Int := x * C d + y * S d
def try1 (x y : Int) (s : Int × Int) (d : Int) : Int × Int := if s.2 < vel x y d then (d, vel x y d) else s
def tries (x y : Int) : Nat → Int → Int × Int → Int × Int
  | 0, _, s => s
  | n + 1, d, s => tries x y n (d + 1) (try1 x y s d)
theorem tries_succ (x y : Int) (n : Nat) : ∀ (d : Int) (s : Int × Int), tries x y (n + 1) d s = try1 x y (tries x y n d s) (d + n) := by
  induction n with
  | zero => intro d s; simp [tries]
  | succ n ih =>
    intro d s
    rw [tries, ih]
    rw [tries]
    congr 1
    push_cast; omega
theorem table : ∀ k : Fin 256,
    (k.val ≤ 64 → 0 ≤ C k.val ∧ 0 ≤ S k.val) ∧ (k.val < 64 → 0 < C k.val) ∧ (0 < k.val → k.val < 128 → 0 < S k.val) ∧
    (64 ≤ k.val → k.val ≤ 128 → C k.val ≤ 0 ∧ 0 ≤ S k.val) ∧ (64 < k.val → k.val < 192 → C k.val < 0) ∧
    (128 ≤ k.val → k.val ≤ 192 → C k.val ≤ 0 ∧ S k.val ≤ 0) ∧ (192 ≤ k.val → 0 ≤ C k.val ∧ S k.val ≤ 0) ∧
    (k.val ≤ 128 → C (128 - k.val) = -C k.val ∧ S (128 - k.val) = S k.val) ∧
    (0 < k.val → C (256 - k.val) = C k.val ∧ S (256 - k.val) = -S k.val) ∧
    (128 < k.val → C (k.val - 128) = -C k.val ∧ S (k.val - 128) = -S k.val) ∧
    (129 ≤ k.val → C (384 - k.val) = -C k.val ∧ S (384 - k.val) = S k.val) ∧
    (-65536 ≤ C k.val ∧ C k.val ≤ 65536 ∧ -65536 ≤ S k.val ∧ S k.val ≤ 65536) := by decide +kernel
theorem table_at (d : Int) (h0 : 0 ≤ d) (h1 : d < 256) :
    (d ≤ 64 → 0 ≤ C d ∧ 0 ≤ S d) ∧ (d < 64 → 0 < C d) ∧ (0 < d → d < 128 → 0 < S d) ∧
    (64 ≤ d → d ≤ 128 → C d ≤ 0 ∧ 0 ≤ S d) ∧ (64 < d → d < 192 → C d < 0) ∧
    (128 ≤ d → d ≤ 192 → C d ≤ 0 ∧ S d ≤ 0) ∧ (192 ≤ d → 0 ≤ C d ∧ S d ≤ 0) ∧
    (d ≤ 128 → C (128 - d) = -C d ∧ S (128 - d) = S d) ∧
    (0 < d → C (256 - d) = C d ∧ S (256 - d) = -S d) ∧
    (128 < d → C (d - 128) = -C d ∧ S (d - 128) = -S d) ∧
    (129 ≤ d → C (384 - d) = -C d ∧ S (384 - d) = S d) ∧
    (-65536 ≤ C d ∧ C d ≤ 65536 ∧ -65536 ≤ S d ∧ S d ≤ 65536) := by
  obtain ⟨n, rfl⟩ : ∃ n : Nat, d = n := ⟨d.toNat, by omega⟩
  have t := table ⟨n, by omega⟩
  simp only at t
  obtain ⟨t1, t2, t3, t4, t5, t6, t7, t8, t9, t10, t11, t12⟩ := t
  exact ⟨fun h => t1 (by omega), fun h => t2 (by omega), fun h h' => t3 (by omega) (by omega), fun h h' => t4 (by omega) (by omega), fun h h' => t5 (by omega) (by omega), fun h h' => t6 (by omega) (by omega), fun h => t7 (by omega), fun h => t8 (by omega), fun h => t9 (by omega), fun h => t10 (by omega), fun h => t11 (by omega), t12⟩
def Best (x y : Int) (P : Int → Prop) (b : Int) : Prop := P b ∧ ∀ d, P d → vel x y d ≤ vel x y b ∧ (d < b → vel x y d < vel x y b)
theorem best_unique {x y : Int} {P : Int → Prop} {a b : Int} (ha : Best x y P a) (hb : Best x y P b) : a = b := by
  have h1 := ha.2 b hb.1
  have h2 := hb.2 a ha.1
  rcases Int.lt_trichotomy a b with h | h | h
  · have := h2.2 h; omega
  · exact h
  · have := h1.2 h; omega
theorem best_congr {x y : Int} {P Q : Int → Prop} {b : Int} (h : ∀ d, P d ↔ Q d) (hb : Best x y P b) : Best x y Q b :=
  ⟨(h b).1 hb.1, fun d hd => hb.2 d ((h d).2 hd)⟩
theorem or_step (e d : Int) (n : Nat) (p : Prop) : ((p ∨ e = d) ∨ (d + 1 ≤ e ∧ e < d + 1 + n)) ↔ (p ∨ (d ≤ e ∧ e < d + ((n + 1 : Nat) : Int))) := by
  constructor
  · rintro ((h | h) | h)
    · exact Or.inl h
    · exact Or.inr (by omega)
    · exact Or.inr (by omega)
  · rintro (h | h)
    · exact Or.inl (Or.inl h)
    · by_cases h' : e = d
      · exact Or.inl (Or.inr h')
      · exact Or.inr (by omega)
theorem tries_best (x y : Int) (n : Nat) : ∀ (d b : Int) (P : Int → Prop), Best x y P b → (∀ e, P e → e < d) →
    ∃ b', tries x y n d (b, vel x y b) = (b', vel x y b') ∧ Best x y (fun e => P e ∨ (d ≤ e ∧ e < d + n)) b' := by
  induction n with
  | zero =>
    intro d b P hb _
    exact ⟨b, rfl, best_congr (fun e => ⟨fun h => Or.inl h, fun h => h.elim id (fun h => by omega)⟩) hb⟩
  | succ n ih =>
    intro d b P hb hP
    rw [tries]
    by_cases h : vel x y b < vel x y d
    · rw [show try1 x y (b, vel x y b) d = (d, vel x y d) from if_pos h]
      have hd : Best x y (fun e => P e ∨ e = d) d := ⟨Or.inr rfl, fun e he => he.elim (fun he => by
        have := (hb.2 e he).1
        exact ⟨by omega, fun _ => by omega⟩) (fun he => by subst he; exact ⟨by omega, fun h => by omega⟩)⟩
      obtain ⟨b', e1, e2⟩ := ih (d + 1) d _ hd (fun e he => he.elim (fun he => by have := hP e he; omega) (fun he => by omega))
      exact ⟨b', e1, best_congr (fun e => or_step e d n (P e)) e2⟩
    · rw [show try1 x y (b, vel x y b) d = (b, vel x y b) from if_neg h]
      have hd : Best x y (fun e => P e ∨ e = d) b := ⟨Or.inl hb.1, fun e he => he.elim (hb.2 e) (fun he => by
        subst he; have := hP b hb.1; exact ⟨by omega, fun h => by omega⟩)⟩
      obtain ⟨b', e1, e2⟩ := ih (d + 1) b _ hd (fun e he => he.elim (fun he => by have := hP e he; omega) (fun he => by omega))
      exact ⟨b', e1, best_congr (fun e => or_step e d n (P e)) e2⟩
theorem prod_bound (x c : Int) (hx : -1073741824 ≤ x ∧ x ≤ 1073741824) (hc : -65536 ≤ c ∧ c ≤ 65536) : -70368744177664 ≤ x * c ∧ x * c ≤ 70368744177664 := by
  have a1 : (1073741824 - x) * (65536 + c) ≥ 0 := Int.mul_nonneg (by omega) (by omega)
  have a2 : (1073741824 + x) * (65536 + c) ≥ 0 := Int.mul_nonneg (by omega) (by omega)
  have a3 : (1073741824 - x) * (65536 - c) ≥ 0 := Int.mul_nonneg (by omega) (by omega)
  have a4 : (1073741824 + x) * (65536 - c) ≥ 0 := Int.mul_nonneg (by omega) (by omega)
  simp only [Int.sub_mul, Int.add_mul, Int.mul_add, Int.mul_sub] at a1 a2 a3 a4
  omega
theorem vel_bound (x y d : Int) (hx : -1073741824 ≤ x ∧ x ≤ 1073741824) (hy : -1073741824 ≤ y ∧ y ≤ 1073741824) (h0 : 0 ≤ d) (h1 : d < 256) :
    (-70368744177664 ≤ x * C d ∧ x * C d ≤ 70368744177664) ∧ (-70368744177664 ≤ y * S d ∧ y * S d ≤ 70368744177664) := by
  obtain ⟨_, _, _, _, _, _, _, _, _, _, _, c0, c1, s0, s1⟩ := table_at d h0 h1
  exact ⟨prod_bound _ _ hx ⟨c0, c1⟩, prod_bound _ _ hy ⟨s0, s1⟩⟩
def init : Int × Int := (0, -9223372036854775808)
def headP (x y : Int) : Int :=
  if x < 0 ∧ 0 ≤ y then (tries x y 65 64 init).1
  else if x ≤ 0 ∧ y < 0 then (tries x y 65 128 init).1
  else if y < 0 then (tries x y 64 192 (try1 x y init 0)).1
  else (tries x y 65 0 init).1
def headR (x y : Int) : Int := (tries x y 255 1 (0, vel x y 0)).1
theorem headR_best (x y : Int) : Best x y (fun e => 0 ≤ e ∧ e < 256) (headR x y) := by
  have h0 : Best x y (fun e => e = 0) 0 := ⟨rfl, fun e he => by subst he; exact ⟨by omega, fun h => by omega⟩⟩
  obtain ⟨b, e1, e2⟩ := tries_best x y 255 1 0 _ h0 (fun e he => by omega)
  unfold headR
  rw [e1]
  exact best_congr (fun e => by constructor <;> intro h <;> omega) e2
theorem from_best (x y : Int) (hx : -1073741824 ≤ x ∧ x ≤ 1073741824) (hy : -1073741824 ≤ y ∧ y ≤ 1073741824) (d : Int) (h0 : 0 ≤ d) (h1 : d < 256) (n : Nat) :
    Best x y (fun e => d ≤ e ∧ e < d + ((n + 1 : Nat) : Int)) (tries x y (n + 1) d init).1 := by
  have hb := vel_bound x y d hx hy h0 h1
  have h2 : Best x y (fun e => e = d) d := ⟨rfl, fun e he => by subst he; exact ⟨by omega, fun h => by omega⟩⟩
  obtain ⟨b, e1, e2⟩ := tries_best x y n (d + 1) d _ h2 (fun e he => by omega)
  rw [tries, show try1 x y init d = (d, vel x y d) from if_pos (by unfold init vel; simp only; omega), e1]
  exact best_congr (fun e => by constructor <;> intro h <;> omega) e2
theorem best_all {x y b : Int} {P : Int → Prop} (hP : ∀ e, P e → 0 ≤ e ∧ e < 256) (hb : Best x y P b)
    (h : ∀ d, 0 ≤ d → d < 256 → ¬ P d → ∃ e, P e ∧ ((e < d ∧ vel x y d ≤ vel x y e) ∨ vel x y d < vel x y e)) : Best x y (fun e => 0 ≤ e ∧ e < 256) b := by
  refine ⟨hP b hb.1, fun d hd => ?_⟩
  by_cases hp : P d
  · exact hb.2 d hp
  · obtain ⟨e, he, h1⟩ := h d hd.1 hd.2 hp
    have h2 := hb.2 e he
    rcases h1 with ⟨h3, h4⟩ | h3
    · exact ⟨by omega, fun h5 => by have := h2.2 (by omega); omega⟩
    · exact ⟨by omega, fun _ => by omega⟩
theorem mulpn {a b : Int} (ha : 0 ≤ a) (hb : b ≤ 0) : a * b ≤ 0 := Int.mul_nonpos_of_nonneg_of_nonpos ha hb
theorem mulnp {a b : Int} (ha : a ≤ 0) (hb : 0 ≤ b) : a * b ≤ 0 := Int.mul_nonpos_of_nonpos_of_nonneg ha hb
theorem mulppn {a b : Int} (ha : 0 < a) (hb : b < 0) : a * b < 0 := Int.mul_neg_of_pos_of_neg ha hb
theorem mulnpp {a b : Int} (ha : a < 0) (hb : 0 < b) : a * b < 0 := Int.mul_neg_of_neg_of_pos ha hb
set_option maxHeartbeats 4000000 in
theorem head_eq (x y : Int) (hx : -1073741824 ≤ x ∧ x ≤ 1073741824) (hy : -1073741824 ≤ y ∧ y ≤ 1073741824) : headP x y = headR x y := by
  refine best_unique ?_ (headR_best x y)
  unfold headP
  by_cases q1 : x < 0 ∧ 0 ≤ y
  · rw [if_pos q1]
    refine best_all (fun e he => by omega) (from_best x y hx hy 64 (by omega) (by omega) 64) fun d h0 h1 hp => ?_
    obtain ⟨t1, t2, t3, t4, t5, t6, t7, t8, t9, t10, t11, t12⟩ := table_at d h0 h1
    by_cases a1 : d < 64
    · refine ⟨128 - d, by omega, Or.inr ?_⟩
      have := mulnpp q1.1 (t2 a1)
      unfold vel; rw [(t8 (by omega)).1, (t8 (by omega)).2, Int.mul_neg]; omega
    · by_cases a2 : d < 192
      · refine ⟨256 - d, by omega, Or.inl ⟨by omega, ?_⟩⟩
        have := mulpn q1.2 (t6 (by omega) (by omega)).2
        unfold vel; rw [(t9 (by omega)).1, (t9 (by omega)).2, Int.mul_neg]; omega
      · refine ⟨d - 128, by omega, Or.inl ⟨by omega, ?_⟩⟩
        have h2 := mulpn q1.2 (t7 (by omega)).2
        have h3 := mulnp (Int.le_of_lt q1.1) (t7 (by omega)).1
        unfold vel; rw [(t10 (by omega)).1, (t10 (by omega)).2, Int.mul_neg, Int.mul_neg]; omega
  · rw [if_neg q1]
    by_cases q2 : x ≤ 0 ∧ y < 0
    · rw [if_pos q2]
      refine best_all (fun e he => by omega) (from_best x y hx hy 128 (by omega) (by omega) 64) fun d h0 h1 hp => ?_
      obtain ⟨t1, t2, t3, t4, t5, t6, t7, t8, t9, t10, t11, t12⟩ := table_at d h0 h1
      by_cases a1 : d ≤ 64
      · refine ⟨192, by omega, Or.inr ?_⟩
        have e1 : C 192 = 0 := by decide +kernel
        have e2 : S 192 = -65536 := by decide +kernel
        have h2 := mulnp q2.1 (t1 a1).1
        have h3 := mulnp (Int.le_of_lt q2.2) (t1 a1).2
        unfold vel; rw [e1, e2]; omega
      · by_cases a2 : d < 128
        · refine ⟨256 - d, by omega, Or.inr ?_⟩
          have := mulnpp q2.2 (t3 (by omega) (by omega))
          unfold vel; rw [(t9 (by omega)).1, (t9 (by omega)).2, Int.mul_neg]; omega
        · refine ⟨384 - d, by omega, Or.inl ⟨by omega, ?_⟩⟩
          have := mulnp q2.1 (t7 (by omega)).1
          unfold vel; rw [(t11 (by omega)).1, (t11 (by omega)).2, Int.mul_neg]; omega
    · rw [if_neg q2]
      by_cases q3 : y < 0
      · rw [if_pos q3]
        have hb := vel_bound x y 0 hx hy (by omega) (by omega)
        have h2 : Best x y (fun e => e = 0) 0 := ⟨rfl, fun e he => by subst he; exact ⟨by omega, fun h => by omega⟩⟩
        obtain ⟨b, e1, e2⟩ := tries_best x y 64 192 0 _ h2 (fun e he => by omega)
        rw [show try1 x y init 0 = (0, vel x y 0) from if_pos (by unfold init vel; simp only; omega), e1]
        refine best_all (fun e he => by omega) e2 fun d h0 h1 hp => ?_
        obtain ⟨t1, t2, t3, t4, t5, t6, t7, t8, t9, t10, t11, t12⟩ := table_at d h0 h1
        by_cases a1 : d ≤ 64
        · refine ⟨256 - d, by omega, Or.inr ?_⟩
          have := mulnpp q3 (t3 (by omega) (by omega))
          unfold vel; rw [(t9 (by omega)).1, (t9 (by omega)).2, Int.mul_neg]; omega
        · by_cases a2 : d ≤ 128
          · refine ⟨0, by omega, Or.inl ⟨by omega, ?_⟩⟩
            have e1 : C 0 = 65536 := by decide +kernel
            have e2 : S 0 = 0 := by decide +kernel
            have h2 := mulpn (show 0 ≤ x by omega) (t4 (by omega) a2).1
            have h3 := mulnp (Int.le_of_lt q3) (t4 (by omega) a2).2
            unfold vel; rw [e1, e2]; omega
          · refine ⟨384 - d, by omega, Or.inr ?_⟩
            have := mulppn (show 0 < x by omega) (t5 (by omega) (by omega))
            unfold vel; rw [(t11 (by omega)).1, (t11 (by omega)).2, Int.mul_neg]; omega
      · rw [if_neg q3]
        refine best_all (fun e he => by omega) (from_best x y hx hy 0 (by omega) (by omega) 64) fun d h0 h1 hp => ?_
        obtain ⟨t1, t2, t3, t4, t5, t6, t7, t8, t9, t10, t11, t12⟩ := table_at d h0 h1
        by_cases a1 : d ≤ 128
        · refine ⟨128 - d, by omega, Or.inl ⟨by omega, ?_⟩⟩
          have := mulpn (show 0 ≤ x by omega) (t4 (by omega) a1).1
          unfold vel; rw [(t8 (by omega)).1, (t8 (by omega)).2, Int.mul_neg]; omega
        · by_cases a2 : d < 192
          · refine ⟨d - 128, by omega, Or.inl ⟨by omega, ?_⟩⟩
            have h2 := mulpn (show 0 ≤ x by omega) (t6 (by omega) (by omega)).1
            have h3 := mulpn (show 0 ≤ y by omega) (t6 (by omega) (by omega)).2
            unfold vel; rw [(t10 (by omega)).1, (t10 (by omega)).2, Int.mul_neg, Int.mul_neg]; omega
          · refine ⟨256 - d, by omega, Or.inl ⟨by omega, ?_⟩⟩
            have := mulpn (show 0 ≤ y by omega) (t7 (by omega)).2
            unfold vel; rw [(t9 (by omega)).1, (t9 (by omega)).2, Int.mul_neg]; omega
end Go.Proofs.YtbcddiaplpbhjaaDoor.Tr
namespace Go.Proofs.YtbcddiaplpbhjaaDoor.Tg
open Go Go.RowKit
set_option linter.unusedVariables false
theorem and_mask (i : Nat) (hi : i ≤ 63) (x : Int) : bits .and .i64 x (2 ^ i - 1) = x % 2 ^ i := by
  have hpos : 0 < 2 ^ i := Nat.two_pow_pos i
  have hle : 2 ^ i ≤ 2 ^ 63 := Nat.pow_le_pow_right (by decide) hi
  have hc : ((2 : Int) ^ i - 1) = ((2 ^ i - 1 : Nat) : Int) := by
    rw [Int.natCast_sub hpos]; simp
  have hp : ((2 : Int) ^ i) = ((2 ^ i : Nat) : Int) := by simp
  have hd : (2 ^ i) ∣ (2 ^ 64) := Nat.pow_dvd_pow 2 (by omega)
  have ha : (BitVec.ofInt 64 x).toNat = (x % (2 ^ 64 : Nat)).toNat := by simp [BitVec.toNat_ofInt]
  have hm : 2 ^ i - 1 < 2 ^ 64 := by omega
  rw [hc]
  show IntKind.i64.wrap (((BitVec.ofInt 64 x) &&& (BitVec.ofInt 64 (((2 ^ i - 1 : Nat)) : Int))).toNat : Int) = _
  rw [BitVec.ofInt_natCast, BitVec.toNat_and, BitVec.toNat_ofNat, ha, Nat.mod_eq_of_lt hm, Nat.and_two_pow_sub_one_eq_mod]
  have h1 : (((x % (2 ^ 64 : Nat)).toNat % 2 ^ i : Nat) : Int) = x % 2 ^ i := by
    rw [Int.natCast_emod, Int.toNat_of_nonneg (Int.emod_nonneg _ (by decide)), hp]
    exact Int.emod_emod_of_dvd x (by exact_mod_cast hd)
  rw [h1, IntKind.wrap_i64]
  have h2 : 0 ≤ x % 2 ^ i := Int.emod_nonneg _ (by rw [hp]; omega)
  have h3 : x % 2 ^ i < 2 ^ i := Int.emod_lt_of_pos _ (by rw [hp]; omega)
  have h4 : (2 : Int) ^ i ≤ 9223372036854775808 := by rw [hp]; omega
  omega
theorem and_65535 (x : Int) : bits .and .i64 x 65535 = x % 65536 := by have := and_mask 16 (by decide) x; simpa using this
theorem and_16383 (x : Int) : bits .and .i64 x 16383 = x % 16384 := by have := and_mask 14 (by decide) x; simpa using this
theorem and_255 (x : Int) : bits .and .i64 x 255 = x % 256 := by have := and_mask 8 (by decide) x; simpa using this
theorem and_1 (x : Int) : bits .and .i64 x 1 = x % 2 := by have := and_mask 1 (by decide) x; simpa using this
theorem ret_int {k : IntKind} {a b : Int} (h : a = b) : Ending.returned (.int k a) = .returned (.int k b) := by rw [h]
theorem ret_bool {a b : Bool} (h : a = b) : Ending.returned (.bool a) = .returned (.bool b) := by rw [h]
theorem norm_any (a : Int) (w : World) : Calls Tryd.prog 31 #[.int .i64 a] w fun e w' => e = .returned (.int .i64 (Tr.nrm a)) ∧ w = w' := by
  have hb : bits .and .i64 a 65535 = Tr.nrm a := and_65535 a
  go_enter Tryd.func31, Tryd.ntmps31
  go_wp2
  go_ret
  exact ⟨rfl, rfl⟩
structure Tab (w : World) : Prop where
  size : 0 < w.heap.size
  sines : ∀ i : Nat, i < 65 → w.cell? ⟨0, i, none⟩ = some (.int .i32 (Tr.tab.getD i 0))
theorem Tab.below {w w' : World} (h : Tab w) (hb : Below w.heap.size w w') : Tab w' := by
  have hs := h.size
  refine ⟨by have := hb.size; omega, fun i hi => ?_⟩
  rw [hb.cell (p := ⟨0, i, none⟩) (show 0 < w.heap.size from hs)]
  exact h.sines i hi
theorem Tab.at {w : World} (h : Tab w) (i : Int) (h0 : 0 ≤ i) (h1 : i < 65) : w.cell? ⟨0, i.toNat, none⟩ = some (.int .i32 (Tr.at_ i)) :=
  h.sines i.toNat (by omega)
set_option maxHeartbeats 1000000 in
theorem sin_odd (a : Int) (w : World) (ht : Tab w) (hq : Tr.nrm a / 16384 % 2 = 1) : Calls Tryd.prog 68 #[.int .i64 a] w fun e w' => e = .returned (.int .i64 (Tr.sinA a)) ∧ w = w' := by
  have hr := Tr.nrm_range a
  have nn := norm_any a
  obtain ⟨p, hp⟩ : ∃ p, Tr.nrm a = p := ⟨_, rfl⟩
  rw [hp] at hr hq nn
  have HP : Hid (Tr.sinA a = Tr.sinP p) := by unfold Tr.sinA; rw [hp]; rfl
  clear hp
  have e1 : bits .and .i64 p 16383 = p % 16384 := and_16383 p
  have e2 : bits .and .i64 (p / 16384) 1 = p / 16384 % 2 := and_1 _
  have e3 : bits .and .i64 (16384 - p % 16384) 255 = (16384 - p % 16384) % 256 := and_255 _
  have hb : ((p / 16384 % 2) == 1) = true := by simpa using hq
  have hc := ht.at ((16384 - p % 16384) / 256) (by omega) (by omega)
  have hv0 := Tr.at_bound ((16384 - p % 16384) / 256) (by omega) (by omega)
  have HC : Hid (Tr.core (16384 - p % 16384) = Tr.at_ ((16384 - p % 16384) / 256) + (Tr.at_ ((16384 - p % 16384) / 256 + 1) - Tr.at_ ((16384 - p % 16384) / 256)) * ((16384 - p % 16384) % 256) / 256) := rfl
  have HQ : Hid (p / 16384 % 2 = 1) := hq
  by_cases hf : 0 < (16384 - p % 16384) % 256
  · have hc1 := ht.at ((16384 - p % 16384) / 256 + 1) (by omega) (by omega)
    have hv1 := Tr.at_bound ((16384 - p % 16384) / 256 + 1) (by omega) (by omega)
    have hle := (Tr.at_rise ((16384 - p % 16384) / 256) (by omega) (by omega)).1
    have hm := Tr.part_range (Tr.at_ ((16384 - p % 16384) / 256 + 1) - Tr.at_ ((16384 - p % 16384) / 256)) ((16384 - p % 16384) % 256) (by omega) (by omega) (by omega)
    obtain ⟨v, hv⟩ : ∃ v, Tr.at_ ((16384 - p % 16384) / 256) = v := ⟨_, rfl⟩
    obtain ⟨v1, hvv⟩ : ∃ v, Tr.at_ ((16384 - p % 16384) / 256 + 1) = v := ⟨_, rfl⟩
    rw [hv, hvv] at hm HC hle
    rw [hv] at hc hv0
    rw [hvv] at hc1 hv1
    obtain ⟨m, hmm⟩ : ∃ m, (v1 - v) * ((16384 - p % 16384) % 256) = m := ⟨_, rfl⟩
    rw [hmm] at hm HC
    clear hq hv hvv
    go_enter Tryd.func68, Tryd.ntmps68
    go_wp2_with (first | (go_at_call 31; refine (nn _).mono ?_; rintro e w' ⟨rfl, rfl⟩))
    all_goals go_ret
    all_goals refine ⟨ret_int ?_, rfl⟩
    · rw [HP.out]; unfold Tr.sinP; rw [if_pos HQ.out, if_pos (by omega), HC.out]
    · rw [HP.out]; unfold Tr.sinP; rw [if_pos HQ.out, if_neg (by omega), HC.out]
  · have hm0 : Tr.core (16384 - p % 16384) = Tr.at_ ((16384 - p % 16384) / 256) := by
      rw [HC.out, show (16384 - p % 16384) % 256 = 0 by omega]; simp
    have HM := Lib.hid hm0
    clear hm0 HC
    obtain ⟨v, hv⟩ : ∃ v, Tr.at_ ((16384 - p % 16384) / 256) = v := ⟨_, rfl⟩
    rw [hv] at hc hv0 HM
    clear hq hv
    go_enter Tryd.func68, Tryd.ntmps68
    go_wp2_with (first | (go_at_call 31; refine (nn _).mono ?_; rintro e w' ⟨rfl, rfl⟩))
    all_goals go_ret
    all_goals refine ⟨ret_int ?_, rfl⟩
    · rw [HP.out]; unfold Tr.sinP; rw [if_pos HQ.out, if_pos (by omega), HM.out]
    · rw [HP.out]; unfold Tr.sinP; rw [if_pos HQ.out, if_neg (by omega), HM.out]
set_option maxHeartbeats 1000000 in
theorem sin_even (a : Int) (w : World) (ht : Tab w) (hq : Tr.nrm a / 16384 % 2 ≠ 1) : Calls Tryd.prog 68 #[.int .i64 a] w fun e w' => e = .returned (.int .i64 (Tr.sinA a)) ∧ w = w' := by
  have hr := Tr.nrm_range a
  have nn := norm_any a
  obtain ⟨p, hp⟩ : ∃ p, Tr.nrm a = p := ⟨_, rfl⟩
  rw [hp] at hr hq nn
  have HP : Hid (Tr.sinA a = Tr.sinP p) := by unfold Tr.sinA; rw [hp]; rfl
  clear hp
  obtain ⟨r, hrr⟩ : ∃ r, p % 16384 = r := ⟨_, rfl⟩
  have e1 : bits .and .i64 p 16383 = r := by rw [and_16383]; exact hrr
  have hr0 : 0 ≤ r ∧ r < 16384 := by omega
  have HR : Hid (p % 16384 = r) := hrr
  clear hrr
  have e2 : bits .and .i64 (p / 16384) 1 = p / 16384 % 2 := and_1 _
  have e3 : bits .and .i64 r 255 = r % 256 := and_255 _
  have hb : ((p / 16384 % 2) == 1) = false := by simpa using hq
  have hc := ht.at (r / 256) (by omega) (by omega)
  have hv0 := Tr.at_bound (r / 256) (by omega) (by omega)
  have HC : Hid (Tr.core r = Tr.at_ (r / 256) + (Tr.at_ (r / 256 + 1) - Tr.at_ (r / 256)) * (r % 256) / 256) := rfl
  have HQ : Hid (p / 16384 % 2 ≠ 1) := hq
  by_cases hf : 0 < r % 256
  · have hc1 := ht.at (r / 256 + 1) (by omega) (by omega)
    have hv1 := Tr.at_bound (r / 256 + 1) (by omega) (by omega)
    have hle := (Tr.at_rise (r / 256) (by omega) (by omega)).1
    have hm := Tr.part_range (Tr.at_ (r / 256 + 1) - Tr.at_ (r / 256)) (r % 256) (by omega) (by omega) (by omega)
    obtain ⟨v, hv⟩ : ∃ v, Tr.at_ (r / 256) = v := ⟨_, rfl⟩
    obtain ⟨v1, hvv⟩ : ∃ v, Tr.at_ (r / 256 + 1) = v := ⟨_, rfl⟩
    rw [hv, hvv] at hm HC hle
    rw [hv] at hc hv0
    rw [hvv] at hc1 hv1
    obtain ⟨m, hmm⟩ : ∃ m, (v1 - v) * (r % 256) = m := ⟨_, rfl⟩
    rw [hmm] at hm HC
    clear hq hv hvv
    go_enter Tryd.func68, Tryd.ntmps68
    go_wp2_with (first | (go_at_call 31; refine (nn _).mono ?_; rintro e w' ⟨rfl, rfl⟩))
    all_goals go_ret
    all_goals refine ⟨ret_int ?_, rfl⟩
    · rw [HP.out]; unfold Tr.sinP; rw [if_neg HQ.out, HR.out, if_pos (by omega), HC.out]
    · rw [HP.out]; unfold Tr.sinP; rw [if_neg HQ.out, HR.out, if_neg (by omega), HC.out]
  · have hm0 : Tr.core r = Tr.at_ (r / 256) := by
      rw [HC.out, show r % 256 = 0 by omega]; simp
    have HM := Lib.hid hm0
    clear hm0 HC
    obtain ⟨v, hv⟩ : ∃ v, Tr.at_ (r / 256) = v := ⟨_, rfl⟩
    rw [hv] at hc hv0 HM
    clear hq hv
    go_enter Tryd.func68, Tryd.ntmps68
    go_wp2_with (first | (go_at_call 31; refine (nn _).mono ?_; rintro e w' ⟨rfl, rfl⟩))
    all_goals go_ret
    all_goals refine ⟨ret_int ?_, rfl⟩
    · rw [HP.out]; unfold Tr.sinP; rw [if_neg HQ.out, HR.out, if_pos (by omega), HM.out]
    · rw [HP.out]; unfold Tr.sinP; rw [if_neg HQ.out, HR.out, if_neg (by omega), HM.out]
theorem sin_any (a : Int) (w : World) (ht : Tab w) : Calls Tryd.prog 68 #[.int .i64 a] w fun e w' => e = .returned (.int .i64 (Tr.sinA a)) ∧ w = w' := by
  by_cases hq : Tr.nrm a / 16384 % 2 = 1
  · exact sin_odd a w ht hq
  · exact sin_even a w ht hq
theorem cos_any (a : Int) (w : World) (ht : Tab w) : Calls Tryd.prog 67 #[.int .i64 a] w fun e w' => e = .returned (.int .i64 (Tr.cosA a)) ∧ w = w' := by
  have hr := Tr.nrm_range a
  have nn := norm_any a
  have ss := sin_any (Tr.nrm a + 16384)
  have HS := Lib.hid ss
  clear ss
  have HP : Hid (Tr.cosA a = Tr.sinA (Tr.nrm a + 16384)) := rfl
  obtain ⟨p, hp⟩ : ∃ p, Tr.nrm a = p := ⟨_, rfl⟩
  rw [hp] at hr nn HP HS
  clear hp
  go_enter Tryd.func67, Tryd.ntmps67
  go_wp2_with (first | (go_at_call 31; refine (nn _).mono ?_; rintro e w' ⟨rfl, rfl⟩) | (go_at_call 68; refine (HS.out _ ht).mono ?_; rintro e w' ⟨rfl, rfl⟩))
  go_ret
  exact ⟨ret_int HP.out.symm, rfl⟩
end Go.Proofs.YtbcddiaplpbhjaaDoor.Tg
namespace Go.Proofs.YtbcddiaplpbhjaaDoor.Tg
open Go Go.RowKit
set_option linter.unusedVariables false
theorem Tab.drewN {w : World} (h : Tab w) (n : Nat) : Tab (w.drewN n) := ⟨h.size, h.sines⟩
def farB (v : Int) : Bool := decide (v < -1073741824 ∨ 1073741824 < v)
theorem farB_false {v : Int} (h : farB v = false) : -1073741824 ≤ v ∧ v ≤ 1073741824 := by
  have := of_decide_eq_false h; omega
theorem far_any (v : Int) (w : World) : Calls Tryd.prog 65 #[.int .i64 v] w fun e w' => e = .returned (.bool (farB v)) ∧ w = w' := by
  by_cases h : v < -1073741824
  · have HD : Hid (true = farB v) := (decide_eq_true (Or.inl h)).symm
    go_enter Tryd.func65, Tryd.ntmps65
    go_wp2
    go_ret
    exact ⟨ret_bool HD.out, rfl⟩
  · have HD := Lib.hid (show decide (1073741824 < v) = farB v by unfold farB; simp [h])
    go_enter Tryd.func65, Tryd.ntmps65
    go_wp2
    go_ret
    exact ⟨ret_bool HD.out, rfl⟩
structure HM (w : World) (B : Nat) (x y : Int) (s : Int × Int) : Prop where
  size : B + 4 ≤ w.heap.size
  cx : w.cell? ⟨B, 0, none⟩ = some (.int .i64 x)
  cy : w.cell? ⟨B + 1, 0, none⟩ = some (.int .i64 y)
  cb : w.cell? ⟨B + 2, 0, none⟩ = some (.int .i64 s.1)
  cm : w.cell? ⟨B + 3, 0, none⟩ = some (.int .i64 s.2)
  fb : w.frozen? ⟨B + 2, 0, none⟩ = false
  fm : w.frozen? ⟨B + 3, 0, none⟩ = false
theorem HM.set {w : World} {B : Nat} {x y : Int} {s : Int × Int} (h : HM w B x y s) (n : Nat) (d v : Int) :
    HM (((w.drewN n).setCell ⟨B + 2, 0, none⟩ (.int .i64 d)).setCell ⟨B + 3, 0, none⟩ (.int .i64 v)) B x y (d, v) := by
  obtain ⟨hsz, cx, cy, cb, cm, fb, fm⟩ := h
  refine ⟨by simpa using hsz, ?_, ?_, ?_, ?_, by simpa using fb, by simpa using fm⟩
  · rw [World.cell?_setCell_far _ _ _ _ (by show _ ≠ _; simp), World.cell?_setCell_far _ _ _ _ (by show _ ≠ _; simp)]; exact cx
  · rw [World.cell?_setCell_far _ _ _ _ (by show _ ≠ _; simp), World.cell?_setCell_far _ _ _ _ (by show _ ≠ _; simp)]; exact cy
  · rw [World.cell?_setCell_far _ _ _ _ (by show _ ≠ _; simp)]
    exact World.cell?_setCell_same _ _ _ (u := .int .i64 s.1) cb
  · refine World.cell?_setCell_same _ _ _ (u := .int .i64 s.2) ?_
    rw [World.cell?_setCell_far _ _ _ _ (by show _ ≠ _; simp)]; exact cm
theorem HM.drewN {w : World} {B : Nat} {x y : Int} {s : Int × Int} (h : HM w B x y s) (n : Nat) : HM (w.drewN n) B x y s :=
  ⟨h.size, h.cx, h.cy, h.cb, h.cm, h.fb, h.fm⟩
theorem below_drewN (B : Nat) (w : World) (n : Nat) : Below B w (w.drewN n) := ⟨rfl, rfl, rfl, Nat.le_refl _, fun _ _ => rfl⟩
set_option maxHeartbeats 1000000 in
theorem try_any (B : Nat) (x y d : Int) (s : Int × Int) (w : World) (ht : Tab w) (hm : HM w B x y s)
    (hx : -1073741824 ≤ x ∧ x ≤ 1073741824) (hy : -1073741824 ≤ y ∧ y ≤ 1073741824) (h0 : 0 ≤ d) (h1 : d < 256) :
    Calls Tryd.prog 66 #[.int .i64 d, .pointer (some ⟨B, 0, none⟩), .pointer (some ⟨B + 1, 0, none⟩), .pointer (some ⟨B + 3, 0, none⟩), .pointer (some ⟨B + 2, 0, none⟩)] w fun e w' =>
      e = .returned (.tuple #[]) ∧ HM w' B x y (Tr.try1 x y s d) ∧ Below B w w' := by
  have HH := Lib.hid hm
  obtain ⟨b, m⟩ := s
  obtain ⟨hsz, cx, cy, cb, cm, fb, fm⟩ := hm
  simp only at cb cm
  have hb := Tr.vel_bound x y d hx hy h0 h1
  have hcos := fun n => (cos_any (256 * d) _ (ht.drewN n))
  have hsin := fun n => (sin_any (256 * d) _ (ht.drewN n))
  have HC : Hid (Tr.try1 x y (b, m) d = if m < x * Tr.cosA (256 * d) + y * Tr.sinA (256 * d) then (d, x * Tr.cosA (256 * d) + y * Tr.sinA (256 * d)) else (b, m)) := rfl
  replace hb : (-70368744177664 ≤ x * Tr.cosA (256 * d) ∧ x * Tr.cosA (256 * d) ≤ 70368744177664) ∧ (-70368744177664 ≤ y * Tr.sinA (256 * d) ∧ y * Tr.sinA (256 * d) ≤ 70368744177664) := hb
  obtain ⟨c, hc⟩ : ∃ c, Tr.cosA (256 * d) = c := ⟨_, rfl⟩
  obtain ⟨sn, hs⟩ : ∃ c, Tr.sinA (256 * d) = c := ⟨_, rfl⟩
  rw [hc] at hcos hb HC
  rw [hs] at hsin hb HC
  clear hc hs
  obtain ⟨p1, hp1⟩ : ∃ q, x * c = q := ⟨_, rfl⟩
  obtain ⟨p2, hp2⟩ : ∃ q, y * sn = q := ⟨_, rfl⟩
  rw [hp1, hp2] at hb HC
  have hcos' := Lib.hid hcos
  have hsin' := Lib.hid hsin
  clear hcos hsin ht
  by_cases h : m < p1 + p2
  · go_enter Tryd.func66, Tryd.ntmps66
    go_wp2
    go_quiet ((first | (go_at_call 67; exact Calls.quiet_of_same ((hcos'.out _).mono fun _ _ q => ⟨q.1, q.2.symm⟩)) | (go_at_call 68; exact Calls.quiet_of_same ((hsin'.out _).mono fun _ _ q => ⟨q.1, q.2.symm⟩))))
    go_wp2
    go_end0
    exact ⟨rfl, by rw [HC.out, if_pos h]; exact HH.out.set nq d _, ((below_drewN B w nq).setCell (by simp) _).setCell (by simp) _⟩
  · go_enter Tryd.func66, Tryd.ntmps66
    go_wp2
    go_quiet ((first | (go_at_call 67; exact Calls.quiet_of_same ((hcos'.out _).mono fun _ _ q => ⟨q.1, q.2.symm⟩)) | (go_at_call 68; exact Calls.quiet_of_same ((hsin'.out _).mono fun _ _ q => ⟨q.1, q.2.symm⟩))))
    go_wp2
    go_end0
    exact ⟨rfl, by rw [HC.out, if_neg (by omega)]; exact HH.out.drewN nq, below_drewN B w nq⟩
end Go.Proofs.YtbcddiaplpbhjaaDoor.Tg
namespace Go.Proofs.YtbcddiaplpbhjaaDoor.Tg
open Go Go.RowKit
set_option linter.unusedVariables false
theorem heading_far (x y : Int) (w : World) (h : farB x = true ∨ farB y = true) :
    Calls Tryd.prog 36 #[.int .i64 x, .int .i64 y] w fun e w' => e = .returned (.tuple #[.int .i64 0, .int .i64 8]) ∧ Below w.heap.size w w' := by
  have hx := far_any x
  have hy := far_any y
  have HX := Lib.hid hx
  have HY := Lib.hid hy
  clear hx hy
  by_cases h1 : farB x = true
  · go_enter Tryd.func36, Tryd.ntmps36
    go_wp2_with (first | (go_at_call 65; refine (HX.out _).mono ?_; rintro e w' ⟨rfl, rfl⟩))
    go_ret2
    exact ⟨rfl, ((Below.refl _ _).alloc (Nat.le_refl _) _).alloc (by simp) _⟩
  · have h1' : farB x = false := by simpa using h1
    have h2 : farB y = true := h.resolve_left h1
    clear h1 h
    go_enter Tryd.func36, Tryd.ntmps36
    go_wp2_with (first | (go_at_call 65; (first | (with_reducible refine (HX.out _).mono ?_) | (with_reducible refine (HY.out _).mono ?_)); rintro e w' ⟨rfl, rfl⟩))
    go_ret2
    exact ⟨rfl, ((Below.refl _ _).alloc (Nat.le_refl _) _).alloc (by simp) _⟩
def own4 (w : World) (x y : Int) : World := (((w.alloc (.cells #[.int .i64 x] 2)).alloc (.cells #[.int .i64 y] 2)).alloc (.cells #[.int .i64 0] 2)).alloc (.cells #[.int .i64 (-9223372036854775808)] 2)
theorem own4_hm (w : World) (x y : Int) : HM (own4 w x y) w.heap.size x y Tr.init := by
  unfold own4 Tr.init
  refine ⟨by simp, ?_, ?_, ?_, ?_, ?_, ?_⟩
  · rw [World.cell?_alloc_past _ _ _ (by simp <;> omega), World.cell?_alloc_past _ _ _ (by simp <;> omega), World.cell?_alloc_past _ _ _ (by simp), World.cell?_alloc_at _ _ _ _ rfl]; rfl
  · rw [World.cell?_alloc_past _ _ _ (by simp <;> omega), World.cell?_alloc_past _ _ _ (by simp), World.cell?_alloc_at _ _ _ _ (by simp)]; rfl
  · rw [World.cell?_alloc_past _ _ _ (by simp), World.cell?_alloc_at _ _ _ _ (by simp)]; rfl
  · rw [World.cell?_alloc_at _ _ _ _ (by simp)]; rfl
  · rw [World.frozen?_alloc_past _ _ _ (by simp), World.frozen?_alloc_at _ _ _ _ (by simp)]
  · rw [World.frozen?_alloc_at _ _ _ _ (by simp)]
theorem own4_below (w : World) (x y : Int) : Below w.heap.size w (own4 w x y) :=
  ((((Below.refl _ _).alloc (Nat.le_refl _) _).alloc (by simp) _).alloc (by simp; omega) _).alloc (by simp; omega) _
theorem HM.steps {w' : World} {B : Nat} {x y F : Int} {s0 : Int × Int} {k : Nat} {d : Int} (h : HM w' B x y (Tr.try1 x y (Tr.tries x y k F s0) d)) (hd : d = F + k) : HM w' B x y (Tr.tries x y (k + 1) F s0) := by
  rw [Tr.tries_succ, ← hd]; exact h
set_option maxRecDepth 100000 in
set_option maxHeartbeats 1000000 in
theorem heading_1 (x y : Int) (w : World) (ht : Tab w) (h1 : farB x = false) (h2 : farB y = false) (q : x < 0) (q' : 0 ≤ y) :
    Calls Tryd.prog 36 #[.int .i64 x, .int .i64 y] w fun e w' => e = .returned (.tuple #[.int .i64 (Tr.headP x y), .int .i64 0]) ∧ Below w.heap.size w w' := by
  have HX := Lib.hid (far_any x)
  have HY := Lib.hid (far_any y)
  have hbx := farB_false h1
  have hby := farB_false h2
  have HT := Lib.hid ht
  have HH := Lib.hid (own4_hm w x y)
  have HB := Lib.hid (own4_below w x y)
  clear ht
  have hmf : ∀ (fn : Fn) (first cap : Array Value) (w : World), (Instr.makeFunc fn first cap).run Tryd.prog w = .ok (.func fn first cap) w := fun _ _ _ _ => rfl
  go_enter Tryd.func36, Tryd.ntmps36
  go_wp2_with (first | (go_at_call 65; (first | (with_reducible refine (HX.out _).mono ?_) | (with_reducible refine (HY.out _).mono ?_)); rintro e w' ⟨rfl, rfl⟩))
  go_loopw [10] (fun d wr => ∃ k : Nat, k ≤ 65 ∧ d = .int .i64 (64 + k) ∧ Hid (HM wr w.heap.size x y (Tr.tries x y k 64 Tr.init)) ∧ Hid (Below w.heap.size w wr)) (fun d _ => (64 + 65 - intOf d).toNat)
  case atStart => exact ⟨0, by omega, rfl, HH.out, HB.out⟩
  case round =>
    obtain ⟨k, hk, rfl, H1, H2⟩ := hrel
    by_cases hlt : k < 65
    · go_wp2_with (first | (go_at_call 66; refine (try_any w.heap.size x y _ _ _ (HT.out.below H2.out) H1.out hbx hby (by omega) (by omega)).mono ?_; rintro e w' ⟨rfl, H3, H4⟩; have H5 := Lib.hid H3; have H6 := Lib.hid H4; clear H3 H4))
      go_roundw
      case rel => exact ⟨k + 1, by omega, by go_num, H5.out.steps (by omega), H2.out.trans H6.out⟩
      case measure => simp [intOf]; omega
    · obtain rfl : k = 65 := by omega
      have hcb := H1.out.cb
      have HF := Lib.hid (show (Tr.tries x y 65 64 Tr.init).1 = Tr.headP x y by unfold Tr.headP; rw [if_pos ⟨q, q'⟩])
      rw [HF.out] at hcb
      clear H1
      go_wp2
      go_ret2
      exact ⟨rfl, H2.out⟩
set_option maxRecDepth 100000 in
set_option maxHeartbeats 1000000 in
theorem heading_2a (x y : Int) (w : World) (ht : Tab w) (h1 : farB x = false) (h2 : farB y = false) (q0 : x < 0) (q' : y < 0) :
    Calls Tryd.prog 36 #[.int .i64 x, .int .i64 y] w fun e w' => e = .returned (.tuple #[.int .i64 (Tr.headP x y), .int .i64 0]) ∧ Below w.heap.size w w' := by
  have HX := Lib.hid (far_any x)
  have HY := Lib.hid (far_any y)
  have hbx := farB_false h1
  have hby := farB_false h2
  have HT := Lib.hid ht
  have HH := Lib.hid (own4_hm w x y)
  have HB := Lib.hid (own4_below w x y)
  clear ht
  have hmf : ∀ (fn : Fn) (first cap : Array Value) (w : World), (Instr.makeFunc fn first cap).run Tryd.prog w = .ok (.func fn first cap) w := fun _ _ _ _ => rfl
  go_enter Tryd.func36, Tryd.ntmps36
  go_wp2_with (first | (go_at_call 65; (first | (with_reducible refine (HX.out _).mono ?_) | (with_reducible refine (HY.out _).mono ?_)); rintro e w' ⟨rfl, rfl⟩))
  go_loopw [10] (fun d wr => ∃ k : Nat, k ≤ 65 ∧ d = .int .i64 (128 + k) ∧ Hid (HM wr w.heap.size x y (Tr.tries x y k 128 Tr.init)) ∧ Hid (Below w.heap.size w wr)) (fun d _ => (128 + 65 - intOf d).toNat)
  case atStart => exact ⟨0, by omega, rfl, HH.out, HB.out⟩
  case round =>
    obtain ⟨k, hk, rfl, H1, H2⟩ := hrel
    by_cases hlt : k < 65
    · go_wp2_with (first | (go_at_call 66; refine (try_any w.heap.size x y _ _ _ (HT.out.below H2.out) H1.out hbx hby (by omega) (by omega)).mono ?_; rintro e w' ⟨rfl, H3, H4⟩; have H5 := Lib.hid H3; have H6 := Lib.hid H4; clear H3 H4))
      go_roundw
      case rel => exact ⟨k + 1, by omega, by go_num, H5.out.steps (by omega), H2.out.trans H6.out⟩
      case measure => simp [intOf]; omega
    · obtain rfl : k = 65 := by omega
      have hcb := H1.out.cb
      have HF := Lib.hid (show (Tr.tries x y 65 128 Tr.init).1 = Tr.headP x y by unfold Tr.headP; rw [if_neg (by omega), if_pos ⟨by omega, q'⟩])
      rw [HF.out] at hcb
      clear H1
      go_wp2
      go_ret2
      exact ⟨rfl, H2.out⟩
set_option maxRecDepth 100000 in
set_option maxHeartbeats 1000000 in
theorem heading_2b (x y : Int) (w : World) (ht : Tab w) (h1 : farB x = false) (h2 : farB y = false) (q : x ≤ 0) (q0 : 0 ≤ x) (q' : y < 0) :
    Calls Tryd.prog 36 #[.int .i64 x, .int .i64 y] w fun e w' => e = .returned (.tuple #[.int .i64 (Tr.headP x y), .int .i64 0]) ∧ Below w.heap.size w w' := by
  have HX := Lib.hid (far_any x)
  have HY := Lib.hid (far_any y)
  have hbx := farB_false h1
  have hby := farB_false h2
  have HT := Lib.hid ht
  have HH := Lib.hid (own4_hm w x y)
  have HB := Lib.hid (own4_below w x y)
  clear ht
  have hmf : ∀ (fn : Fn) (first cap : Array Value) (w : World), (Instr.makeFunc fn first cap).run Tryd.prog w = .ok (.func fn first cap) w := fun _ _ _ _ => rfl
  go_enter Tryd.func36, Tryd.ntmps36
  go_wp2_with (first | (go_at_call 65; (first | (with_reducible refine (HX.out _).mono ?_) | (with_reducible refine (HY.out _).mono ?_)); rintro e w' ⟨rfl, rfl⟩))
  go_loopw [10] (fun d wr => ∃ k : Nat, k ≤ 65 ∧ d = .int .i64 (128 + k) ∧ Hid (HM wr w.heap.size x y (Tr.tries x y k 128 Tr.init)) ∧ Hid (Below w.heap.size w wr)) (fun d _ => (128 + 65 - intOf d).toNat)
  case atStart => exact ⟨0, by omega, rfl, HH.out, HB.out⟩
  case round =>
    obtain ⟨k, hk, rfl, H1, H2⟩ := hrel
    by_cases hlt : k < 65
    · go_wp2_with (first | (go_at_call 66; refine (try_any w.heap.size x y _ _ _ (HT.out.below H2.out) H1.out hbx hby (by omega) (by omega)).mono ?_; rintro e w' ⟨rfl, H3, H4⟩; have H5 := Lib.hid H3; have H6 := Lib.hid H4; clear H3 H4))
      go_roundw
      case rel => exact ⟨k + 1, by omega, by go_num, H5.out.steps (by omega), H2.out.trans H6.out⟩
      case measure => simp [intOf]; omega
    · obtain rfl : k = 65 := by omega
      have hcb := H1.out.cb
      have HF := Lib.hid (show (Tr.tries x y 65 128 Tr.init).1 = Tr.headP x y by unfold Tr.headP; rw [if_neg (by omega), if_pos ⟨q, q'⟩])
      rw [HF.out] at hcb
      clear H1
      go_wp2
      go_ret2
      exact ⟨rfl, H2.out⟩
set_option maxRecDepth 100000 in
set_option maxHeartbeats 1000000 in
theorem heading_4a (x y : Int) (w : World) (ht : Tab w) (h1 : farB x = false) (h2 : farB y = false) (q : 0 ≤ x) (q0 : x ≤ 0) (q' : 0 ≤ y) :
    Calls Tryd.prog 36 #[.int .i64 x, .int .i64 y] w fun e w' => e = .returned (.tuple #[.int .i64 (Tr.headP x y), .int .i64 0]) ∧ Below w.heap.size w w' := by
  have HX := Lib.hid (far_any x)
  have HY := Lib.hid (far_any y)
  have hbx := farB_false h1
  have hby := farB_false h2
  have HT := Lib.hid ht
  have HH := Lib.hid (own4_hm w x y)
  have HB := Lib.hid (own4_below w x y)
  clear ht
  have hmf : ∀ (fn : Fn) (first cap : Array Value) (w : World), (Instr.makeFunc fn first cap).run Tryd.prog w = .ok (.func fn first cap) w := fun _ _ _ _ => rfl
  go_enter Tryd.func36, Tryd.ntmps36
  go_wp2_with (first | (go_at_call 65; (first | (with_reducible refine (HX.out _).mono ?_) | (with_reducible refine (HY.out _).mono ?_)); rintro e w' ⟨rfl, rfl⟩))
  go_loopw [10] (fun d wr => ∃ k : Nat, k ≤ 65 ∧ d = .int .i64 (0 + k) ∧ Hid (HM wr w.heap.size x y (Tr.tries x y k 0 Tr.init)) ∧ Hid (Below w.heap.size w wr)) (fun d _ => (0 + 65 - intOf d).toNat)
  case atStart => exact ⟨0, by omega, rfl, HH.out, HB.out⟩
  case round =>
    obtain ⟨k, hk, rfl, H1, H2⟩ := hrel
    by_cases hlt : k < 65
    · go_wp2_with (first | (go_at_call 66; refine (try_any w.heap.size x y _ _ _ (HT.out.below H2.out) H1.out hbx hby (by omega) (by omega)).mono ?_; rintro e w' ⟨rfl, H3, H4⟩; have H5 := Lib.hid H3; have H6 := Lib.hid H4; clear H3 H4))
      go_roundw
      case rel => exact ⟨k + 1, by omega, by go_num, H5.out.steps (by omega), H2.out.trans H6.out⟩
      case measure => simp [intOf]; omega
    · obtain rfl : k = 65 := by omega
      have hcb := H1.out.cb
      have HF := Lib.hid (show (Tr.tries x y 65 0 Tr.init).1 = Tr.headP x y by unfold Tr.headP; rw [if_neg (by omega), if_neg (by omega), if_neg (by omega)])
      rw [HF.out] at hcb
      clear H1
      go_wp2
      go_ret2
      exact ⟨rfl, H2.out⟩
set_option maxRecDepth 100000 in
set_option maxHeartbeats 1000000 in
theorem heading_4b (x y : Int) (w : World) (ht : Tab w) (h1 : farB x = false) (h2 : farB y = false) (q : 0 < x) (q' : 0 ≤ y) :
    Calls Tryd.prog 36 #[.int .i64 x, .int .i64 y] w fun e w' => e = .returned (.tuple #[.int .i64 (Tr.headP x y), .int .i64 0]) ∧ Below w.heap.size w w' := by
  have HX := Lib.hid (far_any x)
  have HY := Lib.hid (far_any y)
  have hbx := farB_false h1
  have hby := farB_false h2
  have HT := Lib.hid ht
  have HH := Lib.hid (own4_hm w x y)
  have HB := Lib.hid (own4_below w x y)
  clear ht
  have hmf : ∀ (fn : Fn) (first cap : Array Value) (w : World), (Instr.makeFunc fn first cap).run Tryd.prog w = .ok (.func fn first cap) w := fun _ _ _ _ => rfl
  go_enter Tryd.func36, Tryd.ntmps36
  go_wp2_with (first | (go_at_call 65; (first | (with_reducible refine (HX.out _).mono ?_) | (with_reducible refine (HY.out _).mono ?_)); rintro e w' ⟨rfl, rfl⟩))
  go_loopw [10] (fun d wr => ∃ k : Nat, k ≤ 65 ∧ d = .int .i64 (0 + k) ∧ Hid (HM wr w.heap.size x y (Tr.tries x y k 0 Tr.init)) ∧ Hid (Below w.heap.size w wr)) (fun d _ => (0 + 65 - intOf d).toNat)
  case atStart => exact ⟨0, by omega, rfl, HH.out, HB.out⟩
  case round =>
    obtain ⟨k, hk, rfl, H1, H2⟩ := hrel
    by_cases hlt : k < 65
    · go_wp2_with (first | (go_at_call 66; refine (try_any w.heap.size x y _ _ _ (HT.out.below H2.out) H1.out hbx hby (by omega) (by omega)).mono ?_; rintro e w' ⟨rfl, H3, H4⟩; have H5 := Lib.hid H3; have H6 := Lib.hid H4; clear H3 H4))
      go_roundw
      case rel => exact ⟨k + 1, by omega, by go_num, H5.out.steps (by omega), H2.out.trans H6.out⟩
      case measure => simp [intOf]; omega
    · obtain rfl : k = 65 := by omega
      have hcb := H1.out.cb
      have HF := Lib.hid (show (Tr.tries x y 65 0 Tr.init).1 = Tr.headP x y by unfold Tr.headP; rw [if_neg (by omega), if_neg (by omega), if_neg (by omega)])
      rw [HF.out] at hcb
      clear H1
      go_wp2
      go_ret2
      exact ⟨rfl, H2.out⟩
set_option maxRecDepth 100000 in
set_option maxHeartbeats 1000000 in
theorem heading_3 (x y : Int) (w : World) (ht : Tab w) (h1 : farB x = false) (h2 : farB y = false) (q : 0 < x) (q' : y < 0) :
    Calls Tryd.prog 36 #[.int .i64 x, .int .i64 y] w fun e w' => e = .returned (.tuple #[.int .i64 (Tr.headP x y), .int .i64 0]) ∧ Below w.heap.size w w' := by
  have HX := Lib.hid (far_any x)
  have HY := Lib.hid (far_any y)
  have hbx := farB_false h1
  have hby := farB_false h2
  have HT := Lib.hid ht
  have HH := Lib.hid (own4_hm w x y)
  have HB := Lib.hid (own4_below w x y)
  clear ht
  have hmf : ∀ (fn : Fn) (first cap : Array Value) (w : World), (Instr.makeFunc fn first cap).run Tryd.prog w = .ok (.func fn first cap) w := fun _ _ _ _ => rfl
  go_enter Tryd.func36, Tryd.ntmps36
  go_wp2_with (first | (go_at_call 65; (first | (with_reducible refine (HX.out _).mono ?_) | (with_reducible refine (HY.out _).mono ?_)); rintro e w' ⟨rfl, rfl⟩) | (go_at_call 66; refine (try_any w.heap.size x y 0 Tr.init _ (HT.out.below HB.out) HH.out hbx hby (by omega) (by omega)).mono ?_; rintro e w1 ⟨rfl, H3, H4⟩; have H7 := Lib.hid H3; have H8 := Lib.hid H4; clear H3 H4))
  go_loopw [10] (fun d wr => ∃ k : Nat, k ≤ 64 ∧ d = .int .i64 (192 + k) ∧ Hid (HM wr w.heap.size x y (Tr.tries x y k 192 (Tr.try1 x y Tr.init 0))) ∧ Hid (Below w.heap.size w wr)) (fun d _ => (192 + 64 - intOf d).toNat)
  case atStart => exact ⟨0, by omega, rfl, H7.out, HB.out.trans H8.out⟩
  case round =>
    obtain ⟨k, hk, rfl, H1, H2⟩ := hrel
    by_cases hlt : k < 64
    · go_wp2_with (first | (go_at_call 66; refine (try_any w.heap.size x y _ _ _ (HT.out.below H2.out) H1.out hbx hby (by omega) (by omega)).mono ?_; rintro e w' ⟨rfl, H3, H4⟩; have H5 := Lib.hid H3; have H6 := Lib.hid H4; clear H3 H4))
      go_roundw
      case rel => exact ⟨k + 1, by omega, by go_num, H5.out.steps (by omega), H2.out.trans H6.out⟩
      case measure => simp [intOf]; omega
    · obtain rfl : k = 64 := by omega
      have hcb := H1.out.cb
      have HF := Lib.hid (show (Tr.tries x y 64 192 (Tr.try1 x y Tr.init 0)).1 = Tr.headP x y by unfold Tr.headP; rw [if_neg (by omega), if_neg (by omega), if_pos q'])
      rw [HF.out] at hcb
      clear H1
      go_wp2
      go_ret2
      exact ⟨rfl, H2.out⟩
theorem heading_any (x y : Int) (w : World) (ht : Tab w) (h1 : farB x = false) (h2 : farB y = false) :
    Calls Tryd.prog 36 #[.int .i64 x, .int .i64 y] w fun e w' => e = .returned (.tuple #[.int .i64 (Tr.headP x y), .int .i64 0]) ∧ Below w.heap.size w w' := by
  by_cases q : 0 ≤ y
  · by_cases p : x < 0
    · exact heading_1 x y w ht h1 h2 p q
    · by_cases r : x ≤ 0
      · exact heading_4a x y w ht h1 h2 (by omega) r q
      · exact heading_4b x y w ht h1 h2 (by omega) q
  · by_cases p : x ≤ 0
    · by_cases r : x < 0
      · exact heading_2a x y w ht h1 h2 r (by omega)
      · exact heading_2b x y w ht h1 h2 p (by omega) (by omega)
    · exact heading_3 x y w ht h1 h2 (by omega) (by omega)
end Go.Proofs.YtbcddiaplpbhjaaDoor.Tg
namespace Go.Proofs.YtbcddiaplpbhjaaDoor.Tr
open Go Go.RowKit
set_option linter.unusedVariables false
end Go.Proofs.YtbcddiaplpbhjaaDoor.Tr
namespace Go.Proofs.YtbcddiaplpbhjaaDoor.Tg
open Go Go.RowKit
set_option linter.unusedVariables false
theorem rnorm_any (a : Int) (w : World) : Calls Tryd.prog 32 #[.int .i64 a] w fun e w' => e = .returned (.int .i64 (Tr.nrm a)) ∧ w = w' := by
  obtain ⟨r, hr⟩ : ∃ r, a.tmod 65536 = r := ⟨_, rfl⟩
  have hrr : (0 ≤ a ∧ r = a % 65536) ∨ (a < 0 ∧ r = -((-a) % 65536)) := by
    by_cases h : 0 ≤ a
    · exact Or.inl ⟨h, by rw [← hr, Tr.tmod_pos _ _ h]⟩
    · exact Or.inr ⟨by omega, by rw [← hr, Tr.tmod_neg _ _ (by omega)]⟩
  have hn : (r < 0 → r + 65536 = Tr.nrm a) ∧ (0 ≤ r → r = Tr.nrm a) := by unfold Tr.nrm; omega
  have hb : -65536 < r ∧ r < 65536 := by omega
  clear hrr
  have HN := Lib.hid hn
  clear hn
  by_cases h : r < 0
  · go_enter Tryd.func32, Tryd.ntmps32
    go_wp2
    go_ret
    exact ⟨ret_int (HN.out.1 h), rfl⟩
  · go_enter Tryd.func32, Tryd.ntmps32
    go_wp2
    go_ret
    exact ⟨ret_int (HN.out.2 (by omega)), rfl⟩
structure TabR (w : World) : Prop where
  size : 1 < w.heap.size
  quarter : ∀ i : Nat, i < 65 → w.cell? ⟨1, i, none⟩ = some (.int .i64 (Tr.tab.getD i 0))
theorem TabR.below {w w' : World} (h : TabR w) (hb : Below w.heap.size w w') : TabR w' := by
  have hs := h.size
  refine ⟨by have := hb.size; omega, fun i hi => ?_⟩
  rw [hb.cell (p := ⟨1, i, none⟩) (show 1 < w.heap.size from hs)]
  exact h.quarter i hi
theorem TabR.at {w : World} (h : TabR w) (i : Int) (h0 : 0 ≤ i) (h1 : i < 65) : w.cell? ⟨1, i.toNat, none⟩ = some (.int .i64 (Tr.at_ i)) :=
  h.quarter i.toNat (by omega)
theorem TabR.drewN {w : World} (h : TabR w) (n : Nat) : TabR (w.drewN n) := ⟨h.size, h.quarter⟩
theorem first_top (w : World) (ht : TabR w) : Calls Tryd.prog 74 #[.int .i64 16384] w fun e w' => e = .returned (.int .i64 65536) ∧ ∃ n, w' = w.drewN n := by
  have hc := ht.quarter 64 (by omega)
  have e : Tr.tab.getD 64 0 = 65536 := rfl
  rw [e] at hc
  go_enter Tryd.func74, Tryd.ntmps74
  go_wp2
  go_ret
  exact ⟨rfl, 0, rfl⟩
theorem first_low (r : Int) (w : World) (ht : TabR w) (h0 : 0 ≤ r) (h1 : r < 16384) : Calls Tryd.prog 74 #[.int .i64 r] w fun e w' => e = .returned (.int .i64 (Tr.core r)) ∧ ∃ n, w' = w.drewN n := by
  have hc := ht.at (r / 256) (by omega) (by omega)
  have hc1 := ht.at (r / 256 + 1) (by omega) (by omega)
  have hv0 := Tr.at_bound (r / 256) (by omega) (by omega)
  have hv1 := Tr.at_bound (r / 256 + 1) (by omega) (by omega)
  have hle := (Tr.at_rise (r / 256) (by omega) (by omega)).1
  have hm := Tr.part_range (Tr.at_ (r / 256 + 1) - Tr.at_ (r / 256)) (r % 256) (by omega) (by omega) (by omega)
  have HC : Hid (Tr.core r = Tr.at_ (r / 256) + (Tr.at_ (r / 256 + 1) - Tr.at_ (r / 256)) * (r % 256) / 256) := rfl
  obtain ⟨v, hv⟩ : ∃ v, Tr.at_ (r / 256) = v := ⟨_, rfl⟩
  obtain ⟨v1, hvv⟩ : ∃ v, Tr.at_ (r / 256 + 1) = v := ⟨_, rfl⟩
  rw [hv, hvv] at hm HC hle
  rw [hv] at hc hv0
  rw [hvv] at hc1 hv1
  obtain ⟨m, hmm⟩ : ∃ m, (v1 - v) * (r % 256) = m := ⟨_, rfl⟩
  rw [hmm] at hm HC
  have hne : ((r : Int) == 16384) = false := by simp; omega
  clear hv hvv ht
  go_enter Tryd.func74, Tryd.ntmps74
  go_wp2
  go_quiet (fail)
  go_wp2
  go_ret
  exact ⟨ret_int HC.out.symm, _, rfl⟩
theorem first_any (r : Int) (w : World) (ht : TabR w) (h0 : 0 ≤ r) (h1 : r ≤ 16384) : Calls Tryd.prog 74 #[.int .i64 r] w fun e w' => e = .returned (.int .i64 (Tr.core r)) ∧ ∃ n, w' = w.drewN n := by
  by_cases h : r = 16384
  · subst h; rw [Tr.core_top]; exact first_top w ht
  · exact first_low r w ht h0 (by omega)
theorem rsin_any (a : Int) (w : World) (ht : TabR w) : Calls Tryd.prog 49 #[.int .i64 a] w fun e w' => e = .returned (.int .i64 (Tr.sinA a)) ∧ ∃ n, w' = w.drewN n := by
  have hr := Tr.nrm_range a
  have HN := Lib.hid (rnorm_any a)
  have HF := Lib.hid (fun r h0 h1 => first_any r w ht h0 h1)
  have HS : Hid (Tr.sinA a = Tr.sinP (Tr.nrm a)) := rfl
  obtain ⟨p, hp⟩ : ∃ p, Tr.nrm a = p := ⟨_, rfl⟩
  rw [hp] at hr HN HS
  clear hp ht
  by_cases q1 : p < 16384
  · have HQ := Lib.hid (Tr.sinP_1 p hr.1 (by omega))
    go_enter Tryd.func49, Tryd.ntmps49
    go_wp2_with (first | (go_at_call 32; refine (HN.out _).mono ?_; rintro e w' ⟨rfl, rfl⟩) | (go_at_call 74; refine (HF.out _ (by omega) (by omega)).mono ?_; rintro e w' ⟨rfl, n, rfl⟩))
    go_ret
    exact ⟨ret_int (by rw [HS.out, HQ.out]), _, rfl⟩
  · by_cases q2 : p < 32768
    · have HQ := Lib.hid (Tr.sinP_2 p (by omega) q2)
      go_enter Tryd.func49, Tryd.ntmps49
      go_wp2_with (first | (go_at_call 32; refine (HN.out _).mono ?_; rintro e w' ⟨rfl, rfl⟩) | (go_at_call 74; refine (HF.out _ (by omega) (by omega)).mono ?_; rintro e w' ⟨rfl, n, rfl⟩))
      go_ret
      exact ⟨ret_int (by rw [HS.out, HQ.out]), _, rfl⟩
    · by_cases q3 : p < 49152
      · have HQ := Lib.hid (Tr.sinP_3 p (by omega) q3)
        have hb := Tr.core_bound (p - 32768) (by omega) (by omega)
        go_enter Tryd.func49, Tryd.ntmps49
        go_wp2_with (first | (go_at_call 32; refine (HN.out _).mono ?_; rintro e w' ⟨rfl, rfl⟩) | (go_at_call 74; refine (HF.out _ (by omega) (by omega)).mono ?_; rintro e w' ⟨rfl, n, rfl⟩))
        go_ret
        exact ⟨ret_int (by rw [HS.out, HQ.out]), _, rfl⟩
      · have HQ := Lib.hid (Tr.sinP_4 p (by omega) (by omega))
        have hb := Tr.core_bound (65536 - p) (by omega) (by omega)
        go_enter Tryd.func49, Tryd.ntmps49
        go_wp2_with (first | (go_at_call 32; refine (HN.out _).mono ?_; rintro e w' ⟨rfl, rfl⟩) | (go_at_call 74; refine (HF.out _ (by omega) (by omega)).mono ?_; rintro e w' ⟨rfl, n, rfl⟩))
        go_ret
        exact ⟨ret_int (by rw [HS.out, HQ.out]), _, rfl⟩
theorem rcos_any (a : Int) (w : World) (ht : TabR w) : Calls Tryd.prog 48 #[.int .i64 a] w fun e w' => e = .returned (.int .i64 (Tr.cosA a)) ∧ ∃ n, w' = w.drewN n := by
  have hr := Tr.nrm_range a
  have HN := Lib.hid (rnorm_any a)
  have HS := Lib.hid (rsin_any (Tr.nrm a + 16384))
  have HP : Hid (Tr.cosA a = Tr.sinA (Tr.nrm a + 16384)) := rfl
  obtain ⟨p, hp⟩ : ∃ p, Tr.nrm a = p := ⟨_, rfl⟩
  rw [hp] at hr HN HP HS
  clear hp
  go_enter Tryd.func48, Tryd.ntmps48
  go_wp2_with (first | (go_at_call 32; refine (HN.out _).mono ?_; rintro e w' ⟨rfl, rfl⟩) | (go_at_call 49; refine (HS.out _ ht).mono ?_; rintro e w' ⟨rfl, n, rfl⟩))
  go_ret
  exact ⟨ret_int HP.out.symm, _, rfl⟩
end Go.Proofs.YtbcddiaplpbhjaaDoor.Tg
namespace Go.Proofs.YtbcddiaplpbhjaaDoor.Tg
open Go Go.RowKit
set_option linter.unusedVariables false
theorem vel_wrap (x y d : Int) (hx : -1073741824 ≤ x ∧ x ≤ 1073741824) (hy : -1073741824 ≤ y ∧ y ≤ 1073741824) (h0 : 0 ≤ d) (h1 : d < 256) :
    wrap64 (wrap64 (x * Tr.cosA (256 * d)) + wrap64 (y * Tr.sinA (256 * d))) = Tr.vel x y d := by
  have hv : (-70368744177664 ≤ x * Tr.cosA (256 * d) ∧ x * Tr.cosA (256 * d) ≤ 70368744177664) ∧ (-70368744177664 ≤ y * Tr.sinA (256 * d) ∧ y * Tr.sinA (256 * d) ≤ 70368744177664) := Tr.vel_bound x y d hx hy h0 h1
  have e : Tr.vel x y d = x * Tr.cosA (256 * d) + y * Tr.sinA (256 * d) := rfl
  rw [e]
  generalize x * Tr.cosA (256 * d) = p at *
  generalize y * Tr.sinA (256 * d) = q at *
  unfold wrap64; omega
theorem try1_lt (x y b m d : Int) (h : m < Tr.vel x y d) : Tr.try1 x y (b, m) d = (d, Tr.vel x y d) := if_pos h
theorem try1_ge (x y b m d : Int) (h : Tr.vel x y d ≤ m) : Tr.try1 x y (b, m) d = (b, m) := if_neg (by simp only; omega)
set_option maxHeartbeats 1000000 in
set_option maxRecDepth 100000 in
theorem rheading_any (x y : Int) (w : World) (ht : TabR w) (hx : -1073741824 ≤ x ∧ x ≤ 1073741824) (hy : -1073741824 ≤ y ∧ y ≤ 1073741824) :
    Calls Tryd.prog 43 #[.int .i64 x, .int .i64 y] w fun e w' => e = .returned (.int .i64 (Tr.headR x y)) ∧ ∃ n, w' = w.drewN n := by
  have HC := Lib.hid (fun d n => rcos_any d _ (ht.drewN n))
  have HS := Lib.hid (fun d n => rsin_any d _ (ht.drewN n))
  have HC0 := Lib.hid (rcos_any 0 _ ht)
  have HV := Lib.hid (fun d h0 h1 => vel_wrap x y d hx hy h0 h1)
  have HR : Hid (Tr.headR x y = (Tr.tries x y 255 1 (0, Tr.vel x y 0)).1) := rfl
  clear ht
  go_enter Tryd.func43, Tryd.ntmps43
  go_wp2_with (first | (go_at_call 48; refine HC0.out.mono ?_; rintro e w' ⟨rfl, n, rfl⟩) | (go_at_call 49; refine (HS.out _ _).mono ?_; rintro e w' ⟨rfl, m, rfl⟩))
  go_loopw [5, 6, 7] (fun b m d wr => ∃ (k j : Nat) (s : Int × Int), k ≤ 255 ∧ d = .int .i64 (1 + k) ∧ Hid (s = Tr.tries x y k 1 (0, Tr.vel x y 0)) ∧ b = .int .i64 s.1 ∧ m = .int .i64 s.2 ∧ wr = w.drewN j) (fun _ _ d _ => (256 - intOf d).toNat)
  case atStart => exact ⟨0, _, (0, Tr.vel x y 0), by omega, rfl, rfl, rfl, by rw [← HV.out 0 (by omega) (by omega)]; rfl, rfl⟩
  case round =>
    obtain ⟨k, j, ⟨b, m⟩, hk, rfl, H1, rfl, rfl, rfl⟩ := hrel
    by_cases hlt : k < 255
    · have HW := HV.out (1 + k) (by omega) (by omega)
      have HC1 := HC.out (256 * (1 + k))
      have HS1 := HS.out (256 * (1 + k))
      obtain ⟨c, hc⟩ : ∃ c, Tr.cosA (256 * (1 + k)) = c := ⟨_, rfl⟩
      obtain ⟨q, hq⟩ : ∃ c, Tr.sinA (256 * (1 + k)) = c := ⟨_, rfl⟩
      rw [hc] at HC1 HW
      rw [hq] at HS1 HW
      have HC2 := Lib.hid HC1
      have HS2 := Lib.hid HS1
      clear hc hq HC1 HS1
      obtain ⟨p1, hp1⟩ : ∃ p, wrap64 (x * c) = p := ⟨_, rfl⟩
      obtain ⟨p2, hp2⟩ : ∃ p, wrap64 (y * q) = p := ⟨_, rfl⟩
      rw [hp1, hp2] at HW
      obtain ⟨v, hv⟩ : ∃ v, wrap64 (p1 + p2) = v := ⟨_, rfl⟩
      have HVV := Lib.hid (HW.symm.trans hv)
      clear HW
      by_cases hlt2 : m < v
      all_goals
        go_wp2_with (first | (go_at_call 48; refine (HC2.out _).mono ?_; rintro e w' ⟨rfl, n1, rfl⟩) | (go_at_call 49; refine (HS2.out _).mono ?_; rintro e w' ⟨rfl, n2, rfl⟩))
        go_roundw
        case rel =>
          first
          | exact ⟨k + 1, _, (1 + k, v), by omega, by go_num, by show _ = _; rw [Tr.tries_succ, ← H1.out, try1_lt _ _ _ _ _ (by rw [HVV.out]; exact hlt2), HVV.out], rfl, rfl, rfl⟩
          | exact ⟨k + 1, _, (1 + k, wrap64 (p1 + p2)), by omega, by go_num, by show _ = _; rw [Tr.tries_succ, ← H1.out, try1_lt _ _ _ _ _ (by rw [HVV.out]; exact hlt2), HVV.out, hv], rfl, rfl, rfl⟩
          | exact ⟨k + 1, _, (b, m), by omega, by go_num, by show _ = _; rw [Tr.tries_succ, ← H1.out, try1_ge _ _ _ _ _ (by rw [HVV.out]; omega)], rfl, rfl, rfl⟩
        case measure => simp [intOf]; omega
    · obtain rfl : k = 255 := by omega
      go_wp2
      go_ret
      exact ⟨ret_int (by rw [HR.out, ← H1.out]), _, rfl⟩
end Go.Proofs.YtbcddiaplpbhjaaDoor.Tg
namespace Go.Proofs.YtbcddiaplpbhjaaDoor.Tg
open Go Go.RowKit
set_option linter.unusedVariables false
end Go.Proofs.YtbcddiaplpbhjaaDoor.Tg
namespace Go.Proofs.YtbcddiaplpbhjaaDoor.Tg
open Go Go.RowKit Go.ChangeShapes Go.WideShapes Go.ChangeAt
set_option linter.unusedVariables false
theorem own : ownKnob Tryd.prog.godebug = none := by kernel_rfl
theorem arr_reads {H : Type} {enc : TypeId × Value → H} {W : World} {base : Nat} {sp : Nat → Bool} {held : Bool} {fuel : Nat} {T E : TypeId} {n : Nat} {k : IntKind} {cs : Array Value} {p : List MemPlace}
    (hT : Tryd.prog.underlying T = some (.array n E)) (hE : Tryd.prog.underlying E = some (.int k)) (cE : Tryd.prog.cellsOf E = 1) (vals : List Int) (hl : vals.length = n)
    (hd : DataW.trod enc Tryd.prog W base sp held fuel T cs.toList = some (.agg (vals.map fun z => .lit (.int k z)), p)) : ∀ i, i < n → cs[i]? = some (.int k (vals.getD i 0)) := by
  intro i hi
  obtain ⟨xs, m, rfl, hx, hlen, hn, hel⟩ := DataW.trod_array hT hd
  have h1 := hel i hi
  have hxi : i < xs.length := by omega
  rw [cE, Nat.mul_one, List.getElem?_eq_getElem hxi] at h1
  obtain ⟨z, e1, e2, _⟩ := DataW.trod_int hE h1
  simp only [Prod.mk.injEq, DataW.agg.injEq] at hx
  have h2 : (vals.map fun z => (DataW.lit (.int k z) : DataW H))[i]? = (xs.map (·.1))[i]? := by rw [hx.1]
  rw [List.getElem?_map, List.getElem?_map, List.getElem?_eq_getElem hxi, List.getElem?_eq_getElem (show i < vals.length by omega), e2] at h2
  simp only [Option.map_some, Option.some.injEq, DataW.lit.injEq, Lit.int.injEq, true_and] at h2
  have h3 : (cs.toList.drop i)[0]? = some (.int k z) := by
    have : ((cs.toList.drop i).take 1)[0]? = some (.int k z) := by rw [e1]; rfl
    rwa [List.getElem?_take_of_lt (by omega)] at this
  rw [List.getElem?_drop, Nat.add_zero, Array.getElem?_toList] at h3
  have h4 : vals.getD i 0 = vals[i]'(show i < vals.length by omega) := by rw [List.getD_eq_getElem?_getD, List.getElem?_eq_getElem (show i < vals.length by omega)]; rfl
  rw [h3, ← h2]
  exact congrArg (fun x => some (Value.int k x)) h4.symm
theorem gS : Tryd.prog.globalNamed "bivouac/trig.sines" = some 0 := by kernel_rfl
theorem gQ : Tryd.prog.globalNamed "bivouac/bivouacref03.quarter" = some 1 := by kernel_rfl
theorem tS : (Tryd.prog.globals[0]?).map (·.type) = some 106 := by kernel_rfl
theorem tQ : (Tryd.prog.globals[1]?).map (·.type) = some 112 := by kernel_rfl
theorem c32 : Tryd.prog.cellsOf 21 = 1 := by kernel_rfl
theorem cInt : Tryd.prog.cellsOf 3 = 1 := by kernel_rfl
theorem size_of_cell {w : World} {b o : Nat} {v : Value} (h : w.cell? ⟨b, o, none⟩ = some v) : b < w.heap.size := by
  rcases Nat.lt_or_ge b w.heap.size with h1 | h1
  · exact h1
  · simp [World.cell?, Array.getElem?_eq_none h1] at h
theorem tab_of_cells {W : World} {cs : Array Value} (h2 : 0 < W.heap.size) (hv : W.var? Tryd.prog "bivouac/trig.sines" = some cs) (h : ∀ i, i < 65 → cs[i]? = some (.int .i32 (Tr.tab.getD i 0))) : Tab W :=
  ⟨h2, fun i hi => by rw [World.var?_cell gS hv i]; exact h i hi⟩
theorem tabR_of_cells {W : World} {cs : Array Value} (h2 : 1 < W.heap.size) (hv : W.var? Tryd.prog "bivouac/bivouacref03.quarter" = some cs) (h : ∀ i, i < 65 → cs[i]? = some (.int .i64 (Tr.tab.getD i 0))) : TabR W :=
  ⟨h2, fun i hi => by rw [World.var?_cell gQ hv i]; exact h i hi⟩
def laidS : List (String × DataW Unit) := [("bivouac/trig.sines", Rows.laid_bivouac_trig_sines)]
def laidQS : List (String × DataW Unit) := [("bivouac/bivouacref03.quarter", Rows.laid_bivouac_bivouacref03_quarter), ("bivouac/trig.sines", Rows.laid_bivouac_trig_sines)]
theorem tabs_of_laid {W : World} (h : laidMetH Tryd.prog laidQS W) : Tab W ∧ TabR W := by
  rw [MakeChecks.laidMetH_plain _ _ _ (by kernel_rfl)] at h
  obtain ⟨ps, ⟨g0, t0, cs0, f0, p0, q0, hg0, ht0, hv0, hd0, ⟨g1, t1, cs1, f1, p1, q1, hg1, ht1, hv1, hd1, _, _⟩, _⟩, _, _⟩ := h
  obtain rfl := Option.some.inj (gQ.symm.trans hg0)
  obtain rfl := Option.some.inj (gS.symm.trans hg1)
  obtain rfl := Option.some.inj (tQ.symm.trans ht0)
  obtain rfl := Option.some.inj (tS.symm.trans ht1)
  have a0 := arr_reads Tryd.underlying112 Tryd.underlying3 cInt Tr.tab (by decide) hd0
  have a1 := arr_reads Tryd.underlying106 Tryd.underlying21 c32 Tr.tab (by decide) hd1
  have hs : 1 < W.heap.size := size_of_cell ((World.var?_cell gQ hv0 0).trans (a0 0 (by omega)))
  have hs' : 0 < W.heap.size := size_of_cell ((World.var?_cell gS hv1 0).trans (a1 0 (by omega)))
  exact ⟨tab_of_cells hs' hv1 a1, tabR_of_cells hs hv0 a0⟩
theorem tab_of_laid {W : World} (h : laidMetH Tryd.prog laidS W) : Tab W := by
  rw [MakeChecks.laidMetH_plain _ _ _ (by kernel_rfl)] at h
  obtain ⟨ps, ⟨g1, t1, cs1, f1, p1, q1, hg1, ht1, hv1, hd1, _, _⟩, _, _⟩ := h
  obtain rfl := Option.some.inj (gS.symm.trans hg1)
  obtain rfl := Option.some.inj (tS.symm.trans ht1)
  have a1 := arr_reads Tryd.underlying106 Tryd.underlying21 c32 Tr.tab (by decide) hd1
  exact tab_of_cells (size_of_cell ((World.var?_cell gS hv1 0).trans (a1 0 (by omega)))) hv1 a1
end Go.Proofs.YtbcddiaplpbhjaaDoor.Tg
namespace Go.Proofs.YtbcddiaplpbhjaaDoor
open Go Go.RowKit Go.ChangeShapes Go.WideShapes Go.Proofs.YtbcddiaplpbhjaaDoorW.PrintWords
set_option linter.unusedVariables false
set_option linter.unusedSimpArgs false
inductive Leaf where
  | int (k : IntKind) | bool | other (t : TypeId)
def gleavesF (P : Program) (L : TypeId → Option (List Leaf)) : List Field → Nat → Option (List Leaf)
  | [], _ => some []
  | f :: r, o => if f.offset = o then (match L f.type, gleavesF P L r (o + P.cellsOf f.type) with
    | some a, some b => if a.length = P.cellsOf f.type then some (a ++ b) else none
    | _, _ => none) else none
def gleaves (P : Program) : Nat → TypeId → Option (List Leaf)
  | 0, _ => none
  | n + 1, t => match P.underlying t with
    | some (.int k) => some [.int k]
    | some .bool => some [.bool]
    | some (.struct fs) => (match gleavesF P (gleaves P n) fs.toList 0 with
      | some ks => if ks.length = P.cellsOf t then some ks else none
      | none => none)
    | some (.slice _) => if P.cellsOf t = 1 then some [.other t] else none
    | some .string => if P.cellsOf t = 1 then some [.other t] else none
    | _ => none
section
variable {H : Type} {enc : TypeId × Value → H} {P : Program} {w : World} {base : Nat} {spare : Nat → Bool} {held : Bool}
def gokLeaf (enc : TypeId × Value → H) (P : Program) (w : World) (base : Nat) (spare : Nat → Bool) (held : Bool) : Leaf → Value → Prop
  | .int k, v => ∃ z, v = .int k z ∧ (Lit.int k z).wf = true
  | .bool, v => ∃ b, v = .bool b
  | .other t, v => ∃ m x, DataW.trod enc P w base spare held m t [v] = some x
def gflatOk (enc : TypeId × Value → H) (P : Program) (w : World) (base : Nat) (spare : Nat → Bool) (held : Bool) : List Leaf → List Value → Prop
  | [], [] => True
  | k :: ks, v :: vs => gokLeaf enc P w base spare held k v ∧ gflatOk enc P w base spare held ks vs
  | _, _ => False
theorem gflatOk_append : ∀ (a b : List Leaf) (x y : List Value), gflatOk enc P w base spare held a x → gflatOk enc P w base spare held b y → gflatOk enc P w base spare held (a ++ b) (x ++ y)
  | [], b, [], y, _, h => h
  | _ :: a, b, _ :: x, y, h, h' => ⟨h.1, gflatOk_append a b x y h.2 h'⟩
  | [], _, _ :: _, _, h, _ => h.elim
  | _ :: _, _, [], _, h, _ => h.elim
theorem gflat_fields {n : Nat} (ih : ∀ t ks, gleaves P n t = some ks → ∀ fuel cs x, cs.length = P.cellsOf t → DataW.trod enc P w base spare held fuel t cs = some x → gflatOk enc P w base spare held ks cs)
    (m : Nat) (cs : List Value) : ∀ (fl : List Field) (o : Nat) (ks : List Leaf) (ys : List (DataW H × List MemPlace)), gleavesF P (gleaves P n) fl o = some ks → ys.length = fl.length → o + ks.length ≤ cs.length →
      (∀ (i : Nat) (f : Field), fl[i]? = some f → DataW.trod enc P w base spare held m f.type ((cs.drop f.offset).take (P.cellsOf f.type)) = ys[i]?) →
      gflatOk enc P w base spare held ks ((cs.drop o).take ks.length)
  | [], o, ks, ys, hk, hl, hle, _ => by
    obtain rfl := Option.some.inj (show some [] = some ks from hk)
    exact trivial
  | f :: r, o, ks, [], hk, hl, hle, hf => by simp at hl
  | f :: r, o, ks, y :: ys, hk, hl, hle, hf => by
    unfold gleavesF at hk
    split at hk
    · rename_i ho
      split at hk
      · rename_i a b ha hb
        split at hk
        · rename_i hc
          obtain rfl := Option.some.inj hk
          have h0 := hf 0 f rfl
          rw [List.getElem?_cons_zero] at h0
          rw [List.length_append] at hle
          have h1 := ih _ _ ha _ _ _ (by rw [List.length_take, List.length_drop]; omega) h0
          have g1 := gflat_fields ih m cs r _ b ys hb (by simpa using hl) (by omega) (fun i f' hi => by simpa using hf (i + 1) f' (by simpa using hi))
          subst ho
          rw [List.length_append, List.take_add, List.drop_drop, hc]
          exact gflatOk_append _ _ _ _ h1 g1
        · cases hk
      · cases hk
    · cases hk
theorem gflat_open : ∀ (n : Nat) (t : TypeId) (ks : List Leaf), gleaves P n t = some ks → ∀ (fuel : Nat) (cs : List Value) (x : DataW H × List MemPlace), cs.length = P.cellsOf t → DataW.trod enc P w base spare held fuel t cs = some x →
    gflatOk enc P w base spare held ks cs
  | 0, _, _, hk, _, _, _, _, _ => by cases hk
  | n + 1, t, ks, hk, fuel, cs, x, hlc, h => by
    unfold gleaves at hk
    split at hk
    · rename_i k ht
      obtain rfl := Option.some.inj hk
      obtain ⟨z, rfl, rfl, hw⟩ := DataW.trod_int ht h
      exact ⟨⟨z, rfl, hw⟩, trivial⟩
    · rename_i ht
      obtain rfl := Option.some.inj hk
      obtain ⟨b, rfl, rfl⟩ := DataW.trod_bool ht h
      exact ⟨⟨b, rfl⟩, trivial⟩
    · rename_i fs ht
      split at hk
      · rename_i ks' hks
        split at hk
        · rename_i hlen
          obtain rfl := Option.some.inj hk
          obtain ⟨xs, m, rfl, rfl, hl, hxl, hf⟩ := DataW.trod_struct ht h
          have g1 := gflat_fields (gflat_open n) m cs fs.toList 0 ks' xs hks (by simpa using hxl) (by omega) (fun i f hi => hf i f (by simpa using hi))
          rw [List.drop_zero, List.take_of_length_le (by omega)] at g1
          exact g1
        · cases hk
      · cases hk
    · split at hk
      · rename_i e ht hc
        obtain rfl := Option.some.inj hk
        rw [hc] at hlc
        match cs, hlc with
        | [v], _ => exact ⟨⟨fuel, x, h⟩, trivial⟩
      · cases hk
    · split at hk
      · rename_i ht hc
        obtain rfl := Option.some.inj hk
        rw [hc] at hlc
        match cs, hlc with
        | [v], _ => exact ⟨⟨fuel, x, h⟩, trivial⟩
      · cases hk
    · cases hk
theorem gopen_flat {n : Nat} {ks : List Leaf} {fs : Array Field} {r : Reach} {b0 : Nat} {t : TypeId} {v : Value} {d : DataW H} {p : List MemPlace} (hk : gleaves P n t = some ks) (hs : P.underlying t = some (.struct fs))
    (hv : Value.okWide P w r b0 t v) (h : DataW.Trod enc P w base spare held t v d p) :
    ∃ cs, v = .agg cs ∧ gflatOk enc P w base spare held ks cs.toList := by
  obtain ⟨cs, rfl, hsz⟩ := okWide_struct hs hv
  obtain ⟨fuel, hf⟩ := h
  exact ⟨cs, rfl, gflat_open n t ks hk _ _ _ (by simpa [Value.cells] using hsz) hf⟩
theorem gslice_ints {t e : TypeId} {k : IntKind} {v : Value} {m : Nat} {x : DataW H × List MemPlace} (ht : P.underlying t = some (.slice e)) (he : P.underlying e = some (.int k)) (hc : P.cellsOf e = 1)
    (h : DataW.trod enc P w base spare held m t [v] = some x) :
    ∃ (A : Option Addr) (c : Nat) (l : List Int), v = .slice A l.length c ∧ l.length ≤ c ∧ Kd.C (Kd.int k) w A l.length l ∧ ∀ z ∈ l, (Lit.int k z).wf = true := by
  rcases open_ints ht he hc h with ⟨h1, _⟩ | ⟨a, len, cap, zs, h1, hb, hl, hm, hz, hx, hcell, hwf⟩
  · simp only [List.cons.injEq, and_true] at h1
    exact ⟨none, 0, [], h1, Nat.le_refl _, Kd.C_nil _ _, fun z hz => by cases hz⟩
  · simp only [List.cons.injEq, and_true] at h1
    have hlz : len ≤ zs.length := by rw [hz]; split <;> omega
    refine ⟨some a, cap, zs.take len, ?_, ?_, ?_, fun z hz => hwf z (List.mem_of_mem_take hz)⟩
    · rw [List.length_take, Nat.min_eq_left hlz]; exact h1
    · rw [List.length_take, Nat.min_eq_left hlz]; exact hl
    · refine Kd.C_of_reads (d := (0 : Int)) ⟨rfl, ?_, fun h0 => ⟨a, rfl, fun j hj => ?_⟩⟩
      · rw [List.length_take]; unfold maxLen at hm; omega
      · rw [List.length_take] at hj
        rw [hcell j (by omega)]
        congr 2
        simp only [List.getD_eq_getElem?_getD]
        rw [List.getElem?_take_of_lt (by omega)]
end
end Go.Proofs.YtbcddiaplpbhjaaDoor
namespace Go.Proofs
open Go.Shelf
def Tryd.lays134_ren : Go.Shelf.Ren := ⟨fun | 134 => 101 | 129 => 80 | n => n, fun | 53 => 75 | 3 => 3 | 4 => 4 | 46 => 92 | 5 => 5 | 9 => 9 | n => n, fun | n => n⟩
theorem Tryd.lays134 : Go.Proofs.Lays.n134 Tryd.prog Tryd.lays134_ren := {
  mixed := by kernel_rfl
  f129 := Tryd.func80.trans (congrArg some (by kernel_rfl))
  f134 := Tryd.func101.trans (congrArg some (by kernel_rfl))
  t3 := Tryd.underlying3
  a3 := Tryd.isAgg3
  z3 := Tryd.sizeOf3
  v3 := Tryd.zeroValue3
  t4 := Tryd.underlying4
  a4 := Tryd.isAgg4
  z4 := Tryd.sizeOf4
  v4 := Tryd.zeroValue4
  t5 := Tryd.underlying5
  a5 := Tryd.isAgg5
  z5 := Tryd.sizeOf5
  v5 := Tryd.zeroValue5
  t9 := Tryd.underlying9
  a9 := Tryd.isAgg9
  z9 := Tryd.sizeOf9
  v9 := Tryd.zeroValue9
  t46 := Tryd.underlying92
  a46 := Tryd.isAgg92
  z46 := Tryd.sizeOf92
  v46 := Tryd.zeroValue92
  t53 := Tryd.underlying75
  a53 := Tryd.isAgg75
  z53 := Tryd.sizeOf75
  v53 := Tryd.zeroValue75 }
theorem Tryd.bits_LeadingZeros64 (x : Int) (w : World) (h0 : 0 ≤ x) (h1 : x ≤ 18446744073709551615) :
    Calls Tryd.prog 101 #[.int .u64 x] w fun e w' => e = .returned (.int .i64 (64 - (Lib.bitLen x.toNat : Int))) ∧ w' = w := Any.bits_LeadingZeros64 Tryd.lays134 x w h0 h1
def Tryd.lays129_ren : Go.Shelf.Ren := ⟨fun | 129 => 80 | n => n, fun | 53 => 75 | 3 => 3 | 4 => 4 | 46 => 92 | 5 => 5 | 9 => 9 | n => n, fun | n => n⟩
theorem Tryd.lays129 : Go.Proofs.Lays.n129 Tryd.prog Tryd.lays129_ren := {
  mixed := by kernel_rfl
  f129 := Tryd.func80.trans (congrArg some (by kernel_rfl))
  t3 := Tryd.underlying3
  a3 := Tryd.isAgg3
  z3 := Tryd.sizeOf3
  v3 := Tryd.zeroValue3
  t4 := Tryd.underlying4
  a4 := Tryd.isAgg4
  z4 := Tryd.sizeOf4
  v4 := Tryd.zeroValue4
  t5 := Tryd.underlying5
  a5 := Tryd.isAgg5
  z5 := Tryd.sizeOf5
  v5 := Tryd.zeroValue5
  t9 := Tryd.underlying9
  a9 := Tryd.isAgg9
  z9 := Tryd.sizeOf9
  v9 := Tryd.zeroValue9
  t46 := Tryd.underlying92
  a46 := Tryd.isAgg92
  z46 := Tryd.sizeOf92
  v46 := Tryd.zeroValue92
  t53 := Tryd.underlying75
  a53 := Tryd.isAgg75
  z53 := Tryd.sizeOf75
  v53 := Tryd.zeroValue75 }
theorem Tryd.bits_Len64 (x : Int) (w : World) (h0 : 0 ≤ x) (h1 : x ≤ 18446744073709551615) :
    Calls Tryd.prog 80 #[.int .u64 x] w fun e w' => e = .returned (.int .i64 (Lib.bitLen x.toNat)) ∧ w' = w := Any.bits_Len64 Tryd.lays129 x w h0 h1
def Tryd.lays264_ren : Go.Shelf.Ren := ⟨fun | 264 => 91 | n => n, fun | 53 => 75 | 46 => 92 | n => n, fun | n => n⟩
theorem Tryd.lays264 : Go.Proofs.Lays.n264 Tryd.prog Tryd.lays264_ren := {
  mixed := by kernel_rfl
  f264 := Tryd.func91.trans (congrArg some (by kernel_rfl))
  t46 := Tryd.underlying92
  a46 := Tryd.isAgg92
  z46 := Tryd.sizeOf92
  v46 := Tryd.zeroValue92
  t53 := Tryd.underlying75
  a53 := Tryd.isAgg75
  z53 := Tryd.sizeOf75
  v53 := Tryd.zeroValue75 }
open Go.RowKit Go.Lib in
theorem Tryd.bits_Mul64 (x y : Nat) (hx : x < 18446744073709551616) (hy : y < 18446744073709551616) (w : World) :
    Calls Tryd.prog 91 #[.int .u64 x, .int .u64 y] w fun e w' => e = .returned (.tuple #[.int .u64 ((x * y / 18446744073709551616 : Nat) : Int), .int .u64 ((x * y % 18446744073709551616 : Nat) : Int)]) ∧ w' = w := Any.bits_Mul64 Tryd.lays264 x y hx hy w
end Go.Proofs
namespace Go.Proofs.YtbcddiaplpbhjaaDoor.Dv
open Go Go.RowKit
set_option linter.unusedVariables false
structure Guess (U u y yh yl q rh : Int) : Prop where
  sum : q * yh + rh = U
  q0 : 0 ≤ q
  q1 : q ≤ 4294967297
  rh0 : 0 ≤ rh
  rh1 : rh < 4294967296
  high : (U * 4294967296 + u) / y ≤ q
theorem quo_lt {U u y : Int} (hU0 : 0 ≤ U) (hU : U < y) (hu0 : 0 ≤ u) (hu : u < 4294967296) : (U * 4294967296 + u) / y < 4294967296 := by
  apply Int.ediv_lt_of_lt_mul (by omega)
  omega
theorem quo_nonneg {U u y : Int} (hU0 : 0 ≤ U) (hU : U < y) (hu0 : 0 ≤ u) : 0 ≤ (U * 4294967296 + u) / y := Int.ediv_nonneg (by omega) (by omega)
theorem guess_start {U u y yh yl : Int} (e : y = yh * 4294967296 + yl) (p1 : 2147483648 ≤ yh) (p2 : yh < 4294967296) (p3 : 0 ≤ yl) (p4 : yl < 4294967296) (hU0 : 0 ≤ U) (hU : U < y) (hu0 : 0 ≤ u) (hu : u < 4294967296) :
    Guess U u y yh yl (U / yh) (U - U / yh * yh) := by
  have d1 : U / yh * yh + U % yh = U := by rw [Int.mul_comm]; exact Int.mul_ediv_add_emod U yh
  have d2 : 0 ≤ U % yh := Int.emod_nonneg _ (by omega)
  have d3 : U % yh < yh := Int.emod_lt_of_pos _ (by omega)
  have d4 : 0 ≤ U / yh := Int.ediv_nonneg hU0 (by omega)
  generalize U / yh = q at *
  generalize U % yh = r at *
  refine ⟨by omega, d4, ?_, by omega, by omega, ?_⟩
  · by_cases h : q ≤ 4294967297
    · exact h
    · have h2 : 4294967298 * yh ≤ q * yh := Int.mul_le_mul_of_nonneg_right (by omega) (by omega)
      omega
  · have h3 : (U * 4294967296 + u) / y < q + 1 := by
      apply Int.ediv_lt_of_lt_mul (by omega)
      have h4 : (q + 1) * y = (q + 1) * yh * 4294967296 + (q + 1) * yl := by rw [e, Int.mul_add, Int.mul_assoc]
      have h5 : (q + 1) * yh = q * yh + yh := by rw [Int.add_mul, Int.one_mul]
      have h6 : 0 ≤ (q + 1) * yl := Int.mul_nonneg (by omega) p3
      rw [h4, h5]; omega
    omega
theorem guess_high {U u y yh yl q rh : Int} (hy : 0 < y) (e : y = yh * 4294967296 + yl) (hlt : (U * 4294967296 + u) / y < 4294967296) (g : Guess U u y yh yl q rh) (h : 4294967296 ≤ q ∨ 4294967296 * rh + u < q * yl) : (U * 4294967296 + u) / y ≤ q - 1 := by
  rcases h with h | h
  · omega
  · have h2 : (U * 4294967296 + u) / y < q := by
      apply Int.ediv_lt_of_lt_mul hy
      have h4 : q * y = q * yh * 4294967296 + q * yl := by rw [e, Int.mul_add, Int.mul_assoc]
      have := g.sum
      rw [h4]; omega
    omega
theorem guess_right {U u y yh yl q rh : Int} (hy : 0 < y) (e : y = yh * 4294967296 + yl) (g : Guess U u y yh yl q rh) (h : q * yl ≤ 4294967296 * rh + u) : q = (U * 4294967296 + u) / y := by
  have h1 := g.high
  have h2 : q ≤ (U * 4294967296 + u) / y := by
    apply (Int.le_ediv_iff_mul_le hy).2
    have h4 : q * y = q * yh * 4294967296 + q * yl := by rw [e, Int.mul_add, Int.mul_assoc]
    have := g.sum
    rw [h4]; omega
  omega
theorem guess_next {U u y yh yl q rh : Int} (hyh : 0 < yh) (g : Guess U u y yh yl q rh) (hlow : (U * 4294967296 + u) / y ≤ q - 1) (h0 : 0 ≤ (U * 4294967296 + u) / y) (hr : rh + yh < 4294967296) : Guess U u y yh yl (q - 1) (rh + yh) := by
  obtain ⟨s, a, b, c, d, f⟩ := g
  refine ⟨by rw [Int.sub_mul, Int.one_mul]; omega, by omega, by omega, by omega, by omega, hlow⟩
theorem guess_stop {U u y yh yl q rh : Int} (hy : 0 < y) (e : y = yh * 4294967296 + yl) (hyh : 0 < yh) (hyl0 : 0 ≤ yl) (hyl : yl < 4294967296) (hu0 : 0 ≤ u) (g : Guess U u y yh yl q rh) (hlow : (U * 4294967296 + u) / y ≤ q - 1) (h0 : 0 ≤ (U * 4294967296 + u) / y) (hr : 4294967296 ≤ rh + yh) : q - 1 = (U * 4294967296 + u) / y := by
  obtain ⟨s, a, b, c, d, f⟩ := g
  have h2 : q - 1 ≤ (U * 4294967296 + u) / y := by
    apply (Int.le_ediv_iff_mul_le hy).2
    have h4 : (q - 1) * y = (q - 1) * yh * 4294967296 + (q - 1) * yl := by rw [e, Int.mul_add, Int.mul_assoc]
    have h5 : (q - 1) * yh = q * yh - yh := by rw [Int.sub_mul, Int.one_mul]
    have h6 : (q - 1) * yl ≤ 4294967296 * yl := Int.mul_le_mul_of_nonneg_right (by omega) hyl0
    rw [h4, h5]; omega
  omega
theorem left_over {U u y q : Int} (hy0 : 0 < y) (hy : y < 18446744073709551616) (hq : q = (U * 4294967296 + u) / y) :
    0 ≤ U * 4294967296 + u - q * y ∧ U * 4294967296 + u - q * y < y := by
  have h1 := Int.mul_ediv_add_emod (U * 4294967296 + u) y
  have h2 := Int.emod_nonneg (U * 4294967296 + u) (show y ≠ 0 by omega)
  have h3 := Int.emod_lt_of_pos (U * 4294967296 + u) hy0
  have h4 : y * ((U * 4294967296 + u) / y) = q * y := by rw [hq, Int.mul_comm]
  omega
theorem whole {N y p Q1 Q0 r1 r2 U u1 u0 : Int} (hp : 0 < p) (hy0 : 0 < y) (hN : N * p = U * 18446744073709551616 + u1 * 4294967296 + u0) (h1 : U * 4294967296 + u1 = Q1 * (y * p) + r1) (h2 : r1 * 4294967296 + u0 = Q0 * (y * p) + r2)
    (h3 : 0 ≤ r2) (h4 : r2 < y * p) : Q1 * 4294967296 + Q0 = N / y ∧ r2 / p = N % y := by
  have e : N * p = (Q1 * 4294967296 + Q0) * y * p + r2 := by
    have e1 : (Q1 * 4294967296 + Q0) * y * p = Q1 * (y * p) * 4294967296 + Q0 * (y * p) := by
      rw [Int.mul_assoc, Int.add_mul, Int.mul_assoc, Int.mul_assoc, Int.mul_comm 4294967296]
    rw [hN, e1]; omega
  obtain ⟨Q, hQ⟩ : ∃ z, Q1 * 4294967296 + Q0 = z := ⟨_, rfl⟩
  rw [hQ] at e ⊢
  have e2 : r2 = (N - Q * y) * p := by rw [Int.sub_mul]; omega
  have e3 : 0 ≤ N - Q * y := by
    by_cases h : 0 ≤ N - Q * y
    · exact h
    · have := Int.mul_neg_of_neg_of_pos (show N - Q * y < 0 by omega) hp
      omega
  have e4 : N - Q * y < y := by
    by_cases h : N - Q * y < y
    · exact h
    · have : y * p ≤ (N - Q * y) * p := Int.mul_le_mul_of_nonneg_right (by omega) (by omega)
      omega
  constructor
  · have h5 : N = (N - Q * y) + Q * y := by omega
    rw [h5, Int.add_mul_ediv_right _ _ (by omega), Int.ediv_eq_zero_of_lt e3 e4]; omega
  · rw [e2, Int.mul_ediv_cancel _ (by omega)]
    have h5 : N % y = ((N - Q * y) + Q * y) % y := by congr 1; omega
    rw [h5, Int.add_mul_emod_self_right, Int.emod_eq_of_lt e3 e4]
end Go.Proofs.YtbcddiaplpbhjaaDoor.Dv
namespace Go.Proofs.YtbcddiaplpbhjaaDoor
open Go Go.RowKit
set_option linter.unusedVariables false
theorem div64_low (lo y : Int) (w : World) (h0 : 0 ≤ lo) (h1 : lo ≤ 18446744073709551615) (hy0 : 0 < y) (hy1 : y ≤ 18446744073709551615) :
    Calls Tryd.prog 94 #[.int .u64 0, .int .u64 lo, .int .u64 y] w fun e w' => e = .returned (.tuple #[.int .u64 (lo / y), .int .u64 (lo % y)]) ∧ ∃ n, w' = w.drewN n := by
  have hne : ((y : Int) == 0) = false := by simp; omega
  go_enter Tryd.func94, Tryd.ntmps94
  go_wp2
  go_quiet (fail)
  go_wp2
  go_ret2
  exact ⟨rfl, _, rfl⟩
theorem wrap_u64 (n : Int) : IntKind.u64.wrap n = n % 18446744073709551616 := by simp [IntKind.wrap, IntKind.bits, IntKind.signed]
theorem u64_eq {a b : Int} (h : a = b) : Value.int .u64 a = .int .u64 b := by rw [h]
theorem lz_any (y : Int) (s : Nat) (w : World) (h0 : 0 < y) (h1 : y ≤ 18446744073709551615) (hs : (64 - (Lib.bitLen y.toNat : Int)) = s) :
    Calls Tryd.prog 101 #[.int .u64 y] w fun e w' => e = .returned (.int .i64 s) ∧ w = w' :=
  (Tryd.bits_LeadingZeros64 y w (by omega) h1).mono fun _ _ q => ⟨by rw [← hs]; exact q.1, q.2.symm⟩
theorem start_wrap (U m r : Int) (hm0 : 0 ≤ m) (hm1 : m ≤ 18446744073709551615) (h : r = U - m) (h0 : 0 ≤ r) (h1 : r < 4294967296) : IntKind.u64.wrap (U - IntKind.u64.wrap m) = r := by
  rw [wrap_u64, wrap_u64]; omega
theorem left_wrap (U u P r : Int) (h : U * 4294967296 + u - P = r) (h0 : 0 ≤ r) (h1 : r < 18446744073709551616) : IntKind.u64.wrap (IntKind.u64.wrap (IntKind.u64.wrap (U * 4294967296) + u) - IntKind.u64.wrap P) = r := by
  rw [wrap_u64, wrap_u64, wrap_u64, wrap_u64]; omega
set_option maxHeartbeats 2000000 in
set_option maxRecDepth 100000 in
theorem div64_high (hi lo y : Int) (s : Nat) (w : World) (h0 : 0 ≤ lo) (h1 : lo ≤ 18446744073709551615) (hh0 : 0 < hi) (hh1 : hi < y) (hy1 : y ≤ 18446744073709551615)
    (hs : (64 - (Lib.bitLen y.toNat : Int)) = s) (hs1 : s ≤ 63) (Y : Int) (hY : y * 2 ^ s = Y) (hY0 : 9223372036854775808 ≤ Y) (hY1 : Y ≤ 18446744073709551615)
    (H L U X yh yl u1 u0 : Int) (eH : IntKind.u64.wrap (hi * 2 ^ s) = H) (eL : lo / 2 ^ (64 - s) = L) (eU : bits .or .u64 H L = U) (eX : IntKind.u64.wrap (lo * 2 ^ s) = X)
    (eyh : Y / 4294967296 = yh) (eyl : bits .and .u64 Y 4294967295 = yl) (eu1 : X / 4294967296 = u1) (eu0 : bits .and .u64 X 4294967295 = u0)
    (hU0 : 0 ≤ U) (hU : U < Y) (bh0 : 2147483648 ≤ yh) (bh1 : yh < 4294967296) (bl0 : 0 ≤ yl) (bl1 : yl < 4294967296) (b10 : 0 ≤ u1) (b11 : u1 < 4294967296) (b00 : 0 ≤ u0) (b01 : u0 < 4294967296)
    (hYY : Hid (Y = yh * 4294967296 + yl)) :
    Calls Tryd.prog 94 #[.int .u64 hi, .int .u64 lo, .int .u64 y] w fun e w' => ∃ Q1 Q0 r1 r2, e = .returned (.tuple #[.int .u64 (Q1 * 4294967296 + Q0), .int .u64 (r2 / 2 ^ s)]) ∧ w = w' ∧
      U * 4294967296 + u1 = Q1 * Y + r1 ∧ r1 * 4294967296 + u0 = Q0 * Y + r2 ∧ 0 ≤ r2 ∧ r2 < Y := by
  have HL := Lib.hid (lz_any y s w (by omega) hy1 hs)
  clear hs
  have hne : ((y : Int) == 0) = false := by simp; omega
  have hne2 : ((hi : Int) == 0) = false := by simp; omega
  have HG := Lib.hid (Dv.guess_start (u := u1) hYY.out bh0 bh1 bl0 bl1 hU0 hU b10 b11)
  have HQL := Lib.hid (Dv.quo_lt hU0 hU b10 b11)
  have HQ0 := Lib.hid (Dv.quo_nonneg (u := u1) hU0 hU b10)
  obtain ⟨Q1, hQ1⟩ : ∃ q, (U * 4294967296 + u1) / Y = q := ⟨_, rfl⟩
  have HQ1 := Lib.hid hQ1
  rw [hQ1] at HQL HQ0
  obtain ⟨q, hq⟩ : ∃ q, U / yh = q := ⟨_, rfl⟩
  have hg := HG.out
  rw [hq] at hg
  have hq0 := hg.q0
  have hq1 := hg.q1
  obtain ⟨m, hm⟩ : ∃ m, q * yh = m := ⟨_, rfl⟩
  have hsum := hg.sum
  have hrh0 := hg.rh0
  have hrh1 := hg.rh1
  rw [hm] at hg hsum hrh0 hrh1
  have HG1 := Lib.hid hg
  have hm0 : 0 ≤ m := by rw [← hm]; exact Int.mul_nonneg hq0 (by omega)
  clear hg HG hQ1
  go_enter Tryd.func94, Tryd.ntmps94
  go_upto_block 0 with (first | (go_at_call 101; refine HL.out.mono ?_; rintro e w' ⟨rfl, rfl⟩))
  go_cut [15, 16] (fun a b wc => a = .int .u64 Q1 ∧ wc = w)
  case first =>
    go_wp2_with fail
    go_loop [15, 16] (fun a b => ∃ q r : Int, a = .int .u64 q ∧ b = .int .u64 r ∧ Hid (Dv.Guess U u1 Y yh yl q r)) (fun a _ => (intOf a).toNat)
    case atStart => exact ⟨q, U - m, u64_eq hq, (by first | rfl | exact u64_eq (start_wrap U m _ (by omega) (by omega) rfl hrh0 hrh1)), HG1.out⟩
    case round =>
      clear hq hm HG1 hsum hrh0 hrh1 hq0 hq1 hm0
      obtain ⟨q, r, rfl, rfl, G⟩ := hrel
      have b1 := G.out.q0
      have b2 := G.out.q1
      have b3 := G.out.rh0
      have b4 := G.out.rh1
      have HH := Lib.hid (Dv.guess_high (show 0 < Y by omega) hYY.out (by rw [HQ1.out]; exact HQL.out) G.out)
      rw [HQ1.out] at HH
      by_cases hA : 4294967296 ≤ q
      · have hlow := HH.out (Or.inl hA)
        by_cases hr : r + yh < 4294967296
        · have HN := Lib.hid (Dv.guess_next (show 0 < yh by omega) G.out (by rw [HQ1.out]; exact hlow) (by rw [HQ1.out]; exact HQ0.out) hr)
          go_wp2
          go_round
          case rel => exact ⟨q - 1, r + yh, rfl, rfl, HN.out⟩
          case measure => simp [intOf]; omega
        · have HS := Lib.hid (Dv.guess_stop (show 0 < Y by omega) hYY.out (show 0 < yh by omega) bl0 bl1 b10 G.out (by rw [HQ1.out]; exact hlow) (by rw [HQ1.out]; exact HQ0.out) (by omega))
          rw [HQ1.out] at HS
          go_wp2
          go_meet
          exact ⟨u64_eq HS.out, rfl⟩
      · obtain ⟨m2, hm2⟩ : ∃ m2, q * yl = m2 := ⟨_, rfl⟩
        have hm20 : 0 ≤ m2 := by rw [← hm2]; exact Int.mul_nonneg b1 bl0
        have hm21 : m2 ≤ 18446744065119617025 := by
          rw [← hm2]
          have a1 : q * yl ≤ 4294967295 * yl := Int.mul_le_mul_of_nonneg_right (by omega) bl0
          omega
        by_cases hB : 4294967296 * r + u1 < m2
        · have hlow := HH.out (Or.inr (by rw [hm2]; exact hB))
          have hqpos : 1 ≤ q := by have := HQ0.out; omega
          by_cases hr : r + yh < 4294967296
          · have HN := Lib.hid (Dv.guess_next (show 0 < yh by omega) G.out (by rw [HQ1.out]; exact hlow) (by rw [HQ1.out]; exact HQ0.out) hr)
            go_wp2
            go_round
            case rel => exact ⟨q - 1, r + yh, rfl, rfl, HN.out⟩
            case measure => simp [intOf]; omega
          · have HS := Lib.hid (Dv.guess_stop (show 0 < Y by omega) hYY.out (show 0 < yh by omega) bl0 bl1 b10 G.out (by rw [HQ1.out]; exact hlow) (by rw [HQ1.out]; exact HQ0.out) (by omega))
            rw [HQ1.out] at HS
            go_wp2
            go_meet
            exact ⟨u64_eq HS.out, rfl⟩
        · have HR := Lib.hid (Dv.guess_right (show 0 < Y by omega) hYY.out G.out (by rw [hm2]; omega))
          rw [HQ1.out] at HR
          go_wp2
          go_meet
          exact ⟨u64_eq HR.out, rfl⟩
  case rest =>
    obtain ⟨rfl, rfl⟩ := hcut
    clear hq hm HG1 hsum hrh0 hrh1 hq0 hq1 hm0
    have hlo := Dv.left_over (u := u1) (show 0 < Y by omega) (show Y < 18446744073709551616 by omega) HQ1.out.symm
    obtain ⟨P, hP⟩ : ∃ P, Q1 * Y = P := ⟨_, rfl⟩
    rw [hP] at hlo
    obtain ⟨r1, hr1⟩ : ∃ r, U * 4294967296 + u1 - P = r := ⟨_, rfl⟩
    rw [hr1] at hlo
    have e9 := left_wrap U u1 P r1 hr1 hlo.1 (by omega)
    have HR1 := Lib.hid hr1
    clear hr1
    have HG := Lib.hid (Dv.guess_start (u := u0) hYY.out bh0 bh1 bl0 bl1 hlo.1 hlo.2 b00 b01)
    have HKL := Lib.hid (Dv.quo_lt hlo.1 hlo.2 b00 b01)
    have HK0 := Lib.hid (Dv.quo_nonneg (u := u0) hlo.1 hlo.2 b00)
    have hQ1a := HQL.out
    have hQ1b := HQ0.out
    obtain ⟨Q0, hK1⟩ : ∃ q, (r1 * 4294967296 + u0) / Y = q := ⟨_, rfl⟩
    have HK1 := Lib.hid hK1
    rw [hK1] at HKL HK0
    obtain ⟨q, hq⟩ : ∃ q, r1 / yh = q := ⟨_, rfl⟩
    have hg := HG.out
    rw [hq] at hg
    have hq0 := hg.q0
    have hq1 := hg.q1
    obtain ⟨m, hm⟩ : ∃ m, q * yh = m := ⟨_, rfl⟩
    have hsum := hg.sum
    have hrh0 := hg.rh0
    have hrh1 := hg.rh1
    rw [hm] at hg hsum hrh0 hrh1
    have HG1 := Lib.hid hg
    have hm0 : 0 ≤ m := by rw [← hm]; exact Int.mul_nonneg hq0 (by omega)
    clear hg HG hK1
    go_upto_block 2 with fail
    go_cut [18, 16] (fun a b wx => a = .int .u64 Q0 ∧ wx = wc)
    case first =>
      go_wp2_with fail
      go_loop [18, 16] (fun a b => ∃ q r : Int, a = .int .u64 q ∧ b = .int .u64 r ∧ Hid (Dv.Guess r1 u0 Y yh yl q r)) (fun a _ => (intOf a).toNat)
      case atStart => exact ⟨q, r1 - m, u64_eq hq, (by first | rfl | exact u64_eq (start_wrap r1 m _ (by omega) (by omega) rfl hrh0 hrh1)), HG1.out⟩
      case round =>
        clear hq hm HG1 hsum hrh0 hrh1 hq0 hq1 hm0
        obtain ⟨q, r, rfl, rfl, G⟩ := hrel
        have b1 := G.out.q0
        have b2 := G.out.q1
        have b3 := G.out.rh0
        have b4 := G.out.rh1
        have HH := Lib.hid (Dv.guess_high (show 0 < Y by omega) hYY.out (by rw [HK1.out]; exact HKL.out) G.out)
        rw [HK1.out] at HH
        by_cases hA : 4294967296 ≤ q
        · have hlow := HH.out (Or.inl hA)
          by_cases hr : r + yh < 4294967296
          · have HN := Lib.hid (Dv.guess_next (show 0 < yh by omega) G.out (by rw [HK1.out]; exact hlow) (by rw [HK1.out]; exact HK0.out) hr)
            go_wp2
            go_round
            case rel => exact ⟨q - 1, r + yh, rfl, rfl, HN.out⟩
            case measure => simp [intOf]; omega
          · have HS := Lib.hid (Dv.guess_stop (show 0 < Y by omega) hYY.out (show 0 < yh by omega) bl0 bl1 b00 G.out (by rw [HK1.out]; exact hlow) (by rw [HK1.out]; exact HK0.out) (by omega))
            rw [HK1.out] at HS
            go_wp2
            go_meet
            exact ⟨u64_eq HS.out, rfl⟩
        · obtain ⟨m2, hm2⟩ : ∃ m2, q * yl = m2 := ⟨_, rfl⟩
          have hm20 : 0 ≤ m2 := by rw [← hm2]; exact Int.mul_nonneg b1 bl0
          have hm21 : m2 ≤ 18446744065119617025 := by
            rw [← hm2]
            have a1 : q * yl ≤ 4294967295 * yl := Int.mul_le_mul_of_nonneg_right (by omega) bl0
            omega
          by_cases hB : 4294967296 * r + u0 < m2
          · have hlow := HH.out (Or.inr (by rw [hm2]; exact hB))
            have hqpos : 1 ≤ q := by have := HK0.out; omega
            by_cases hr : r + yh < 4294967296
            · have HN := Lib.hid (Dv.guess_next (show 0 < yh by omega) G.out (by rw [HK1.out]; exact hlow) (by rw [HK1.out]; exact HK0.out) hr)
              go_wp2
              go_round
              case rel => exact ⟨q - 1, r + yh, rfl, rfl, HN.out⟩
              case measure => simp [intOf]; omega
            · have HS := Lib.hid (Dv.guess_stop (show 0 < Y by omega) hYY.out (show 0 < yh by omega) bl0 bl1 b00 G.out (by rw [HK1.out]; exact hlow) (by rw [HK1.out]; exact HK0.out) (by omega))
              rw [HK1.out] at HS
              go_wp2
              go_meet
              exact ⟨u64_eq HS.out, rfl⟩
          · have HR := Lib.hid (Dv.guess_right (show 0 < Y by omega) hYY.out G.out (by rw [hm2]; omega))
            rw [HK1.out] at HR
            go_wp2
            go_meet
            exact ⟨u64_eq HR.out, rfl⟩
    case rest =>
      obtain ⟨rfl, rfl⟩ := hcut
      clear hq hm HG1 hsum hrh0 hrh1 hq0 hq1 hm0
      have hlo2 := Dv.left_over (u := u0) (show 0 < Y by omega) (show Y < 18446744073709551616 by omega) HK1.out.symm
      have hK1a := HKL.out
      have hK1b := HK0.out
      obtain ⟨P0, hP0⟩ : ∃ P, Q0 * Y = P := ⟨_, rfl⟩
      rw [hP0] at hlo2
      obtain ⟨r2, hr2⟩ : ∃ r, r1 * 4294967296 + u0 - P0 = r := ⟨_, rfl⟩
      rw [hr2] at hlo2
      have e10 := left_wrap r1 u0 P0 r2 hr2 hlo2.1 (by omega)
      have HR2 := Lib.hid hr2
      have HP := Lib.hid hP
      have HP0 := Lib.hid hP0
      clear hr2
      go_wp2
      go_ret2
      refine ⟨Q1, Q0, r1, r2, rfl, rfl, ?_, ?_, hlo2.1, hlo2.2⟩
      · rw [HP.out]; have := HR1.out; omega
      · rw [HP0.out]; have := HR2.out; omega
end Go.Proofs.YtbcddiaplpbhjaaDoor
namespace Go.Proofs.YtbcddiaplpbhjaaDoor
open Go Go.RowKit
set_option linter.unusedVariables false
theorem pow_int (s : Nat) : ((2 : Int) ^ s) = ((2 ^ s : Nat) : Int) := by simp
theorem pow_pos' (s : Nat) : (0 : Int) < 2 ^ s := by rw [pow_int]; have := Nat.two_pow_pos s; omega
theorem pow_split (s : Nat) (hs : s ≤ 64) : (2 : Int) ^ (64 - s) * 2 ^ s = 18446744073709551616 := by
  rw [← Int.pow_add, show 64 - s + s = 64 by omega]; rfl
theorem shift_split (lo : Int) (s : Nat) (h0 : 0 ≤ lo) (h1 : lo ≤ 18446744073709551615) (hs : s ≤ 64) :
    lo * 2 ^ s = lo / 2 ^ (64 - s) * 18446744073709551616 + (lo * 2 ^ s) % 18446744073709551616 ∧ 0 ≤ lo / 2 ^ (64 - s) ∧ lo / 2 ^ (64 - s) < 2 ^ s := by
  have e : (lo * 2 ^ s) / 18446744073709551616 = lo / 2 ^ (64 - s) := by
    rw [← pow_split s hs]; exact Int.mul_ediv_mul_of_pos_left _ _ (pow_pos' s)
  refine ⟨?_, Int.ediv_nonneg h0 (Int.le_of_lt (pow_pos' _)), ?_⟩
  · rw [← e]; have := Int.mul_ediv_add_emod (lo * 2 ^ s) 18446744073709551616; omega
  · apply Int.ediv_lt_of_lt_mul (pow_pos' _)
    rw [Int.mul_comm, pow_split s hs]; omega
theorem len_facts (y : Int) (h0 : 0 < y) (h1 : y ≤ 18446744073709551615) : ∃ s : Nat, (64 - (Lib.bitLen y.toNat : Int)) = s ∧ s ≤ 63 ∧ 9223372036854775808 ≤ y * 2 ^ s ∧ y * 2 ^ s ≤ 18446744073709551615 := by
  obtain ⟨n, rfl⟩ : ∃ n : Nat, y = n := ⟨y.toNat, by omega⟩
  have hb := Lib.bitLenAux_bounds 64 n (by omega) (by omega)
  change 1 ≤ Lib.bitLen n ∧ 2 ^ (Lib.bitLen n - 1) ≤ n ∧ n < 2 ^ Lib.bitLen n at hb
  have hl := Lib.bitLen_le n 64 (by omega) (by omega)
  rw [Int.toNat_natCast]
  obtain ⟨L, hL⟩ : ∃ L, Lib.bitLen n = L := ⟨_, rfl⟩
  rw [hL] at hb hl ⊢
  refine ⟨64 - L, by omega, by omega, ?_, ?_⟩
  · have a1 : 2 ^ (L - 1) * 2 ^ (64 - L) ≤ n * 2 ^ (64 - L) := Nat.mul_le_mul_right _ hb.2.1
    rw [← Nat.pow_add, show L - 1 + (64 - L) = 63 by omega] at a1
    have a4 := Int.ofNat_le.2 a1
    rw [Int.natCast_mul] at a4
    rw [pow_int]; omega
  · have a1 : (n + 1) * 2 ^ (64 - L) ≤ 2 ^ L * 2 ^ (64 - L) := Nat.mul_le_mul_right _ hb.2.2
    rw [← Nat.pow_add, show L + (64 - L) = 64 by omega, Nat.add_mul] at a1
    have a2 := Nat.two_pow_pos (64 - L)
    have a3 : n * 2 ^ (64 - L) ≤ 18446744073709551615 := by omega
    have a4 := Int.ofNat_le.2 a3
    rw [Int.natCast_mul] at a4
    rw [pow_int]; omega
theorem wraps_u64 (n : Int) (h₀ : 0 ≤ n) (h₁ : n < 2 ^ 64) : IntKind.u64.wrap n = n := by rw [wrap_u64]; omega
theorem u64_mask32 (x : Int) (h0 : 0 ≤ x) (h1 : x ≤ 18446744073709551615) : bits .and .u64 x 4294967295 = x % 4294967296 := by
  have := bits_mask .u64 64 (by decide) wraps_u64 32 (by decide) x h0 (by omega)
  simpa using this
theorem div64_any (hi lo y : Int) (w : World) (hh0 : 0 ≤ hi) (hh1 : hi < y) (h0 : 0 ≤ lo) (h1 : lo ≤ 18446744073709551615) (hy1 : y ≤ 18446744073709551615) :
    Calls Tryd.prog 94 #[.int .u64 hi, .int .u64 lo, .int .u64 y] w fun e w' => e = .returned (.tuple #[.int .u64 ((hi * 18446744073709551616 + lo) / y), .int .u64 ((hi * 18446744073709551616 + lo) % y)]) ∧ ∃ n, w' = w.drewN n := by
  by_cases hz : hi = 0
  · subst hz
    rw [Int.zero_mul, Int.zero_add]
    exact div64_low lo y w h0 h1 hh1 hy1
  · obtain ⟨s, e1, e2, e3, e4⟩ := len_facts y (by omega) hy1
    have hp := pow_pos' s
    have hsp := shift_split lo s h0 h1 (by omega)
    have hH1 : hi * 2 ^ s ≤ (y - 1) * 2 ^ s := Int.mul_le_mul_of_nonneg_right (by omega) (Int.le_of_lt hp)
    rw [Int.sub_mul, Int.one_mul] at hH1
    have hH0 : 0 ≤ hi * 2 ^ s := Int.mul_nonneg hh0 (Int.le_of_lt hp)
    have eH : IntKind.u64.wrap (hi * 2 ^ s) = hi * 2 ^ s := by rw [wrap_u64]; omega
    have hL64 : (2 : Int) ^ s ≤ 2 ^ 63 := by rw [pow_int, pow_int]; exact_mod_cast Nat.pow_le_pow_right (by omega) e2
    have eU : bits .or .u64 (hi * 2 ^ s) (lo / 2 ^ (64 - s)) = hi * 2 ^ s + lo / 2 ^ (64 - s) :=
      bits_join .u64 64 (by decide) wraps_u64 s _ _ hH0 (Int.mul_emod_left _ _) (by omega) hsp.2.1 hsp.2.2 (by omega)
    have eX : IntKind.u64.wrap (lo * 2 ^ s) = (lo * 2 ^ s) % 18446744073709551616 := wrap_u64 _
    obtain ⟨X, hX⟩ : ∃ X, (lo * 2 ^ s) % 18446744073709551616 = X := ⟨_, rfl⟩
    have hX0 : 0 ≤ X ∧ X ≤ 18446744073709551615 := by omega
    rw [hX] at eX hsp
    have hN : (hi * 18446744073709551616 + lo) * 2 ^ s = (hi * 2 ^ s + lo / 2 ^ (64 - s)) * 18446744073709551616 + X := by
      rw [Int.add_mul, Int.add_mul, hsp.1, Int.mul_assoc, Int.mul_comm 18446744073709551616, ← Int.mul_assoc]; omega
    refine (div64_high hi lo y s w h0 h1 (by omega) hh1 hy1 e1 e2 (y * 2 ^ s) rfl e3 e4 (hi * 2 ^ s) (lo / 2 ^ (64 - s)) (hi * 2 ^ s + lo / 2 ^ (64 - s)) X (y * 2 ^ s / 4294967296) (y * 2 ^ s % 4294967296) (X / 4294967296) (X % 4294967296)
      eH rfl eU eX rfl (u64_mask32 _ (by omega) e4) rfl (u64_mask32 _ hX0.1 hX0.2) (by omega) (by omega) (by omega) (by omega) (by omega) (by omega) (by omega) (by omega) (by omega) (by omega) (by show _ = _; omega)).mono ?_
    rintro e w' ⟨Q1, Q0, r1, r2, rfl, rfl, h2, h3, h4, h5⟩
    have hw := Dv.whole (N := hi * 18446744073709551616 + lo) (y := y) (p := 2 ^ s) (Q1 := Q1) (Q0 := Q0) (r1 := r1) (r2 := r2) (U := hi * 2 ^ s + lo / 2 ^ (64 - s)) (u1 := X / 4294967296) (u0 := X % 4294967296) hp (by omega) (by rw [hN]; omega) h2 h3 h4 h5
    exact ⟨by rw [hw.1, hw.2], 0, rfl⟩
end Go.Proofs.YtbcddiaplpbhjaaDoor
namespace Go.Proofs.YtbcddiaplpbhjaaDoor
open Go Go.RowKit
set_option linter.unusedVariables false
def absI (a : Int) : Int := if a < 0 then -a else a
theorem absI_pos (a : Int) : 0 ≤ absI a := by unfold absI; split <;> omega
theorem ret_u64 {a b : Int} (h : a = b) : Ending.returned (.int .u64 a) = .returned (.int .u64 b) := by rw [h]
theorem ret_bool {a b : Bool} (h : a = b) : Ending.returned (.bool a) = .returned (.bool b) := by rw [h]
theorem size_any (a : Int) (w : World) (h0 : -9223372036854775808 ≤ a) (h1 : a ≤ 9223372036854775807) : Calls Tryd.prog 92 #[.int .i64 a] w fun e w' => e = .returned (.int .u64 (absI a)) ∧ w = w' := by
  have HA := Lib.hid (show (a < 0 → IntKind.u64.wrap (-IntKind.u64.wrap a) = absI a) ∧ (0 ≤ a → IntKind.u64.wrap a = absI a) by
    unfold absI; rw [wrap_u64, wrap_u64]; split <;> omega)
  by_cases h : a < 0
  · have e := HA.out.1 h
    go_enter Tryd.func92, Tryd.ntmps92
    go_wp2
    go_ret
    exact ⟨rfl, rfl⟩
  · have e := HA.out.2 (by omega)
    have HE := Lib.hid (show a = absI a by unfold absI; rw [if_neg h])
    go_enter Tryd.func92, Tryd.ntmps92
    go_wp2
    go_ret
    exact ⟨ret_u64 (by first | rfl | exact e | exact HE.out), rfl⟩
theorem mul64_any (a b : Int) (w : World) (ha0 : 0 ≤ a) (ha1 : a ≤ 18446744073709551615) (hb0 : 0 ≤ b) (hb1 : b ≤ 18446744073709551615) :
    Calls Tryd.prog 91 #[.int .u64 a, .int .u64 b] w fun e w' => e = .returned (.tuple #[.int .u64 (a * b / 18446744073709551616), .int .u64 (a * b % 18446744073709551616)]) ∧ w = w' := by
  obtain ⟨n, rfl⟩ : ∃ n : Nat, a = n := ⟨a.toNat, by omega⟩
  obtain ⟨m, rfl⟩ : ∃ n : Nat, b = n := ⟨b.toNat, by omega⟩
  refine (Tryd.bits_Mul64 n m (by omega) (by omega) w).mono ?_
  rintro e w' ⟨rfl, rfl⟩
  exact ⟨by simp, rfl⟩
def belowB (a b c : Int) : Bool := (((decide (a < 0) != decide (b < 0)) != decide (c < 0)) && a != 0) && b != 0
set_option maxHeartbeats 1000000 in
theorem below_any (a b c : Int) (B : Nat) (w : World) (ca : w.cell? ⟨B, 0, none⟩ = some (.int .i64 a)) (cb : w.cell? ⟨B + 1, 0, none⟩ = some (.int .i64 b)) (cc : w.cell? ⟨B + 2, 0, none⟩ = some (.int .i64 c)) :
    Calls Tryd.prog 93 #[.pointer (some ⟨B, 0, none⟩), .pointer (some ⟨B + 1, 0, none⟩), .pointer (some ⟨B + 2, 0, none⟩)] w fun e w' => e = .returned (.bool (belowB a b c)) ∧ w = w' := by
  by_cases ha : a < 0 <;> by_cases hb : b < 0 <;> by_cases hc : c < 0
  all_goals
    first
    | have dA := Lib.hid (show decide (a < 0) = true from decide_eq_true ha)
    | have dA := Lib.hid (show decide (a < 0) = false from decide_eq_false ha)
    first
    | have dB := Lib.hid (show decide (b < 0) = true from decide_eq_true hb)
    | have dB := Lib.hid (show decide (b < 0) = false from decide_eq_false hb)
    first
    | have dC := Lib.hid (show decide (c < 0) = true from decide_eq_true hc)
    | have dC := Lib.hid (show decide (c < 0) = false from decide_eq_false hc)
    go_enter Tryd.func93, Tryd.ntmps93
    go_wp2
    all_goals go_ret
    all_goals exact ⟨ret_bool (by first | rfl | (unfold belowB; rw [dA.out, dB.out, dC.out]; first | rfl | (simp; done)) | (unfold belowB; simp; done)), rfl⟩
end Go.Proofs.YtbcddiaplpbhjaaDoor
namespace Go.Proofs.YtbcddiaplpbhjaaDoor
open Go Go.RowKit
set_option linter.unusedVariables false
def mdv (a b c : Int) : Int × Int :=
  if absI c ≤ absI a * absI b / 18446744073709551616 then (0, 8)
  else if belowB a b c = false then
    if 9223372036854775807 < absI a * absI b / absI c then (0, 8) else (absI a * absI b / absI c, 0)
  else if absI a * absI b % absI c = 0 then
    if absI a * absI b / absI c = 0 ∨ 9223372036854775808 < absI a * absI b / absI c then (0, 8) else (-(absI a * absI b / absI c), 0)
  else if 9223372036854775808 < absI a * absI b / absI c + 1 then (0, 8) else (-(absI a * absI b / absI c + 1), 0)
theorem mdv_eq (a b c : Int) : mdv a b c =
  (if absI c ≤ absI a * absI b / 18446744073709551616 then (0, 8)
    else if belowB a b c = false then
      if 9223372036854775807 < absI a * absI b / absI c then (0, 8) else (absI a * absI b / absI c, 0)
    else if absI a * absI b % absI c = 0 then
      if absI a * absI b / absI c = 0 ∨ 9223372036854775808 < absI a * absI b / absI c then (0, 8) else (-(absI a * absI b / absI c), 0)
    else if 9223372036854775808 < absI a * absI b / absI c + 1 then (0, 8) else (-(absI a * absI b / absI c + 1), 0)) := rfl
def own4 (w : World) (a b c p q : Int) : World := (((w.alloc (.cells #[.int .i64 a] 2)).alloc (.cells #[.int .i64 b] 2)).alloc (.cells #[.int .i64 c] 2)).alloc (.cells #[.int .u64 p, .int .u64 q] 116)
theorem own4_cells (w : World) (a b c p q : Int) : (own4 w a b c p q).cell? ⟨w.heap.size, 0, none⟩ = some (.int .i64 a) ∧ (own4 w a b c p q).cell? ⟨w.heap.size + 1, 0, none⟩ = some (.int .i64 b) ∧
    (own4 w a b c p q).cell? ⟨w.heap.size + 2, 0, none⟩ = some (.int .i64 c) ∧ (own4 w a b c p q).cell? ⟨w.heap.size + 3, 0, none⟩ = some (.int .u64 p) ∧ (own4 w a b c p q).cell? ⟨w.heap.size + 3, 1, none⟩ = some (.int .u64 q) := by
  unfold own4
  refine ⟨?_, ?_, ?_, ?_, ?_⟩
  · rw [World.cell?_alloc_past _ _ _ (by simp <;> omega), World.cell?_alloc_past _ _ _ (by simp <;> omega), World.cell?_alloc_past _ _ _ (by simp), World.cell?_alloc_at _ _ _ _ rfl]; rfl
  · rw [World.cell?_alloc_past _ _ _ (by simp <;> omega), World.cell?_alloc_past _ _ _ (by simp), World.cell?_alloc_at _ _ _ _ (by simp)]; rfl
  · rw [World.cell?_alloc_past _ _ _ (by simp), World.cell?_alloc_at _ _ _ _ (by simp)]; rfl
  · rw [World.cell?_alloc_at _ _ _ _ (by simp)]; rfl
  · rw [World.cell?_alloc_at _ _ _ _ (by simp)]; rfl
theorem own4_below (w : World) (a b c p q : Int) : Below w.heap.size w (own4 w a b c p q) :=
  ((((Below.refl _ _).alloc (Nat.le_refl _) _).alloc (by simp) _).alloc (by simp; omega) _).alloc (by simp; omega) _
theorem below_drewN {B : Nat} {a w : World} (h : Below B a w) (n : Nat) : Below B a (w.drewN n) := ⟨h.os, h.tape, h.output, h.size, h.block⟩
theorem neg_conv (q : Int) (h0 : 0 < q) (h1 : q ≤ 9223372036854775808) : wrap64 (IntKind.u64.wrap (-q)) = -q := by
  rw [wrap_u64]; unfold wrap64; omega
theorem muldiv_zero (a b : Int) (w : World) : Calls Tryd.prog 81 #[.int .i64 a, .int .i64 b, .int .i64 0] w fun e w' => e = .returned (.tuple #[.int .i64 0, .int .i64 9]) ∧ Below w.heap.size w w' := by
  go_enter Tryd.func81, Tryd.ntmps81
  go_wp2
  go_ret2
  exact ⟨rfl, (((Below.refl _ _).alloc (Nat.le_refl _) _).alloc (by simp) _).alloc (by simp; omega) _⟩
set_option maxHeartbeats 4000000 in
theorem muldiv_walk (a b c : Int) (w : World) (hc : c ≠ 0) (ha0 : -9223372036854775808 ≤ a) (ha1 : a ≤ 9223372036854775807) (hb0 : -9223372036854775808 ≤ b) (hb1 : b ≤ 9223372036854775807) (hc0 : -9223372036854775808 ≤ c) (hc1 : c ≤ 9223372036854775807) :
    Calls Tryd.prog 81 #[.int .i64 a, .int .i64 b, .int .i64 c] w fun e w' => e = .returned (.tuple #[.int .i64 (mdv a b c).1, .int .i64 (mdv a b c).2]) ∧ Below w.heap.size w w' := by
  have hne : ((c : Int) == 0) = false := by simpa using hc
  have HA := Lib.hid (fun w => size_any a w ha0 ha1)
  have HB := Lib.hid (fun w => size_any b w hb0 hb1)
  have HC := Lib.hid (fun w => size_any c w hc0 hc1)
  have A0 := absI_pos a
  have B0 := absI_pos b
  have C0 : 0 < absI c := by unfold absI; split <;> omega
  have A1 : absI a ≤ 9223372036854775808 := by unfold absI; split <;> omega
  have B1 : absI b ≤ 9223372036854775808 := by unfold absI; split <;> omega
  have C1 : absI c ≤ 9223372036854775808 := by unfold absI; split <;> omega
  have HM := Lib.hid (fun w => mul64_any (absI a) (absI b) w A0 (by omega) B0 (by omega))
  have HR := Lib.hid (mdv_eq a b c)
  have N0 : 0 ≤ absI a * absI b := Int.mul_nonneg A0 B0
  have HBB := Lib.hid (fun w => below_any a b c w)
  clear A0 B0 A1 B1
  obtain ⟨x, hx⟩ : ∃ x, absI a = x := ⟨_, rfl⟩
  obtain ⟨y, hy⟩ : ∃ x, absI b = x := ⟨_, rfl⟩
  obtain ⟨d, hd⟩ : ∃ x, absI c = x := ⟨_, rfl⟩
  obtain ⟨bb, hbb⟩ : ∃ x, belowB a b c = x := ⟨_, rfl⟩
  rw [hx, hy, hd, hbb] at HR
  rw [hbb] at HBB
  rw [hx, hy] at N0
  rw [hx] at HA HM
  rw [hy] at HB HM
  rw [hd] at HC C0 C1
  obtain ⟨N, hN⟩ : ∃ z, x * y = z := ⟨_, rfl⟩
  rw [hN] at HR HM N0
  have HDV := Lib.hid (fun (h : N / 18446744073709551616 < d) w => div64_any (N / 18446744073709551616) (N % 18446744073709551616) d w (by omega) h (by omega) (by omega) (by omega))
  rw [show N / 18446744073709551616 * 18446744073709551616 + N % 18446744073709551616 = N by omega] at HDV
  have hQ0 : 0 ≤ N / d := Int.ediv_nonneg N0 (by omega)
  have HQR := Lib.hid (show (N / 18446744073709551616 < d → N / d < 18446744073709551616) ∧ 0 ≤ N % d ∧ N % d < d from
    ⟨fun h => Int.ediv_lt_of_lt_mul C0 (by omega), Int.emod_nonneg _ (by omega), Int.emod_lt_of_pos _ C0⟩)
  obtain ⟨Q, hQ⟩ : ∃ z, N / d = z := ⟨_, rfl⟩
  obtain ⟨R, hR⟩ : ∃ z, N % d = z := ⟨_, rfl⟩
  rw [hQ, hR] at HR HDV HQR
  rw [hQ] at hQ0
  have hp0 : 0 ≤ N / 18446744073709551616 := by omega
  have hq0 : 0 ≤ N % 18446744073709551616 ∧ N % 18446744073709551616 ≤ 18446744073709551615 := by omega
  obtain ⟨p, hp⟩ : ∃ z, N / 18446744073709551616 = z := ⟨_, rfl⟩
  obtain ⟨q, hq⟩ : ∃ z, N % 18446744073709551616 = z := ⟨_, rfl⟩
  rw [hp, hq] at HM
  rw [hp] at HR HDV HQR hp0
  rw [hq] at HDV hq0
  have OC := Lib.hid (own4_cells w a b c p q)
  have OB := Lib.hid (own4_below w a b c p q)
  clear hx hy hp hq hQ hR hN hd hbb hc N0
  have hmf : ∀ (fn : Fn) (first cap : Array Value) (w : World), (Instr.makeFunc fn first cap).run Tryd.prog w = .ok (.func fn first cap) w := fun _ _ _ _ => rfl
  go_enter Tryd.func81, Tryd.ntmps81
  go_upto_region 4 with fail
  go_cut [8] (fun s wx => s = .pointer (some ⟨w.heap.size + 3, 0, none⟩) ∧ ∃ n, wx = (own4 w a b c p q).drewN n)
  case first =>
    go_region_with (first
      | (go_at_call 92; (first | (with_reducible refine (HA.out _).mono ?_) | (with_reducible refine (HB.out _).mono ?_)); rintro e w' ⟨rfl, rfl⟩)
      | (go_at_call 91; refine (HM.out _).mono ?_; rintro e w' ⟨rfl, rfl⟩))
    all_goals (go_wp2_with fail; go_meet; exact ⟨rfl, _, rfl⟩)
  case rest =>
    obtain ⟨rfl, n, rfl⟩ := hcut
    obtain ⟨ca, cb, cc, cp, cq⟩ := OC.out
    have OCC := Lib.hid (fun m => HBB.out w.heap.size ((own4 w a b c p q).drewN m) ca cb cc)
    by_cases h1 : d ≤ p
    · have hr := HR.out
      rw [if_pos h1] at hr
      have HF := Lib.hid hr
      clear hr
      go_wp2_with (first | (go_at_call 92; refine (HC.out _).mono ?_; rintro e w' ⟨rfl, rfl⟩))
      go_ret2
      exact ⟨by rw [HF.out]; rfl, below_drewN OB.out _⟩
    · have hlt : p < d := by omega
      have hQ1 := HQR.out.1 hlt
      have hR0 := HQR.out.2.1
      have hR1 := HQR.out.2.2
      have HD := Lib.hid (HDV.out hlt)
      have hr := HR.out
      rw [if_neg h1] at hr
      clear HDV HR h1
      cases bb with
      | false =>
        rw [if_pos rfl] at hr
        by_cases h2 : 9223372036854775807 < Q
        · rw [if_pos h2] at hr
          have HF := Lib.hid hr
          clear hr
          go_wp2_with (first | (go_at_call 92; refine (HC.out _).mono ?_; rintro e w' ⟨rfl, rfl⟩) | (go_at_call 94; refine (HD.out _).mono ?_; rintro e w' ⟨rfl, k, rfl⟩) | (go_at_call 93; refine (OCC.out _).mono ?_; rintro e w' ⟨rfl, rfl⟩))
          go_ret2
          exact ⟨by rw [HF.out]; rfl, below_drewN OB.out _⟩
        · rw [if_neg h2] at hr
          have HF := Lib.hid hr
          clear hr
          go_wp2_with (first | (go_at_call 92; refine (HC.out _).mono ?_; rintro e w' ⟨rfl, rfl⟩) | (go_at_call 94; refine (HD.out _).mono ?_; rintro e w' ⟨rfl, k, rfl⟩) | (go_at_call 93; refine (OCC.out _).mono ?_; rintro e w' ⟨rfl, rfl⟩))
          go_ret2
          exact ⟨by rw [HF.out]; rfl, below_drewN OB.out _⟩
      | true =>
        rw [if_neg (by decide)] at hr
        by_cases hz : R = 0
        · rw [if_pos hz] at hr
          have hz1 : ((R : Int) != 0) = false := by simp [hz]
          clear hz
          by_cases hq1 : Q = 0
          · have hq2 : ((Q : Int) == 0) = true := by simp [hq1]
            rw [if_pos (Or.inl hq1)] at hr
            have HF := Lib.hid hr
            clear hr
            clear hq1
            go_wp2_with (first | (go_at_call 92; refine (HC.out _).mono ?_; rintro e w' ⟨rfl, rfl⟩) | (go_at_call 94; refine (HD.out _).mono ?_; rintro e w' ⟨rfl, k, rfl⟩) | (go_at_call 93; refine (OCC.out _).mono ?_; rintro e w' ⟨rfl, rfl⟩))
            go_ret2
            exact ⟨by rw [HF.out]; rfl, below_drewN OB.out _⟩
          · have hq2 : ((Q : Int) == 0) = false := by simpa using hq1
            by_cases hq3 : 9223372036854775808 < Q
            · rw [if_pos (Or.inr hq3)] at hr
              have HF := Lib.hid hr
              clear hr
              clear hq1
              go_wp2_with (first | (go_at_call 92; refine (HC.out _).mono ?_; rintro e w' ⟨rfl, rfl⟩) | (go_at_call 94; refine (HD.out _).mono ?_; rintro e w' ⟨rfl, k, rfl⟩) | (go_at_call 93; refine (OCC.out _).mono ?_; rintro e w' ⟨rfl, rfl⟩))
              go_ret2
              exact ⟨by rw [HF.out]; rfl, below_drewN OB.out _⟩
            · rw [if_neg (by omega)] at hr
              have HF := Lib.hid hr
              have hng := neg_conv Q (by omega) (by omega)
              clear hr hq1
              go_wp2_with (first | (go_at_call 92; refine (HC.out _).mono ?_; rintro e w' ⟨rfl, rfl⟩) | (go_at_call 94; refine (HD.out _).mono ?_; rintro e w' ⟨rfl, k, rfl⟩) | (go_at_call 93; refine (OCC.out _).mono ?_; rintro e w' ⟨rfl, rfl⟩))
              go_ret2
              exact ⟨by rw [HF.out]; first | rfl | (rw [hng]; rfl), below_drewN OB.out _⟩
        · rw [if_neg hz] at hr
          have hz1 : ((R : Int) != 0) = true := by simpa using hz
          clear hz
          by_cases hq3 : 9223372036854775808 < Q + 1
          · rw [if_pos hq3] at hr
            have HF := Lib.hid hr
            clear hr
            have hw : IntKind.u64.wrap (Q + 1) = 0 ∨ 9223372036854775808 < IntKind.u64.wrap (Q + 1) := by rw [wrap_u64]; omega
            obtain ⟨z, hz⟩ : ∃ z, IntKind.u64.wrap (Q + 1) = z := ⟨_, rfl⟩
            rw [hz] at hw
            have hz0 : 0 ≤ z := by rw [← hz, wrap_u64]; omega
            rcases hw with rfl | hw
            all_goals
              go_wp2_with (first | (go_at_call 92; refine (HC.out _).mono ?_; rintro e w' ⟨rfl, rfl⟩) | (go_at_call 94; refine (HD.out _).mono ?_; rintro e w' ⟨rfl, k, rfl⟩) | (go_at_call 93; refine (OCC.out _).mono ?_; rintro e w' ⟨rfl, rfl⟩))
              go_ret2
              exact ⟨by rw [HF.out]; rfl, below_drewN OB.out _⟩
          · rw [if_neg hq3] at hr
            have HF := Lib.hid hr
            have hng := neg_conv (Q + 1) (by omega) (by omega)
            have hq4 : (((Q + 1 : Int)) == 0) = false := by simp; omega
            clear hr
            go_wp2_with (first | (go_at_call 92; refine (HC.out _).mono ?_; rintro e w' ⟨rfl, rfl⟩) | (go_at_call 94; refine (HD.out _).mono ?_; rintro e w' ⟨rfl, k, rfl⟩) | (go_at_call 93; refine (OCC.out _).mono ?_; rintro e w' ⟨rfl, rfl⟩))
            go_ret2
            exact ⟨by rw [HF.out]; first | rfl | (rw [hng]; rfl), below_drewN OB.out _⟩
end Go.Proofs.YtbcddiaplpbhjaaDoor
namespace Go.Proofs.YtbcddiaplpbhjaaDoor
open Go Go.RowKit
set_option linter.unusedVariables false
def flr (n c : Int) : Int := if 0 < c then n / c else (-n) / (-c)
def fits (z : Int) : Prop := -9223372036854775808 ≤ z ∧ z ≤ 9223372036854775807
instance (z : Int) : Decidable (fits z) := by unfold fits; infer_instance
def fitted (z : Int) : Int × Int := if fits z then (z, 0) else (0, 8)
theorem fitted_in {z : Int} (h : fits z) : fitted z = (z, 0) := if_pos h
theorem fitted_out {z : Int} (h : ¬ fits z) : fitted z = (0, 8) := if_neg h
def mulDiv (a b c : Int) : Int × Int := if c = 0 then (0, 9) else fitted (flr (a * b) c)
theorem neg_quo (N d : Int) (hd : 0 < d) (h0 : 0 ≤ N) : (-N) / d = if N % d = 0 then -(N / d) else -(N / d + 1) := by
  have e := Int.mul_ediv_add_emod N d
  have r0 := Int.emod_nonneg N (show d ≠ 0 by omega)
  have r1 := Int.emod_lt_of_pos N hd
  generalize N / d = Q at *
  generalize N % d = R at *
  by_cases hR : R = 0
  · rw [if_pos hR]
    exact ((Int.ediv_emod_unique hd).2 ⟨show 0 + d * -Q = -N by rw [Int.mul_neg]; omega, by omega, by omega⟩).1
  · rw [if_neg hR]
    exact ((Int.ediv_emod_unique hd).2 ⟨show d - R + d * -(Q + 1) = -N by rw [Int.mul_neg, Int.mul_add, Int.mul_one]; omega, by omega, by omega⟩).1
theorem absI_mul (a b : Int) : absI a * absI b = absI (a * b) := by
  unfold absI
  by_cases ha : a < 0
  · by_cases hb : b < 0
    · have := Int.mul_pos_of_neg_of_neg ha hb
      rw [if_pos ha, if_pos hb, if_neg (by omega), Int.neg_mul_neg]
    · rw [if_pos ha, if_neg hb, Int.neg_mul]
      by_cases hz : b = 0
      · subst hz; simp
      · have := Int.mul_neg_of_neg_of_pos ha (show 0 < b by omega)
        rw [if_pos this]
  · by_cases hb : b < 0
    · rw [if_neg ha, if_pos hb, Int.mul_neg]
      by_cases hz : a = 0
      · subst hz; simp
      · have := Int.mul_neg_of_pos_of_neg (show 0 < a by omega) hb
        rw [if_pos this]
    · have := Int.mul_nonneg (show 0 ≤ a by omega) (show 0 ≤ b by omega)
      rw [if_neg ha, if_neg hb, if_neg (by omega)]
def signed (P c : Int) : Int := if 0 < c then P else -P
theorem below_signed (a b c : Int) (hc : c ≠ 0) : belowB a b c = decide (signed (a * b) c < 0) := by
  unfold belowB signed
  by_cases ha0 : a = 0
  · subst ha0; simp
  · by_cases hb0 : b = 0
    · subst hb0; simp
    · have e1 : (a != 0) = true := by simpa using ha0
      have e2 : (b != 0) = true := by simpa using hb0
      rw [e1, e2, Bool.and_true, Bool.and_true]
      rcases Int.lt_or_gt_of_ne ha0 with ha | ha <;> rcases Int.lt_or_gt_of_ne hb0 with hb | hb
      · have p := Int.mul_pos_of_neg_of_neg ha hb
        by_cases h : 0 < c
        · rw [if_pos h, decide_eq_true ha, decide_eq_true hb, decide_eq_false (show ¬ c < 0 by omega), decide_eq_false (show ¬ a * b < 0 by omega)]; rfl
        · rw [if_neg h, decide_eq_true ha, decide_eq_true hb, decide_eq_true (show c < 0 by omega), decide_eq_true (show -(a * b) < 0 by omega)]; rfl
      · have p := Int.mul_neg_of_neg_of_pos ha hb
        by_cases h : 0 < c
        · rw [if_pos h, decide_eq_true ha, decide_eq_false (show ¬ b < 0 by omega), decide_eq_false (show ¬ c < 0 by omega), decide_eq_true (show a * b < 0 by omega)]; rfl
        · rw [if_neg h, decide_eq_true ha, decide_eq_false (show ¬ b < 0 by omega), decide_eq_true (show c < 0 by omega), decide_eq_false (show ¬ -(a * b) < 0 by omega)]; rfl
      · have p := Int.mul_neg_of_pos_of_neg ha hb
        by_cases h : 0 < c
        · rw [if_pos h, decide_eq_false (show ¬ a < 0 by omega), decide_eq_true hb, decide_eq_false (show ¬ c < 0 by omega), decide_eq_true (show a * b < 0 by omega)]; rfl
        · rw [if_neg h, decide_eq_false (show ¬ a < 0 by omega), decide_eq_true hb, decide_eq_true (show c < 0 by omega), decide_eq_false (show ¬ -(a * b) < 0 by omega)]; rfl
      · have p := Int.mul_pos ha hb
        by_cases h : 0 < c
        · rw [if_pos h, decide_eq_false (show ¬ a < 0 by omega), decide_eq_false (show ¬ b < 0 by omega), decide_eq_false (show ¬ c < 0 by omega), decide_eq_false (show ¬ a * b < 0 by omega)]; rfl
        · rw [if_neg h, decide_eq_false (show ¬ a < 0 by omega), decide_eq_false (show ¬ b < 0 by omega), decide_eq_true (show c < 0 by omega), decide_eq_true (show -(a * b) < 0 by omega)]; rfl
theorem mdv_core (M d : Int) (hd : 0 < d) (N : Int) (hN : N = absI M) :
    (if d ≤ N / 18446744073709551616 then ((0 : Int), (8 : Int))
      else if decide (M < 0) = false then if 9223372036854775807 < N / d then (0, 8) else (N / d, 0)
      else if N % d = 0 then if N / d = 0 ∨ 9223372036854775808 < N / d then (0, 8) else (-(N / d), 0)
      else if 9223372036854775808 < N / d + 1 then (0, 8) else (-(N / d + 1), 0)) = fitted (M / d) := by
  have hN0 : 0 ≤ N := by rw [hN]; exact absI_pos M
  have hQ0 : 0 ≤ N / d := Int.ediv_nonneg hN0 (by omega)
  have hbig : d ≤ N / 18446744073709551616 → 18446744073709551616 ≤ N / d := fun h => by
    apply (Int.le_ediv_iff_mul_le hd).2; omega
  by_cases hM : M < 0
  · have hM' : M = -N := by rw [hN]; unfold absI; rw [if_pos hM]; omega
    rw [hM', neg_quo N d hd hN0, ← hM', decide_eq_true hM, if_neg (show ¬ (true = false) by decide)]
    have hpos : N % d = 0 → N / d ≠ 0 := fun h1 h2 => by
      have e := Int.mul_ediv_add_emod N d
      rw [h1, h2, Int.mul_zero] at e; omega
    generalize N / d = Q at *
    generalize N % d = R at *
    by_cases h1 : d ≤ N / 18446744073709551616
    · have := hbig h1
      rw [if_pos h1]
      split <;> rw [fitted_out (by unfold fits; omega)]
    · rw [if_neg h1]
      by_cases h2 : R = 0
      · have := hpos h2
        rw [if_pos h2, if_pos h2]
        by_cases h3 : 9223372036854775808 < Q
        · rw [if_pos (Or.inr h3), fitted_out (by unfold fits; omega)]
        · rw [if_neg (by omega), fitted_in (by unfold fits; omega)]
      · rw [if_neg h2, if_neg h2]
        by_cases h3 : 9223372036854775808 < Q + 1
        · rw [if_pos h3, fitted_out (by unfold fits; omega)]
        · rw [if_neg h3, fitted_in (by unfold fits; omega)]
  · have hM' : M = N := by rw [hN]; unfold absI; rw [if_neg hM]
    rw [hM'] at hM ⊢
    rw [decide_eq_false hM, if_pos rfl]
    generalize N / d = Q at *
    by_cases h1 : d ≤ N / 18446744073709551616
    · have := hbig h1
      rw [if_pos h1, fitted_out (by unfold fits; omega)]
    · rw [if_neg h1]
      by_cases h3 : 9223372036854775807 < Q
      · rw [if_pos h3, fitted_out (by unfold fits; omega)]
      · rw [if_neg h3, fitted_in (by unfold fits; omega)]
theorem mdv_mulDiv (a b c : Int) (hc : c ≠ 0) : mdv a b c = mulDiv a b c := by
  unfold mulDiv
  rw [if_neg hc]
  have hd : 0 < absI c := by unfold absI; split <;> omega
  have e : flr (a * b) c = signed (a * b) c / absI c := by
    unfold flr signed absI
    by_cases h : 0 < c
    · rw [if_pos h, if_pos h, if_neg (by omega)]
    · rw [if_neg h, if_neg h, if_pos (by omega)]
  have eN : absI a * absI b = absI (signed (a * b) c) := by
    rw [absI_mul]; unfold signed; split
    · rfl
    · unfold absI; split <;> split <;> omega
  rw [e, mdv_eq, below_signed a b c hc]
  exact mdv_core _ _ hd _ eN
theorem mulDiv_any (a b c : Int) (w : World) (ha : fits a) (hb : fits b) (hc : fits c) :
    Calls Tryd.prog 81 #[.int .i64 a, .int .i64 b, .int .i64 c] w fun e w' => e = .returned (.tuple #[.int .i64 (mulDiv a b c).1, .int .i64 (mulDiv a b c).2]) ∧ Below w.heap.size w w' := by
  by_cases h : c = 0
  · subst h
    exact muldiv_zero a b w
  · rw [← mdv_mulDiv a b c h]
    exact muldiv_walk a b c w h ha.1 ha.2 hb.1 hb.2 hc.1 hc.2
end Go.Proofs.YtbcddiaplpbhjaaDoor
namespace Go.Proofs.YtbcddiaplpbhjaaDoor
open Go Go.RowKit
set_option linter.unusedVariables false
theorem ret_int {k : IntKind} {a b : Int} (h : a = b) : Ending.returned (.int k a) = .returned (.int k b) := by rw [h]
theorem i64_eq {a b : Int} (h : a = b) : Value.int .i64 a = .int .i64 b := by rw [h]
end Go.Proofs.YtbcddiaplpbhjaaDoor
namespace Go.Proofs.YtbcddiaplpbhjaaDoor
open Go Go.RowKit Go.ChangeShapes Go.WideShapes Go.ChangeAt
set_option linter.unusedVariables false
theorem own : ownKnob Tryd.prog.godebug = none := by kernel_rfl
end Go.Proofs.YtbcddiaplpbhjaaDoor
namespace Go.Proofs.YtbcddiaplpbhjaaDoor.Rt
open Go Go.RowKit
set_option linter.unusedVariables false
def isRoot (n r : Int) : Prop := 0 ≤ r ∧ r * r ≤ n ∧ n < (r + 1) * (r + 1)
theorem sq_mono {x y : Int} (h0 : 0 ≤ x) (h : x ≤ y) : x * x ≤ y * y := by
  have h1 : x * x ≤ y * x := Int.mul_le_mul_of_nonneg_right h h0
  have h2 : y * x ≤ y * y := Int.mul_le_mul_of_nonneg_left h (by omega)
  omega
theorem lt_of_sq {x y : Int} (h0 : 0 ≤ y) (h : x * x < y * y) : x < y := by
  by_cases hx : x < y
  · exact hx
  · have := sq_mono h0 (show y ≤ x by omega); omega
theorem isRoot_unique {n r s : Int} (h : isRoot n r) (k : isRoot n s) : r = s := by
  have h1 := lt_of_sq (show 0 ≤ s + 1 by have := k.1; omega) (show r * r < (s + 1) * (s + 1) by have := h.2.1; have := k.2.2; omega)
  have h2 := lt_of_sq (show 0 ≤ r + 1 by have := h.1; omega) (show s * s < (r + 1) * (r + 1) by have := k.2.1; have := h.2.2; omega)
  omega
theorem sq_succ (r : Int) : (r + 1) * (r + 1) = r * r + 2 * r + 1 := by rw [Int.add_mul, Int.mul_add]; omega
theorem isRoot_nat (n : Nat) : ∃ r : Int, isRoot n r := by
  induction n with
  | zero => exact ⟨0, by omega, by omega, by omega⟩
  | succ n ih =>
    obtain ⟨r, h0, h1, h2⟩ := ih
    rw [sq_succ] at h2
    by_cases h : ((n + 1 : Nat) : Int) < (r + 1) * (r + 1)
    · exact ⟨r, h0, by omega, h⟩
    · refine ⟨r + 1, by omega, by omega, ?_⟩
      have e := sq_succ r
      have e2 := sq_succ (r + 1)
      omega
theorem isRoot_ex {n : Int} (h : 0 ≤ n) : ∃ r, isRoot n r := by
  obtain ⟨m, rfl⟩ : ∃ m : Nat, n = m := ⟨n.toNat, by omega⟩
  exact isRoot_nat m
noncomputable def rt (n : Int) : Int := open Classical in if h : ∃ r, isRoot n r then Classical.choose h else 0
theorem rt_is {n : Int} (h : 0 ≤ n) : isRoot n (rt n) := by
  unfold rt
  rw [dif_pos (isRoot_ex h)]
  exact Classical.choose_spec (isRoot_ex h)
theorem rt_eq {n r : Int} (h : 0 ≤ n) (k : isRoot n r) : rt n = r := isRoot_unique (rt_is h) k
theorem rt_lt {n m : Int} (h : 0 ≤ n) (hm : 0 ≤ m) (k : n < m * m) : rt n < m := by
  obtain ⟨h0, h1, h2⟩ := rt_is h
  exact lt_of_sq hm (by omega)
theorem newton {n r x : Int} (hr : isRoot n r) (hx : 0 < x) (hrx : r ≤ x) : r ≤ (x + n / x) / 2 ∧ (x ≤ (x + n / x) / 2 → x = r) := by
  obtain ⟨h0, h1, h2⟩ := hr
  have a : (2 * r - x) * x ≤ n := by
    obtain ⟨d, rfl⟩ : ∃ d, x = r + d := ⟨x - r, by omega⟩
    have e : (2 * r - (r + d)) * (r + d) = r * r - d * d := by
      rw [show 2 * r - (r + d) = r - d by omega, Int.sub_mul, Int.mul_add, Int.mul_add, Int.mul_comm d r]; omega
    have := sq_mono (show (0 : Int) ≤ 0 by omega) (show 0 ≤ d by omega)
    rw [e]; omega
  have b : 2 * r - x ≤ n / x := (Int.le_ediv_iff_mul_le hx).2 a
  refine ⟨by omega, fun h => ?_⟩
  by_cases hx2 : x ≤ r
  · omega
  · have c : n < x * x := by have := sq_mono (show 0 ≤ r + 1 by omega) (show r + 1 ≤ x by omega); omega
    have d := Int.ediv_lt_of_lt_mul hx c
    omega
theorem quo_le {n r x : Int} (hr : isRoot n r) (hx : 0 < x) (hrx : r ≤ x) : 0 ≤ n / x ∧ n / x ≤ r + 2 := by
  obtain ⟨h0, h1, h2⟩ := hr
  rw [sq_succ] at h2
  have hn : 0 ≤ n := by have := sq_mono (show (0 : Int) ≤ 0 by omega) h0; omega
  refine ⟨Int.ediv_nonneg hn (by omega), ?_⟩
  have e : r * (r + 2) ≤ x * (r + 2) := Int.mul_le_mul_of_nonneg_right hrx (by omega)
  have e2 : r * (r + 2) = r * r + 2 * r := by rw [Int.mul_add]; omega
  have : n / x < r + 3 := Int.ediv_lt_of_lt_mul hx (by rw [show r + 3 = (r + 2) + 1 by omega, Int.add_mul, Int.mul_comm (r + 2)]; omega)
  omega
def p2 : Nat → Int
  | 0 => 1
  | k + 1 => 2 * p2 k
theorem p2_pos : ∀ k, 0 < p2 k
  | 0 => by decide
  | k + 1 => by have := p2_pos k; unfold p2; omega
theorem p2_add (a b : Nat) : p2 (a + b) = p2 a * p2 b := by
  induction b with
  | zero => simp [p2]
  | succ b ih => rw [show a + (b + 1) = (a + b) + 1 from rfl, p2, ih, p2, Int.mul_left_comm]
theorem p2_mono {a b : Nat} (h : a ≤ b) : p2 a ≤ p2 b := by
  obtain ⟨c, rfl⟩ : ∃ c, b = a + c := ⟨b - a, by omega⟩
  rw [p2_add]
  have h1 := p2_pos a
  have h2 := p2_pos c
  have : p2 a * 1 ≤ p2 a * p2 c := Int.mul_le_mul_of_nonneg_left (by omega) (by omega)
  omega
def upTo (n r : Int) (k : Nat) : Prop := 0 ≤ r ∧ r * r ≤ n ∧ n < (r + p2 k) * (r + p2 k) ∧ r + p2 k ≤ 4294967296
theorem upTo_take {n r : Int} {k : Nat} (h : upTo n r (k + 1)) (hx : (r + p2 k) * (r + p2 k) ≤ n) : upTo n (r + p2 k) k := by
  obtain ⟨h0, h1, h2, h3⟩ := h
  have := p2_pos k
  unfold p2 at h2 h3
  refine ⟨by omega, hx, ?_, by omega⟩
  rw [show r + p2 k + p2 k = r + 2 * p2 k by omega]; exact h2
theorem upTo_leave {n r : Int} {k : Nat} (h : upTo n r (k + 1)) (hx : ¬ (r + p2 k) * (r + p2 k) ≤ n) : upTo n r k := by
  obtain ⟨h0, h1, h2, h3⟩ := h
  have := p2_pos k
  unfold p2 at h3
  exact ⟨h0, h1, by omega, by omega⟩
theorem upTo_end {n r : Int} (h : upTo n r 0) : isRoot n r := by
  obtain ⟨h0, h1, h2, h3⟩ := h
  exact ⟨h0, h1, h2⟩
end Go.Proofs.YtbcddiaplpbhjaaDoor.Rt
namespace Go.Proofs.YtbcddiaplpbhjaaDoor.Rt
open Go Go.RowKit
set_option linter.unusedVariables false
theorem ret_u {a b : Int} (h : a = b) : Ending.returned (.int .u64 a) = .returned (.int .u64 b) := by rw [h]
theorem p2_pow (k : Nat) : p2 k = ((2 ^ k : Nat) : Int) := by
  induction k with
  | zero => rfl
  | succ k ih => rw [p2, ih, Nat.pow_succ]; omega
theorem start_facts (n : Int) (h0 : 0 < n) (h1 : n ≤ 18446744073709551615) : ∃ L h : Nat, Lib.bitLen n.toNat = L ∧ 1 ≤ L ∧ L ≤ 64 ∧ (L + 1) / 2 = h ∧ h ≤ 32 ∧ rt n ≤ p2 h ∧ p2 h ≤ 4294967296 := by
  have hb := Lib.bitLenAux_bounds 64 n.toNat (by omega) (by omega)
  change 1 ≤ Lib.bitLen n.toNat ∧ 2 ^ (Lib.bitLen n.toNat - 1) ≤ n.toNat ∧ n.toNat < 2 ^ Lib.bitLen n.toNat at hb
  have hl := Lib.bitLen_le n.toNat 64 (by omega) (by omega)
  obtain ⟨L, hL⟩ : ∃ L, Lib.bitLen n.toNat = L := ⟨_, rfl⟩
  rw [hL] at hb hl
  refine ⟨L, (L + 1) / 2, hL, hb.1, hl, rfl, by omega, ?_, ?_⟩
  · have h2 : n < p2 ((L + 1) / 2) * p2 ((L + 1) / 2) := by
      rw [← p2_add]
      have h3 : p2 L ≤ p2 ((L + 1) / 2 + (L + 1) / 2) := p2_mono (by omega)
      rw [p2_pow L] at h3
      omega
    have := rt_lt (show 0 ≤ n by omega) (Int.le_of_lt (p2_pos _)) h2
    omega
  · have h3 : p2 ((L + 1) / 2) ≤ p2 32 := p2_mono (by omega)
    exact h3
set_option maxHeartbeats 1000000 in
theorem root_any (n : Int) (w : World) (h0 : 0 ≤ n) (h1 : n ≤ 18446744073709551615) : Calls Tryd.prog 69 #[.int .u64 n] w fun e w' => e = .returned (.int .u64 (rt n)) ∧ w = w' := by
  by_cases hz : n = 0
  · subst hz
    have HF := Lib.hid (rt_eq (n := 0) (r := 0) (by omega) ⟨by omega, by omega, by omega⟩)
    go_enter Tryd.func69, Tryd.ntmps69
    go_wp2
    go_step3
    go_wp2
    (try rw [Exit.noGoto_ret])
    go_ret
    exact ⟨ret_u HF.out.symm, rfl⟩
  · have hz1 : ((n : Int) == 0) = false := by simpa using hz
    have hnp : 0 < n := by omega
    obtain ⟨L, h, hL, L1, L2, hh, H1, H2, H3⟩ := start_facts n hnp h1
    have HL := Lib.hid (Tryd.bits_Len64 n w h0 h1)
    rw [hL] at HL
    have HR := Lib.hid (rt_is h0)
    obtain ⟨r, hr⟩ : ∃ r, rt n = r := ⟨_, rfl⟩
    rw [hr] at H2 HR ⊢
    clear hr hL hz
    have hrp : 0 < r := by
      obtain ⟨q0, q1, q2⟩ := HR.out
      by_cases h : r = 0
      · subst h; omega
      · omega
    have HN := Lib.hid hnp
    have P2 := Lib.hid (p2_pow h)
    obtain ⟨x0, hx0⟩ : ∃ x, p2 h = x := ⟨_, rfl⟩
    have hx00 := p2_pos h
    rw [hx0] at H2 H3 hx00
    have HW := Lib.hid (show IntKind.u64.wrap (2 ^ ((L + 1) / 2)) = x0 by
      have e : (2 : Int) ^ ((L + 1) / 2) = x0 := by rw [← hx0, hh, p2_pow]; simp
      rw [e]; exact IntWalk.u64_in _ (by omega))
    clear hx0
    go_enter Tryd.func69, Tryd.ntmps69
    go_wp2
    go_step3
    go_wp2_with (go_at_call 80; refine HL.out.mono ?_; rintro e w' ⟨rfl, rfl⟩)
    rw [HW.out]
    go_step3
    go_wp2
    go_loop [3] (fun x => ∃ z : Int, x = .int .u64 z ∧ r ≤ z ∧ 0 < z ∧ z ≤ 4294967296) (fun x => (intOf x).toNat)
    case atStart => exact ⟨x0, rfl, H2, hx00, H3⟩
    case round =>
      obtain ⟨z, rfl, hrz, hz0, hz1⟩ := hrel
      have hq := quo_le HR.out hz0 hrz
      have hnw := newton HR.out hz0 hrz
      have hrb : r ≤ 4294967296 := by omega
      obtain ⟨hq0, hq1⟩ := hq
      have HS : IntKind.u64.wrap (z + n / z) = z + n / z := IntWalk.u64_in _ (by omega)
      have HD : IntKind.u64.wrap ((z + n / z).tdiv 2) = (z + n / z) / 2 := IntWalk.u64_quo _ _ (by omega)
      have hzz : ((z : Int) == 0) = false := by simp; omega
      by_cases hstop : z ≤ (z + n / z) / 2
      · have HF := Lib.hid (hnw.2 hstop)
        go_wp2
        (try rw [Exit.noGoto_ret])
        go_ret
        exact ⟨ret_u HF.out, rfl⟩
      · go_wp2
        go_round
        case rel => exact ⟨(z + n / z) / 2, rfl, hnw.1, by omega, by omega⟩
        case measure => simp [intOf]; omega
set_option maxHeartbeats 1000000 in
theorem refRoot_any (n : Int) (w : World) (h0 : 0 ≤ n) (h1 : n ≤ 18446744073709551615) : Calls Tryd.prog 45 #[.int .u64 n] w fun e w' => e = .returned (.int .u64 (rt n)) ∧ w = w' := by
  have HST := Lib.hid (show upTo n 0 32 by
    refine ⟨by omega, by omega, ?_, by decide⟩
    rw [show (0 + p2 32) * (0 + p2 32) = 18446744073709551616 by decide]; omega)
  have HEND := Lib.hid (fun r (h : upTo n r 0) => rt_eq h0 (upTo_end h))
  go_enter Tryd.func45, Tryd.ntmps45
  go_wp2
  go_loop [3, 4] (fun rv kv => ∃ (j : Nat) (r : Int), rv = .int .u64 r ∧ kv = .int .i64 ((j : Int) - 1) ∧ j ≤ 32 ∧ Hid (upTo n r j)) (fun _ kv => (intOf kv + 1).toNat)
  case atStart => exact ⟨32, 0, rfl, rfl, by omega, HST.out⟩
  case round =>
    obtain ⟨j, r, rfl, rfl, hj, HU⟩ := hrel
    rcases Nat.eq_zero_or_pos j with rfl | hpos
    · have HF := Lib.hid (HEND.out r HU.out)
      go_wp2
      go_ret
      exact ⟨ret_u HF.out.symm, rfl⟩
    · obtain ⟨m, rfl⟩ : ∃ m, j = m + 1 := ⟨j - 1, by omega⟩
      rw [show (((m + 1 : Nat) : Int) - 1) = (m : Int) by omega]
      have hp := p2_pos m
      have hu := HU.out
      have hr0 := hu.1
      have hr1 := hu.2.2.2
      rw [p2] at hr1
      have hpw := p2_pow m
      have HT := Lib.hid (fun h => upTo_take (k := m) hu h)
      have HL := Lib.hid (fun h => upTo_leave (k := m) hu h)
      obtain ⟨p, hpp⟩ : ∃ p, p2 m = p := ⟨_, rfl⟩
      rw [hpp] at HT HL hp hr1 hpw
      have hw : IntKind.u64.wrap (2 ^ m) = p := by
        have e : (2 : Int) ^ m = p := by rw [hpw]; simp
        rw [e]; exact IntWalk.u64_in _ (by omega)
      have hsq0 := sq_mono (show (0 : Int) ≤ 0 by omega) (show 0 ≤ r + p by omega)
      have hsq := sq_mono (show 0 ≤ r + p by omega) (show r + p ≤ 4294967295 by omega)
      have hs : IntKind.u64.wrap (r + p) = r + p := IntWalk.u64_in _ (by omega)
      have hm : IntKind.u64.wrap ((r + p) * (r + p)) = (r + p) * (r + p) := IntWalk.u64_in _ (by omega)
      clear hu hpw hpp hsq0 hsq
      by_cases hle : (r + p) * (r + p) ≤ n
      · go_wp2
        go_round
        case rel => exact ⟨m, r + p, rfl, by go_num, by omega, HT.out hle⟩
        case measure => simp [intOf] <;> omega
      · go_wp2
        go_round
        case rel => exact ⟨m, r, rfl, by go_num, by omega, HL.out hle⟩
        case measure => simp [intOf] <;> omega
end Go.Proofs.YtbcddiaplpbhjaaDoor.Rt
namespace Go.Proofs.YtbcddiaplpbhjaaDoor
open Go Go.RowKit Go.Proofs.YtbcddiaplpbhjaaDoor.Rt
set_option linter.unusedVariables false
theorem and_part (x : Int) : bits .and .i64 x 65535 = x % 65536 := by
  have h0 : (0:Int) ≤ x % 65536 := by omega
  have e : ((BitVec.ofInt 64 x).toNat &&& 65535 : Nat) = (x % 65536).toNat := by
    rw [show (65535 : Nat) = 2 ^ 16 - 1 from rfl, Nat.and_two_pow_sub_one_eq_mod, BitVec.toNat_ofInt]
    omega
  have e2 : (BitVec.ofInt 64 65535).toNat = 65535 := by decide
  have e3 : (BitVec.ofInt 64 x &&& BitVec.ofInt 64 65535).toNat = (x % 65536).toNat := by rw [BitVec.toNat_and, e2, e]
  show IntKind.i64.wrap (((BitVec.ofInt 64 x &&& BitVec.ofInt 64 65535).toNat : Nat) : Int) = _
  rw [e3, IntKind.wrap_i64]; omega
theorem rt_bound {n m : Int} (h : 0 ≤ n) (hm : 0 ≤ m) (k : n < m * m) : 0 ≤ rt n ∧ rt n < m := ⟨(rt_is h).1, rt_lt h hm k⟩
end Go.Proofs.YtbcddiaplpbhjaaDoor
namespace Go.Proofs.YtbcddiaplpbhjaaDoor.Dg
open Go Go.RowKit
set_option linter.unusedVariables false
def val : List Int → Int
  | [] => 0
  | d :: ds => d + 1000 * val ds
def ok (ds : List Int) : Prop := ∀ d ∈ ds, 0 ≤ d ∧ d ≤ 999
theorem ok_nil : ok [] := fun d h => by cases h
theorem ok_cons {d : Int} {ds : List Int} : ok (d :: ds) ↔ (0 ≤ d ∧ d ≤ 999) ∧ ok ds :=
  ⟨fun h => ⟨h d (List.mem_cons_self), fun x hx => h x (List.mem_cons_of_mem _ hx)⟩, fun h x hx => by
    rcases List.mem_cons.1 hx with rfl | hx
    · exact h.1
    · exact h.2 x hx⟩
theorem ok_append {a b : List Int} : ok (a ++ b) ↔ ok a ∧ ok b :=
  ⟨fun h => ⟨fun x hx => h x (List.mem_append_left _ hx), fun x hx => h x (List.mem_append_right _ hx)⟩, fun h x hx => (List.mem_append.1 hx).elim (h.1 x) (h.2 x)⟩
theorem ok_drop {a : List Int} (h : ok a) (k : Nat) : ok (a.drop k) := fun x hx => h x (List.mem_of_mem_drop hx)
theorem ok_take {a : List Int} (h : ok a) (k : Nat) : ok (a.take k) := fun x hx => h x (List.mem_of_mem_take hx)
theorem ok_getD {a : List Int} (h : ok a) (i : Nat) : 0 ≤ a.getD i 0 ∧ a.getD i 0 ≤ 999 := by
  rw [List.getD_eq_getElem?_getD]
  by_cases hi : i < a.length
  · rw [List.getElem?_eq_getElem hi]; exact h _ (List.getElem_mem hi)
  · rw [List.getElem?_eq_none (by omega)]; simp
theorem val_nonneg : ∀ {ds : List Int}, ok ds → 0 ≤ val ds
  | [], _ => Int.le_refl _
  | d :: ds, h => by
    have h1 := ok_cons.1 h
    have h2 := val_nonneg h1.2
    unfold val; omega
def pw : Nat → Int
  | 0 => 1
  | k + 1 => pw k * 1000
theorem pw_pos : ∀ k, 0 < pw k
  | 0 => by decide
  | k + 1 => by have := pw_pos k; unfold pw; omega
theorem pw_add (a b : Nat) : pw (a + b) = pw a * pw b := by
  induction b with
  | zero => simp [pw]
  | succ b ih => rw [show a + (b + 1) = (a + b) + 1 from rfl, pw, ih, pw, Int.mul_assoc]
theorem val_append (a b : List Int) : val (a ++ b) = val a + pw a.length * val b := by
  induction a with
  | nil => simp [val, pw]
  | cons d a ih =>
    simp only [List.cons_append, val, List.length_cons, ih, pw]
    rw [Int.mul_add, Int.mul_comm (pw a.length) 1000, Int.mul_assoc]; omega
theorem val_snoc (a : List Int) (x : Int) : val (a ++ [x]) = val a + pw a.length * x := by
  rw [val_append]; simp [val]
theorem val_lt : ∀ {ds : List Int}, ok ds → val ds < pw ds.length
  | [], _ => by decide
  | d :: ds, h => by
    have h1 := ok_cons.1 h
    have h2 := val_lt h1.2
    simp only [val, List.length_cons, pw]; omega
theorem val_drop (ds : List Int) (i : Nat) : val (ds.drop i) = ds.getD i 0 + 1000 * val (ds.drop (i + 1)) := by
  by_cases h : i < ds.length
  · rw [List.drop_eq_getElem_cons h]
    simp only [val]
    rw [List.getD_eq_getElem?_getD, List.getElem?_eq_getElem h]; rfl
  · rw [List.drop_eq_nil_of_le (by omega), List.drop_eq_nil_of_le (by omega), List.getD_eq_getElem?_getD, List.getElem?_eq_none (by omega)]; rfl
theorem val_drop_end (ds : List Int) (i : Nat) (h : ds.length ≤ i) : val (ds.drop i) = 0 := by rw [List.drop_eq_nil_of_le h]; rfl
theorem add_step (P c x y x' y' : Int) (s : Int) (hs : s = x + y + c) : P * (c + (x + 1000 * x') + (y + 1000 * y')) = P * (s % 1000) + P * 1000 * (s / 1000 + x' + y') := by
  have e : c + (x + 1000 * x') + (y + 1000 * y') = s % 1000 + 1000 * (s / 1000 + x' + y') := by omega
  rw [e, Int.mul_add, Int.mul_assoc]
def digs : Nat → Nat → List Int
  | 0, _ => []
  | f + 1, n => if n = 0 then [] else ((n % 1000 : Nat) : Int) :: digs f (n / 1000)
def canon (n : Nat) : List Int := digs n n
theorem digs_fuel : ∀ (f g n : Nat), n ≤ f → n ≤ g → digs f n = digs g n
  | 0, g, n, h1, h2 => by
    obtain rfl : n = 0 := by omega
    cases g <;> simp [digs]
  | f + 1, 0, n, h1, h2 => by
    obtain rfl : n = 0 := by omega
    simp [digs]
  | f + 1, g + 1, n, h1, h2 => by
    simp only [digs]
    by_cases h : n = 0
    · rw [if_pos h, if_pos h]
    · rw [if_neg h, if_neg h, digs_fuel f g (n / 1000) (by omega) (by omega)]
theorem canon_zero : canon 0 = [] := rfl
theorem canon_pos (n : Nat) (h : 0 < n) : canon n = ((n % 1000 : Nat) : Int) :: canon (n / 1000) := by
  unfold canon
  obtain ⟨m, rfl⟩ : ∃ m, n = m + 1 := ⟨n - 1, by omega⟩
  rw [show digs (m + 1) (m + 1) = ((((m + 1) % 1000 : Nat)) : Int) :: digs m ((m + 1) / 1000) from by rw [digs, if_neg (by omega)]]
  rw [digs_fuel m ((m + 1) / 1000) _ (by omega) (Nat.le_refl _)]
theorem canon_ok (n : Nat) : ok (canon n) := by
  induction n using Nat.strongRecOn with
  | ind n ih =>
    by_cases h : n = 0
    · subst h; exact ok_nil
    · rw [canon_pos n (by omega)]
      exact ok_cons.2 ⟨by omega, ih (n / 1000) (by omega)⟩
theorem val_canon (n : Nat) : val (canon n) = n := by
  induction n using Nat.strongRecOn with
  | ind n ih =>
    by_cases h : n = 0
    · subst h; rfl
    · rw [canon_pos n (by omega)]
      simp only [val]
      rw [ih (n / 1000) (by omega)]; omega
def trimmed (ds : List Int) : Prop := ds = [] ∨ ds.getD (ds.length - 1) 0 ≠ 0
theorem trimmed_canon : ∀ {ds : List Int}, ok ds → trimmed ds → ds = canon (val ds).toNat
  | [], _, _ => rfl
  | d :: ds, h, ht => by
    have h1 := ok_cons.1 h
    have hv := val_nonneg h1.2
    have hts : trimmed ds := by
      cases ds with
      | nil => exact Or.inl rfl
      | cons e es =>
        right
        rcases ht with ht | ht
        · cases ht
        · simpa [List.length_cons] using ht
    have ih := trimmed_canon h1.2 hts
    have hpos : 0 < val (d :: ds) := by
      simp only [val]
      rcases Int.lt_or_le 0 (val ds) with h2 | h2
      · omega
      · have h3 : val ds = 0 := by omega
        have h4 : ds = [] := by rw [ih, h3]; rfl
        subst h4
        rcases ht with ht | ht
        · cases ht
        · simp at ht; omega
    rw [canon_pos _ (by omega)]
    have e1 : (((val (d :: ds)).toNat % 1000 : Nat) : Int) = d := by simp only [val] at hpos ⊢; omega
    have e2 : (val (d :: ds)).toNat / 1000 = (val ds).toNat := by simp only [val] at hpos ⊢; omega
    rw [e1, e2, ← ih]
theorem val_take_zero (ds : List Int) (n : Nat) (hn : n < ds.length) (hz : ds.getD n 0 = 0) : val (ds.take (n + 1)) = val (ds.take n) := by
  rw [List.take_succ_eq_append_getElem hn, val_snoc]
  rw [List.getD_eq_getElem?_getD, List.getElem?_eq_getElem hn] at hz
  simp only [Option.getD_some] at hz
  rw [hz, Int.mul_zero, Int.add_zero]
theorem canon_len (n k : Nat) (h : (n : Int) < pw k) : (canon n).length ≤ k := by
  induction k generalizing n with
  | zero =>
    have : n = 0 := by simp only [pw] at h; omega
    subst this; simp [canon_zero]
  | succ k ih =>
    by_cases h0 : n = 0
    · subst h0; simp [canon_zero]
    · rw [canon_pos n (by omega), List.length_cons]
      have := ih (n / 1000) (by simp only [pw] at h; omega)
      omega
end Go.Proofs.YtbcddiaplpbhjaaDoor.Dg
namespace Go.Proofs.YtbcddiaplpbhjaaDoor.Bg
open Go Go.RowKit Go.Proofs.YtbcddiaplpbhjaaDoor.Dg
set_option linter.unusedVariables false
def Reads (w : World) (v : Value) (ds : List Int) : Prop :=
  (v = .slice none 0 0 ∧ ds = []) ∨ ∃ b off len cap, v = .slice (some ⟨b, off, none⟩) len cap ∧ ds.length = len ∧ len ≤ cap ∧ b < w.heap.size ∧ ∀ i, i < len → w.cell? ⟨b, off + i, none⟩ = some (.int .i64 (ds.getD i 0))
theorem Reads.below {w w' : World} {v : Value} {ds : List Int} (h : Reads w v ds) (hb : Below w.heap.size w w') : Reads w' v ds := by
  rcases h with h | ⟨b, off, len, cap, e, hl, hc, hs, hr⟩
  · exact Or.inl h
  · refine Or.inr ⟨b, off, len, cap, e, hl, hc, Nat.lt_of_lt_of_le hs hb.size, fun i hi => ?_⟩
    rw [hb.cell (p := ⟨b, off + i, none⟩) hs]; exact hr i hi
theorem Reads.drewN {w : World} {v : Value} {ds : List Int} (h : Reads w v ds) (n : Nat) : Reads (w.drewN n) v ds := h
theorem Reads.len {w : World} {v : Value} {ds : List Int} (h : Reads w v ds) : ∃ a cap, v = .slice a ds.length cap ∧ ds.length ≤ cap := by
  rcases h with ⟨rfl, rfl⟩ | ⟨b, off, len, cap, rfl, rfl, hc, hs, hr⟩
  · exact ⟨none, 0, rfl, Nat.le_refl _⟩
  · exact ⟨_, cap, rfl, hc⟩
theorem reads_nil (w : World) : Reads w (.slice none 0 0) [] := Or.inl ⟨rfl, rfl⟩
theorem reads_own {w : World} {base : Nat} {E : TypeId} {v : Value} {n : Nat} {ds : List Int} (h : w.ownsRow base E 1 v n (ds.map (Value.int .i64))) (hn : ds.length = n) : Reads w v ds := by
  rcases h.2 with ⟨rfl, rfl⟩ | ⟨g, cap, cur, rfl, hb, hg, h1, h2, h3, h4⟩
  · exact Or.inl ⟨rfl, List.length_eq_zero_iff.1 hn⟩
  · refine Or.inr ⟨g, 0, n, cap, rfl, hn, h1, (Array.getElem?_eq_some_iff.1 hg).1, fun i hi => ?_⟩
    rw [Nat.zero_add, h.cellAt i (by omega), List.getElem?_map, List.getElem?_eq_getElem (by omega), List.getD_eq_getElem?_getD, List.getElem?_eq_getElem (by omega)]; rfl
def Is (w : World) (v : Value) (z : Int) : Prop := ∃ s, v = .agg #[.bool (decide (z < 0)), s] ∧ Reads w s (canon z.natAbs)
theorem Is.below {w w' : World} {v : Value} {z : Int} (h : Is w v z) (hb : Below w.heap.size w w') : Is w' v z :=
  h.elim fun s ⟨e, hr⟩ => ⟨s, e, hr.below hb⟩
theorem ret_int {k : IntKind} {a b : Int} (h : a = b) : Ending.returned (.int k a) = .returned (.int k b) := by rw [h]
theorem ret_bool {a b : Bool} (h : a = b) : Ending.returned (.bool a) = .returned (.bool b) := by rw [h]
theorem at_any (v : Value) (ds : List Int) (i : Nat) (w : World) (h : Reads w v ds) (hi : i ≤ 1000000000) :
    Calls Tryd.prog 86 #[v, .int .i64 i] w fun e w' => e = .returned (.int .i64 (ds.getD i 0)) ∧ w = w' := by
  rcases h with ⟨rfl, rfl⟩ | ⟨b, off, len, cap, rfl, hl, hc, hs, hr⟩
  · go_enter Tryd.func86, Tryd.ntmps86
    go_wp2
    go_ret
    exact ⟨rfl, rfl⟩
  · by_cases hlt : i < len
    · have hcell := hr i hlt
      obtain ⟨x, hx⟩ : ∃ x, ds.getD i 0 = x := ⟨_, rfl⟩
      rw [hx] at hcell ⊢
      clear hr hx hl
      go_enter Tryd.func86, Tryd.ntmps86
      go_wp2
      go_ret
      exact ⟨rfl, rfl⟩
    · have hz : ds.getD i 0 = 0 := by rw [List.getD_eq_getElem?_getD, List.getElem?_eq_none (by omega)]; rfl
      rw [hz]
      clear hr hz hl
      go_enter Tryd.func86, Tryd.ntmps86
      go_wp2
      go_ret
      exact ⟨rfl, rfl⟩
def sgn (neg : Bool) (z : Int) : Int := if neg then -z else z
theorem sgn_abs (neg : Bool) (z : Int) (h : 0 ≤ z) : (sgn neg z).natAbs = z.toNat := by
  unfold sgn; cases neg <;> simp <;> omega
theorem sgn_neg (neg : Bool) (z : Int) (h : 0 ≤ z) : decide (sgn neg z < 0) = (neg && decide (0 < z)) := by
  unfold sgn; cases neg
  · simp; omega
  · simp
theorem trim_nil (neg : Bool) (w : World) : Calls Tryd.prog 82 #[.bool neg, .slice none 0 0] w fun e w' => e = .returned (.agg #[.bool false, .slice none 0 0]) ∧ Below w.heap.size w w' := by
  cases neg
  all_goals
    go_enter Tryd.func82, Tryd.ntmps82
    go_wp2
    go_loop [5] (fun n => n = .int .i64 0) (fun _ => 0)
    case atStart => rfl
    case round =>
      obtain rfl := hrel
      go_wp2
      exact bodyPost_ret (v := .agg #[.bool false, .slice none 0 0]) (by simp [results, Tryd.results82, go_sem]) rfl ⟨rfl, (Below.refl _ _).alloc (Nat.le_refl _) _⟩
theorem trim_val {ds : List Int} {k : Nat} (hok : ok ds) (hk : k ≤ ds.length) (hv : val (ds.take k) = val ds) (hz : k = 0 ∨ ds.getD (k - 1) 0 ≠ 0) :
    ds.take k = canon (val ds).toNat ∧ (0 < val ds ↔ 0 < k) := by
  have ht : Dg.trimmed (ds.take k) := by
    rcases hz with rfl | hz
    · left; simp
    · by_cases h0 : k = 0
      · subst h0; left; simp
      · right
        rw [List.length_take, Nat.min_eq_left hk, List.getD_eq_getElem?_getD, List.getElem?_take_of_lt (by omega), ← List.getD_eq_getElem?_getD]
        exact hz
  have e := trimmed_canon (ok_take hok k) ht
  rw [hv] at e
  refine ⟨e, ?_⟩
  constructor
  · intro h
    rcases Nat.eq_zero_or_pos k with h0 | h0
    · subst h0; simp [val] at hv; omega
    · exact h0
  · intro h
    have hl : (ds.take k).length = k := by rw [List.length_take, Nat.min_eq_left hk]
    have hn := val_nonneg hok
    rcases Int.lt_or_le 0 (val ds) with h1 | h1
    · exact h1
    · have h2 : val ds = 0 := by omega
      rw [h2] at e
      rw [e] at hl
      simp [canon_zero] at hl
      omega
set_option maxHeartbeats 2000000 in
theorem trim_row (neg : Bool) (b off len cap : Nat) (ds : List Int) (w : World) (hl : ds.length = len) (hc : len ≤ cap) (hs : b < w.heap.size) (hb : len ≤ 1000000000)
    (hr : ∀ i, i < len → w.cell? ⟨b, off + i, none⟩ = some (.int .i64 (ds.getD i 0))) :
    Calls Tryd.prog 82 #[.bool neg, .slice (some ⟨b, off, none⟩) len cap] w fun e w' =>
      ∃ k, e = .returned (.agg #[.bool (neg && decide (0 < k)), .slice (some ⟨b, off, none⟩) k cap]) ∧ k ≤ len ∧ val (ds.take k) = val ds ∧ (k = 0 ∨ ds.getD (k - 1) 0 ≠ 0) ∧ Below w.heap.size w w' := by
  have HR := Lib.hid hr
  clear hr
  go_enter Tryd.func82, Tryd.ntmps82
  go_wp2
  go_loop [5] (fun n => ∃ k : Nat, n = .int .i64 k ∧ k ≤ len ∧ Hid (val (ds.take k) = val ds)) (fun n => (intOf n).toNat)
  case atStart => exact ⟨len, rfl, Nat.le_refl _, by show _ = _; rw [List.take_of_length_le (by omega)]⟩
  case round =>
    obtain ⟨k, rfl, hk, HV⟩ := hrel
    rcases Nat.eq_zero_or_pos k with rfl | hpos
    · cases neg
      all_goals
        go_wp2
        exact bodyPost_ret (v := .agg #[.bool false, .slice (some ⟨b, off, none⟩) 0 cap]) (by simp [results, Tryd.results82, go_sem]) rfl ⟨0, rfl, by omega, HV.out, Or.inl rfl, (Below.refl _ _).alloc (Nat.le_refl _) _⟩
    · obtain ⟨m, rfl⟩ : ∃ m, k = m + 1 := ⟨k - 1, by omega⟩
      have hcell : (w.alloc (.cells #[.bool false, .slice none 0 0] 97)).cell? ⟨b, off + m, none⟩ = some (.int .i64 (ds.getD m 0)) := by
        rw [World.cell?_alloc_past _ _ _ hs]; exact HR.out m (by omega)
      obtain ⟨x, hx⟩ : ∃ x, ds.getD m 0 = x := ⟨_, rfl⟩
      rw [hx] at hcell
      have HX := Lib.hid hx
      clear hx
      by_cases hz : x = 0
      · have hz1 : ((x : Int) == 0) = true := by simpa using hz
        have HZ := Lib.hid hz
        clear hz
        go_wp2
        go_round
        case rel => exact ⟨m, by go_num, by omega, by show _ = _; rw [← HV.out, val_take_zero ds m (by omega) (by rw [HX.out]; exact HZ.out)]⟩
        case measure => simp [intOf] <;> omega
      · have hz1 : ((x : Int) == 0) = false := by simpa using hz
        have HZ := Lib.hid (show ds.getD (m + 1 - 1) 0 ≠ 0 by rw [Nat.add_sub_cancel, HX.out]; exact hz)
        clear hz
        cases neg
        · go_wp2
          exact bodyPost_ret (v := .agg #[.bool false, .slice (some ⟨b, off, none⟩) (m + 1) cap]) (by simp [results, Tryd.results82, go_sem]) rfl ⟨m + 1, rfl, by omega, HV.out, Or.inr HZ.out, (Below.refl _ _).alloc (Nat.le_refl _) _⟩
        · go_wp2
          exact bodyPost_ret (v := .agg #[.bool true, .slice (some ⟨b, off, none⟩) (m + 1) cap]) (by simp [results, Tryd.results82, go_sem]) rfl ⟨m + 1, by simp, by omega, HV.out, Or.inr HZ.out, (Below.refl _ _).alloc (Nat.le_refl _) _⟩
theorem trim_any (neg : Bool) (v : Value) (ds : List Int) (w : World) (h : Reads w v ds) (hok : ok ds) (hb : ds.length ≤ 1000000000) :
    Calls Tryd.prog 82 #[.bool neg, v] w fun e w' => ∃ r, e = .returned r ∧ Is w' r (sgn neg (val ds)) ∧ Below w.heap.size w w' := by
  have hn := val_nonneg hok
  rcases h with ⟨rfl, rfl⟩ | ⟨b, off, len, cap, rfl, hl, hc, hs, hr⟩
  · refine (trim_nil neg w).mono ?_
    rintro e w' ⟨rfl, hb⟩
    have e0 : sgn neg (val []) = 0 := by cases neg <;> rfl
    exact ⟨_, rfl, ⟨.slice none 0 0, by rw [e0]; rfl, Or.inl ⟨rfl, by rw [e0]; rfl⟩⟩, hb⟩
  · refine (trim_row neg b off len cap ds w hl hc hs (by omega) hr).mono ?_
    rintro e w' ⟨k, rfl, hk, hv, hz, hb⟩
    have ht := trim_val hok (by omega) hv hz
    refine ⟨_, rfl, ⟨.slice (some ⟨b, off, none⟩) k cap, ?_, Or.inr ⟨b, off, k, cap, rfl, ?_, by omega, Nat.lt_of_lt_of_le hs hb.size, fun i hi => ?_⟩⟩, hb⟩
    · rw [sgn_neg neg _ hn]
      have : decide (0 < val ds) = decide (0 < k) := by rw [decide_eq_decide]; exact ht.2
      rw [this]
    · rw [sgn_abs neg _ hn, ← ht.1, List.length_take, Nat.min_eq_left (by omega)]
    · rw [sgn_abs neg _ hn, ← ht.1, hb.cell (p := ⟨b, off + i, none⟩) hs, hr i (by omega), List.getD_eq_getElem?_getD, List.getD_eq_getElem?_getD, List.getElem?_take_of_lt hi]
end Go.Proofs.YtbcddiaplpbhjaaDoor.Bg
namespace Go.Proofs.YtbcddiaplpbhjaaDoor.Bg
open Go Go.RowKit Go.Proofs.YtbcddiaplpbhjaaDoor.Dg
set_option linter.unusedVariables false
theorem info3 : (Tryd.prog.info? 3).map (fun i => (i.zero, i.size, i.bytes)) = some (some (.int .i64 0), 1, 8) := by kernel_rfl
theorem plus_inv {acc d1 d2 : List Int} {k : Nat} {c x y s V : Int} (hl : acc.length = k) (hx : d1.getD k 0 = x) (hy : d2.getD k 0 = y) (hs : s = x + y + c)
    (h : val acc + pw k * (c + val (d1.drop k) + val (d2.drop k)) = V) : val (acc ++ [s % 1000]) + pw (k + 1) * (s / 1000 + val (d1.drop (k + 1)) + val (d2.drop (k + 1))) = V := by
  rw [val_snoc, hl, ← h, val_drop d1 k, val_drop d2 k, hx, hy, add_step (pw k) c x y _ _ s hs, pw]
  omega
theorem ok_snoc {acc : List Int} {x : Int} (h : ok acc) (h0 : 0 ≤ x) (h1 : x ≤ 999) : ok (acc ++ [x]) :=
  ok_append.2 ⟨h, ok_cons.2 ⟨⟨h0, h1⟩, ok_nil⟩⟩
theorem below_app {w wr w1 : World} {B : Nat} {o : Obj} {v : Value} {E : TypeId} {n : Nat} {xs : List Value} (hb : Below B w wr) (hs : B ≤ wr.heap.size) (hown : wr.ownsRow B E 1 v n xs) (hg : (wr.alloc o).grownBy w1 v.ownBlock) : Below B w w1 :=
  (hb.alloc hs o).grown hg (by simp; omega) (fun j hj => (hown.lt j hj).1)
theorem app_int {ops : Array Oper} {rest : List Oper} {o : Oper} {a : Act} {Q : Exit → Act → World → Prop} (hgd : o.guard = none) (s x : Operand)
    (ho : o.op = .call { callee := .builtin .append, args := #[s, x], argTypes := #[95, 95] }) (B : Nat) (v : Value) (n : Nat) (acc : List Int) (z : Int) (wr : World)
    (hs : a.eval s = v) (hown : wr.ownsRow B 3 1 v n (acc.map (Value.int .i64))) (hx : a.eval x = .slice (some ⟨wr.heap.size, 0, none⟩) 1 1) (hn : n ≤ 1000000000) (hB : B ≤ wr.heap.size)
    (h : ∀ v' w', w'.ownsRow B 3 1 v' (n + 1) ((acc ++ [z]).map (Value.int .i64)) → (wr.alloc (.cells #[.int .i64 z] 3)).grownBy w' v.ownBlock → wpList Tryd.prog ops Q rest (a.put o.dst v') w') :
    wpList Tryd.prog ops Q (o :: rest) a (wr.alloc (.cells #[.int .i64 z] 3)) := by
  obtain ⟨i0, hi, hz0, hz1, hz2⟩ := info_parts info3
  refine wpList_append_own _ hgd s x 95 ho B 3 i0 (.int .i64 0) 1 8 Tryd.underlying95 hi hz0 hz1 hz2 rfl (by decide) v n _ hs (hown.alloc _) ⟨wr.heap.size, 0, none⟩ 1 1 [.int .i64 z] hx rfl ?_ ?_ (by unfold maxLen; omega) (by omega) (by simp; omega) ?_
  · intro j u hj
    match j, hj with
    | 0, hj => simp at hj; subst hj; simp [Addr.add]
    | j + 1, hj => simp at hj
  · intro u hu; simp at hu; subst hu; rfl
  · intro v' w' h1 h2 _
    exact h v' w' (by rw [List.map_append]; exact h1) h2
def Told (w : World) (V : Int) (L : Nat) (e : Ending) (w' : World) : Prop := ∃ r ds, e = .returned r ∧ Reads w' r ds ∧ ok ds ∧ val ds = V ∧ ds.length ≤ L ∧ Below w.heap.size w w'
set_option maxRecDepth 100000 in
set_option maxHeartbeats 2000000 in
theorem plus_any (v1 v2 : Value) (d1 d2 : List Int) (w : World) (h1 : Reads w v1 d1) (h2 : Reads w v2 d2) (o1 : ok d1) (o2 : ok d2) (l1 : d1.length ≤ 1000000) (l2 : d2.length ≤ 1000000) :
    Calls Tryd.prog 97 #[v1, v2] w (Told w (val d1 + val d2) (d1.length + d2.length + 1)) := by
  have R1 := Lib.hid h1
  have R2 := Lib.hid h2
  obtain ⟨a1, c1, rfl, hc1⟩ := h1.len
  obtain ⟨a2, c2, rfl, hc2⟩ := h2.len
  obtain ⟨m1, hm1⟩ : ∃ m, d1.length = m := ⟨_, rfl⟩
  obtain ⟨m2, hm2⟩ : ∃ m, d2.length = m := ⟨_, rfl⟩
  rw [hm1] at R1 l1 hc1 ⊢
  rw [hm2] at R2 l2 hc2 ⊢
  have L1 := Lib.hid hm1
  have L2 := Lib.hid hm2
  clear hm1 hm2 h1 h2
  go_enter Tryd.func97, Tryd.ntmps97
  go_wp2
  go_loopw [5, 6, 7] (fun d cy i wr => ∃ (k : Nat) (acc : List Int) (c : Int), i = .int .i64 k ∧ cy = .int .i64 c ∧ 0 ≤ c ∧ c ≤ 1 ∧ (k ≤ m1 + 1 ∨ k ≤ m2 + 1) ∧ Hid (m1 + 1 ≤ k ∧ m2 + 1 ≤ k → c = 0) ∧
      Hid (wr.ownsRow w.heap.size 3 1 d k (acc.map (Value.int .i64))) ∧ Hid (acc.length = k) ∧ Hid (ok acc) ∧ Hid (val acc + pw k * (c + val (d1.drop k) + val (d2.drop k)) = val d1 + val d2) ∧ Hid (Below w.heap.size w wr))
    (fun _ _ i _ => m1 + m2 + 2 - (intOf i).toNat)
  case atStart => exact ⟨0, [], 0, rfl, rfl, by omega, by omega, by omega, (by show _ → _; omega), World.ownsRow_nil _ _ _ _, rfl, ok_nil, (by show _ = _; simp [val, pw]), Below.refl _ _⟩
  case round =>
    obtain ⟨k, acc, c, rfl, rfl, c0, cc1, hk, HC, HO, HL, HA, HV, HB⟩ := hrel
    by_cases hgo : k < m1 ∨ k < m2 ∨ 0 < c
    · have A1 := Lib.hid (at_any _ d1 k wr (R1.out.below HB.out) (by omega))
      have A2 := Lib.hid (at_any _ d2 k wr (R2.out.below HB.out) (by omega))
      have hx := ok_getD o1 k
      have hy := ok_getD o2 k
      have hlast : Hid (m1 ≤ k ∧ m2 ≤ k → d1.getD k 0 = 0 ∧ d2.getD k 0 = 0) := fun ⟨e1, e2⟩ => by
        have q1 := L1.out
        have q2 := L2.out
        rw [List.getD_eq_getElem?_getD, List.getD_eq_getElem?_getD, List.getElem?_eq_none (by omega), List.getElem?_eq_none (by omega)]; exact ⟨rfl, rfl⟩
      obtain ⟨x, hxe⟩ : ∃ x, d1.getD k 0 = x := ⟨_, rfl⟩
      obtain ⟨y, hye⟩ : ∃ y, d2.getD k 0 = y := ⟨_, rfl⟩
      rw [hxe] at A1 hx hlast
      rw [hye] at A2 hy hlast
      have X := Lib.hid hxe
      have Y := Lib.hid hye
      clear hxe hye o1 o2
      have hk2 : k ≤ m1 ∨ k ≤ m2 := by
        rcases hk with h | h
        · by_cases e : k = m1 + 1
          · by_cases e2 : k ≤ m2
            · exact Or.inr e2
            · have := HC.out ⟨by omega, by omega⟩; omega
          · exact Or.inl (by omega)
        · by_cases e : k = m2 + 1
          · by_cases e2 : k ≤ m1
            · exact Or.inl e2
            · have := HC.out ⟨by omega, by omega⟩; omega
          · exact Or.inr (by omega)
      by_cases t1 : k < m1
      all_goals
        by_cases t2 : k < m2
        all_goals
          first
          | (exfalso; have := HC.out; omega)
          | skip
          (try have t3 : 0 < c := by omega)
          clear hgo
          go_wp2_with (first
            | (go_at_call 86; (first | (with_reducible refine A1.out.mono ?_) | (with_reducible refine A2.out.mono ?_)); rintro e w' ⟨rfl, rfl⟩)
            | (at_builtin; refine app_int rfl (.tmp 34) (.tmp 37) rfl w.heap.size u5 k acc ((x + y + c) % 1000) wr rfl HO.out rfl (by omega) HB.out.size ?_; intro v' w1 hown hgrow; have O1 := Lib.hid hown; have B1 := Lib.hid (below_app HB.out HB.out.size HO.out hgrow); clear hown hgrow))
          go_roundw
          case rel => exact ⟨k + 1, acc ++ [(x + y + c) % 1000], (x + y + c) / 1000, by go_num, rfl, by omega, by omega, by omega, (by show _ → _; intro h; have := hlast.out; omega), O1.out, (by show _ = _; rw [List.length_append, HL.out]; rfl), ok_snoc HA.out (by omega) (by omega), plus_inv HL.out X.out Y.out rfl HV.out, B1.out⟩
          case measure => simp [intOf]; omega
    · have t1 : ¬ k < m1 := by omega
      have t2 : ¬ k < m2 := by omega
      have hc0 : c = 0 := by omega
      have HF := Lib.hid (show val acc = val d1 + val d2 by
        have h := HV.out
        have q1 := L1.out
        have q2 := L2.out
        rw [val_drop_end d1 k (by omega), val_drop_end d2 k (by omega), hc0] at h
        simpa using h)
      have hle : k ≤ m1 + 1 ∨ k ≤ m2 + 1 := hk
      have HQ := Lib.hid hle
      subst hc0
      clear hgo hk hle
      go_wp2
      go_ret
      exact ⟨_, acc, rfl, reads_own HO.out HL.out, HA.out, HF.out, by rw [HL.out]; have := HQ.out; omega, HB.out⟩
end Go.Proofs.YtbcddiaplpbhjaaDoor.Bg
namespace Go.Proofs.YtbcddiaplpbhjaaDoor.Bg
open Go Go.RowKit Go.Proofs.YtbcddiaplpbhjaaDoor.Dg
set_option linter.unusedVariables false
def cmpI (x y : Int) : Int := if x < y then -1 else if y < x then 1 else 0
theorem val_split (ds : List Int) (k : Nat) (h : k ≤ ds.length) : val ds = val (ds.take k) + pw k * val (ds.drop k) := by
  have e := val_append (ds.take k) (ds.drop k)
  rw [List.take_append_drop, List.length_take, Nat.min_eq_left h] at e
  exact e
theorem val_split_lt {ds : List Int} (hok : ok ds) (k : Nat) : pw k * val (ds.drop k) ≤ val ds ∧ val ds < pw k * (val (ds.drop k) + 1) := by
  by_cases h : k ≤ ds.length
  · have e := val_split ds k h
    have h0 := val_nonneg (ok_take hok k)
    have h1 := val_lt (ok_take hok k)
    rw [List.length_take, Nat.min_eq_left h] at h1
    rw [Int.mul_add, Int.mul_one]; omega
  · rw [List.drop_eq_nil_of_le (by omega)]
    have h0 := val_nonneg hok
    have h1 := val_lt hok
    have h2 : pw ds.length ≤ pw k := by
      obtain ⟨j, rfl⟩ : ∃ j, k = ds.length + j := ⟨k - ds.length, by omega⟩
      rw [pw_add]
      have := pw_pos ds.length
      have h3 := pw_pos j
      have h4 : pw ds.length * 1 ≤ pw ds.length * pw j := Int.mul_le_mul_of_nonneg_left (by omega) (by omega)
      omega
    simp [val]; omega
theorem drop_lt {d1 d2 : List Int} (o1 : ok d1) (o2 : ok d2) (k : Nat) (h : val (d1.drop k) < val (d2.drop k)) : val d1 < val d2 := by
  have a := (val_split_lt o1 k).2
  have b := (val_split_lt o2 k).1
  have c : pw k * (val (d1.drop k) + 1) ≤ pw k * val (d2.drop k) := Int.mul_le_mul_of_nonneg_left (by omega) (Int.le_of_lt (pw_pos k))
  omega
def CmpPost (w : World) (x y : Int) (e : Ending) (w' : World) : Prop := e = .returned (.int .i64 (cmpI x y)) ∧ w = w'
set_option maxRecDepth 100000 in
set_option maxHeartbeats 2000000 in
theorem sizes_any (v1 v2 : Value) (d1 d2 : List Int) (w : World) (h1 : Reads w v1 d1) (h2 : Reads w v2 d2) (o1 : ok d1) (o2 : ok d2) (l1 : d1.length ≤ 1000000) (l2 : d2.length ≤ 1000000) :
    Calls Tryd.prog 98 #[v1, v2] w (CmpPost w (val d1) (val d2)) := by
  have A1 := Lib.hid (fun k hk => at_any v1 d1 k w h1 hk)
  have A2 := Lib.hid (fun k hk => at_any v2 d2 k w h2 hk)
  obtain ⟨a1, c1, rfl, hc1⟩ := h1.len
  obtain ⟨a2, c2, rfl, hc2⟩ := h2.len
  obtain ⟨m1, hm1⟩ : ∃ m, d1.length = m := ⟨_, rfl⟩
  obtain ⟨m2, hm2⟩ : ∃ m, d2.length = m := ⟨_, rfl⟩
  rw [hm1] at l1 hc1 A1 ⊢
  rw [hm2] at l2 hc2 A2 ⊢
  have L1 := Lib.hid hm1
  have L2 := Lib.hid hm2
  clear hm1 hm2 h1 h2
  go_enter Tryd.func98, Tryd.ntmps98
  go_wp2
  go_loop [5] (fun i => ∃ k : Nat, k ≤ m1 + m2 + 1 ∧ i = .int .i64 ((k : Int) - 1) ∧ Hid (val (d1.drop k) = val (d2.drop k))) (fun i => (intOf i + 1).toNat)
  case atStart => exact ⟨m1 + m2 + 1, by omega, by simp, by show _ = _; rw [val_drop_end _ _ (by have := L1.out; omega), val_drop_end _ _ (by have := L2.out; omega)]⟩
  case round =>
    obtain ⟨k, hk, rfl, HV⟩ := hrel
    rcases Nat.eq_zero_or_pos k with rfl | hpos
    · have HF := Lib.hid (show cmpI (val d1) (val d2) = 0 by
        have h : val d1 = val d2 := by simpa using HV.out
        unfold cmpI; rw [if_neg (by omega), if_neg (by omega)])
      go_wp2
      go_ret
      exact ⟨ret_int HF.out.symm, rfl⟩
    · obtain ⟨j, rfl⟩ : ∃ j, k = j + 1 := ⟨k - 1, by omega⟩
      rw [show (((j + 1 : Nat) : Int) - 1) = (j : Int) by omega]
      have B1 := A1.out j (by omega)
      have B2 := A2.out j (by omega)
      have hd1 := val_drop d1 j
      have hd2 := val_drop d2 j
      rw [HV.out] at hd1
      obtain ⟨x, hx⟩ : ∃ x, d1.getD j 0 = x := ⟨_, rfl⟩
      obtain ⟨y, hy⟩ : ∃ x, d2.getD j 0 = x := ⟨_, rfl⟩
      rw [hx] at B1 hd1
      rw [hy] at B2 hd2
      have D1 := Lib.hid hd1
      have D2 := Lib.hid hd2
      have C1 := Lib.hid B1
      have C2 := Lib.hid B2
      clear hd1 hd2 B1 B2 hx hy
      by_cases hlt : x < y
      · have HF := Lib.hid (show cmpI (val d1) (val d2) = -1 by
          have h := drop_lt o1 o2 j (by rw [D1.out, D2.out]; omega)
          unfold cmpI; rw [if_pos h])
        clear o1 o2
        go_wp2_with (go_at_call 86; (first | (with_reducible refine C1.out.mono ?_) | (with_reducible refine C2.out.mono ?_)); rintro e w' ⟨rfl, rfl⟩)
        go_ret
        exact ⟨ret_int HF.out.symm, rfl⟩
      · by_cases hgt : y < x
        · have HF := Lib.hid (show cmpI (val d1) (val d2) = 1 by
            have h := drop_lt o2 o1 j (by rw [D1.out, D2.out]; omega)
            unfold cmpI; rw [if_neg (by omega), if_pos h])
          clear o1 o2
          go_wp2_with (go_at_call 86; (first | (with_reducible refine C1.out.mono ?_) | (with_reducible refine C2.out.mono ?_)); rintro e w' ⟨rfl, rfl⟩)
          go_ret
          exact ⟨ret_int HF.out.symm, rfl⟩
        · have HN := Lib.hid (show val (d1.drop j) = val (d2.drop j) by rw [D1.out, D2.out]; omega)
          go_wp2_with (go_at_call 86; (first | (with_reducible refine C1.out.mono ?_) | (with_reducible refine C2.out.mono ?_)); rintro e w' ⟨rfl, rfl⟩)
          go_round
          case rel => exact ⟨j, by omega, rfl, HN.out⟩
          case measure => simp [intOf] <;> omega
theorem minus_inv {acc d1 d2 : List Int} {k : Nat} {c x y t V c' : Int} (hl : acc.length = k) (hx : d1.getD k 0 = x) (hy : d2.getD k 0 = y) (ht : x - y - c = t - 1000 * c')
    (h : val acc + pw k * (val (d1.drop k) - val (d2.drop k) - c) = V) : val (acc ++ [t]) + pw (k + 1) * (val (d1.drop (k + 1)) - val (d2.drop (k + 1)) - c') = V := by
  rw [val_snoc, hl, ← h, val_drop d1 k, val_drop d2 k, hx, hy]
  have e : x + 1000 * val (d1.drop (k + 1)) - (y + 1000 * val (d2.drop (k + 1))) - c = t + 1000 * (val (d1.drop (k + 1)) - val (d2.drop (k + 1)) - c') := by omega
  rw [e, Int.mul_add, pw, ← Int.mul_assoc]; omega
set_option maxRecDepth 100000 in
set_option maxHeartbeats 4000000 in
theorem minus_row (b off cap1 : Nat) (v2 : Value) (d1 d2 : List Int) (w : World) (hb1 : b < w.heap.size) (hcap : d1.length ≤ cap1) (hr1 : ∀ i, i < d1.length → w.cell? ⟨b, off + i, none⟩ = some (.int .i64 (d1.getD i 0)))
    (h2 : Reads w v2 d2) (o1 : ok d1) (o2 : ok d2) (l1 : d1.length ≤ 1000000) (hlen : d2.length ≤ d1.length) (hle : val d2 ≤ val d1) :
    Calls Tryd.prog 99 #[.slice (some ⟨b, off, none⟩) d1.length cap1, v2] w (Told w (val d1 - val d2) d1.length) := by
  have R1 := Lib.hid hr1
  have R2 := Lib.hid h2
  have O1 := Lib.hid o1
  have O2 := Lib.hid o2
  have HLE := Lib.hid hle
  have HLEN := Lib.hid hlen
  obtain ⟨m1, hm1⟩ : ∃ m, d1.length = m := ⟨_, rfl⟩
  rw [hm1] at l1 hcap R1 HLEN ⊢
  have L1 := Lib.hid hm1
  clear hm1 h2 hr1 o1 o2 hle hlen
  go_enter Tryd.func99, Tryd.ntmps99
  go_wp2
  go_loopw [5, 6, 7] (fun d cy i wr => ∃ (k : Nat) (acc : List Int) (c : Int), i = .int .i64 k ∧ cy = .int .i64 c ∧ 0 ≤ c ∧ c ≤ 1 ∧ k ≤ m1 ∧
      Hid (wr.ownsRow w.heap.size 3 1 d k (acc.map (Value.int .i64))) ∧ Hid (acc.length = k) ∧ Hid (ok acc) ∧ Hid (val acc + pw k * (val (d1.drop k) - val (d2.drop k) - c) = val d1 - val d2) ∧ Hid (Below w.heap.size w wr))
    (fun _ _ i _ => m1 - (intOf i).toNat)
  case atStart => exact ⟨0, [], 0, rfl, rfl, by omega, by omega, by omega, World.ownsRow_nil _ _ _ _, rfl, ok_nil, (by show _ = _; simp [val, pw]), Below.refl _ _⟩
  case round =>
    obtain ⟨k, acc, c, rfl, rfl, c0, cc1, hk, HO, HL, HA, HV, HB⟩ := hrel
    by_cases hlt : k < m1
    · have hcell : wr.cell? ⟨b, off + k, none⟩ = some (.int .i64 (d1.getD k 0)) := by
        rw [HB.out.cell (p := ⟨b, off + k, none⟩) hb1]; exact R1.out k hlt
      have A2 := Lib.hid (fun n => at_any v2 d2 k (wr.drewN n) ((R2.out.below HB.out).drewN n) (by omega))
      have hx := ok_getD O1.out k
      have hy := ok_getD O2.out k
      obtain ⟨x, hxe⟩ : ∃ x, d1.getD k 0 = x := ⟨_, rfl⟩
      obtain ⟨y, hye⟩ : ∃ y, d2.getD k 0 = y := ⟨_, rfl⟩
      rw [hxe] at hcell hx
      rw [hye] at A2 hy
      have X := Lib.hid hxe
      have Y := Lib.hid hye
      clear hxe hye
      by_cases hneg : x - y - c < 0
      · go_wp2
        go_quiet ((go_at_call 86; exact Calls.quiet_of_same ((A2.out _).mono fun _ _ q => ⟨q.1, q.2.symm⟩)))
        go_wp2_with (at_builtin; refine app_int rfl (.tmp 29) (.tmp 31) rfl w.heap.size u5 k acc (x - y - c + 1000) _ rfl (show (wr.drewN nq).ownsRow _ _ _ _ _ _ from HO.out) rfl (by omega) (show w.heap.size ≤ (wr.drewN nq).heap.size from HB.out.size) ?_; intro v' w1 hown hgrow; have O3 := Lib.hid hown; have B1 := Lib.hid (below_app (wr := wr.drewN nq) ⟨HB.out.os, HB.out.tape, HB.out.output, HB.out.size, HB.out.block⟩ HB.out.size HO.out hgrow); clear hown hgrow)
        go_roundw
        case rel => exact ⟨k + 1, acc ++ [x - y - c + 1000], 1, by go_num, rfl, by omega, by omega, by omega, O3.out, (by show _ = _; rw [List.length_append, HL.out]; rfl), ok_snoc HA.out (by omega) (by omega), minus_inv HL.out X.out Y.out (by omega) HV.out, B1.out⟩
        case measure => simp [intOf]; omega
      · go_wp2
        go_quiet ((go_at_call 86; exact Calls.quiet_of_same ((A2.out _).mono fun _ _ q => ⟨q.1, q.2.symm⟩)))
        go_wp2_with (at_builtin; refine app_int rfl (.tmp 29) (.tmp 31) rfl w.heap.size u5 k acc (x - y - c) _ rfl (show (wr.drewN nq).ownsRow _ _ _ _ _ _ from HO.out) rfl (by omega) (show w.heap.size ≤ (wr.drewN nq).heap.size from HB.out.size) ?_; intro v' w1 hown hgrow; have O3 := Lib.hid hown; have B1 := Lib.hid (below_app (wr := wr.drewN nq) ⟨HB.out.os, HB.out.tape, HB.out.output, HB.out.size, HB.out.block⟩ HB.out.size HO.out hgrow); clear hown hgrow)
        go_roundw
        case rel => exact ⟨k + 1, acc ++ [x - y - c], 0, by go_num, rfl, by omega, by omega, by omega, O3.out, (by show _ = _; rw [List.length_append, HL.out]; rfl), ok_snoc HA.out (by omega) (by omega), minus_inv HL.out X.out Y.out (by omega) HV.out, B1.out⟩
        case measure => simp [intOf]; omega
    · obtain rfl : k = m1 := by omega
      have HF := Lib.hid (show val acc = val d1 - val d2 by
        have h := HV.out
        have q1 := L1.out
        have q2 := HLEN.out
        have h1 := HLE.out
        have h3 := val_lt HA.out
        rw [HL.out] at h3
        rw [val_drop_end d1 k (by omega), val_drop_end d2 k (by omega)] at h
        by_cases hc : c = 0
        · rw [hc] at h; simpa using h
        · rw [show (0 : Int) - 0 - c = -1 by omega, Int.mul_neg, Int.mul_one] at h; omega)
      go_wp2
      go_ret
      exact ⟨_, acc, rfl, reads_own HO.out HL.out, HA.out, HF.out, by rw [HL.out]; exact Nat.le_refl _, HB.out⟩
end Go.Proofs.YtbcddiaplpbhjaaDoor.Bg
namespace Go.Proofs.YtbcddiaplpbhjaaDoor.Bg
open Go Go.RowKit Go.Proofs.YtbcddiaplpbhjaaDoor.Dg
set_option linter.unusedVariables false
structure Keeps (w w' : World) : Prop where
  size : w.heap.size ≤ w'.heap.size
  ints : ∀ (a : Addr) (x : Int), w.cell? a = some (.int .i64 x) → w'.cell? a = some (.int .i64 x)
theorem Keeps.refl (w : World) : Keeps w w := ⟨Nat.le_refl _, fun _ _ h => h⟩
theorem Keeps.trans {a b c : World} (h : Keeps a b) (k : Keeps b c) : Keeps a c := ⟨Nat.le_trans h.size k.size, fun x v hx => k.ints x v (h.ints x v hx)⟩
theorem Keeps.of_setCell {w : World} {p : Addr} {u v : Value} (h : w.cell? p = some u) (hu : ∀ x, u ≠ .int .i64 x) : Keeps w (w.setCell p v) :=
  ⟨by simp, fun a x hx => by
    have hne : p ≠ a := fun e => by subst e; rw [h] at hx; exact hu x (Option.some.inj hx)
    rw [World.cell?_setCell_other _ _ _ _ hne]; exact hx⟩
theorem Reads.keeps {w w' : World} {v : Value} {ds : List Int} (h : Reads w v ds) (hk : Keeps w w') : Reads w' v ds := by
  rcases h with h | ⟨b, off, len, cap, e, hl, hc, hs, hr⟩
  · exact Or.inl h
  · exact Or.inr ⟨b, off, len, cap, e, hl, hc, Nat.lt_of_lt_of_le hs hk.size, fun i hi => hk.ints _ _ (hr i hi)⟩
theorem Is.keeps {w w' : World} {v : Value} {z : Int} (h : Is w v z) (hk : Keeps w w') : Is w' v z := h.elim fun s ⟨e, hr⟩ => ⟨s, e, hr.keeps hk⟩
theorem tdiv_cases (x n : Int) : (0 ≤ x → x.tdiv n = x / n ∧ x.tmod n = x % n) ∧ (x ≤ 0 → x.tdiv n = -((-x) / n) ∧ x.tmod n = -((-x) % n)) := by
  refine ⟨fun h => ⟨Int.tdiv_eq_ediv_of_nonneg h, Int.tmod_eq_emod_of_nonneg h⟩, fun h => ?_⟩
  have h1 := Int.neg_tmod (-x) n
  have h2 := Int.neg_tdiv (-x) n
  rw [Int.neg_neg] at h1 h2
  rw [h1, h2, Int.tmod_eq_emod_of_nonneg (show 0 ≤ -x by omega), Int.tdiv_eq_ediv_of_nonneg (show 0 ≤ -x by omega)]
  exact ⟨rfl, rfl⟩
theorem canon_len7 (n : Nat) (h : n ≤ 9223372036854775808) : (canon n).length ≤ 7 := canon_len n 7 (by
  have : pw 7 = 1000000000000000000000 := by decide
  omega)
def TellsBig (w : World) (z : Int) (e : Ending) (w' : World) : Prop := ∃ r, e = .returned r ∧ Is w' r z ∧ Below w.heap.size w w'
theorem of_step {acc : List Int} {x : Int} {n : Nat} (h : acc ++ canon x.natAbs = canon n) (hx : x ≠ 0) : (acc ++ [((x.natAbs % 1000 : Nat) : Int)]) ++ canon (x.natAbs / 1000) = canon n := by
  rw [← h, List.append_assoc, List.singleton_append, ← canon_pos x.natAbs (by omega)]
theorem box_at {w wr w2 : World} (h1 : Below (w.heap.size + 1) (w.alloc (.cells #[.bool false, .slice none 0 0] 97)) wr) (h2 : Below wr.heap.size wr w2) :
    w2.cell? ⟨w.heap.size, 0, none⟩ = some (.bool false) ∧ w2.cell? ⟨w.heap.size, 1, none⟩ = some (.slice none 0 0) ∧ w2.frozen? ⟨w.heap.size, 0, none⟩ = false ∧ w2.frozen? ⟨w.heap.size, 1, none⟩ = false := by
  have hs : w.heap.size < wr.heap.size := by have := h1.size; simp at this; omega
  refine ⟨?_, ?_, ?_, ?_⟩
  · rw [h2.cell hs, h1.cell (show w.heap.size < w.heap.size + 1 by omega), World.cell?_alloc_at _ _ _ _ rfl]; rfl
  · rw [h2.cell hs, h1.cell (show w.heap.size < w.heap.size + 1 by omega), World.cell?_alloc_at _ _ _ _ rfl]; rfl
  · rw [h2.frozen hs, h1.frozen (show w.heap.size < w.heap.size + 1 by omega), World.frozen?_alloc_at _ _ _ _ rfl]
  · rw [h2.frozen hs, h1.frozen (show w.heap.size < w.heap.size + 1 by omega), World.frozen?_alloc_at _ _ _ _ rfl]
def put2 (w : World) (B : Nat) (x y : Value) : World := (w.setCell ⟨B, 0, none⟩ x).setCell ⟨B, 1, none⟩ y
theorem put2_cells {w : World} {B : Nat} {x y u v : Value} (h0 : w.cell? ⟨B, 0, none⟩ = some u) (h1 : w.cell? ⟨B, 1, none⟩ = some v) :
    (put2 w B x y).cell? ⟨B, 0, none⟩ = some x ∧ (put2 w B x y).cell? ⟨B, 1, none⟩ = some y := by
  unfold put2
  refine ⟨?_, ?_⟩
  · rw [World.cell?_setCell_other _ _ _ _ (by simp)]; exact World.cell?_setCell_same _ _ _ h0
  · refine World.cell?_setCell_same _ _ _ (u := v) ?_
    rw [World.cell?_setCell_other _ _ _ _ (by simp)]; exact h1
theorem put2_keeps {w : World} {B : Nat} {x y u v : Value} (h0 : w.cell? ⟨B, 0, none⟩ = some u) (h1 : w.cell? ⟨B, 1, none⟩ = some v) (hu : ∀ z, u ≠ .int .i64 z) (hv : ∀ z, v ≠ .int .i64 z) : Keeps w (put2 w B x y) := by
  unfold put2
  refine (Keeps.of_setCell h0 hu).trans (Keeps.of_setCell (u := v) ?_ hv)
  rw [World.cell?_setCell_other _ _ _ _ (by simp)]; exact h1
theorem put2_below {w w2 : World} {B : Nat} {x y : Value} (h : Below w.heap.size w w2) (hB : w.heap.size ≤ B) : Below w.heap.size w (put2 w2 B x y) := (h.setCell (p := ⟨B, 0, none⟩) hB x).setCell (p := ⟨B, 1, none⟩) hB y
set_option maxRecDepth 100000 in
set_option maxHeartbeats 4000000 in
theorem of_any (a : Int) (w : World) (ha0 : -9223372036854775808 ≤ a) (ha1 : a ≤ 9223372036854775807) :
    Calls Tryd.prog 72 #[.int .i64 a] w (TellsBig w a) := by
  have HN := Lib.hid (canon_len7 a.natAbs (by omega))
  obtain ⟨neg, hneg⟩ : ∃ b, decide (a < 0) = b := ⟨_, rfl⟩
  have NEG := Lib.hid hneg
  go_enter Tryd.func72, Tryd.ntmps72
  go_wp2
  go_loopw [0, 3, 5] (fun x d k5 wr => ∃ (k : Nat) (acc : List Int) (z : Int), x = .int .i64 z ∧ -9223372036854775808 ≤ z ∧ z ≤ 9223372036854775807 ∧ Hid (a < 0 → z ≤ 0) ∧ Hid (0 ≤ a → 0 ≤ z) ∧ k ≤ 7 ∧
      Hid (wr.ownsRow (w.heap.size + 1) 3 1 d k (acc.map (Value.int .i64))) ∧ Hid (acc.length = k) ∧ Hid (acc ++ canon z.natAbs = canon a.natAbs) ∧ Hid (Below (w.heap.size + 1) (w.alloc (.cells #[.bool false, .slice none 0 0] 97)) wr))
    (fun x _ _ _ => (intOf x).natAbs)
  case atStart => exact ⟨0, [], a, rfl, ha0, ha1, (by show _ → _; omega), (by show _ → _; omega), by omega, World.ownsRow_nil _ _ _ _, rfl, rfl, Below.refl _ _⟩
  case round =>
    obtain ⟨k, acc, z, rfl, z0, z1, HS1, HS2, hk, HO, HL, HC, HB⟩ := hrel
    by_cases hz : z = 0
    · have hacc : acc = canon a.natAbs := by
        have h := HC.out
        rw [hz] at h; simpa [canon_zero] using h
      have HT := Lib.hid (trim_any neg u3 acc wr (reads_own HO.out HL.out) (by rw [hacc]; exact canon_ok _) (by rw [HL.out]; omega))
      have HE := Lib.hid (show sgn neg (val acc) = a by
        rw [hacc, val_canon, ← NEG.out]; unfold sgn
        by_cases h : a < 0
        · rw [decide_eq_true h]; simp; omega
        · rw [decide_eq_false h]; simp; omega)
      have hz1 : ((z : Int) != 0) = false := by simp [hz]
      have hsz := HB.out.size
      clear hacc hz
      go_wp2_with (go_at_call 82; refine HT.out.mono ?_; rintro e w2 ⟨r, rfl, ⟨sv, rfl, hrd⟩, hbl⟩; obtain ⟨sc0, sc1, sf0, sf1⟩ := box_at HB.out hbl; obtain ⟨sa, scp, rfl, _⟩ := hrd.len; have RD := Lib.hid hrd; have BL := Lib.hid hbl; clear hrd hbl)
      have hp := put2_cells (x := .bool (decide (sgn neg (val acc) < 0))) (y := .slice sa (canon (sgn neg (val acc)).natAbs).length scp) sc0 sc1
      refine bodyPost_ret (v := .agg #[.bool (decide (sgn neg (val acc) < 0)), .slice sa (canon (sgn neg (val acc)).natAbs).length scp]) ?_ rfl ⟨_, rfl, ?_, ?_⟩
      · change (results _ _).run _ (put2 w2 w.heap.size _ _) = _
        simp [results, Tryd.results72, go_sem, hp.1, hp.2]; rfl
      · have hi : Is w2 (.agg #[.bool (decide (sgn neg (val acc) < 0)), .slice sa (canon (sgn neg (val acc)).natAbs).length scp]) a := by
          have h := HE.out
          have r := RD.out
          rw [h] at r ⊢
          exact ⟨_, rfl, r⟩
        exact hi.keeps (put2_keeps sc0 sc1 (fun z => by simp) (fun z => by simp))
      · have hb : Below w.heap.size w wr := ((Below.refl _ _).alloc (Nat.le_refl _) _).trans (HB.out.mono (by omega))
        exact put2_below (hb.trans (BL.out.mono hb.size)) (Nat.le_refl _)
    · have hz1 : ((z : Int) != 0) = true := by simpa using hz
      have HST := Lib.hid (of_step HC.out hz)
      have hc1 := canon_len7 z.natAbs (by omega)
      have hk6 : k ≤ 6 := by
        have h1 : (acc ++ canon z.natAbs).length ≤ 7 := by rw [HC.out]; exact HN.out
        rw [List.length_append, HL.out, canon_pos z.natAbs (by omega), List.length_cons] at h1
        omega
      clear hc1
      obtain ⟨t1, t2⟩ := tdiv_cases z 1000
      obtain ⟨q, hq⟩ : ∃ q, z.tdiv 1000 = q := ⟨_, rfl⟩
      obtain ⟨r, hr⟩ : ∃ r, z.tmod 1000 = r := ⟨_, rfl⟩
      rw [hq, hr] at t1 t2
      by_cases hneg2 : z < 0
      · have tt := t2 (by omega)
        have hr0 : -1000 < r ∧ r ≤ 0 := by omega
        have hq0 : -9223372036854775808 ≤ q ∧ q ≤ 0 := by omega
        have T := Lib.hid tt
        clear t1 t2 tt
        by_cases hr1 : r < 0
        · go_wp2_with (at_builtin; refine app_int rfl (.tmp 16) (.tmp 18) rfl (w.heap.size + 1) u3 k acc (-r) wr rfl HO.out rfl (by omega) (by have := HB.out.size; simp at this; omega) ?_; intro v' w1 hown hgrow; have O1 := Lib.hid hown; have B1 := Lib.hid (below_app HB.out (by have := HB.out.size; simp at this; omega) HO.out hgrow); clear hown hgrow)
          go_roundw
          case rel => exact ⟨k + 1, acc ++ [-r], q, rfl, by omega, by omega, (by show _ → _; intro h; have := T.out; have := HS1.out; omega), (by show _ → _; intro h; have := T.out; have := HS2.out; omega), by omega, O1.out, (by show _ = _; rw [List.length_append, HL.out]; rfl), (by
            have h := HST.out
            have t := T.out
            rw [show ((z.natAbs % 1000 : Nat) : Int) = -r by omega, show z.natAbs / 1000 = q.natAbs by omega] at h
            exact h), B1.out⟩
          case measure => have t := T.out; simp [intOf]; omega
        · obtain rfl : r = 0 := by omega
          go_wp2_with (at_builtin; refine app_int rfl (.tmp 16) (.tmp 18) rfl (w.heap.size + 1) u3 k acc (0) wr rfl HO.out rfl (by omega) (by have := HB.out.size; simp at this; omega) ?_; intro v' w1 hown hgrow; have O1 := Lib.hid hown; have B1 := Lib.hid (below_app HB.out (by have := HB.out.size; simp at this; omega) HO.out hgrow); clear hown hgrow)
          go_roundw
          case rel => exact ⟨k + 1, acc ++ [0], q, rfl, by omega, by omega, (by show _ → _; intro h; have := T.out; have := HS1.out; omega), (by show _ → _; intro h; have := T.out; have := HS2.out; omega), by omega, O1.out, (by show _ = _; rw [List.length_append, HL.out]; rfl), (by
            have h := HST.out
            have t := T.out
            rw [show ((z.natAbs % 1000 : Nat) : Int) = 0 by omega, show z.natAbs / 1000 = q.natAbs by omega] at h
            exact h), B1.out⟩
          case measure => have t := T.out; simp [intOf]; omega
      · have tt := t1 (by omega)
        have hr0 : 0 ≤ r ∧ r < 1000 := by omega
        have hq0 : 0 ≤ q ∧ q ≤ 9223372036854775807 := by omega
        have T := Lib.hid tt
        clear t1 t2 tt
        go_wp2_with (at_builtin; refine app_int rfl (.tmp 16) (.tmp 18) rfl (w.heap.size + 1) u3 k acc (r) wr rfl HO.out rfl (by omega) (by have := HB.out.size; simp at this; omega) ?_; intro v' w1 hown hgrow; have O1 := Lib.hid hown; have B1 := Lib.hid (below_app HB.out (by have := HB.out.size; simp at this; omega) HO.out hgrow); clear hown hgrow)
        go_roundw
        case rel => exact ⟨k + 1, acc ++ [r], q, rfl, by omega, by omega, (by show _ → _; intro h; have := T.out; have := HS1.out; omega), (by show _ → _; intro h; have := T.out; have := HS2.out; omega), by omega, O1.out, (by show _ = _; rw [List.length_append, HL.out]; rfl), (by
          have h := HST.out
          have t := T.out
          rw [show ((z.natAbs % 1000 : Nat) : Int) = r by omega, show z.natAbs / 1000 = q.natAbs by omega] at h
          exact h), B1.out⟩
        case measure => have t := T.out; simp [intOf]; omega
end Go.Proofs.YtbcddiaplpbhjaaDoor.Bg
namespace Go.Proofs.YtbcddiaplpbhjaaDoor.Bg
open Go Go.RowKit Go.Proofs.YtbcddiaplpbhjaaDoor.Dg
set_option linter.unusedVariables false
theorem bcell {W w1 : World} (hb : Below W.heap.size W w1) : (∀ b o, b < W.heap.size → w1.cell? ⟨b, o, none⟩ = W.cell? ⟨b, o, none⟩) ∧ (∀ b o, b < W.heap.size → w1.frozen? ⟨b, o, none⟩ = W.frozen? ⟨b, o, none⟩) :=
  ⟨fun b o h => hb.cell (p := ⟨b, o, none⟩) h, fun b o h => hb.frozen (p := ⟨b, o, none⟩) h⟩
def Sm (x : Int) : Prop := -1000000000000000000000000000000000000000000000000000000000000 < x ∧ x < 1000000000000000000000000000000000000000000000000000000000000
theorem Sm.len {x : Int} (h : Sm x) : (canon x.natAbs).length ≤ 20 := canon_len _ 20 (by
  have e : pw 20 = 1000000000000000000000000000000000000000000000000000000000000 := by decide
  have := h.1; have := h.2
  omega)
theorem Is.form {w : World} {v : Value} {x : Int} (h : Is w v x) : ∃ a cap, v = .agg #[.bool (decide (x < 0)), .slice a (canon x.natAbs).length cap] ∧ Reads w (.slice a (canon x.natAbs).length cap) (canon x.natAbs) := by
  obtain ⟨s, rfl, hr⟩ := h
  obtain ⟨a, cap, rfl, _⟩ := hr.len
  exact ⟨a, cap, rfl, hr⟩
theorem res_big {fn : Func} {t B : Nat} {tmps : Array Value} {W : World} {x y : Value} (h : fn.results = #[.cell t 97]) (hp : tmps.getD t undef = .pointer (some ⟨B, 0, none⟩))
    (c : W.cell? ⟨B, 0, none⟩ = some x ∧ W.cell? ⟨B, 1, none⟩ = some y) : (results fn tmps).run Tryd.prog W = .ok (.agg #[x, y]) W := by
  have hp' : tmps[t]?.getD undef = .pointer (some ⟨B, 0, none⟩) := by simpa using hp
  simp [results, h, hp', go_sem, c.1, c.2]
theorem tells_put2 {w w2 : World} {B : Nat} {z : Int} {sa : Option Addr} {scp : Nat} {u v : Value} (hr : Reads w2 (.slice sa (canon z.natAbs).length scp) (canon z.natAbs)) (h0 : w2.cell? ⟨B, 0, none⟩ = some u) (h1 : w2.cell? ⟨B, 1, none⟩ = some v)
    (hu : ∀ z, u ≠ .int .i64 z) (hv : ∀ z, v ≠ .int .i64 z) (hb : Below w.heap.size w w2) (hB : w.heap.size ≤ B) :
    TellsBig w z (.returned (.agg #[.bool (decide (z < 0)), .slice sa (canon z.natAbs).length scp])) (put2 w2 B (.bool (decide (z < 0))) (.slice sa (canon z.natAbs).length scp)) :=
  ⟨_, rfl, Is.keeps ⟨_, rfl, hr⟩ (put2_keeps h0 h1 hu hv), put2_below hb hB⟩
theorem nb (b : Bool) : ∀ z, (Value.bool b) ≠ .int .i64 z := fun z h => by cases h
theorem ns (a : Option Addr) (l c : Nat) : ∀ z, (Value.slice a l c) ≠ .int .i64 z := fun z h => by cases h
theorem zero_at (w : World) (B : Nat) (h : B = w.heap.size) : (w.alloc (.cells #[.bool false, .slice none 0 0] 97)).cell? ⟨B, 0, none⟩ = some (.bool false) ∧ (w.alloc (.cells #[.bool false, .slice none 0 0] 97)).cell? ⟨B, 1, none⟩ = some (.slice none 0 0) := by
  subst h
  exact ⟨by rw [World.cell?_alloc_at _ _ _ _ rfl]; rfl, by rw [World.cell?_alloc_at _ _ _ _ rfl]; rfl⟩
set_option maxHeartbeats 1000000 in
theorem minusB_any (v : Value) (x : Int) (w : World) (h : Is w v x) (hs : Sm x) : Calls Tryd.prog 95 #[v] w (TellsBig w (-x)) := by
  obtain ⟨a, cap, rfl, hr⟩ := h.form
  have hl := hs.len
  obtain ⟨b0, hb0⟩ : ∃ b, decide (x < 0) = b := ⟨_, rfl⟩
  have B0 := Lib.hid hb0
  have HT := Lib.hid (fun w (hr : Reads w (.slice a (canon x.natAbs).length cap) (canon x.natAbs)) => trim_any (!b0) (.slice a (canon x.natAbs).length cap) (canon x.natAbs) w hr (canon_ok _) (by omega))
  have HV := Lib.hid (show sgn (!b0) (val (canon x.natAbs)) = -x by
    rw [val_canon, ← hb0]; unfold sgn
    by_cases h : x < 0
    · rw [decide_eq_true h]; simp; omega
    · rw [decide_eq_false h]; simp; omega)
  rw [HV.out] at HT
  rw [hb0]
  obtain ⟨z, hz⟩ : ∃ z, -x = z := ⟨_, rfl⟩
  rw [hz] at HT ⊢
  obtain ⟨n, hn⟩ : ∃ n, (canon x.natAbs).length = n := ⟨_, rfl⟩
  rw [hn] at HT hr ⊢
  have HR := Lib.hid (fun w1 hb => hr.below (w' := w1) hb)
  clear hr h hn hb0 hl hz HV
  have bw : Below w.heap.size w ((w.alloc (.cells #[.bool b0, .slice a n cap] 97)).alloc (.cells #[.bool false, .slice none 0 0] 97)) := ((Below.refl _ _).alloc (Nat.le_refl _) _).alloc (by simp) _
  have BW := Lib.hid bw
  have Z := Lib.hid (zero_at (w.alloc (.cells #[.bool b0, .slice a n cap] 97)) (w.heap.size + 1) (by simp))
  clear bw
  go_enter Tryd.func95, Tryd.ntmps95
  go_wp2_with (go_at_call 82; refine (HT.out _ (HR.out _ BW.out)).mono ?_; rintro e w2 ⟨r, rfl, hIs, hbl⟩; obtain ⟨sa, scp, rfl, hrd⟩ := hIs.form; obtain ⟨c1, f1⟩ := bcell hbl; have RD := Lib.hid hrd; have BL := Lib.hid hbl; clear hrd hbl hIs)
  have k0 := (BL.out.cell (p := ⟨w.heap.size + 1, 0, none⟩) (by simp)).trans Z.out.1
  have k1 := (BL.out.cell (p := ⟨w.heap.size + 1, 1, none⟩) (by simp)).trans Z.out.2
  exact bodyPost_ret (res_big Tryd.results95 rfl (put2_cells k0 k1)) rfl (tells_put2 RD.out k0 k1 (nb _) (ns _ _ _) (BW.out.trans (BL.out.mono BW.out.size)) (by omega))
end Go.Proofs.YtbcddiaplpbhjaaDoor.Bg
namespace Go.Proofs.YtbcddiaplpbhjaaDoor.Bg
open Go Go.RowKit Go.Proofs.YtbcddiaplpbhjaaDoor.Dg
set_option linter.unusedVariables false
theorem canon_mono (m n : Nat) (h : m ≤ n) : (canon m).length ≤ (canon n).length := canon_len m _ (by
  have h1 := val_lt (canon_ok n)
  rw [val_canon] at h1; omega)
theorem minus_any (v1 v2 : Value) (n m : Nat) (w : World) (h1 : Reads w v1 (canon n)) (h2 : Reads w v2 (canon m)) (hm : m ≤ n) (hn : 0 < n) (hl : (canon n).length ≤ 1000) :
    Calls Tryd.prog 99 #[v1, v2] w (Told w ((n : Int) - m) (canon n).length) := by
  rcases h1 with ⟨rfl, e⟩ | ⟨b, off, len, cap, rfl, rfl, hc, hs, hr⟩
  · rw [canon_pos n hn] at e; cases e
  · have := minus_row b off cap v2 (canon n) (canon m) w hs hc hr h2 (canon_ok n) (canon_ok m) (by omega) (canon_mono m n hm) (by rw [val_canon, val_canon]; omega)
    rw [val_canon, val_canon] at this
    exact this
theorem put2_other {w : World} {B b o : Nat} {x y v : Value} (hne : B ≠ b) (h : w.cell? ⟨b, o, none⟩ = some v) : (put2 w B x y).cell? ⟨b, o, none⟩ = some v := by
  unfold put2
  rw [World.cell?_setCell_other _ _ _ _ (fun e => hne (congrArg Addr.block e)), World.cell?_setCell_other _ _ _ _ (fun e => hne (congrArg Addr.block e))]; exact h
theorem below_undrew {B : Nat} {w w' : World} (h : Below B w.drew w') : Below B w w' := ⟨h.os, h.tape, h.output, h.size, h.block⟩
def boxes (w : World) (b0 : Bool) (s0 : Value) (b1 : Bool) (s1 : Value) : World :=
  ((w.alloc (.cells #[.bool b0, s0] 97)).alloc (.cells #[.bool b1, s1] 97)).alloc (.cells #[.bool false, .slice none 0 0] 97)
theorem boxes_below (w : World) (b0 : Bool) (s0 : Value) (b1 : Bool) (s1 : Value) : Below w.heap.size w (boxes w b0 s0 b1 s1) :=
  (((Below.refl _ _).alloc (Nat.le_refl _) _).alloc (by simp) _).alloc (by simp; omega) _
theorem boxes_size (w : World) (b0 : Bool) (s0 : Value) (b1 : Bool) (s1 : Value) : (boxes w b0 s0 b1 s1).heap.size = w.heap.size + 3 := by unfold boxes; simp
structure BoxesAt (w w' : World) (b0 : Bool) (s0 : Value) (b1 : Bool) (s1 : Value) : Prop where
  x0 : w'.cell? ⟨w.heap.size, 0, none⟩ = some (.bool b0)
  x1 : w'.cell? ⟨w.heap.size, 1, none⟩ = some s0
  y0 : w'.cell? ⟨w.heap.size + 1, 0, none⟩ = some (.bool b1)
  y1 : w'.cell? ⟨w.heap.size + 1, 1, none⟩ = some s1
  z0 : w'.cell? ⟨w.heap.size + 2, 0, none⟩ = some (.bool false)
  z1 : w'.cell? ⟨w.heap.size + 2, 1, none⟩ = some (.slice none 0 0)
  f0 : w'.frozen? ⟨w.heap.size + 2, 0, none⟩ = false
  f1 : w'.frozen? ⟨w.heap.size + 2, 1, none⟩ = false
theorem boxes_at (w : World) (b0 : Bool) (s0 : Value) (b1 : Bool) (s1 : Value) : BoxesAt w (boxes w b0 s0 b1 s1) b0 s0 b1 s1 := by
  unfold boxes
  refine ⟨?_, ?_, ?_, ?_, ?_, ?_, ?_, ?_⟩
  · rw [World.cell?_alloc_past _ _ _ (by simp <;> omega), World.cell?_alloc_past _ _ _ (by simp), World.cell?_alloc_at _ _ _ _ rfl]; rfl
  · rw [World.cell?_alloc_past _ _ _ (by simp <;> omega), World.cell?_alloc_past _ _ _ (by simp), World.cell?_alloc_at _ _ _ _ rfl]; rfl
  · rw [World.cell?_alloc_past _ _ _ (by simp), World.cell?_alloc_at _ _ _ _ (by simp)]; rfl
  · rw [World.cell?_alloc_past _ _ _ (by simp), World.cell?_alloc_at _ _ _ _ (by simp)]; rfl
  · rw [World.cell?_alloc_at _ _ _ _ (by simp)]; rfl
  · rw [World.cell?_alloc_at _ _ _ _ (by simp)]; rfl
  · rw [World.frozen?_alloc_at _ _ _ _ (by simp)]
  · rw [World.frozen?_alloc_at _ _ _ _ (by simp)]
theorem BoxesAt.below {w w' w2 : World} {b0 : Bool} {s0 : Value} {b1 : Bool} {s1 : Value} (h : BoxesAt w w' b0 s0 b1 s1) (hs : w.heap.size + 3 ≤ w'.heap.size) (hb : Below w'.heap.size w' w2) : BoxesAt w w2 b0 s0 b1 s1 := by
  obtain ⟨a, b, c, d, e, f, g, i⟩ := h
  refine ⟨?_, ?_, ?_, ?_, ?_, ?_, ?_, ?_⟩
  all_goals first
    | (rw [hb.cell (show _ < w'.heap.size by show _ < _; simp only; omega)]; assumption)
    | (rw [hb.frozen (show _ < w'.heap.size by show _ < _; simp only; omega)]; assumption)
theorem BoxesAt.drewN {w w' : World} {b0 : Bool} {s0 : Value} {b1 : Bool} {s1 : Value} (h : BoxesAt w w' b0 s0 b1 s1) (n : Nat) : BoxesAt w (w'.drewN n) b0 s0 b1 s1 := ⟨h.x0, h.x1, h.y0, h.y1, h.z0, h.z1, h.f0, h.f1⟩
set_option maxHeartbeats 2000000 in
theorem add_same (a1 a2 : Option Addr) (c1 c2 : Nat) (n1 n2 : Nat) (b : Bool) (w : World) (l1 l2 : Nat) (e1 : (canon n1).length = l1) (e2 : (canon n2).length = l2)
    (h1 : Reads w (.slice a1 l1 c1) (canon n1)) (h2 : Reads w (.slice a2 l2 c2) (canon n2)) (hl1 : l1 ≤ 1000) (hl2 : l2 ≤ 1000) :
    Calls Tryd.prog 87 #[.agg #[.bool b, .slice a1 l1 c1], .agg #[.bool b, .slice a2 l2 c2]] w (TellsBig w (sgn b ((n1 : Int) + n2))) := by
  have BX := Lib.hid (boxes_at w b (.slice a1 l1 c1) b (.slice a2 l2 c2))
  have BB := Lib.hid (boxes_below w b (.slice a1 l1 c1) b (.slice a2 l2 c2))
  have BS := Lib.hid (boxes_size w b (.slice a1 l1 c1) b (.slice a2 l2 c2))
  have HP := Lib.hid (fun w1 hb => plus_any _ _ _ _ w1 (h1.below (w' := w1) hb) (h2.below (w' := w1) hb) (canon_ok _) (canon_ok _) (by omega) (by omega))
  rw [val_canon, val_canon] at HP
  have HT := Lib.hid (fun w1 v ds (hr : Reads w1 v ds) ho hl => trim_any b v ds w1 hr ho hl)
  obtain ⟨z, hz⟩ : ∃ z, (n1 : Int) + n2 = z := ⟨_, rfl⟩
  rw [hz] at HP ⊢
  obtain ⟨L, hL⟩ : ∃ L, (canon n1).length + (canon n2).length + 1 = L := ⟨_, rfl⟩
  rw [hL] at HP
  have hL2 : L ≤ 100000 := by omega
  clear hL
  clear h1 h2 hz e1 e2
  have hbb : ((b : Bool) == b) = true := by cases b <;> rfl
  go_enter Tryd.func87, Tryd.ntmps87
  go_upto_region 2 with fail
  change Code.wp _ _ _ _ (boxes w b (.slice a1 l1 c1) b (.slice a2 l2 c2))
  obtain ⟨W, hW⟩ : ∃ W, boxes w b (.slice a1 l1 c1) b (.slice a2 l2 c2) = W := ⟨_, rfl⟩
  rw [hW] at BX BB BS ⊢
  clear hW
  obtain ⟨x0, x1, y0, y1, z0, z1, f0, f1⟩ := BX.out
  go_region_held3 (fun w' => w'.cell? ⟨w.heap.size, 0, none⟩ = some (.bool b) ∧ w'.cell? ⟨w.heap.size, 1, none⟩ = some (.slice a1 l1 c1) ∧ w'.cell? ⟨w.heap.size + 1, 0, none⟩ = some (.bool b) ∧ w'.cell? ⟨w.heap.size + 1, 1, none⟩ = some (.slice a2 l2 c2)) (first | exact ⟨put2_other (by omega) x0'', put2_other (by omega) x1'', put2_other (by omega) y0'', put2_other (by omega) y1''⟩ | go_keep)
    (first
      | (go_at_call 97; refine (HP.out _ (by first | exact BB.out | exact BB.out.drew)).mono ?_; rintro e w1 ⟨r, ds, rfl, hr, ho, hv, hl, hbl⟩; have hbl2 : Below W.heap.size W w1 := (by first | exact hbl | exact below_undrew hbl); have BX1 := Lib.hid (BX.out.below (by have := BS.out; omega) hbl2); obtain ⟨x0', x1', y0', y1', z0', z1', f0', f1'⟩ := BX1.out; have R := Lib.hid hr; have O := Lib.hid ho; have V := Lib.hid hv; have B1 := Lib.hid hbl2; clear hr ho hv hbl hbl2)
      | (go_at_call 82; refine (HT.out _ _ _ R.out O.out (by omega)).mono ?_; rintro e w2 ⟨r, rfl, hIs, hbl⟩; rw [V.out] at hIs; obtain ⟨sa, scp, rfl, hrd⟩ := hIs.form; have BX2 := Lib.hid (BX1.out.below (by have := BS.out; have := B1.out.size; omega) hbl); obtain ⟨x0'', x1'', y0'', y1'', z0'', z1'', f0'', f1''⟩ := BX2.out; have RD := Lib.hid hrd; have B2 := Lib.hid hbl; clear hIs hrd hbl))
  go_wp2
  exact bodyPost_ret (res_big Tryd.results87 rfl (put2_cells z0'' z1'')) rfl (tells_put2 RD.out z0'' z1'' (nb _) (ns _ _ _) (BB.out.trans ((B1.out.mono BB.out.size).trans (B2.out.mono (Nat.le_trans BB.out.size B1.out.size)))) (by omega))
set_option maxHeartbeats 2000000 in
theorem add_first (a1 a2 : Option Addr) (c1 c2 : Nat) (n1 n2 : Nat) (b : Bool) (w : World) (l1 l2 : Nat) (e1 : (canon n1).length = l1) (e2 : (canon n2).length = l2)
    (h1 : Reads w (.slice a1 l1 c1) (canon n1)) (h2 : Reads w (.slice a2 l2 c2) (canon n2)) (hl1 : l1 ≤ 1000) (hl2 : l2 ≤ 1000) (hlt : n2 ≤ n1) (hpos : 0 < n1) :
    Calls Tryd.prog 87 #[.agg #[.bool b, .slice a1 l1 c1], .agg #[.bool (!b), .slice a2 l2 c2]] w (TellsBig w (sgn b ((n1 : Int) - n2))) := by
  have BX := Lib.hid (boxes_at w b (.slice a1 l1 c1) (!b) (.slice a2 l2 c2))
  have BB := Lib.hid (boxes_below w b (.slice a1 l1 c1) (!b) (.slice a2 l2 c2))
  have BS := Lib.hid (boxes_size w b (.slice a1 l1 c1) (!b) (.slice a2 l2 c2))
  have HS := Lib.hid (fun w1 hb => sizes_any _ _ _ _ w1 (h1.below (w' := w1) hb) (h2.below (w' := w1) hb) (canon_ok _) (canon_ok _) (by omega) (by omega))
  rw [val_canon, val_canon] at HS
  have hcv : 0 ≤ cmpI (n1 : Int) n2 := by unfold cmpI; rw [if_neg (by omega)]; split <;> omega
  obtain ⟨cv, hcv2⟩ : ∃ cv, cmpI (n1 : Int) n2 = cv := ⟨_, rfl⟩
  unfold CmpPost at HS
  rw [hcv2] at HS hcv
  clear hcv2
  have HP := Lib.hid (fun w1 hb => minus_any _ _ n1 n2 w1 (h1.below (w' := w1) hb) (h2.below (w' := w1) hb) hlt hpos (by omega))
  have HT := Lib.hid (fun w1 v ds (hr : Reads w1 v ds) ho hl => trim_any b v ds w1 hr ho hl)
  obtain ⟨z, hz⟩ : ∃ z, (n1 : Int) - n2 = z := ⟨_, rfl⟩
  rw [hz] at HP ⊢
  obtain ⟨L, hL⟩ : ∃ L, (canon n1).length = L := ⟨_, rfl⟩
  rw [hL] at HP
  have hL2 : L ≤ 100000 := by omega
  clear hL
  clear h1 h2 hz e1 e2
  have hbb : ((b : Bool) == !b) = false := by cases b <;> rfl
  clear hlt hpos
  go_enter Tryd.func87, Tryd.ntmps87
  go_upto_region 4 with (go_at_call 98; refine (HS.out _ BB.out).mono ?_; rintro e w' ⟨rfl, rfl⟩)
  change Code.wp _ _ _ _ (boxes w b (.slice a1 l1 c1) (!b) (.slice a2 l2 c2))
  obtain ⟨W, hW⟩ : ∃ W, boxes w b (.slice a1 l1 c1) (!b) (.slice a2 l2 c2) = W := ⟨_, rfl⟩
  rw [hW] at BX BB BS ⊢
  clear hW
  obtain ⟨x0, x1, y0, y1, z0, z1, f0, f1⟩ := BX.out
  go_region_held3 (fun w' => w'.cell? ⟨w.heap.size, 0, none⟩ = some (.bool b) ∧ w'.cell? ⟨w.heap.size, 1, none⟩ = some (.slice a1 l1 c1) ∧ w'.cell? ⟨w.heap.size + 1, 0, none⟩ = some (.bool (!b)) ∧ w'.cell? ⟨w.heap.size + 1, 1, none⟩ = some (.slice a2 l2 c2)) (first | exact ⟨put2_other (by omega) x0'', put2_other (by omega) x1'', put2_other (by omega) y0'', put2_other (by omega) y1''⟩ | go_keep)
    (first
      | (go_at_call 99; refine (HP.out _ (by first | exact BB.out | exact BB.out.drew)).mono ?_; rintro e w1 ⟨r, ds, rfl, hr, ho, hv, hl, hbl⟩; have hbl2 : Below W.heap.size W w1 := (by first | exact hbl | exact below_undrew hbl); have BX1 := Lib.hid (BX.out.below (by have := BS.out; omega) hbl2); obtain ⟨x0', x1', y0', y1', z0', z1', f0', f1'⟩ := BX1.out; have R := Lib.hid hr; have O := Lib.hid ho; have V := Lib.hid hv; have B1 := Lib.hid hbl2; clear hr ho hv hbl hbl2)
      | (go_at_call 82; refine (HT.out _ _ _ R.out O.out (by omega)).mono ?_; rintro e w2 ⟨r, rfl, hIs, hbl⟩; rw [V.out] at hIs; obtain ⟨sa, scp, rfl, hrd⟩ := hIs.form; have BX2 := Lib.hid (BX1.out.below (by have := BS.out; have := B1.out.size; omega) hbl); obtain ⟨x0'', x1'', y0'', y1'', z0'', z1'', f0'', f1''⟩ := BX2.out; have RD := Lib.hid hrd; have B2 := Lib.hid hbl; clear hIs hrd hbl))
  go_wp2
  exact bodyPost_ret (res_big Tryd.results87 rfl (put2_cells z0'' z1'')) rfl (tells_put2 RD.out z0'' z1'' (nb _) (ns _ _ _) (BB.out.trans ((B1.out.mono BB.out.size).trans (B2.out.mono (Nat.le_trans BB.out.size B1.out.size)))) (by omega))
set_option maxHeartbeats 2000000 in
theorem add_second (a1 a2 : Option Addr) (c1 c2 : Nat) (n1 n2 : Nat) (b : Bool) (w : World) (l1 l2 : Nat) (e1 : (canon n1).length = l1) (e2 : (canon n2).length = l2)
    (h1 : Reads w (.slice a1 l1 c1) (canon n1)) (h2 : Reads w (.slice a2 l2 c2) (canon n2)) (hl1 : l1 ≤ 1000) (hl2 : l2 ≤ 1000) (hlt : n1 < n2) :
    Calls Tryd.prog 87 #[.agg #[.bool b, .slice a1 l1 c1], .agg #[.bool (!b), .slice a2 l2 c2]] w (TellsBig w (sgn (!b) ((n2 : Int) - n1))) := by
  have BX := Lib.hid (boxes_at w b (.slice a1 l1 c1) (!b) (.slice a2 l2 c2))
  have BB := Lib.hid (boxes_below w b (.slice a1 l1 c1) (!b) (.slice a2 l2 c2))
  have BS := Lib.hid (boxes_size w b (.slice a1 l1 c1) (!b) (.slice a2 l2 c2))
  have HS := Lib.hid (fun w1 hb => sizes_any _ _ _ _ w1 (h1.below (w' := w1) hb) (h2.below (w' := w1) hb) (canon_ok _) (canon_ok _) (by omega) (by omega))
  rw [val_canon, val_canon] at HS
  have hcv : cmpI (n1 : Int) n2 < 0 := by unfold cmpI; rw [if_pos (by omega)]; omega
  obtain ⟨cv, hcv2⟩ : ∃ cv, cmpI (n1 : Int) n2 = cv := ⟨_, rfl⟩
  unfold CmpPost at HS
  rw [hcv2] at HS hcv
  clear hcv2
  have HP := Lib.hid (fun w1 hb => minus_any _ _ n2 n1 w1 (h2.below (w' := w1) hb) (h1.below (w' := w1) hb) (by omega) (by omega) (by omega))
  have HT := Lib.hid (fun w1 v ds (hr : Reads w1 v ds) ho hl => trim_any (!b) v ds w1 hr ho hl)
  obtain ⟨z, hz⟩ : ∃ z, (n2 : Int) - n1 = z := ⟨_, rfl⟩
  rw [hz] at HP ⊢
  obtain ⟨L, hL⟩ : ∃ L, (canon n2).length = L := ⟨_, rfl⟩
  rw [hL] at HP
  have hL2 : L ≤ 100000 := by omega
  clear hL
  clear h1 h2 hz e1 e2
  have hbb : ((b : Bool) == !b) = false := by cases b <;> rfl
  clear hlt
  go_enter Tryd.func87, Tryd.ntmps87
  go_upto_region 5 with (go_at_call 98; refine (HS.out _ BB.out).mono ?_; rintro e w' ⟨rfl, rfl⟩)
  change Code.wp _ _ _ _ (boxes w b (.slice a1 l1 c1) (!b) (.slice a2 l2 c2))
  obtain ⟨W, hW⟩ : ∃ W, boxes w b (.slice a1 l1 c1) (!b) (.slice a2 l2 c2) = W := ⟨_, rfl⟩
  rw [hW] at BX BB BS ⊢
  clear hW
  obtain ⟨x0, x1, y0, y1, z0, z1, f0, f1⟩ := BX.out
  go_region_held3 (fun w' => w'.cell? ⟨w.heap.size, 0, none⟩ = some (.bool b) ∧ w'.cell? ⟨w.heap.size, 1, none⟩ = some (.slice a1 l1 c1) ∧ w'.cell? ⟨w.heap.size + 1, 0, none⟩ = some (.bool (!b)) ∧ w'.cell? ⟨w.heap.size + 1, 1, none⟩ = some (.slice a2 l2 c2)) (first | exact ⟨put2_other (by omega) x0'', put2_other (by omega) x1'', put2_other (by omega) y0'', put2_other (by omega) y1''⟩ | go_keep)
    (first
      | (go_at_call 99; refine (HP.out _ (by first | exact BB.out | exact BB.out.drew)).mono ?_; rintro e w1 ⟨r, ds, rfl, hr, ho, hv, hl, hbl⟩; have hbl2 : Below W.heap.size W w1 := (by first | exact hbl | exact below_undrew hbl); have BX1 := Lib.hid (BX.out.below (by have := BS.out; omega) hbl2); obtain ⟨x0', x1', y0', y1', z0', z1', f0', f1'⟩ := BX1.out; have R := Lib.hid hr; have O := Lib.hid ho; have V := Lib.hid hv; have B1 := Lib.hid hbl2; clear hr ho hv hbl hbl2)
      | (go_at_call 82; refine (HT.out _ _ _ R.out O.out (by omega)).mono ?_; rintro e w2 ⟨r, rfl, hIs, hbl⟩; rw [V.out] at hIs; obtain ⟨sa, scp, rfl, hrd⟩ := hIs.form; have BX2 := Lib.hid (BX1.out.below (by have := BS.out; have := B1.out.size; omega) hbl); obtain ⟨x0'', x1'', y0'', y1'', z0'', z1'', f0'', f1''⟩ := BX2.out; have RD := Lib.hid hrd; have B2 := Lib.hid hbl; clear hIs hrd hbl))
  go_wp2
  exact bodyPost_ret (res_big Tryd.results87 rfl (put2_cells z0'' z1'')) rfl (tells_put2 RD.out z0'' z1'' (nb _) (ns _ _ _) (BB.out.trans ((B1.out.mono BB.out.size).trans (B2.out.mono (Nat.le_trans BB.out.size B1.out.size)))) (by omega))
end Go.Proofs.YtbcddiaplpbhjaaDoor.Bg
namespace Go.Proofs.YtbcddiaplpbhjaaDoor.Bg
open Go Go.RowKit Go.Proofs.YtbcddiaplpbhjaaDoor.Dg
set_option linter.unusedVariables false
theorem TellsBig.eq {w w' : World} {x y : Int} {e : Ending} (h : TellsBig w x e w') (hxy : x = y) : TellsBig w y e w' := by rw [← hxy]; exact h
theorem addB_any (v1 v2 : Value) (x y : Int) (w : World) (h1 : Is w v1 x) (h2 : Is w v2 y) (s1 : Sm x) (s2 : Sm y) : Calls Tryd.prog 87 #[v1, v2] w (TellsBig w (x + y)) := by
  obtain ⟨a1, c1, rfl, r1⟩ := h1.form
  obtain ⟨a2, c2, rfl, r2⟩ := h2.form
  have l1 := s1.len
  have l2 := s2.len
  by_cases hx : x < 0 <;> by_cases hy : y < 0
  · rw [decide_eq_true hx, decide_eq_true hy]
    refine (add_same a1 a2 c1 c2 _ _ true w _ _ rfl rfl r1 r2 (by omega) (by omega)).mono fun e w' h => h.eq ?_
    unfold sgn; simp; omega
  · rw [decide_eq_true hx, decide_eq_false hy]
    by_cases hlt : y.natAbs ≤ x.natAbs
    · refine (add_first a1 a2 c1 c2 _ _ true w _ _ rfl rfl r1 r2 (by omega) (by omega) hlt (by omega)).mono fun e w' h => h.eq ?_
      unfold sgn; simp; omega
    · refine (add_second a1 a2 c1 c2 _ _ true w _ _ rfl rfl r1 r2 (by omega) (by omega) (by omega)).mono fun e w' h => h.eq ?_
      unfold sgn; simp; omega
  · rw [decide_eq_false hx, decide_eq_true hy]
    by_cases hlt : y.natAbs ≤ x.natAbs
    · refine (add_first a1 a2 c1 c2 _ _ false w _ _ rfl rfl r1 r2 (by omega) (by omega) hlt (by omega)).mono fun e w' h => h.eq ?_
      unfold sgn; simp; omega
    · refine (add_second a1 a2 c1 c2 _ _ false w _ _ rfl rfl r1 r2 (by omega) (by omega) (by omega)).mono fun e w' h => h.eq ?_
      unfold sgn; simp; omega
  · rw [decide_eq_false hx, decide_eq_false hy]
    refine (add_same a1 a2 c1 c2 _ _ false w _ _ rfl rfl r1 r2 (by omega) (by omega)).mono fun e w' h => h.eq ?_
    unfold sgn; simp; omega
theorem Sm.neg {x : Int} (h : Sm x) : Sm (-x) := ⟨by have := h.2; omega, by have := h.1; omega⟩
set_option maxHeartbeats 2000000 in
theorem subB_any (v1 v2 : Value) (x y : Int) (w : World) (h1 : Is w v1 x) (h2 : Is w v2 y) (s1 : Sm x) (s2 : Sm y) : Calls Tryd.prog 83 #[v1, v2] w (TellsBig w (x - y)) := by
  have I1 := Lib.hid (fun w1 hb => h1.below (w' := w1) hb)
  have HM := Lib.hid (fun w1 hb => minusB_any v2 y w1 (h2.below (w' := w1) hb) s2)
  have HA := Lib.hid (fun w1 r (hi : Is w1 r (-y)) (h1 : Is w1 v1 x) => addB_any v1 r x (-y) w1 h1 hi s1 s2.neg)
  have HE := Lib.hid (show x + -y = x - y by omega)
  obtain ⟨a1, c1, rfl, r1⟩ := h1.form
  obtain ⟨a2, c2, rfl, r2⟩ := h2.form
  obtain ⟨b1, e1⟩ : ∃ b, decide (x < 0) = b := ⟨_, rfl⟩
  obtain ⟨b2, e2⟩ : ∃ b, decide (y < 0) = b := ⟨_, rfl⟩
  obtain ⟨l1, e3⟩ : ∃ b, (canon x.natAbs).length = b := ⟨_, rfl⟩
  obtain ⟨l2, e4⟩ : ∃ b, (canon y.natAbs).length = b := ⟨_, rfl⟩
  rw [e1, e3] at I1 HA ⊢
  rw [e2, e4] at HM ⊢
  rw [HE.out] at HA
  obtain ⟨z, hz⟩ : ∃ z, x - y = z := ⟨_, rfl⟩
  rw [hz] at HA ⊢
  have BX := Lib.hid (boxes_at w b1 (.slice a1 l1 c1) b2 (.slice a2 l2 c2))
  have BB := Lib.hid (boxes_below w b1 (.slice a1 l1 c1) b2 (.slice a2 l2 c2))
  have BS := Lib.hid (boxes_size w b1 (.slice a1 l1 c1) b2 (.slice a2 l2 c2))
  clear h1 h2 r1 r2 e1 e2 e3 e4 hz s1 s2 HE
  go_enter Tryd.func83, Tryd.ntmps83
  go_upto_region 1 with fail
  change Code.wp _ _ _ _ (boxes w b1 (.slice a1 l1 c1) b2 (.slice a2 l2 c2))
  obtain ⟨W, hW⟩ : ∃ W, boxes w b1 (.slice a1 l1 c1) b2 (.slice a2 l2 c2) = W := ⟨_, rfl⟩
  rw [hW] at BX BB BS ⊢
  clear hW
  obtain ⟨x0, x1, y0, y1, z0, z1, f0, f1⟩ := BX.out
  go_region_held3 (fun w' => w'.cell? ⟨w.heap.size, 0, none⟩ = some (.bool b1) ∧ w'.cell? ⟨w.heap.size, 1, none⟩ = some (.slice a1 l1 c1) ∧ w'.cell? ⟨w.heap.size + 1, 0, none⟩ = some (.bool b2) ∧ w'.cell? ⟨w.heap.size + 1, 1, none⟩ = some (.slice a2 l2 c2)) (first | exact ⟨put2_other (by omega) x0'', put2_other (by omega) x1'', put2_other (by omega) y0'', put2_other (by omega) y1''⟩ | go_keep)
    (first
      | (go_at_call 95; refine (HM.out _ (by first | exact BB.out | exact BB.out.drew)).mono ?_; rintro e w1 ⟨r, rfl, hi, hbl⟩; have hbl2 : Below W.heap.size W w1 := (by first | exact hbl | exact below_undrew hbl); have BX1 := Lib.hid (BX.out.below (by have := BS.out; omega) hbl2); obtain ⟨x0', x1', y0', y1', z0', z1', f0', f1'⟩ := BX1.out; have R := Lib.hid hi; have B1 := Lib.hid hbl2; clear hi hbl hbl2)
      | (go_at_call 87; refine (HA.out _ _ R.out (I1.out _ (BB.out.trans (B1.out.mono BB.out.size)))).mono ?_; rintro e w2 ⟨r, rfl, hIs, hbl⟩; obtain ⟨sa, scp, rfl, hrd⟩ := hIs.form; have BX2 := Lib.hid (BX1.out.below (by have := BS.out; have := B1.out.size; omega) hbl); obtain ⟨x0'', x1'', y0'', y1'', z0'', z1'', f0'', f1''⟩ := BX2.out; have RD := Lib.hid hrd; have B2 := Lib.hid hbl; clear hIs hrd hbl))
  go_wp2
  exact bodyPost_ret (res_big Tryd.results83 rfl (put2_cells z0'' z1'')) rfl (tells_put2 RD.out z0'' z1'' (nb _) (ns _ _ _) (BB.out.trans ((B1.out.mono BB.out.size).trans (B2.out.mono (Nat.le_trans BB.out.size B1.out.size)))) (by omega))
end Go.Proofs.YtbcddiaplpbhjaaDoor.Bg
namespace Go.Proofs.YtbcddiaplpbhjaaDoor.Bg
open Go Go.RowKit Go.Proofs.YtbcddiaplpbhjaaDoor.Dg
set_option linter.unusedVariables false
def TellsInt (w : World) (x : Int) (e : Ending) (w' : World) : Prop := e = .returned (.int .i64 x) ∧ Below w.heap.size w w'
def TellsBool (w : World) (x : Bool) (e : Ending) (w' : World) : Prop := e = .returned (.bool x) ∧ Below w.heap.size w w'
def boxes2 (w : World) (b0 : Bool) (s0 : Value) (b1 : Bool) (s1 : Value) : World :=
  (w.alloc (.cells #[.bool b0, s0] 97)).alloc (.cells #[.bool b1, s1] 97)
theorem boxes2_below (w : World) (b0 : Bool) (s0 : Value) (b1 : Bool) (s1 : Value) : Below w.heap.size w (boxes2 w b0 s0 b1 s1) :=
  ((Below.refl _ _).alloc (Nat.le_refl _) _).alloc (by simp) _
theorem canon_nil {n : Nat} : (canon n).length = 0 ↔ n = 0 := by
  constructor
  · intro h
    by_cases hn : 0 < n
    · rw [canon_pos n hn] at h; simp at h
    · omega
  · rintro rfl; simp [canon_zero]
set_option maxHeartbeats 2000000 in
theorem cmpB_any (v1 v2 : Value) (x y : Int) (w : World) (h1 : Is w v1 x) (h2 : Is w v2 y) (s1 : Sm x) (s2 : Sm y) : Calls Tryd.prog 96 #[v1, v2] w (TellsInt w (cmpI x y)) := by
  have HS := Lib.hid (fun w1 hb => subB_any v1 v2 x y w1 (h1.below (w' := w1) hb) (h2.below (w' := w1) hb) s1 s2)
  obtain ⟨a1, c1, rfl, r1⟩ := h1.form
  obtain ⟨a2, c2, rfl, r2⟩ := h2.form
  obtain ⟨b1, e1⟩ : ∃ b, decide (x < 0) = b := ⟨_, rfl⟩
  obtain ⟨b2, e2⟩ : ∃ b, decide (y < 0) = b := ⟨_, rfl⟩
  obtain ⟨l1, e3⟩ : ∃ b, (canon x.natAbs).length = b := ⟨_, rfl⟩
  obtain ⟨l2, e4⟩ : ∃ b, (canon y.natAbs).length = b := ⟨_, rfl⟩
  rw [e1, e3, e2, e4] at HS
  rw [e1, e2, e3, e4]
  have BB := Lib.hid (boxes2_below w b1 (.slice a1 l1 c1) b2 (.slice a2 l2 c2))
  have hcz : (cmpI x y = 0 ↔ x - y = 0) ∧ (x - y < 0 → cmpI x y = -1) ∧ (0 < x - y → cmpI x y = 1) := by
    unfold cmpI
    refine ⟨?_, fun h => if_pos (by omega), fun h => by rw [if_neg (by omega), if_pos (by omega)]⟩
    split
    · omega
    · split <;> omega
  obtain ⟨z, hz⟩ : ∃ z, x - y = z := ⟨_, rfl⟩
  obtain ⟨cv, hcv⟩ : ∃ z, cmpI x y = z := ⟨_, rfl⟩
  rw [hz, hcv] at hcz
  rw [hz] at HS
  rw [hcv]
  obtain ⟨k1, k2, k3⟩ := hcz
  obtain ⟨m, hm⟩ : ∃ m, (canon z.natAbs).length = m := ⟨_, rfl⟩
  have hm0 := canon_nil (n := z.natAbs)
  rw [hm] at hm0
  have M := Lib.hid hm
  clear h1 h2 r1 r2 e1 e2 e3 e4 hz hcv s1 s2 hm
  by_cases hz : z = 0
  · obtain rfl : cv = 0 := k1.2 hz
    obtain rfl : m = 0 := hm0.2 (by omega)
    clear k1 k2 k3 hm0 hz
    go_enter Tryd.func96, Tryd.ntmps96
    go_wp2_with (first | (go_at_call 83; refine (HS.out _ BB.out).mono ?_; rintro e w1 ⟨r, rfl, hi, hbl⟩; obtain ⟨sa, scp, rfl, hrd⟩ := hi.form; rw [M.out] at hrd ⊢; have B1 := Lib.hid (BB.out.trans (hbl.mono BB.out.size)); clear hi hbl hrd))
    go_ret
    exact ⟨rfl, (B1.out.alloc B1.out.size _)⟩
  · have hmp : ((m : Int) == 0) = false := by have := mt hm0.1 (by omega); simp; omega
    by_cases hn : z < 0
    · obtain rfl := k2 hn
      have hd : decide (z < 0) = true := decide_eq_true hn
      clear k1 k2 k3 hm0 hz
      go_enter Tryd.func96, Tryd.ntmps96
      go_wp2_with (first | (go_at_call 83; refine (HS.out _ BB.out).mono ?_; rintro e w1 ⟨r, rfl, hi, hbl⟩; obtain ⟨sa, scp, rfl, hrd⟩ := hi.form; rw [M.out, hd] at *; have B1 := Lib.hid (BB.out.trans (hbl.mono BB.out.size)); clear hi hbl hrd))
      go_ret
      exact ⟨rfl, (B1.out.alloc B1.out.size _)⟩
    · obtain rfl := k3 (by omega)
      have hd : decide (z < 0) = false := decide_eq_false hn
      clear k1 k2 k3 hm0 hz
      go_enter Tryd.func96, Tryd.ntmps96
      go_wp2_with (first | (go_at_call 83; refine (HS.out _ BB.out).mono ?_; rintro e w1 ⟨r, rfl, hi, hbl⟩; obtain ⟨sa, scp, rfl, hrd⟩ := hi.form; rw [M.out, hd] at *; have B1 := Lib.hid (BB.out.trans (hbl.mono BB.out.size)); clear hi hbl hrd))
      go_ret
      exact ⟨rfl, (B1.out.alloc B1.out.size _)⟩
end Go.Proofs.YtbcddiaplpbhjaaDoor.Bg
namespace Go.Proofs.YtbcddiaplpbhjaaDoor.Bg
open Go Go.RowKit Go.Proofs.YtbcddiaplpbhjaaDoor.Dg
set_option linter.unusedVariables false
def Box (p : Nat) (b : Bool) (s : Value) (w : World) : Prop := w.cell? ⟨p, 0, none⟩ = some (.bool b) ∧ w.cell? ⟨p, 1, none⟩ = some s
theorem Box.below {p : Nat} {b : Bool} {s : Value} {w w2 : World} {B : Nat} (h : Box p b s w) (hp : p < B) (hb : Below B w w2) : Box p b s w2 :=
  ⟨by rw [hb.cell (p := ⟨p, 0, none⟩) hp]; exact h.1, by rw [hb.cell (p := ⟨p, 1, none⟩) hp]; exact h.2⟩
theorem Box.drewN {p : Nat} {b : Bool} {s : Value} {w : World} (h : Box p b s w) (n : Nat) : Box p b s (w.drewN n) := h
theorem box_new (w : World) (b : Bool) (s : Value) : Box w.heap.size b s (w.alloc (.cells #[.bool b, s] 97)) :=
  ⟨by rw [World.cell?_alloc_at _ _ _ _ rfl]; rfl, by rw [World.cell?_alloc_at _ _ _ _ rfl]; rfl⟩
def I64 (x : Int) : Prop := -9223372036854775808 ≤ x ∧ x ≤ 9223372036854775807
instance (x : Int) : Decidable (I64 x) := by unfold I64; infer_instance
theorem sm_i64 {x : Int} (h : I64 x) : Sm x := by unfold Sm; obtain ⟨a, b⟩ := h; omega
set_option maxHeartbeats 2000000 in
theorem fitsB_any (v : Value) (x : Int) (w : World) (h : Is w v x) (s : Sm x) : Calls Tryd.prog 84 #[v] w (TellsBool w (decide (I64 x))) := by
  have HO := Lib.hid (fun a w1 (ha : I64 a) => of_any a w1 ha.1 ha.2)
  have I1 := Lib.hid (fun w1 hb => h.below (w' := w1) hb)
  have HC := Lib.hid (fun w1 r y (hy : I64 y) (h1 : Is w1 v x) (h2 : Is w1 r y) => cmpB_any v r x y w1 h1 h2 s (sm_i64 hy))
  obtain ⟨a1, c1, rfl, r1⟩ := h.form
  obtain ⟨b1, e1⟩ : ∃ b, decide (x < 0) = b := ⟨_, rfl⟩
  obtain ⟨l1, e3⟩ : ∃ b, (canon x.natAbs).length = b := ⟨_, rfl⟩
  rw [e1, e3] at I1 HC ⊢
  have HC1 := Lib.hid (fun w1 r => HC.out w1 r (-9223372036854775808) ⟨by omega, by omega⟩)
  have HC2 := Lib.hid (fun w1 r => HC.out w1 r 9223372036854775807 ⟨by omega, by omega⟩)
  have BX := Lib.hid (box_new w b1 (.slice a1 l1 c1))
  have BB := Lib.hid (show Below w.heap.size w (w.alloc (.cells #[.bool b1, .slice a1 l1 c1] 97)) from (Below.refl _ _).alloc (Nat.le_refl _) _)
  have BS := Lib.hid (show (w.alloc (.cells #[.bool b1, .slice a1 l1 c1] 97)).heap.size = w.heap.size + 1 by simp)
  by_cases g1 : -9223372036854775808 ≤ x
  · obtain ⟨cv, hcv, hp⟩ : ∃ c, cmpI x (-9223372036854775808) = c ∧ 0 ≤ c := ⟨_, rfl, by unfold cmpI; rw [if_neg (by omega)]; split <;> omega⟩
    obtain ⟨dv, hdv, hF⟩ : ∃ c, cmpI x 9223372036854775807 = c ∧ decide (I64 x) = decide (c ≤ 0) := ⟨_, rfl, by unfold cmpI I64; congr 1; apply propext; constructor <;> intro h <;> split at * <;> (try split at *) <;> omega⟩
    have HF := Lib.hid hF
    rw [hcv] at HC1
    rw [hdv] at HC2
    clear h r1 e1 e3 s hcv hdv hF g1 HC
    go_enter Tryd.func84, Tryd.ntmps84
    go_upto_region 1 with fail
    obtain ⟨W, hW⟩ : ∃ W, w.alloc (.cells #[.bool b1, .slice a1 l1 c1] 97) = W := ⟨_, rfl⟩
    rw [hW] at BX BB BS ⊢
    clear hW
    obtain ⟨x0, x1⟩ := BX.out
    go_region_held3 (fun w' => w'.cell? ⟨w.heap.size, 0, none⟩ = some (.bool b1) ∧ w'.cell? ⟨w.heap.size, 1, none⟩ = some (.slice a1 l1 c1)) (first | exact ⟨y0, y1⟩ | go_keep)
      (first
        | (go_at_call 96; refine (HC2.out _ _ (I1.out _ (BB.out.trans (B3.out.mono BB.out.size))) R3.out).mono ?_; rintro e w4 ⟨rfl, hbl⟩; have B4 := Lib.hid (B3.out.trans (hbl.mono B3.out.size)); clear y0 y1; have y00 := ((show Box w.heap.size b1 (.slice a1 l1 c1) W from BX.out).below (by have := BS.out; omega) B4.out); have y0 := y00.1; have y1 := y00.2; clear hbl y00)
        | (go_at_call 72; refine (HO.out _ _ (by decide)).mono ?_; rintro e w3 ⟨r, rfl, hi, hbl⟩; have R3 := Lib.hid hi; have B3 := Lib.hid (B2.out.trans (hbl.mono B2.out.size)); clear y0 y1; have y00 := ((show Box w.heap.size b1 (.slice a1 l1 c1) W from BX.out).below (by have := BS.out; omega) B3.out); have y0 := y00.1; have y1 := y00.2; clear hbl y00 hi)
        | (go_at_call 96; refine (HC1.out _ _ (I1.out _ (BB.out.trans (B1.out.mono BB.out.size))) R.out).mono ?_; rintro e w2 ⟨rfl, hbl⟩; have B2 := Lib.hid (B1.out.trans (hbl.mono B1.out.size)); clear y0 y1; have y00 := ((show Box w.heap.size b1 (.slice a1 l1 c1) W from BX.out).below (by have := BS.out; omega) B2.out); have y0 := y00.1; have y1 := y00.2; clear hbl y00)
        | (go_at_call 72; refine (HO.out _ _ (by decide)).mono ?_; rintro e w1 ⟨r, rfl, hi, hbl⟩; have hbl2 : Below W.heap.size W w1 := (by first | exact hbl | exact below_undrew hbl); have y00 := ((show Box w.heap.size b1 (.slice a1 l1 c1) W from BX.out).below (by have := BS.out; omega) hbl2); have y0 := y00.1; have y1 := y00.2; have R := Lib.hid hi; have B1 := Lib.hid hbl2; clear hi hbl hbl2 y00))
    go_wp2
    go_ret
    exact ⟨ret_bool HF.out.symm, BB.out.trans (B4.out.mono BB.out.size)⟩
  · have hcv : cmpI x (-9223372036854775808) = -1 := by unfold cmpI; rw [if_pos (by omega)]
    have HF := Lib.hid (show decide (I64 x) = false from decide_eq_false (fun h => g1 h.1))
    rw [hcv] at HC1
    clear h r1 e1 e3 s hcv g1 HC
    go_enter Tryd.func84, Tryd.ntmps84
    go_upto_region 1 with fail
    obtain ⟨W, hW⟩ : ∃ W, w.alloc (.cells #[.bool b1, .slice a1 l1 c1] 97) = W := ⟨_, rfl⟩
    rw [hW] at BX BB BS ⊢
    clear hW
    obtain ⟨x0, x1⟩ := BX.out
    go_region_with
      (first
        | (go_at_call 96; refine (HC1.out _ _ (I1.out _ (BB.out.trans (B1.out.mono BB.out.size))) R.out).mono ?_; rintro e w2 ⟨rfl, hbl⟩; have B2 := Lib.hid (B1.out.trans (hbl.mono B1.out.size)); clear y0 y1; have y00 := ((show Box w.heap.size b1 (.slice a1 l1 c1) W from BX.out).below (by have := BS.out; omega) B2.out); have y0 := y00.1; have y1 := y00.2; clear hbl y00)
        | (go_at_call 72; refine (HO.out _ _ (by decide)).mono ?_; rintro e w1 ⟨r, rfl, hi, hbl⟩; have hbl2 : Below W.heap.size W w1 := (by first | exact hbl | exact below_undrew hbl); have y00 := ((show Box w.heap.size b1 (.slice a1 l1 c1) W from BX.out).below (by have := BS.out; omega) hbl2); have y0 := y00.1; have y1 := y00.2; have R := Lib.hid hi; have B1 := Lib.hid hbl2; clear hi hbl hbl2 y00))
    all_goals
      go_wp2
      go_ret
      exact ⟨ret_bool HF.out.symm, BB.out.trans (B2.out.mono BB.out.size)⟩
end Go.Proofs.YtbcddiaplpbhjaaDoor.Bg
namespace Go.Proofs.YtbcddiaplpbhjaaDoor.Bg
open Go Go.RowKit Go.Proofs.YtbcddiaplpbhjaaDoor.Dg
set_option linter.unusedVariables false
theorem mul_left_step (y x c D s : Int) (hs : s = x * y + c) : c + y * (x + 1000 * D) = s % 1000 + 1000 * (s / 1000 + y * D) := by
  have e : c + y * (x + 1000 * D) = (x * y + c) + 1000 * (y * D) := by
    rw [Int.mul_add, Int.mul_comm y x, Int.mul_left_comm y 1000 D]; omega
  rw [e, ← hs]; omega
theorem mul_inv {acc d1 : List Int} {k j : Nat} {c x y s V : Int} (hl : acc.length = k + j) (hx : d1.getD j 0 = x) (hs : s = x * y + c)
    (h : val acc + pw (k + j) * (c + y * val (d1.drop j)) = V) : val (acc ++ [s % 1000]) + pw (k + (j + 1)) * (s / 1000 + y * val (d1.drop (j + 1))) = V := by
  have ep : pw (k + (j + 1)) = pw (k + j) * 1000 := rfl
  rw [val_snoc, hl, ← h, val_drop d1 j, hx, mul_left_step y x c _ s hs, ep, Int.mul_add (pw (k + j)) (s % 1000), Int.mul_assoc, Int.add_assoc]
structure MulAt (w wr : World) (b0 : Bool) (s0 : Value) (b1 : Bool) (s1 : Value) (ss : Value) (z : Int) : Prop where
  x : Box w.heap.size b0 s0 wr
  y : Box (w.heap.size + 1) b1 s1 wr
  r : Box (w.heap.size + 2) false (.slice none 0 0) wr
  s : Box (w.heap.size + 3) false ss wr
  f0 : wr.frozen? ⟨w.heap.size + 2, 0, none⟩ = false
  f1 : wr.frozen? ⟨w.heap.size + 2, 1, none⟩ = false
  g0 : wr.frozen? ⟨w.heap.size + 3, 0, none⟩ = false
  g1 : wr.frozen? ⟨w.heap.size + 3, 1, none⟩ = false
  sz : w.heap.size + 4 ≤ wr.heap.size
  num : Is wr (.agg #[.bool false, ss]) z
  bel : Below w.heap.size w wr
theorem MulAt.below {w wr w2 : World} {b0 : Bool} {s0 : Value} {b1 : Bool} {s1 ss : Value} {z : Int} (h : MulAt w wr b0 s0 b1 s1 ss z) (hb : Below wr.heap.size wr w2) : MulAt w w2 b0 s0 b1 s1 ss z := by
  have hs := h.sz
  refine ⟨h.x.below (by omega) hb, h.y.below (by omega) hb, h.r.below (by omega) hb, h.s.below (by omega) hb, ?_, ?_, ?_, ?_, Nat.le_trans hs hb.size, h.num.below hb, h.bel.trans (hb.mono h.bel.size)⟩
  all_goals first
    | (rw [hb.frozen (show _ < wr.heap.size by show _ < _; simp only; omega)]; first | exact h.f0 | exact h.f1 | exact h.g0 | exact h.g1)
theorem MulAt.put {w w2 : World} {b0 : Bool} {s0 : Value} {b1 : Bool} {s1 ss ss' : Value} {z z' : Int} (h : MulAt w w2 b0 s0 b1 s1 ss z) (hss : ∀ x, ss ≠ .int .i64 x) (hn : Is w2 (.agg #[.bool false, ss']) z') :
    MulAt w (put2 w2 (w.heap.size + 3) (.bool false) ss') b0 s0 b1 s1 ss' z' := by
  have hk : Keeps w2 (put2 w2 (w.heap.size + 3) (.bool false) ss') := put2_keeps h.s.1 h.s.2 (nb _) hss
  refine ⟨⟨put2_other (by omega) h.x.1, put2_other (by omega) h.x.2⟩, ⟨put2_other (by omega) h.y.1, put2_other (by omega) h.y.2⟩, ⟨put2_other (by omega) h.r.1, put2_other (by omega) h.r.2⟩, put2_cells h.s.1 h.s.2, ?_, ?_, ?_, ?_, ?_, hn.keeps hk, put2_below h.bel (by omega)⟩
  · unfold put2; rw [World.frozen?_setCell, World.frozen?_setCell]; exact h.f0
  · unfold put2; rw [World.frozen?_setCell, World.frozen?_setCell]; exact h.f1
  · unfold put2; rw [World.frozen?_setCell, World.frozen?_setCell]; exact h.g0
  · unfold put2; rw [World.frozen?_setCell, World.frozen?_setCell]; exact h.g1
  · exact Nat.le_trans h.sz hk.size
theorem val_zeros (k : Nat) : val (List.replicate k 0) = 0 := by
  induction k with
  | zero => rfl
  | succ k ih => simp only [List.replicate_succ, val, ih]; rfl
theorem ok_zeros (k : Nat) : ok (List.replicate k 0) := fun d h => by
  obtain ⟨_, rfl⟩ := List.mem_replicate.1 h
  omega
def mulW (w : World) (b0 : Bool) (s0 : Value) (b1 : Bool) (s1 : Value) : World :=
  (boxes w b0 s0 b1 s1).alloc (.cells #[.bool false, .slice none 0 0] 97)
theorem mulW_at (w : World) (b0 : Bool) (s0 : Value) (b1 : Bool) (s1 : Value) : MulAt w (mulW w b0 s0 b1 s1) b0 s0 b1 s1 (.slice none 0 0) 0 := by
  have hB := boxes_at w b0 s0 b1 s1
  have hS := boxes_size w b0 s0 b1 s1
  have hb : Below (boxes w b0 s0 b1 s1).heap.size (boxes w b0 s0 b1 s1) (mulW w b0 s0 b1 s1) := (Below.refl _ _).alloc (Nat.le_refl _) _
  have h2 := hB.below (by omega) hb
  have z := zero_at (boxes w b0 s0 b1 s1) (w.heap.size + 3) (by omega)
  refine ⟨⟨h2.x0, h2.x1⟩, ⟨h2.y0, h2.y1⟩, ⟨h2.z0, h2.z1⟩, z, h2.f0, h2.f1, ?_, ?_, ?_, ⟨_, rfl, reads_nil _⟩, (boxes_below _ _ _ _ _).trans (hb.mono (boxes_below _ _ _ _ _).size)⟩
  · unfold mulW; rw [World.frozen?_alloc_at _ _ _ _ (by omega)]
  · unfold mulW; rw [World.frozen?_alloc_at _ _ _ _ (by omega)]
  · unfold mulW; simp; omega
theorem MulAt.slice {w wr : World} {b0 : Bool} {s0 : Value} {b1 : Bool} {s1 ss : Value} {z : Int} (h : MulAt w wr b0 s0 b1 s1 ss z) : ∃ a cap, ss = .slice a (canon z.natAbs).length cap ∧ Reads wr ss (canon z.natAbs) := by
  obtain ⟨s, e, hr⟩ := h.num
  obtain ⟨a, cap, rfl, _⟩ := hr.len
  simp at e
  obtain ⟨e1, e2⟩ := e
  subst e2
  exact ⟨a, cap, rfl, hr⟩
theorem Reads.at {w : World} {a : Option Addr} {l c : Nat} {ds : List Int} (h : Reads w (.slice a l c) ds) (k : Nat) (hk : k < l) : ∃ b off, a = some ⟨b, off, none⟩ ∧ l ≤ c ∧ w.cell? ⟨b, off + k, none⟩ = some (.int .i64 (ds.getD k 0)) := by
  rcases h with ⟨e, _⟩ | ⟨b, off, len, cap, e, hl, hc, hs, hr⟩
  · cases e; omega
  · cases e; exact ⟨b, off, rfl, hc, hr k hk⟩
theorem val_take_succ (ds : List Int) (k : Nat) (h : k < ds.length) : val (ds.take (k + 1)) = val (ds.take k) + pw k * ds.getD k 0 := by
  rw [List.take_succ_eq_append_getElem h, val_snoc, List.length_take, Nat.min_eq_left (by omega), List.getD_eq_getElem?_getD, List.getElem?_eq_getElem h]; rfl
theorem mul_sm {x y : Int} {d1 d2 : List Int} (o1 : ok d1) (o2 : ok d2) (h1 : val d1 = x.natAbs) (h2 : val d2 = y.natAbs) (hs : Sm (x * y)) (k : Nat) (hk : k < d2.length) {yy : Int} (hy : d2.getD k 0 = yy) :
    Sm (val d1 * val (d2.take k)) ∧ Sm (pw k * (yy * val d1)) ∧ val d1 * val (d2.take k) + pw k * (yy * val d1) = val d1 * val (d2.take (k + 1)) ∧ 0 ≤ val d1 * val (d2.take (k + 1)) := by
  have e := val_take_succ d2 k hk
  rw [hy] at e
  have e2 : val d1 * val (d2.take k) + pw k * (yy * val d1) = val d1 * val (d2.take (k + 1)) := by
    rw [e, Int.mul_add, ← Int.mul_assoc (pw k), Int.mul_comm (pw k * yy)]
  have p1 := val_nonneg o1
  have p2 := val_nonneg (ok_take o2 k)
  have p3 := val_nonneg (ok_take o2 (k + 1))
  have q1 : 0 ≤ val d1 * val (d2.take k) := Int.mul_nonneg p1 p2
  have q3 : 0 ≤ val d1 * val (d2.take (k + 1)) := Int.mul_nonneg p1 p3
  have hyy := ok_getD o2 k
  rw [hy] at hyy
  have q2 : 0 ≤ pw k * (yy * val d1) := Int.mul_nonneg (Int.le_of_lt (pw_pos k)) (Int.mul_nonneg hyy.1 p1)
  have hv := val_split d2 (k + 1) (by omega)
  have hd := val_nonneg (ok_drop o2 (k + 1))
  have hle : val (d2.take (k + 1)) ≤ val d2 := by
    have := Int.mul_nonneg (Int.le_of_lt (pw_pos (k + 1))) hd
    omega
  have q4 : val d1 * val (d2.take (k + 1)) ≤ val d1 * val d2 := Int.mul_le_mul_of_nonneg_left hle p1
  rw [h1, h2] at q4
  have q5 : ((x.natAbs : Int) * (y.natAbs : Int)) = ((x * y).natAbs : Int) := by rw [Int.natAbs_mul]; rfl
  rw [q5, ← h1] at q4
  obtain ⟨s1, s2⟩ := hs
  refine ⟨⟨by omega, by omega⟩, ⟨by omega, by omega⟩, e2, q3⟩
theorem mul_sgn {x y : Int} {b1 b2 : Bool} (e1 : decide (x < 0) = b1) (e2 : decide (y < 0) = b2) : sgn (b1 != b2) ((x.natAbs : Int) * y.natAbs) = x * y := by
  subst e1 e2
  unfold sgn
  by_cases hx : x < 0 <;> by_cases hy : y < 0
  · rw [decide_eq_true hx, decide_eq_true hy, show (x.natAbs : Int) = -x by omega, show (y.natAbs : Int) = -y by omega]; simp [Int.neg_mul, Int.mul_neg]
  · rw [decide_eq_true hx, decide_eq_false hy, show (x.natAbs : Int) = -x by omega, show (y.natAbs : Int) = y by omega]; simp [Int.neg_mul]
  · rw [decide_eq_false hx, decide_eq_true hy, show (x.natAbs : Int) = x by omega, show (y.natAbs : Int) = -y by omega]; simp [Int.mul_neg]
  · rw [decide_eq_false hx, decide_eq_false hy, show (x.natAbs : Int) = x by omega, show (y.natAbs : Int) = y by omega]; simp
set_option maxRecDepth 100000 in
set_option maxHeartbeats 4000000 in
theorem mulB_any (v1 v2 : Value) (x y : Int) (w : World) (h1 : Is w v1 x) (h2 : Is w v2 y) (s1 : Sm x) (s2 : Sm y) (s12 : Sm (x * y)) : Calls Tryd.prog 73 #[v1, v2] w (TellsBig w (x * y)) := by
  obtain ⟨a1, c1, rfl, r1⟩ := h1.form
  obtain ⟨a2, c2, rfl, r2⟩ := h2.form
  obtain ⟨b1, e1⟩ : ∃ b, decide (x < 0) = b := ⟨_, rfl⟩
  obtain ⟨b2, e2⟩ : ∃ b, decide (y < 0) = b := ⟨_, rfl⟩
  have hl1 := s1.len
  have hl2 := s2.len
  have HX := Lib.hid (val_canon x.natAbs)
  have HY := Lib.hid (val_canon y.natAbs)
  have O1 := Lib.hid (canon_ok x.natAbs)
  have O2 := Lib.hid (canon_ok y.natAbs)
  obtain ⟨d1, e5⟩ : ∃ b, canon x.natAbs = b := ⟨_, rfl⟩
  obtain ⟨d2, e6⟩ : ∃ b, canon y.natAbs = b := ⟨_, rfl⟩
  rw [e5] at HX O1 r1 hl1
  rw [e6] at HY O2 r2 hl2
  rw [e1, e2, e5, e6]
  obtain ⟨l1, e3⟩ : ∃ b, d1.length = b := ⟨_, rfl⟩
  obtain ⟨l2, e4⟩ : ∃ b, d2.length = b := ⟨_, rfl⟩
  rw [e3] at hl1 r1 ⊢
  rw [e4] at hl2 r2 ⊢
  have R1 := Lib.hid (fun w1 hb => r1.below (w' := w1) hb)
  have R2 := Lib.hid (fun w1 hb => r2.below (w' := w1) hb)
  have L1 := Lib.hid e3
  have L2 := Lib.hid e4
  have MW := Lib.hid (mulW_at w b1 (.slice a1 l1 c1) b2 (.slice a2 l2 c2))
  clear h1 h2 r1 r2 e5 e6 e3 e4
  have S1 := Lib.hid s1
  have S2 := Lib.hid s2
  have S12 := Lib.hid s12
  have E1 := Lib.hid e1
  have E2 := Lib.hid e2
  clear s1 s2 s12 e1 e2
  go_enter Tryd.func73, Tryd.ntmps73
  go_wp2
  go_loopw [6] (fun i wr => ∃ (k : Nat) (ss : Value), i = .int .i64 k ∧ k ≤ l2 ∧ Hid (MulAt w wr b1 (.slice a1 l1 c1) b2 (.slice a2 l2 c2) ss (val d1 * val (d2.take k)))) (fun i _ => l2 - (intOf i).toNat)
  case atStart => exact ⟨0, _, rfl, by omega, by have h := MW.out; rw [List.take_zero, val, Int.mul_zero]; exact h⟩
  case round =>
    obtain ⟨k, ss, rfl, hk, HM⟩ := hrel
    obtain ⟨x0, x1⟩ := HM.out.x
    obtain ⟨y0, y1⟩ := HM.out.y
    by_cases hlt : k < l2
    · obtain ⟨V, hV⟩ : ∃ V, V = wr := ⟨_, rfl⟩
      subst hV
      obtain ⟨p2, off2, rfl, hlc, hcell⟩ := (R2.out V HM.out.bel).at k hlt
      have hp2 := World.block_lt_of_cell? _ _ hcell
      have hyy := ok_getD O2.out k
      obtain ⟨yy, hye⟩ : ∃ x, d2.getD k 0 = x := ⟨_, rfl⟩
      rw [hye] at hcell hyy
      have HSM := Lib.hid (mul_sm O1.out O2.out HX.out HY.out S12.out k (by rw [L2.out]; exact hlt) hye)
      have CELL := Lib.hid hcell
      clear hye
      go_wp2
      go_loopw [7, 8] (fun d i2 w2 => ∃ j : Nat, i2 = .int .i64 j ∧ j ≤ k ∧ Hid (w2.ownsRow V.heap.size 3 1 d j ((List.replicate j (0 : Int)).map (Value.int .i64))) ∧ Hid (Below V.heap.size V w2)) (fun _ i2 _ => k - (intOf i2).toNat)
      case atStart => exact ⟨0, rfl, by omega, World.ownsRow_nil _ _ _ _, Below.refl _ _⟩
      case round =>
        obtain ⟨j, rfl, hj, HO, HB⟩ := hrel
        by_cases hjk : j < k
        · go_wp2_with (at_builtin; refine app_int rfl (.tmp 25) (.tmp 26) rfl V.heap.size u7 j (List.replicate j 0) 0 wr rfl HO.out rfl (by omega) HB.out.size ?_; intro v' w1 hown hgrow; have O3 := Lib.hid hown; have B3 := Lib.hid (below_app HB.out HB.out.size HO.out hgrow); clear hown hgrow)
          go_roundw
          case rel => exact ⟨j + 1, by go_num, by omega, (by show World.ownsRow _ _ _ _ _ _ _; rw [List.replicate_succ']; exact O3.out), B3.out⟩
          case measure => simp [intOf]; omega
        · obtain rfl : j = k := by omega
          clear hjk
          have B2 := Lib.hid HB.out
          have O2' := Lib.hid HO.out
          go_wp2
          go_loopw [7, 9, 10] (fun d cy i3 w3 => ∃ (i : Nat) (acc : List Int) (c : Int), i3 = .int .i64 i ∧ cy = .int .i64 c ∧ 0 ≤ c ∧ c ≤ 999 ∧ i ≤ l1 + 1 ∧ Hid (l1 + 1 ≤ i → c = 0) ∧
              Hid (w3.ownsRow V.heap.size 3 1 d (j + i) (acc.map (Value.int .i64))) ∧ Hid (acc.length = j + i) ∧ Hid (ok acc) ∧ Hid (val acc + pw (j + i) * (c + yy * val (d1.drop i)) = pw j * (yy * val d1)) ∧ Hid (Below V.heap.size V w3)) (fun _ _ i3 _ => l1 + 2 - (intOf i3).toNat)
          case atStart => exact ⟨0, List.replicate j 0, 0, rfl, rfl, by omega, by omega, by omega, (by show _ → _; omega), O2'.out, (by show _ = _; simp), ok_zeros _, (by show _ = _; rw [val_zeros, Nat.add_zero, List.drop_zero, Int.zero_add, Int.zero_add]), B2.out⟩
          case round =>
            obtain ⟨i, acc, c, rfl, rfl, c0, cc1, hi, HC, HO, HL, HA, HV, HB⟩ := hrel
            have hM3 := HM.out.below HB.out
            obtain ⟨x0, x1⟩ := hM3.x
            obtain ⟨y0, y1⟩ := hM3.y
            by_cases hgo : i < l1 ∨ 0 < c
            · have hcell : wr.cell? ⟨p2, off2 + j, none⟩ = some (.int .i64 yy) := by rw [HB.out.cell (p := ⟨p2, off2 + j, none⟩) hp2]; exact CELL.out
              have A1 := Lib.hid (fun n => at_any _ d1 i (wr.drewN n) ((R1.out wr hM3.bel).drewN n) (by omega))
              have hx := ok_getD O1.out i
              have hlast : Hid (l1 ≤ i → d1.getD i 0 = 0) := fun h => by
                have q1 := L1.out
                rw [List.getD_eq_getElem?_getD, List.getElem?_eq_none (by omega)]; rfl
              obtain ⟨xx, hxe⟩ : ∃ x, d1.getD i 0 = x := ⟨_, rfl⟩
              rw [hxe] at A1 hx hlast
              have X := Lib.hid hxe
              have hp1 : 0 ≤ xx * yy := Int.mul_nonneg hx.1 hyy.1
              have hp3 : xx * yy ≤ 999 * 999 := Int.mul_le_mul hx.2 hyy.2 hyy.1 (by omega)
              have hzz : Hid (l1 ≤ i → xx * yy = 0) := fun h => by rw [hlast.out h, Int.zero_mul]
              obtain ⟨pp, hpp⟩ : ∃ z, xx * yy = z := ⟨_, rfl⟩
              have PP := Lib.hid hpp
              rw [hpp] at hp1 hp3 hzz
              have hi1 : i ≤ l1 := by
                by_cases h : i = l1 + 1
                · have := HC.out (by omega); omega
                · omega
              have M3 := Lib.hid hM3
              have HW0 := (show wrap64 (wrap64 (xx * yy) + c) = pp + c by rw [PP.out]; unfold wrap64; omega)
              obtain ⟨sm, hsm⟩ : ∃ z, pp + c = z := ⟨_, rfl⟩
              have SMV := Lib.hid hsm
              have sm0 : 0 ≤ sm ∧ sm ≤ 999000 := by omega
              rw [hsm] at HW0
              have HW := Lib.hid HW0
              clear hxe hpp hM3 HW0 hsm
              by_cases t1 : i < l1
              all_goals
                try have t3 : 0 < c := by omega
                clear hgo
                go_wp2
                go_quiet ((go_at_call 86; exact Calls.quiet_of_same ((A1.out _).mono fun _ _ q => ⟨q.1, q.2.symm⟩)))
                rw [HW.out]
                go_wp2_with (at_builtin; refine app_int rfl (.tmp 51) (.tmp 54) rfl V.heap.size u7 (j + i) acc (sm % 1000) (wr.drewN nq) rfl (show (wr.drewN nq).ownsRow _ _ _ _ _ _ from HO.out) rfl (by omega) (show V.heap.size ≤ (wr.drewN nq).heap.size from HB.out.size) ?_; intro v' w1 hown hgrow; have O3 := Lib.hid hown; have B3 := Lib.hid (below_app (wr := wr.drewN nq) ⟨HB.out.os, HB.out.tape, HB.out.output, HB.out.size, HB.out.block⟩ HB.out.size HO.out hgrow); clear hown hgrow)
                go_roundw
                case rel => exact ⟨i + 1, acc ++ [sm % 1000], sm / 1000, by go_num, rfl, by omega, by omega, by omega, (by show _ → _; intro h; have := hzz.out; have := SMV.out; omega), O3.out, (by show _ = _; rw [List.length_append, HL.out]; rfl), ok_snoc HA.out (by omega) (by omega), mul_inv HL.out X.out (by rw [PP.out]; exact SMV.out.symm) HV.out, B3.out⟩
                case measure => simp [intOf]; omega
            · have t1 : ¬ i < l1 := by omega
              have hc0 : c = 0 := by omega
              subst hc0
              have HF := Lib.hid (show val acc = pw j * (yy * val d1) by
                have h := HV.out
                rw [val_drop_end d1 i (by have := L1.out; omega)] at h
                simpa using h)
              obtain ⟨sa, scp, rfl, hrd⟩ := hM3.slice
              have M3 := Lib.hid hM3
              obtain ⟨z0, z1⟩ := hM3.s
              obtain ⟨m1, m2, m3, m4⟩ := HSM.out
              have HADD := Lib.hid (fun w1 v1 v2 (h1 : Is w1 v1 (val d1 * val (d2.take j))) (h2 : Is w1 v2 (pw j * (yy * val d1))) => (addB_any v1 v2 _ _ w1 h1 h2 m1 m2))
              rw [m3] at HADD
              have hzn : decide (val d1 * val (d2.take (j + 1)) < 0) = false := decide_eq_false (by omega)
              have HT := Lib.hid (fun w1 hb => trim_any false _ acc w1 ((reads_own HO.out HL.out).below (w' := w1) hb) HA.out (by rw [HL.out]; omega))
              have ES := Lib.hid (show sgn false (val acc) = pw j * (yy * val d1) from HF.out)
              rw [ES.out] at HT
              have hc00 : decide ((0 : Int) > 0) = false := by decide
              clear hgo hM3 hrd m1 m2 m3 m4
              obtain ⟨ns, hns⟩ : ∃ n, (canon (val d1 * val (d2.take j)).natAbs).length = n := ⟨_, rfl⟩
              rw [hns] at M3 z1
              go_wp2
              go_region_with (first
                | (go_at_call 82; refine (HT.out _ (by first | exact Below.refl _ _ | exact (Below.refl _ _).drew)).mono ?_; rintro e w4 ⟨r, rfl, hIs, hbl⟩; have hbl2 : Below wr.heap.size wr w4 := (by first | exact hbl | exact below_undrew hbl); have hM4 := M3.out.below hbl2; obtain ⟨z0', z1'⟩ := hM4.s; have M4 := Lib.hid hM4; have R4 := Lib.hid hIs; have B4 := Lib.hid hbl2; clear hIs hbl hbl2 hM4)
                | (go_at_call 87; refine (HADD.out _ _ _ M4.out.num R4.out).mono ?_; rintro e w5 ⟨r5, rfl, hIs, hbl⟩; have hM5 := M4.out.below hbl; obtain ⟨z0'', z1''⟩ := hM5.s; have zg0 := hM5.g0; have zg1 := hM5.g1; obtain ⟨ra, rcp, rfl, hrd⟩ := hIs.form; have M5 := Lib.hid hM5; have R5 := Lib.hid hIs; clear hIs hbl hM5 hrd))
              all_goals
                go_wp2
                go_roundw
                case rel => exact ⟨j + 1, _, by go_num, by omega, (M5.out.put (fun x h => by cases h) (by have h := R5.out; rw [hzn] at h; exact h))⟩
                case measure => simp [intOf]; omega
    · obtain rfl : k = l2 := by omega
      obtain ⟨sa, scp, rfl, hrd⟩ := HM.out.slice
      have HT := Lib.hid (fun neg => trim_any neg _ _ wr hrd (canon_ok _) (by
        have h := S12.out.len
        have e : (val d1 * val (d2.take k)).natAbs = (x * y).natAbs := by rw [List.take_of_length_le (by have := L2.out; omega), HX.out, HY.out, Int.natAbs_mul, Int.natAbs_mul]; simp
        rw [e]; omega))
      have HE := Lib.hid (show sgn (b1 != b2) (val (canon (val d1 * val (d2.take k)).natAbs)) = x * y by
        have e : (val d1 * val (d2.take k)).natAbs = (x * y).natAbs := by rw [List.take_of_length_le (by have := L2.out; omega), HX.out, HY.out, Int.natAbs_mul, Int.natAbs_mul]; simp
        rw [val_canon, e, Int.natAbs_mul, ← mul_sgn E1.out E2.out]; rfl)
      obtain ⟨z0, z1⟩ := HM.out.s
      go_wp2_with (go_at_call 82; refine (HT.out _).mono ?_; rintro e w4 ⟨r, rfl, hIs, hbl⟩; have hM4 := HM.out.below hbl; have hI2 : Is w4 r (x * y) := (by rw [← HE.out]; exact hIs); obtain ⟨ra, rcp, rfl, hrd2⟩ := hI2.form; have RD := Lib.hid hrd2; have M4 := Lib.hid hM4; obtain ⟨k0, k1⟩ := hM4.r; have kf0 := hM4.f0; have kf1 := hM4.f1; clear hIs hI2 hbl hM4 hrd2)
      exact bodyPost_ret (res_big Tryd.results73 rfl (put2_cells k0 k1)) rfl (tells_put2 RD.out k0 k1 (nb _) (ns _ _ _) M4.out.bel (by omega))
end Go.Proofs.YtbcddiaplpbhjaaDoor.Bg
namespace Go.Proofs.YtbcddiaplpbhjaaDoor.Bg
open Go Go.RowKit Go.Proofs.YtbcddiaplpbhjaaDoor.Dg
set_option linter.unusedVariables false
def Holds (p : Nat) (z : Int) (w : World) : Prop := ∃ b sa l cap, Box p b (.slice sa l cap) w ∧ Is w (.agg #[.bool b, .slice sa l cap]) z ∧ w.frozen? ⟨p, 0, none⟩ = false ∧ w.frozen? ⟨p, 1, none⟩ = false ∧ b = decide (z < 0)
theorem Holds.below {p : Nat} {z : Int} {w w2 : World} (h : Holds p z w) (hp : p < w.heap.size) (hb : Below w.heap.size w w2) : Holds p z w2 := by
  obtain ⟨b, sa, l, cap, h1, h2, h3, h4, h5⟩ := h
  exact ⟨b, sa, l, cap, h1.below hp hb, h2.below hb, by rw [hb.frozen (p := ⟨p, 0, none⟩) hp]; exact h3, by rw [hb.frozen (p := ⟨p, 1, none⟩) hp]; exact h4, h5⟩
theorem Holds.drewN {p : Nat} {z : Int} {w : World} (h : Holds p z w) (n : Nat) : Holds p z (w.drewN n) := h
theorem Holds.put {p : Nat} {z : Int} {w : World} {b b' : Bool} {sa sa' : Option Addr} {l cap l' cap' : Nat} (h : Box p b (.slice sa l cap) w) (f0 : w.frozen? ⟨p, 0, none⟩ = false) (f1 : w.frozen? ⟨p, 1, none⟩ = false) (hn : Is w (.agg #[.bool b', .slice sa' l' cap']) z) :
    Holds p z (put2 w p (.bool b') (.slice sa' l' cap')) := by
  have hb : b' = decide (z < 0) := by obtain ⟨s, e, _⟩ := hn; simp at e; exact e.1
  refine ⟨b', sa', l', cap', put2_cells h.1 h.2, hn.keeps (put2_keeps h.1 h.2 (nb _) (ns _ _ _)), ?_, ?_, hb⟩
  · unfold put2; rw [World.frozen?_setCell, World.frozen?_setCell]; exact f0
  · unfold put2; rw [World.frozen?_setCell, World.frozen?_setCell]; exact f1
theorem Holds.other {p q : Nat} {z : Int} {w : World} {b : Bool} {sa : Option Addr} {l cap : Nat} {x y : Value} (h : Holds p z w) (hq : Box q b (.slice sa l cap) w) (hne : q ≠ p) : Holds p z (put2 w q x y) := by
  obtain ⟨b1, sa1, l1, cap1, h1, h2, h3, h4, h5⟩ := h
  refine ⟨b1, sa1, l1, cap1, ⟨put2_other hne h1.1, put2_other hne h1.2⟩, h2.keeps (put2_keeps hq.1 hq.2 (nb _) (ns _ _ _)), ?_, ?_, h5⟩
  · unfold put2; rw [World.frozen?_setCell, World.frozen?_setCell]; exact h3
  · unfold put2; rw [World.frozen?_setCell, World.frozen?_setCell]; exact h4
structure BoxF (p : Nat) (b : Bool) (s : Value) (w : World) : Prop where
  c0 : w.cell? ⟨p, 0, none⟩ = some (.bool b)
  c1 : w.cell? ⟨p, 1, none⟩ = some s
  f0 : w.frozen? ⟨p, 0, none⟩ = false
  f1 : w.frozen? ⟨p, 1, none⟩ = false
theorem BoxF.below {p : Nat} {b : Bool} {s : Value} {w w2 : World} {B : Nat} (h : BoxF p b s w) (hp : p < B) (hb : Below B w w2) : BoxF p b s w2 :=
  ⟨by rw [hb.cell (p := ⟨p, 0, none⟩) hp]; exact h.c0, by rw [hb.cell (p := ⟨p, 1, none⟩) hp]; exact h.c1, by rw [hb.frozen (p := ⟨p, 0, none⟩) hp]; exact h.f0, by rw [hb.frozen (p := ⟨p, 1, none⟩) hp]; exact h.f1⟩
structure Fl (w wx : World) (x y z : Int) : Prop where
  a : Holds w.heap.size x wx
  b : Holds (w.heap.size + 1) y wx
  q : Holds (w.heap.size + 2) z wx
  sz : w.heap.size + 3 ≤ wx.heap.size
  bel : Below w.heap.size w wx
theorem Fl.below {w wx w2 : World} {x y z : Int} (h : Fl w wx x y z) (hb : Below wx.heap.size wx w2) : Fl w w2 x y z := by
  have := h.sz
  exact ⟨h.a.below (by omega) hb, h.b.below (by omega) hb, h.q.below (by omega) hb, Nat.le_trans h.sz hb.size, h.bel.trans (hb.mono h.bel.size)⟩
def Md (x : Int) : Prop := -10000000000000000000000000000000000000000000000000 < x ∧ x < 10000000000000000000000000000000000000000000000000
theorem Md.sm {x : Int} (h : Md x) : Sm x := by obtain ⟨a, b⟩ := h; unfold Sm; omega
end Go.Proofs.YtbcddiaplpbhjaaDoor.Bg
namespace Go.Proofs.YtbcddiaplpbhjaaDoor.Bg
open Go Go.RowKit Go.Proofs.YtbcddiaplpbhjaaDoor.Dg
set_option linter.unusedVariables false
structure Tw (w wx : World) (x y : Int) : Prop where
  a : Holds w.heap.size x wx
  b : Holds (w.heap.size + 1) y wx
  sz : w.heap.size + 2 ≤ wx.heap.size
  bel : Below w.heap.size w wx
theorem Tw.below {w wx w2 : World} {x y : Int} (h : Tw w wx x y) (hb : Below wx.heap.size wx w2) : Tw w w2 x y := by
  have := h.sz
  exact ⟨h.a.below (by omega) hb, h.b.below (by omega) hb, Nat.le_trans h.sz hb.size, h.bel.trans (hb.mono h.bel.size)⟩
end Go.Proofs.YtbcddiaplpbhjaaDoor.Bg
namespace Go.Proofs.YtbcddiaplpbhjaaDoor
open Go Go.RowKit Go.Proofs.YtbcddiaplpbhjaaDoor.Dg Go.Proofs.YtbcddiaplpbhjaaDoor.Bg
set_option linter.unusedVariables false
end Go.Proofs.YtbcddiaplpbhjaaDoor
namespace Go.Proofs.YtbcddiaplpbhjaaDoor
open Go Go.RowKit Go.Proofs.YtbcddiaplpbhjaaDoor.Dg Go.Proofs.YtbcddiaplpbhjaaDoor.Bg
set_option linter.unusedVariables false
theorem md_mul {x y : Int} (h : I64 x) (k : I64 y) : Md (x * y) := by
  obtain ⟨a, b⟩ := h
  obtain ⟨c, d⟩ := k
  have h1 : (x * y).natAbs ≤ 9223372036854775808 * 9223372036854775808 := by
    rw [Int.natAbs_mul]; exact Nat.mul_le_mul (by omega) (by omega)
  unfold Md; omega
end Go.Proofs.YtbcddiaplpbhjaaDoor
namespace Go.Proofs.YtbcddiaplpbhjaaDoor
open Go Go.RowKit Go.Proofs.YtbcddiaplpbhjaaDoor.Dg Go.Proofs.YtbcddiaplpbhjaaDoor.Bg
set_option linter.unusedVariables false
end Go.Proofs.YtbcddiaplpbhjaaDoor
namespace Go.Proofs.YtbcddiaplpbhjaaDoor.Bg
open Go Go.RowKit Go.Proofs.YtbcddiaplpbhjaaDoor.Dg
set_option linter.unusedVariables false
theorem drop_le {ds : List Int} (h : ok ds) (k : Nat) : 0 ≤ val (ds.drop k) ∧ val (ds.drop k) ≤ val ds := by
  have h0 := val_nonneg (ok_drop h k)
  refine ⟨h0, ?_⟩
  have h1 := (val_split_lt h k).1
  have h2 := pw_pos k
  have h3 : 1 * val (ds.drop k) ≤ pw k * val (ds.drop k) := Int.mul_le_mul_of_nonneg_right (by omega) h0
  omega
set_option maxRecDepth 100000 in
set_option maxHeartbeats 2000000 in
theorem int_any (v : Value) (z : Int) (w : World) (h : Is w v z) (hz : I64 z) : Calls Tryd.prog 85 #[v] w (TellsInt w z) := by
  have I1 := Lib.hid (fun w1 hb => h.below (w' := w1) hb)
  obtain ⟨a, cap, rfl, hr⟩ := h.form
  have hok := canon_ok z.natAbs
  have hval := val_canon z.natAbs
  have hz0 : z.natAbs ≤ 9223372036854775808 := by unfold I64 at hz; omega
  have HZ := Lib.hid hz
  obtain ⟨b0, hb0⟩ : ∃ b, decide (z < 0) = b := ⟨_, rfl⟩
  obtain ⟨ds, hds⟩ : ∃ ds, canon z.natAbs = ds := ⟨_, rfl⟩
  have hl7 : ds.length ≤ 7 := by rw [← hds]; exact canon_len7 _ hz0
  rw [hds] at hr hok hval
  rw [hb0, hds]
  have RD := Lib.hid (fun w1 hb => hr.below (w' := w1) hb)
  obtain ⟨n, hn⟩ : ∃ n, ds.length = n := ⟨_, rfl⟩
  rw [hn] at hl7 RD ⊢
  have BX := Lib.hid (box_new w b0 (.slice a n cap))
  have BW := Lib.hid (show Below w.heap.size w (w.alloc (.cells #[.bool b0, .slice a n cap] 97)) from (Below.refl _ _).alloc (Nat.le_refl _) _)
  have HN := Lib.hid hn
  have HOK := Lib.hid hok
  have HV := Lib.hid (show val ds = (z.natAbs : Int) from hval)
  have HB := Lib.hid hb0
  clear h hr hn hok hval hb0 hz hds I1
  go_enter Tryd.func85, Tryd.ntmps85
  go_upto_region 1 with fail
  obtain ⟨V, hV⟩ : ∃ V, w.alloc (.cells #[.bool b0, .slice a n cap] 97) = V := ⟨_, rfl⟩
  rw [hV] at BX BW ⊢
  clear hV
  obtain ⟨p, hp⟩ : ∃ p, w.heap.size = p := ⟨_, rfl⟩
  rw [hp] at BX ⊢
  clear hp
  obtain ⟨x0, x1⟩ := BX.out
  have RV := Lib.hid (RD.out _ BW.out)
  go_wp2
  go_loop [3, 4] (fun v i => ∃ (k : Nat), k ≤ n ∧ i = .int .i64 ((k : Int) - 1) ∧ v = .int .i64 (-(val (ds.drop k)))) (fun _ i => (intOf i + 1).toNat)
  case atStart => exact ⟨n, Nat.le_refl _, rfl, by rw [val_drop_end _ _ (by rw [HN.out]; exact Nat.le_refl _)]; rfl⟩
  case round =>
    obtain ⟨k, hk, rfl, rfl⟩ := hrel
    rcases Nat.eq_zero_or_pos k with rfl | hpos
    · have HF := Lib.hid (show val (ds.drop 0) = (z.natAbs : Int) by simpa using HV.out)
      obtain ⟨y, hy⟩ : ∃ y, val (ds.drop 0) = y := ⟨_, rfl⟩
      rw [hy] at HF ⊢
      have y0 : 0 ≤ y := by have := HF.out; omega
      have y1 : y ≤ 9223372036854775808 := by have := HF.out; omega
      clear hy
      cases b0
      · have hz1 : y ≤ 9223372036854775807 := by have := HF.out; have := HB.out; have := HZ.out; simp at *; unfold I64 at *; omega
        go_wp2
        go_ret
        exact ⟨ret_int (by have := HF.out; have := HB.out; simp at *; omega), BW.out⟩
      · go_wp2
        go_ret
        exact ⟨ret_int (by have := HF.out; have := HB.out; simp at *; omega), BW.out⟩
    · obtain ⟨j, rfl⟩ : ∃ j, k = j + 1 := ⟨k - 1, by omega⟩
      rw [show (((j + 1 : Nat) : Int) - 1) = (j : Int) by omega]
      obtain ⟨b, off, rfl, hcap, hcell⟩ := RV.out.at j (by omega)
      have hd := val_drop ds j
      have hle := drop_le HOK.out j
      have hle2 := drop_le HOK.out (j + 1)
      have hdig := ok_getD HOK.out j
      have hvb : val ds ≤ 9223372036854775808 := by rw [HV.out]; omega
      obtain ⟨x, hx⟩ : ∃ x, ds.getD j 0 = x := ⟨_, rfl⟩
      obtain ⟨y, hy⟩ : ∃ x, val (ds.drop (j + 1)) = x := ⟨_, rfl⟩
      obtain ⟨t, ht⟩ : ∃ x, val (ds.drop j) = x := ⟨_, rfl⟩
      rw [hx] at hcell hd hdig
      rw [hy] at hd hle2 ⊢
      rw [ht] at hd hle
      have T := Lib.hid ht
      obtain ⟨t0, t1⟩ := hle
      obtain ⟨y0, y1⟩ := hle2
      obtain ⟨d0, d1⟩ := hdig
      have u0 : x + 1000 * y ≤ 9223372036854775808 := by omega
      have HD := Lib.hid hd
      clear hx hy ht hd hvb t0 t1 y1
      go_wp2
      go_round
      case rel => exact ⟨j, by omega, rfl, i64_eq (by rw [T.out]; have := HD.out; omega)⟩
      case measure => simp [intOf] <;> omega
theorem reads_row {w : World} {g : Nat} {ds : List Int} (n : Nat) (hn : ds.length = n) (h : w.rowIs g 3 n (fun i => .int .i64 (ds.getD i 0))) (hg : g < w.heap.size) : Reads w (.slice (some ⟨g, 0, none⟩) n n) ds :=
  Or.inr ⟨g, 0, n, n, rfl, hn, Nat.le_refl _, hg, fun i hi => by rw [Nat.zero_add]; exact h.cell hi⟩
theorem divided {ds qs : List Int} {k : Nat} {rest x : Int} (hx : ds.getD k 0 = x) (h : val (qs.drop (k + 1)) * 65536 + rest = val (ds.drop (k + 1))) (hq : qs.length = ds.length) (hk : k < ds.length) :
    val ((qs.set k ((rest * 1000 + x) / 65536)).drop k) * 65536 + (rest * 1000 + x) % 65536 = val (ds.drop k) := by
  rw [val_drop ds k, val_drop (qs.set k _) k, hx, ← h]
  have e1 : (qs.set k ((rest * 1000 + x) / 65536)).getD k 0 = (rest * 1000 + x) / 65536 := by
    rw [List.getD_eq_getElem?_getD, List.getElem?_set_self (by omega)]; rfl
  have e2 : (qs.set k ((rest * 1000 + x) / 65536)).drop (k + 1) = qs.drop (k + 1) := by
    apply List.ext_getElem? ; intro i; rw [List.getElem?_drop, List.getElem?_drop, List.getElem?_set_ne (by omega)]
  rw [e1, e2, Int.add_mul, Int.mul_add]
  have e3 : 1000 * val (qs.drop (k + 1)) * 65536 = 1000 * (val (qs.drop (k + 1)) * 65536) := by rw [Int.mul_assoc]
  rw [e3]
  omega
theorem ok_set {qs : List Int} (h : ok qs) (k : Nat) {x : Int} (h0 : 0 ≤ x) (h1 : x ≤ 999) : ok (qs.set k x) := fun d hd => by
  rcases List.mem_or_eq_of_mem_set hd with hd | rfl
  · exact h d hd
  · exact ⟨h0, h1⟩
theorem ok_replicate (n : Nat) : ok (List.replicate n 0) := fun d hd => by
  obtain ⟨_, rfl⟩ := List.mem_replicate.1 hd; omega
def floorS (z : Int) : Int × Bool := if I64 (z / 65536) then (z / 65536, true) else (0, false)
def FloorPost (w : World) (z : Int) (e : Ending) (w' : World) : Prop := e = .returned (.tuple #[.int .i64 (floorS z).1, .bool (floorS z).2]) ∧ Below w.heap.size w w'
theorem make_ints (n : Nat) (hn : n ≤ 1000000) : ∀ w : World, (Instr.makeSlice 95 (.int .i64 (n : Int)) (.int .i64 (n : Int))).run Tryd.prog w = .ok (.slice (some ⟨w.heap.size, 0, none⟩) n n) (w.alloc (.cells (madeCells #[.int .i64 0] n) 3)) :=
  fun w => run_make_row' 95 3 (.int .i64 0) 8 Tryd.underlying95 info3 rfl .i64 .i64 n (by omega) (by omega) w
set_option maxRecDepth 100000 in
set_option maxHeartbeats 4000000 in
theorem floor2_any (v : Value) (z : Int) (w : World) (h : Is w v z) (hs : Sm z) : Calls Tryd.prog 71 #[v] w (FloorPost w z) := by
  obtain ⟨a, cap, rfl, hr⟩ := h.form
  have hok := canon_ok z.natAbs
  have hval := val_canon z.natAbs
  have hl20 := hs.len
  obtain ⟨b0, hb0⟩ : ∃ b, decide (z < 0) = b := ⟨_, rfl⟩
  obtain ⟨ds, hds⟩ : ∃ ds, canon z.natAbs = ds := ⟨_, rfl⟩
  rw [hds] at hr hok hval hl20
  rw [hb0, hds]
  have RD := Lib.hid (fun w1 hb => hr.below (w' := w1) hb)
  obtain ⟨n, hn⟩ : ∃ n, ds.length = n := ⟨_, rfl⟩
  rw [hn] at hl20 RD ⊢
  have BX := Lib.hid (box_new w b0 (.slice a n cap))
  have BW := Lib.hid (show Below w.heap.size w (w.alloc (.cells #[.bool b0, .slice a n cap] 97)) from (Below.refl _ _).alloc (Nat.le_refl _) _)
  have BS := Lib.hid (show (w.alloc (.cells #[.bool b0, .slice a n cap] 97)).heap.size = w.heap.size + 1 by simp)
  have HN := Lib.hid hn
  have HOK := Lib.hid hok
  have HV := Lib.hid (show val ds = (z.natAbs : Int) from hval)
  have HB := Lib.hid hb0
  have HS := Lib.hid hs
  have hmk := make_ints n (by omega)
  clear h hr hn hok hval hb0 hds hs
  go_enter Tryd.func71, Tryd.ntmps71
  go_upto_region 1 with fail
  obtain ⟨V, hV⟩ : ∃ V, w.alloc (.cells #[.bool b0, .slice a n cap] 97) = V := ⟨_, rfl⟩
  rw [hV] at BX BW BS ⊢
  clear hV
  obtain ⟨p, hp⟩ : ∃ p, w.heap.size = p := ⟨_, rfl⟩
  rw [hp] at BX BS
  simp only [hp]
  have HP := Lib.hid hp
  clear hp
  obtain ⟨x0, x1⟩ := BX.out
  have RV := Lib.hid (RD.out _ BW.out)
  go_upto_region 2 with fail
  obtain ⟨U, hU⟩ : ∃ U, V.alloc (.cells (madeCells #[.int .i64 0] n) 3) = U := ⟨_, rfl⟩
  have hg : V.heap.size = p + 1 := BS.out
  have UR : U.rowIs (p + 1) 3 n (fun _ => .int .i64 0) := by rw [← hU, ← hg]; exact World.rowIs_made _ _ _ _
  have UB : Below V.heap.size V U := by rw [← hU]; exact (Below.refl _ _).alloc (Nat.le_refl _) _
  have UX := Lib.hid (BX.out.below (show p < V.heap.size by omega) UB)
  rw [hU, hg]
  have UR' := Lib.hid UR
  have UB' := Lib.hid UB
  clear hU UR UB hmk hg
  obtain ⟨y0, y1⟩ := UX.out
  clear x0 x1
  go_wp2
  go_loopw [5, 6] (fun r i wr => ∃ (k : Nat) (qs : List Int) (rest : Int), k ≤ n ∧ i = .int .i64 ((k : Int) - 1) ∧ r = .int .i64 rest ∧ 0 ≤ rest ∧ rest < 65536 ∧ Hid (qs.length = n) ∧ Hid (ok qs) ∧
      Hid (val (qs.drop k) * 65536 + rest = val (ds.drop k)) ∧ Hid (wr.rowIs (p + 1) 3 n (fun i => .int .i64 (qs.getD i 0))) ∧ Hid (Below V.heap.size V wr)) (fun _ i _ => (intOf i + 1).toNat)
  case atStart => exact ⟨n, List.replicate n 0, 0, Nat.le_refl _, rfl, rfl, by omega, by omega, (by show _ = _; simp), ok_replicate n, (by show _ = _; rw [val_drop_end _ _ (by simp), val_drop_end _ _ (by rw [HN.out]; exact Nat.le_refl _)]; rfl), UR'.out.congr (fun i hi => by rw [List.getD_eq_getElem?_getD, List.getElem?_replicate, if_pos hi]; rfl), UB'.out⟩
  case round =>
    obtain ⟨k, qs, rest, hk, rfl, rfl, r0, r1, HL, HQ, HD, HR, HW⟩ := hrel
    obtain ⟨z0, z1⟩ := BX.out.below (show p < V.heap.size by have := BS.out; omega) HW.out
    rcases Nat.eq_zero_or_pos k with rfl | hpos
    · have HT := Lib.hid (trim_any b0 (.slice (some ⟨p + 1, 0, none⟩) n n) qs wr (reads_row n HL.out HR.out HR.out.lt) HQ.out (by rw [HL.out]; omega))
      have hD : val qs * 65536 + rest = z.natAbs := by have h := HD.out; rw [List.drop_zero, List.drop_zero, HV.out] at h; exact h
      have hq0 := val_nonneg HQ.out
      have hsz := HS.out
      obtain ⟨m, hm⟩ : ∃ m, val qs = m := ⟨_, rfl⟩
      rw [hm] at hD HT hq0
      have hbb := HB.out
      obtain ⟨q, hq⟩ : ∃ q, z / 65536 = q := ⟨_, rfl⟩
      have hfs : floorS z = if I64 q then (q, true) else (0, false) := by unfold floorS; rw [hq]
      have hqs : Sm q := by unfold Sm at hsz ⊢; omega
      have HOF := Lib.hid (fun w1 => of_any 1 w1 (by omega) (by omega))
      have HFT := Lib.hid (fun v w1 (h : Is w1 v q) => fitsB_any v q w1 h hqs)
      have HIN := Lib.hid (fun v w1 (h : Is w1 v q) (hi : I64 q) => int_any v q w1 h hi)
      have HFS := Lib.hid hfs
      by_cases hsub : b0 = true ∧ 0 < rest
      · obtain ⟨rfl, hr0⟩ := hsub
        have hz0 : z < 0 := of_decide_eq_true hbb
        have hqe : sgn true m - 1 = q := by show -m - 1 = q; omega
        have HSU := Lib.hid (fun w1 u v (hu : Is w1 u (sgn true m)) (hv : Is w1 v 1) => subB_any u v (sgn true m) 1 w1 hu hv (by show Sm (-m); unfold Sm at hsz ⊢; omega) (by unfold Sm; omega))
        rw [hqe] at HSU
        obtain ⟨y, hy⟩ : ∃ y, sgn true m = y := ⟨_, rfl⟩
        rw [hy] at HT HSU
        obtain ⟨bd, hbd⟩ : ∃ b, decide (y < 0) = b := ⟨_, rfl⟩
        obtain ⟨ld, hld⟩ : ∃ b, (canon y.natAbs).length = b := ⟨_, rfl⟩
        clear hqe hz0 hD hq0 hsz hbb hq hfs hqs hm hy
        go_upto_region 10 with (go_at_call 82; refine HT.out.mono ?_; rintro e w1 ⟨r1, rfl, hi, hbl⟩; obtain ⟨sa, scp, rfl, -⟩ := hi.form; rw [hbd, hld] at hi ⊢; have I1 := Lib.hid hi; have B1 := Lib.hid (show Below w.heap.size w w1 from (BW.out.trans (HW.out.mono BW.out.size)).trans (hbl.mono (BW.out.trans (HW.out.mono BW.out.size)).size)); have T1 := Lib.hid (HW.out.trans (hbl.mono HW.out.size)); clear hi hbl)
        clear z0 z1 hbd hld
        have QX := Lib.hid (box_new w1 bd (.slice sa ld scp))
        have QB := Lib.hid (B1.out.alloc B1.out.size (.cells #[.bool bd, .slice sa ld scp] 97))
        have QT := Lib.hid (T1.out.alloc T1.out.size (.cells #[.bool bd, .slice sa ld scp] 97))
        have hQF : (w1.alloc (.cells #[.bool bd, .slice sa ld scp] 97)).frozen? ⟨w1.heap.size, 0, none⟩ = false ∧ (w1.alloc (.cells #[.bool bd, .slice sa ld scp] 97)).frozen? ⟨w1.heap.size, 1, none⟩ = false := ⟨World.frozen?_alloc_at _ _ _ _ rfl, World.frozen?_alloc_at _ _ _ _ rfl⟩
        obtain ⟨Q, hQ⟩ : ∃ V, w1.alloc (.cells #[.bool bd, .slice sa ld scp] 97) = V := ⟨_, rfl⟩
        have QI := Lib.hid (I1.out.below (show Below w1.heap.size w1 Q by rw [← hQ]; exact (Below.refl _ _).alloc (Nat.le_refl _) _))
        have QS := Lib.hid (show w1.heap.size < Q.heap.size by rw [← hQ]; simp)
        rw [hQ] at QX QB QT hQF ⊢
        clear hQ
        obtain ⟨g, hg⟩ : ∃ p, w1.heap.size = p := ⟨_, rfl⟩
        have HGW := Lib.hid (show w.heap.size ≤ g by rw [← hg]; exact B1.out.size)
        rw [hg] at QX QS hQF ⊢
        clear hg
        obtain ⟨v0, v1⟩ := QX.out
        obtain ⟨u0, u1⟩ := BX.out.below (show p < V.heap.size by have := BS.out; omega) QT.out
        go_upto_region 11 with fail
        have QF := Lib.hid (show Q.frozen? ⟨g, 0, none⟩ = false ∧ Q.frozen? ⟨g, 1, none⟩ = false from hQF)
        clear hQF
        obtain ⟨b9, hb9⟩ : ∃ b, decide (q < 0) = b := ⟨_, rfl⟩
        obtain ⟨l9, hl9⟩ : ∃ b, (canon q.natAbs).length = b := ⟨_, rfl⟩
        go_region_with (first
          | (go_at_call 72; refine (HOF.out _).mono ?_; rintro e w2 ⟨r2, rfl, hi, hbl⟩; have hbl2 : Below Q.heap.size Q w2 := (by first | exact hbl | exact below_undrew hbl); have I2 := Lib.hid hi; have QI2 := Lib.hid (QI.out.below hbl2); have T2 := Lib.hid hbl2; obtain ⟨c2, c3⟩ := QX.out.below QS.out hbl2; clear hi hbl hbl2)
          | (go_at_call 83; refine (HSU.out _ _ _ QI2.out I2.out).mono ?_; rintro e w3 ⟨r3, rfl, hi, hbl⟩; obtain ⟨sa3, scp3, rfl, -⟩ := hi.form; rw [hb9, hl9] at hi ⊢; have I3 := Lib.hid hi; have T3 := Lib.hid (T2.out.trans (hbl.mono T2.out.size)); obtain ⟨c4, c5⟩ := QX.out.below QS.out T3.out; have f4 := (T3.out.frozen (p := ⟨g, 0, none⟩) QS.out).trans QF.out.1; have f5 := (T3.out.frozen (p := ⟨g, 1, none⟩) QS.out).trans QF.out.2; clear hi hbl))
        all_goals
          clear hb9 hl9
          go_upto_region 12 with fail
          change Code.wp _ _ _ _ (put2 w3 g (.bool b9) (.slice sa3 l9 scp3))
          have hZ := put2_cells (x := Value.bool b9) (y := Value.slice sa3 l9 scp3) c4 c5
          have hZI := I3.out.keeps (put2_keeps (x := Value.bool b9) (y := Value.slice sa3 l9 scp3) c4 c5 (nb _) (ns _ _ _))
          have hgw : w.heap.size ≤ g := HGW.out
          have hZB : Below w.heap.size w (put2 w3 g (.bool b9) (.slice sa3 l9 scp3)) := put2_below (QB.out.trans (T3.out.mono QB.out.size)) hgw
          have hZS : g < (put2 w3 g (.bool b9) (.slice sa3 l9 scp3)).heap.size := by have h1 := QS.out; have h2 := T3.out.size; unfold put2; simp [World.setCell]; omega
          obtain ⟨Z, hZe⟩ : ∃ Z, put2 w3 g (.bool b9) (.slice sa3 l9 scp3) = Z := ⟨_, rfl⟩
          rw [hZe] at hZ hZI hZB hZS ⊢
          have QX := Lib.hid (show Box g b9 (.slice sa3 l9 scp3) Z from hZ)
          have QI := Lib.hid hZI
          have QB := Lib.hid hZB
          have QS := Lib.hid hZS
          clear hZe hZ hZI hZB hZS v0 v1 c2 c3 c4 c5 f4 f5
          obtain ⟨v0, v1⟩ := QX.out
          by_cases hf : I64 q
          · have HF0 := Lib.hid hf
            have HF := Lib.hid (HFT.out _ _ QI.out)
            rw [decide_eq_true hf] at HF
            have HN := Lib.hid (fun w1 (h : Is w1 (.agg #[.bool b9, .slice sa3 l9 scp3]) q) => HIN.out (.agg #[.bool b9, .slice sa3 l9 scp3]) w1 h hf)
            clear hf
            go_wp2_with fail
            refine HF.out.mono ?_
            rintro e w8 ⟨rfl, hbl⟩
            have B8 := Lib.hid (show Below w.heap.size w w8 from QB.out.trans (hbl.mono QB.out.size))
            obtain ⟨k0, k1⟩ := QX.out.below (by have := QS.out; omega) hbl
            have I8 := Lib.hid (QI.out.below hbl)
            clear hbl
            go_wp2_with fail
            refine (HN.out _ I8.out).mono ?_
            rintro e w9 ⟨rfl, hbl⟩
            have B9 := Lib.hid (show Below w.heap.size w w9 from B8.out.trans (hbl.mono B8.out.size))
            clear hbl
            go_wp2
            go_ret2
            exact ⟨by rw [HFS.out, if_pos HF0.out]; rfl, B9.out⟩
          · have HF0 := Lib.hid hf
            have HF := Lib.hid (HFT.out _ _ QI.out)
            rw [decide_eq_false hf] at HF
            clear hf
            go_wp2_with fail
            refine HF.out.mono ?_
            rintro e w8 ⟨rfl, hbl⟩
            have B8 := Lib.hid (show Below w.heap.size w w8 from QB.out.trans (hbl.mono QB.out.size))
            clear hbl
            go_wp2
            go_ret2
            exact ⟨by rw [HFS.out, if_neg HF0.out]; rfl, B8.out⟩
      · have hqe : sgn b0 m = q := by
          cases b0
          · show m = q
            have : ¬ z < 0 := of_decide_eq_false hbb
            omega
          · show -m = q
            have : z < 0 := of_decide_eq_true hbb
            have : ¬ 0 < rest := fun h => hsub ⟨rfl, h⟩
            omega
        rw [hqe] at HT
        have hc : b0 = false ∨ b0 = true ∧ rest ≤ 0 := by
          cases b0
          · exact .inl rfl
          · exact .inr ⟨rfl, by have : ¬ 0 < rest := fun h => hsub ⟨rfl, h⟩; omega⟩
        obtain ⟨bd, hbd⟩ : ∃ b, decide (q < 0) = b := ⟨_, rfl⟩
        obtain ⟨ld, hld⟩ : ∃ b, (canon q.natAbs).length = b := ⟨_, rfl⟩
        clear hqe hsub hD hq0 hsz hbb hq hfs hqs hm
        rcases hc with rfl | ⟨rfl, hr0⟩
        all_goals
          go_upto_region 10 with (go_at_call 82; refine HT.out.mono ?_; rintro e w1 ⟨r1, rfl, hi, hbl⟩; obtain ⟨sa, scp, rfl, -⟩ := hi.form; rw [hbd, hld] at hi ⊢; have I1 := Lib.hid hi; have B1 := Lib.hid (show Below w.heap.size w w1 from (BW.out.trans (HW.out.mono BW.out.size)).trans (hbl.mono (BW.out.trans (HW.out.mono BW.out.size)).size)); have T1 := Lib.hid (HW.out.trans (hbl.mono HW.out.size)); clear hi hbl)
          clear z0 z1 hbd hld
          have QX := Lib.hid (box_new w1 bd (.slice sa ld scp))
          have QB := Lib.hid (B1.out.alloc B1.out.size (.cells #[.bool bd, .slice sa ld scp] 97))
          have QT := Lib.hid (T1.out.alloc T1.out.size (.cells #[.bool bd, .slice sa ld scp] 97))
          obtain ⟨Q, hQ⟩ : ∃ V, w1.alloc (.cells #[.bool bd, .slice sa ld scp] 97) = V := ⟨_, rfl⟩
          have QI := Lib.hid (I1.out.below (show Below w1.heap.size w1 Q by rw [← hQ]; exact (Below.refl _ _).alloc (Nat.le_refl _) _))
          have QS := Lib.hid (show w1.heap.size < Q.heap.size by rw [← hQ]; simp)
          rw [hQ] at QX QB QT ⊢
          clear hQ
          obtain ⟨g, hg⟩ : ∃ p, w1.heap.size = p := ⟨_, rfl⟩
          rw [hg] at QX QS ⊢
          clear hg
          obtain ⟨v0, v1⟩ := QX.out
          obtain ⟨u0, u1⟩ := BX.out.below (show p < V.heap.size by have := BS.out; omega) QT.out
          go_upto_region 12 with fail
          by_cases hf : I64 q
          · have HF0 := Lib.hid hf
            have HF := Lib.hid (HFT.out _ _ QI.out)
            rw [decide_eq_true hf] at HF
            have HN := Lib.hid (fun w1 (h : Is w1 (.agg #[.bool bd, .slice sa ld scp]) q) => HIN.out (.agg #[.bool bd, .slice sa ld scp]) w1 h hf)
            clear hf
            go_wp2_with fail
            refine HF.out.mono ?_
            rintro e w8 ⟨rfl, hbl⟩
            have B8 := Lib.hid (show Below w.heap.size w w8 from QB.out.trans (hbl.mono QB.out.size))
            obtain ⟨k0, k1⟩ := QX.out.below (by have := QS.out; omega) hbl
            have I8 := Lib.hid (QI.out.below hbl)
            clear hbl
            go_wp2_with fail
            refine (HN.out _ I8.out).mono ?_
            rintro e w9 ⟨rfl, hbl⟩
            have B9 := Lib.hid (show Below w.heap.size w w9 from B8.out.trans (hbl.mono B8.out.size))
            clear hbl
            go_wp2
            go_ret2
            exact ⟨by rw [HFS.out, if_pos HF0.out]; rfl, B9.out⟩
          · have HF0 := Lib.hid hf
            have HF := Lib.hid (HFT.out _ _ QI.out)
            rw [decide_eq_false hf] at HF
            clear hf
            go_wp2_with fail
            refine HF.out.mono ?_
            rintro e w8 ⟨rfl, hbl⟩
            have B8 := Lib.hid (show Below w.heap.size w w8 from QB.out.trans (hbl.mono QB.out.size))
            clear hbl
            go_wp2
            go_ret2
            exact ⟨by rw [HFS.out, if_neg HF0.out]; rfl, B8.out⟩
    · obtain ⟨j, rfl⟩ : ∃ j, k = j + 1 := ⟨k - 1, by omega⟩
      rw [show (((j + 1 : Nat) : Int) - 1) = (j : Int) by omega]
      obtain ⟨b, off, rfl, hcap, hcell⟩ := (RV.out.below HW.out).at j (by omega)
      have hdig := ok_getD HOK.out j
      have hrc := HR.out.cell (i := j) (by omega)
      have hrf := HR.out.frozen j
      obtain ⟨x, hx⟩ : ∃ x, ds.getD j 0 = x := ⟨_, rfl⟩
      rw [hx] at hcell hdig
      obtain ⟨d0, d1⟩ := hdig
      obtain ⟨o, ho⟩ : ∃ x, qs.getD j 0 = x := ⟨_, rfl⟩
      rw [ho] at hrc
      have q0 : 0 ≤ (rest * 1000 + x) / 65536 := by omega
      have q1 : (rest * 1000 + x) / 65536 ≤ 999 := by omega
      have X := Lib.hid hx
      have N1 := Lib.hid (divided hx HD.out (by rw [HL.out, HN.out]) (by rw [HN.out]; omega))
      clear hx ho
      go_wp2
      go_roundw
      case rel => exact ⟨j, qs.set j ((rest * 1000 + x) / 65536), (rest * 1000 + x) % 65536, by omega, rfl, rfl, by omega, by omega, (by show _ = _; rw [List.length_set]; exact HL.out), ok_set HQ.out j q0 q1, N1.out,
          (HR.out.set j _).congr (fun i hi => by
            have := HL.out
            by_cases e : i = j
            · subst e; simp only [if_true]; rw [List.getD_eq_getElem?_getD, List.getElem?_set_self (by omega)]; rfl
            · simp only [if_neg e]; rw [List.getD_eq_getElem?_getD, List.getD_eq_getElem?_getD, List.getElem?_set_ne (fun h => e h.symm)]),
          HW.out.setCell (by have := BS.out; show V.heap.size ≤ p + 1; omega) _⟩
      case measure => simp [intOf] <;> omega
end Go.Proofs.YtbcddiaplpbhjaaDoor.Bg
namespace Go.Proofs.YtbcddiaplpbhjaaDoor
open Go Go.RowKit Go.Proofs.YtbcddiaplpbhjaaDoor.Dg Go.Proofs.YtbcddiaplpbhjaaDoor.Bg Go.Proofs.YtbcddiaplpbhjaaDoor.Rt
set_option linter.unusedVariables false
def Tabs (w : World) : Prop := Tg.Tab w ∧ Tg.TabR w
theorem Tabs.below {w w' : World} (h : Tabs w) (hb : Below w.heap.size w w') : Tabs w' := ⟨h.1.below hb, h.2.below hb⟩
theorem Tabs.drewN {w : World} (h : Tabs w) (n : Nat) : Tabs (w.drewN n) := ⟨h.1.drewN n, h.2.drewN n⟩
def timesS (a b : Int) : Int := (floorS (a * b)).1
set_option maxHeartbeats 2000000 in
theorem times17_any (a b : Int) (w : World) (ha : I64 a) (hb : I64 b) : Calls Tryd.prog 54 #[.int .i64 a, .int .i64 b] w fun e w' => e = .returned (.int .i64 (timesS a b)) ∧ Below w.heap.size w w' := by
  have HO := Lib.hid (fun a w1 (ha : I64 a) => of_any a w1 ha.1 ha.2)
  have HM := Lib.hid (fun w u v (hu : Is w u a) (hv : Is w v b) => mulB_any u v a b w hu hv (sm_i64 ha) (sm_i64 hb) (md_mul ha hb).sm)
  have HF := Lib.hid (fun w u (hu : Is w u (a * b)) => floor2_any u (a * b) w hu (md_mul ha hb).sm)
  have HA := Lib.hid ha
  have HB := Lib.hid hb
  unfold FloorPost at HF
  unfold timesS
  obtain ⟨z, hz⟩ : ∃ z, a * b = z := ⟨_, rfl⟩
  rw [hz] at HM HF ⊢
  obtain ⟨r, hr⟩ : ∃ r, floorS z = r := ⟨_, rfl⟩
  rw [hr] at HF ⊢
  clear hz hr ha hb
  go_enter Tryd.func54, Tryd.ntmps54
  go_wp2_with fail
  refine (HO.out _ _ HA.out).mono ?_
  rintro e w1 ⟨r1, rfl, hi, hbl⟩
  have R1 := Lib.hid hi
  have B1 := Lib.hid (show Below w.heap.size w w1 from hbl)
  clear hi hbl
  go_wp2_with fail
  refine (HO.out _ _ HB.out).mono ?_
  rintro e w2 ⟨r2, rfl, hi, hbl⟩
  have R2 := Lib.hid hi
  have R1' := Lib.hid (R1.out.below hbl)
  have B2 := Lib.hid (B1.out.trans (hbl.mono B1.out.size))
  clear hi hbl R1
  go_wp2_with fail
  refine (HM.out _ _ _ R1'.out R2.out).mono ?_
  rintro e w3 ⟨r3, rfl, hi, hbl⟩
  have R3 := Lib.hid hi
  have B3 := Lib.hid (B2.out.trans (hbl.mono B2.out.size))
  clear hi hbl R1' R2
  go_wp2_with fail
  refine (HF.out _ _ R3.out).mono ?_
  rintro e w4 ⟨rfl, hbl⟩
  have B4 := Lib.hid (B3.out.trans (hbl.mono B3.out.size))
  clear hbl
  go_wp2
  go_ret
  exact ⟨rfl, B4.out⟩
end Go.Proofs.YtbcddiaplpbhjaaDoor
namespace Go.Proofs.YtbcddiaplpbhjaaDoor.Am
open Go Go.RowKit Go.Proofs.YtbcddiaplpbhjaaDoorW.PrintWords Go.Proofs.YtbcddiaplpbhjaaDoorW.PrintLast Go.Proofs.YtbcddiaplpbhjaaDoorW.PrintMore
set_option linter.unusedVariables false
set_option linter.unusedSimpArgs false
set_option maxHeartbeats 4000000 in
set_option maxRecDepth 100000 in
theorem corners_any (W H Wa : Int) (A : Option Addr) (c : Nat) (l : List Int) (i j k d : Int) (w : World) (hr : Kd.C (Kd.int .u8) w A l.length l) (hc : l.length ≤ c)
    (hk : wrap64 (wrap64 (wrap64 (W + 1) * j) + i) = k) (hd : wrap64 (wrap64 (k + W) + 1) = d) (h0 : 0 ≤ k) (h1 : k + 1 < l.length) (h2 : 0 ≤ d) (h3 : d + 1 < l.length) (hb : (l.length : Int) < 9223372036854775807) :
    Calls Tryd.prog 89 #[.agg #[.int .i64 W, .int .i64 H, .int .i64 Wa, .slice A l.length c], .int .i64 i, .int .i64 j] w fun e w' =>
      e = .returned (.agg #[.int .i64 (wrap64 (rd l k)), .int .i64 (wrap64 (rd l (k + 1))), .int .i64 (wrap64 (rd l d)), .int .i64 (wrap64 (rd l (d + 1)))]) ∧ Below w.heap.size w w' := by
  obtain ⟨a0, rfl, c0⟩ := Kd.at_int hr k h0 (by omega)
  obtain ⟨a1, e1, c1⟩ := Kd.at_int hr (k + 1) (by omega) (by omega)
  obtain ⟨a2, e2, c2⟩ := Kd.at_int hr d (by omega) (by omega)
  obtain ⟨a3, e3, c3⟩ := Kd.at_int hr (d + 1) (by omega) (by omega)
  cases e1; cases e2; cases e3
  have hu := Tryd.underlying45
  have hw1 : wrap64 (k + 1) = k + 1 := by unfold wrap64; omega
  have hw2 : wrap64 (d + 1) = d + 1 := by unfold wrap64; omega
  have hk' : IntKind.i64.wrap (wrap64 (wrap64 (W + 1) * j) + i) = k := (i64_w _).trans hk
  have hd' : IntKind.i64.wrap (wrap64 (k + W) + 1) = d := (i64_w _).trans hd
  go_enter Tryd.func89, Tryd.ntmps89
  go_wp2
  obtain ⟨V, hV⟩ : ∃ V, (w.alloc (Obj.cells #[Value.int IntKind.i64 W, Value.int IntKind.i64 H, Value.int IntKind.i64 Wa, Value.slice (some a0) l.length c] 45)).alloc (Obj.cells #[Value.int IntKind.i64 0, Value.int IntKind.i64 0, Value.int IntKind.i64 0, Value.int IntKind.i64 0] 114) = V := ⟨_, rfl⟩
  have hB : Below w.heap.size w V := by rw [← hV]; exact below_alloc (below_alloc (Below.refl _ _) _) _
  have b0 := blk_alloc (blk_new w (Obj.cells #[Value.int IntKind.i64 W, Value.int IntKind.i64 H, Value.int IntKind.i64 Wa, Value.slice (some a0) l.length c] 45)) (Obj.cells #[Value.int IntKind.i64 0, Value.int IntKind.i64 0, Value.int IntKind.i64 0, Value.int IntKind.i64 0] 114)
  rw [hV] at b0
  have b1 := blk_new (w.alloc (Obj.cells #[Value.int IntKind.i64 W, Value.int IntKind.i64 H, Value.int IntKind.i64 Wa, Value.slice (some a0) l.length c] 45)) (Obj.cells #[Value.int IntKind.i64 0, Value.int IntKind.i64 0, Value.int IntKind.i64 0, Value.int IntKind.i64 0] 114)
  rw [hV] at b1
  have z1 : (w.alloc (Obj.cells #[Value.int IntKind.i64 W, Value.int IntKind.i64 H, Value.int IntKind.i64 Wa, Value.slice (some a0) l.length c] 45)).heap.size = w.heap.size + 1 := by simp
  rw [z1] at b1
  rw [hV]
  clear hV z1
  have x3 := blk_cell b0 3
  simp only [List.getElem?_toArray, List.getElem?_cons_succ, List.getElem?_cons_zero] at x3
  replace c0 := pw_cell_below hB c0
  replace c1 := pw_cell_below hB c1
  replace c2 := pw_cell_below hB c2
  replace c3 := pw_cell_below hB c3
  have p0 : 0 ≤ k + 1 := by omega
  have p1 : 0 ≤ d + 1 := by omega
  have p2 : k < (l.length : Int) := by omega
  have p3 : d < (l.length : Int) := by omega
  have hw1' : IntKind.i64.wrap (k + 1) = k + 1 := (i64_w _).trans hw1
  have hw2' : IntKind.i64.wrap (d + 1) = d + 1 := (i64_w _).trans hw2
  go_still_tail 27, (by kernel_rfl)
  change wpList _ _ _ _ _ V.drew
  replace b1 := blk_drew b1
  replace hB := below_drew hB
  generalize V.drew = V2 at b1 hB ⊢
  have f1 := blk_frozen b1
  have g0 := blk_cell b1 0
  have g1 := blk_cell b1 1
  have g2 := blk_cell b1 2
  have g3 := blk_cell b1 3
  simp only [List.getElem?_toArray, List.getElem?_cons_succ, List.getElem?_cons_zero] at g0 g1 g2 g3
  clear c0 c1 c2 c3 x3 b0 hk' hd' hw1' hw2' hr
  simp only [i64_w]
  go_wp2
  have e := blk_set (blk_set (blk_set (blk_set b1 0 (.int .i64 (wrap64 (rd l k)))) 1 (.int .i64 (wrap64 (rd l (k + 1))))) 2 (.int .i64 (wrap64 (rd l d)))) 3 (.int .i64 (wrap64 (rd l (d + 1))))
  have hB3 := below_set (j := 3) (v := .int .i64 (wrap64 (rd l (d + 1)))) (below_set (j := 2) (v := .int .i64 (wrap64 (rd l d))) (below_set (j := 1) (v := .int .i64 (wrap64 (rd l (k + 1)))) (below_set (j := 0) (v := .int .i64 (wrap64 (rd l k))) hB (Nat.le_succ _)) (Nat.le_succ _)) (Nat.le_succ _)) (Nat.le_succ _)
  generalize (((V2.setCell ⟨w.heap.size + 1, 0, none⟩ (.int .i64 (wrap64 (rd l k)))).setCell ⟨w.heap.size + 1, 1, none⟩ (.int .i64 (wrap64 (rd l (k + 1))))).setCell ⟨w.heap.size + 1, 2, none⟩ (.int .i64 (wrap64 (rd l d)))).setCell ⟨w.heap.size + 1, 3, none⟩ (.int .i64 (wrap64 (rd l (d + 1)))) = V3 at e hB3 ⊢
  have y0 := blk_cell e 0
  have y1 := blk_cell e 1
  have y2 := blk_cell e 2
  have y3 := blk_cell e 3
  simp only [List.setIfInBounds_toArray, List.set_cons_zero, List.set_cons_succ, List.getElem?_toArray, List.getElem?_cons_succ, List.getElem?_cons_zero] at y0 y1 y2 y3
  exact bodyPost_ret (v := .agg #[.int .i64 (wrap64 (rd l k)), .int .i64 (wrap64 (rd l (k + 1))), .int .i64 (wrap64 (rd l d)), .int .i64 (wrap64 (rd l (d + 1)))]) (by simp [results, Tryd.results89, go_sem, y0, y1, y2, y3]) rfl ⟨rfl, hB3⟩
end Go.Proofs.YtbcddiaplpbhjaaDoor.Am
namespace Go.Proofs.YtbcddiaplpbhjaaDoor.MAi
open Go.RowKit Go.Proofs.YtbcddiaplpbhjaaDoorW.PrintWords Go.Proofs.YtbcddiaplpbhjaaDoorW.PrintLast Go.Proofs.YtbcddiaplpbhjaaDoorW.PrintMore
attribute [local go_sem] max2_int min2_int max_two min_two max_three min_three max_four min_four
set_option linter.unusedVariables false
set_option linter.unusedSimpArgs false
def errW : Option Int → Value
  | none => .nilIface
  | some c => .iface 0 (.int .i64 c)
theorem errW_none : errW none = .nilIface := rfl
theorem errW_some (c : Int) : errW (some c) = .iface 0 (.int .i64 c) := rfl
theorem info5 : (Tryd.prog.info? 5).map (fun i => (i.zero, i.size, i.bytes)) = some (some (.int .u8 0), 1, 1) := by kernel_rfl
end Go.Proofs.YtbcddiaplpbhjaaDoor.MAi
