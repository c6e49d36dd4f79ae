/- What the claim's proof leans on: texts of this claim, laid together. -/
import Derived.Test.YtbcddiaplpbhjaaDoorE1
import Derived.Below
import Derived.Test.YtbcddiaplpbhjaaDoorProg
import Derived.WalkKit
import Derived.WalkSpells
import Derived.WalkLawsBesides
import Derived.Deep.QuietTactic
import Derived.BigQuiet
import Derived.Lib.Hide
import Derived.Deep.RegionHeld3
import Derived.Test.YtbcddiaplpbhjaaDoorRows
import Derived.ProofKit
import Derived.OpenShut
import Derived.LaidMore
import Derived.MakeChecks
import Derived.Stop.Joined
import Derived.ChangeSlices
import Derived.Shelf.Small.Bits
import Derived.Shelf.Strconv.Itoa0
import Derived.Shelf.Bits.Mul64
import Derived.Laws.BitsLemmas
import Derived.Deep.DeepCutAuto
import Derived.Deep.CutBlock
import Derived.Lib.ItoaNum
import Derived.Deep.RegionWith
import Derived.WalkMore
import Derived.IntWalk
import Derived.Deep.OwnRows
import Derived.StillTailTactics
import Derived.Deep.Draws
import Derived.Deep.AppendLies
import Derived.Maps.AppendAt
import Derived.OwnWalk
import Derived.Laws.BytesArg
import Derived.Laws.MakeOwn
import Derived.Laws.OwnMore
import Derived.Tactics
import Derived.Lib.ConvBytes
import Derived.Laws.Slices
import Derived.KernelRfl
import Derived.RowKit3
import Derived.Deep.LoopGhost
import Derived.WideLaws
import Derived.Laws.Rows
import Derived.Lib.AppendStr
import Derived.ArgAppend
import Derived.Laws.IdiomCopy
import Derived.OrdersHeld
import Derived.RowKit
namespace Go.Proofs.YtbcddiaplpbhjaaDoor.Tr
open Go Go.RowKit
set_option linter.unusedVariables false
def tab : List Int := [0, 1608, 3216, 4821, 6424, 8022, 9616, 11204, 12785, 14359, 15924, 17479, 19024, 20557, 22078, 23586, 25080, 26558, 28020, 29466, 30893, 32303, 33692, 35062, 36410, 37736, 39040, 40320, 41576, 42806, 44011, 45190, 46341, 47464, 48559, 49624, 50660, 51665, 52639, 53581, 54491, 55368, 56212, 57022, 57798, 58538, 59244, 59914, 60547, 61145, 61705, 62228, 62714, 63162, 63572, 63944, 64277, 64571, 64827, 65043, 65220, 65358, 65457, 65516, 65536]
def at_ (i : Int) : Int := tab.getD i.toNat 0
def core (r : Int) : Int := at_ (r / 256) + (at_ (r / 256 + 1) - at_ (r / 256)) * (r % 256) / 256
def sinP (p : Int) : Int :=
  if p ≥ 32768 then -core (if p / 16384 % 2 = 1 then 16384 - p % 16384 else p % 16384)
  else core (if p / 16384 % 2 = 1 then 16384 - p % 16384 else p % 16384)
def nrm (a : Int) : Int := a % 65536
def sinA (a : Int) : Int := sinP (nrm a)
def cosA (a : Int) : Int := sinA (nrm a + 16384)
theorem nrm_range (a : Int) : 0 ≤ nrm a ∧ nrm a < 65536 := by unfold nrm; omega
theorem at_nat (n : Nat) (h : n < 64) : at_ (n : Int) ≤ at_ ((n : Int) + 1) ∧ at_ ((n : Int) + 1) ≤ at_ n + 1700 ∧ 0 ≤ at_ n ∧ at_ ((n : Int) + 1) ≤ 65536 := by
  have key : ∀ k : Fin 64, at_ (k.val : Int) ≤ at_ ((k.val : Int) + 1) ∧ at_ ((k.val : Int) + 1) ≤ at_ k.val + 1700 ∧ 0 ≤ at_ k.val ∧ at_ ((k.val : Int) + 1) ≤ 65536 := by decide +kernel
  exact key ⟨n, h⟩
theorem at_rise (i : Int) (h0 : 0 ≤ i) (h1 : i < 64) : at_ i ≤ at_ (i + 1) ∧ at_ (i + 1) ≤ at_ i + 1700 ∧ 0 ≤ at_ i ∧ at_ (i + 1) ≤ 65536 := by
  obtain ⟨n, rfl⟩ : ∃ n : Nat, i = n := ⟨i.toNat, by omega⟩
  exact at_nat n (by omega)
theorem at_mono_nat (i d : Nat) : i + d ≤ 64 → at_ (i : Int) ≤ at_ ((i + d : Nat) : Int) := by
  induction d with
  | zero => intro _; exact Int.le_refl _
  | succ d ih =>
    intro h
    have h1 := ih (by omega)
    have h2 := (at_nat (i + d) (by omega)).1
    have e : (((i + (d + 1) : Nat)) : Int) = ((i + d : Nat) : Int) + 1 := by omega
    rw [e]; omega
theorem at_mono (i j : Int) (h0 : 0 ≤ i) (h : i ≤ j) (h1 : j ≤ 64) : at_ i ≤ at_ j := by
  obtain ⟨n, rfl⟩ : ∃ n : Nat, i = n := ⟨i.toNat, by omega⟩
  have := at_mono_nat n (j - n).toNat (by omega)
  have e : ((n + (j - n).toNat : Nat) : Int) = j := by omega
  rw [e] at this; exact this
theorem at_bound (i : Int) (h0 : 0 ≤ i) (h1 : i < 65) : 0 ≤ at_ i ∧ at_ i ≤ 65536 := by
  have a1 := at_mono 0 i (by omega) h0 (by omega)
  have a2 := at_mono i 64 h0 (by omega) (by omega)
  have e1 : at_ 0 = 0 := by decide +kernel
  have e2 : at_ 64 = 65536 := by decide +kernel
  omega
theorem part_range (d f : Int) (hd : 0 ≤ d) (f0 : 0 ≤ f) (f1 : f < 256) : 0 ≤ d * f / 256 ∧ d * f / 256 ≤ d := by
  have h1 : 0 ≤ d * f := Int.mul_nonneg hd f0
  have h2 : d * f ≤ d * 256 := Int.mul_le_mul_of_nonneg_left (by omega) hd
  constructor
  · omega
  · omega
theorem core_range (r : Int) (h0 : 0 ≤ r) (h1 : r < 16384) : at_ (r / 256) ≤ core r ∧ core r ≤ at_ (r / 256 + 1) := by
  have h := at_rise (r / 256) (by omega) (by omega)
  have hp := part_range (at_ (r / 256 + 1) - at_ (r / 256)) (r % 256) (by omega) (by omega) (by omega)
  unfold core; omega
theorem core_top : core 16384 = 65536 := by decide +kernel
theorem core_zero : core 0 = 0 := by decide +kernel
theorem core_mono (x y : Int) (h0 : 0 ≤ x) (h : x ≤ y) (h1 : y ≤ 16384) : core x ≤ core y := by
  by_cases hy : y = 16384
  · subst hy; rw [core_top]
    by_cases hx : x = 16384
    · subst hx; rw [core_top]; omega
    · have := core_range x h0 (by omega)
      have := (at_rise (x / 256) (by omega) (by omega))
      omega
  · by_cases e : x / 256 = y / 256
    · unfold core
      rw [e]
      have h := at_rise (y / 256) (by omega) (by omega)
      have : (at_ (y / 256 + 1) - at_ (y / 256)) * (x % 256) ≤ (at_ (y / 256 + 1) - at_ (y / 256)) * (y % 256) :=
        Int.mul_le_mul_of_nonneg_left (by omega) (by omega)
      omega
    · have a1 := (core_range x h0 (by omega)).2
      have a2 := (core_range y (by omega) (by omega)).1
      have a3 := at_mono (x / 256 + 1) (y / 256) (by omega) (by omega) (by omega)
      omega
theorem core_bound (r : Int) (h0 : 0 ≤ r) (h1 : r ≤ 16384) : 0 ≤ core r ∧ core r ≤ 65536 := by
  have a := core_mono 0 r (by omega) h0 h1
  have b := core_mono r 16384 h0 h1 (by omega)
  rw [core_zero] at a; rw [core_top] at b
  exact ⟨a, b⟩
theorem fold_range (p : Int) (h0 : 0 ≤ p) (h1 : p < 65536) : 0 ≤ (if p / 16384 % 2 = 1 then 16384 - p % 16384 else p % 16384) ∧ (if p / 16384 % 2 = 1 then 16384 - p % 16384 else p % 16384) ≤ 16384 := by
  split <;> omega
theorem sinP_bound (p : Int) (h0 : 0 ≤ p) (h1 : p < 65536) : -65536 ≤ sinP p ∧ sinP p ≤ 65536 := by
  have hf := fold_range p h0 h1
  have hb := core_bound _ hf.1 hf.2
  unfold sinP
  split <;> omega
theorem sinA_bound (a : Int) : -65536 ≤ sinA a ∧ sinA a ≤ 65536 := sinP_bound _ (nrm_range a).1 (nrm_range a).2
theorem cosA_bound (a : Int) : -65536 ≤ cosA a ∧ cosA a ≤ 65536 := sinA_bound _
end Go.Proofs.YtbcddiaplpbhjaaDoor.Tr
namespace Go.Proofs.YtbcddiaplpbhjaaDoor.Tr
open Go Go.RowKit
set_option linter.unusedVariables false
def S (d : Int) : Int := sinA (256 * d)
def C (d : Int) : Int := cosA (256 * d)
def vel (x y d : Int) : Int := x * C d + y * S d
def try1 (x y : Int) (s : Int × Int) (d : Int) : Int × Int := if s.2 < vel x y d then (d, vel x y d) else s
def tries (x y : Int) : Nat → Int → Int × Int → Int × Int
  | 0, _, s => s
  | n + 1, d, s => tries x y n (d + 1) (try1 x y s d)
theorem tries_succ (x y : Int) (n : Nat) : ∀ (d : Int) (s : Int × Int), tries x y (n + 1) d s = try1 x y (tries x y n d s) (d + n) := by
  induction n with
  | zero => intro d s; simp [tries]
  | succ n ih =>
    intro d s
    rw [tries, ih]
    rw [tries]
    congr 1
    push_cast; omega
theorem table : ∀ k : Fin 256,
    (k.val ≤ 64 → 0 ≤ C k.val ∧ 0 ≤ S k.val) ∧ (k.val < 64 → 0 < C k.val) ∧ (0 < k.val → k.val < 128 → 0 < S k.val) ∧
    (64 ≤ k.val → k.val ≤ 128 → C k.val ≤ 0 ∧ 0 ≤ S k.val) ∧ (64 < k.val → k.val < 192 → C k.val < 0) ∧
    (128 ≤ k.val → k.val ≤ 192 → C k.val ≤ 0 ∧ S k.val ≤ 0) ∧ (192 ≤ k.val → 0 ≤ C k.val ∧ S k.val ≤ 0) ∧
    (k.val ≤ 128 → C (128 - k.val) = -C k.val ∧ S (128 - k.val) = S k.val) ∧
    (0 < k.val → C (256 - k.val) = C k.val ∧ S (256 - k.val) = -S k.val) ∧
    (128 < k.val → C (k.val - 128) = -C k.val ∧ S (k.val - 128) = -S k.val) ∧
    (129 ≤ k.val → C (384 - k.val) = -C k.val ∧ S (384 - k.val) = S k.val) ∧
    (-65536 ≤ C k.val ∧ C k.val ≤ 65536 ∧ -65536 ≤ S k.val ∧ S k.val ≤ 65536) := by decide +kernel
theorem table_at (d : Int) (h0 : 0 ≤ d) (h1 : d < 256) :
    (d ≤ 64 → 0 ≤ C d ∧ 0 ≤ S d) ∧ (d < 64 → 0 < C d) ∧ (0 < d → d < 128 → 0 < S d) ∧
    (64 ≤ d → d ≤ 128 → C d ≤ 0 ∧ 0 ≤ S d) ∧ (64 < d → d < 192 → C d < 0) ∧
    (128 ≤ d → d ≤ 192 → C d ≤ 0 ∧ S d ≤ 0) ∧ (192 ≤ d → 0 ≤ C d ∧ S d ≤ 0) ∧
    (d ≤ 128 → C (128 - d) = -C d ∧ S (128 - d) = S d) ∧
    (0 < d → C (256 - d) = C d ∧ S (256 - d) = -S d) ∧
    (128 < d → C (d - 128) = -C d ∧ S (d - 128) = -S d) ∧
    (129 ≤ d → C (384 - d) = -C d ∧ S (384 - d) = S d) ∧
    (-65536 ≤ C d ∧ C d ≤ 65536 ∧ -65536 ≤ S d ∧ S d ≤ 65536) := by
  obtain ⟨n, rfl⟩ : ∃ n : Nat, d = n := ⟨d.toNat, by omega⟩
  have t := table ⟨n, by omega⟩
  simp only at t
  obtain ⟨t1, t2, t3, t4, t5, t6, t7, t8, t9, t10, t11, t12⟩ := t
  exact ⟨fun h => t1 (by omega), fun h => t2 (by omega), fun h h' => t3 (by omega) (by omega), fun h h' => t4 (by omega) (by omega), fun h h' => t5 (by omega) (by omega), fun h h' => t6 (by omega) (by omega), fun h => t7 (by omega), fun h => t8 (by omega), fun h => t9 (by omega), fun h => t10 (by omega), fun h => t11 (by omega), t12⟩
def Best (x y : Int) (P : Int → Prop) (b : Int) : Prop := P b ∧ ∀ d, P d → vel x y d ≤ vel x y b ∧ (d < b → vel x y d < vel x y b)
theorem best_unique {x y : Int} {P : Int → Prop} {a b : Int} (ha : Best x y P a) (hb : Best x y P b) : a = b := by
  have h1 := ha.2 b hb.1
  have h2 := hb.2 a ha.1
  rcases Int.lt_trichotomy a b with h | h | h
  · have := h2.2 h; omega
  · exact h
  · have := h1.2 h; omega
theorem best_congr {x y : Int} {P Q : Int → Prop} {b : Int} (h : ∀ d, P d ↔ Q d) (hb : Best x y P b) : Best x y Q b :=
  ⟨(h b).1 hb.1, fun d hd => hb.2 d ((h d).2 hd)⟩
theorem or_step (e d : Int) (n : Nat) (p : Prop) : ((p ∨ e = d) ∨ (d + 1 ≤ e ∧ e < d + 1 + n)) ↔ (p ∨ (d ≤ e ∧ e < d + ((n + 1 : Nat) : Int))) := by
  constructor
  · rintro ((h | h) | h)
    · exact Or.inl h
    · exact Or.inr (by omega)
    · exact Or.inr (by omega)
  · rintro (h | h)
    · exact Or.inl (Or.inl h)
    · by_cases h' : e = d
      · exact Or.inl (Or.inr h')
      · exact Or.inr (by omega)
theorem tries_best (x y : Int) (n : Nat) : ∀ (d b : Int) (P : Int → Prop), Best x y P b → (∀ e, P e → e < d) →
    ∃ b', tries x y n d (b, vel x y b) = (b', vel x y b') ∧ Best x y (fun e => P e ∨ (d ≤ e ∧ e < d + n)) b' := by
  induction n with
  | zero =>
    intro d b P hb _
    exact ⟨b, rfl, best_congr (fun e => ⟨fun h => Or.inl h, fun h => h.elim id (fun h => by omega)⟩) hb⟩
  | succ n ih =>
    intro d b P hb hP
    rw [tries]
    by_cases h : vel x y b < vel x y d
    · rw [show try1 x y (b, vel x y b) d = (d, vel x y d) from if_pos h]
      have hd : Best x y (fun e => P e ∨ e = d) d := ⟨Or.inr rfl, fun e he => he.elim (fun he => by
        have := (hb.2 e he).1
        exact ⟨by omega, fun _ => by omega⟩) (fun he => by subst he; exact ⟨by omega, fun h => by omega⟩)⟩
      obtain ⟨b', e1, e2⟩ := ih (d + 1) d _ hd (fun e he => he.elim (fun he => by have := hP e he; omega) (fun he => by omega))
      exact ⟨b', e1, best_congr (fun e => or_step e d n (P e)) e2⟩
    · rw [show try1 x y (b, vel x y b) d = (b, vel x y b) from if_neg h]
      have hd : Best x y (fun e => P e ∨ e = d) b := ⟨Or.inl hb.1, fun e he => he.elim (hb.2 e) (fun he => by
        subst he; have := hP b hb.1; exact ⟨by omega, fun h => by omega⟩)⟩
      obtain ⟨b', e1, e2⟩ := ih (d + 1) b _ hd (fun e he => he.elim (fun he => by have := hP e he; omega) (fun he => by omega))
      exact ⟨b', e1, best_congr (fun e => or_step e d n (P e)) e2⟩
theorem prod_bound (x c : Int) (hx : -1073741824 ≤ x ∧ x ≤ 1073741824) (hc : -65536 ≤ c ∧ c ≤ 65536) : -70368744177664 ≤ x * c ∧ x * c ≤ 70368744177664 := by
  have a1 : (1073741824 - x) * (65536 + c) ≥ 0 := Int.mul_nonneg (by omega) (by omega)
  have a2 : (1073741824 + x) * (65536 + c) ≥ 0 := Int.mul_nonneg (by omega) (by omega)
  have a3 : (1073741824 - x) * (65536 - c) ≥ 0 := Int.mul_nonneg (by omega) (by omega)
  have a4 : (1073741824 + x) * (65536 - c) ≥ 0 := Int.mul_nonneg (by omega) (by omega)
  simp only [Int.sub_mul, Int.add_mul, Int.mul_add, Int.mul_sub] at a1 a2 a3 a4
  omega
theorem vel_bound (x y d : Int) (hx : -1073741824 ≤ x ∧ x ≤ 1073741824) (hy : -1073741824 ≤ y ∧ y ≤ 1073741824) (h0 : 0 ≤ d) (h1 : d < 256) :
    (-70368744177664 ≤ x * C d ∧ x * C d ≤ 70368744177664) ∧ (-70368744177664 ≤ y * S d ∧ y * S d ≤ 70368744177664) := by
  obtain ⟨_, _, _, _, _, _, _, _, _, _, _, c0, c1, s0, s1⟩ := table_at d h0 h1
  exact ⟨prod_bound _ _ hx ⟨c0, c1⟩, prod_bound _ _ hy ⟨s0, s1⟩⟩
def init : Int × Int := (0, -9223372036854775808)
def headP (x y : Int) : Int :=
  if x < 0 ∧ 0 ≤ y then (tries x y 65 64 init).1
  else if x ≤ 0 ∧ y < 0 then (tries x y 65 128 init).1
  else if y < 0 then (tries x y 64 192 (try1 x y init 0)).1
  else (tries x y 65 0 init).1
def headR (x y : Int) : Int := (tries x y 255 1 (0, vel x y 0)).1
theorem headR_best (x y : Int) : Best x y (fun e => 0 ≤ e ∧ e < 256) (headR x y) := by
  have h0 : Best x y (fun e => e = 0) 0 := ⟨rfl, fun e he => by subst he; exact ⟨by omega, fun h => by omega⟩⟩
  obtain ⟨b, e1, e2⟩ := tries_best x y 255 1 0 _ h0 (fun e he => by omega)
  unfold headR
  rw [e1]
  exact best_congr (fun e => by constructor <;> intro h <;> omega) e2
theorem from_best (x y : Int) (hx : -1073741824 ≤ x ∧ x ≤ 1073741824) (hy : -1073741824 ≤ y ∧ y ≤ 1073741824) (d : Int) (h0 : 0 ≤ d) (h1 : d < 256) (n : Nat) :
    Best x y (fun e => d ≤ e ∧ e < d + ((n + 1 : Nat) : Int)) (tries x y (n + 1) d init).1 := by
  have hb := vel_bound x y d hx hy h0 h1
  have h2 : Best x y (fun e => e = d) d := ⟨rfl, fun e he => by subst he; exact ⟨by omega, fun h => by omega⟩⟩
  obtain ⟨b, e1, e2⟩ := tries_best x y n (d + 1) d _ h2 (fun e he => by omega)
  rw [tries, show try1 x y init d = (d, vel x y d) from if_pos (by unfold init vel; simp only; omega), e1]
  exact best_congr (fun e => by constructor <;> intro h <;> omega) e2
theorem best_all {x y b : Int} {P : Int → Prop} (hP : ∀ e, P e → 0 ≤ e ∧ e < 256) (hb : Best x y P b)
    (h : ∀ d, 0 ≤ d → d < 256 → ¬ P d → ∃ e, P e ∧ ((e < d ∧ vel x y d ≤ vel x y e) ∨ vel x y d < vel x y e)) : Best x y (fun e => 0 ≤ e ∧ e < 256) b := by
  refine ⟨hP b hb.1, fun d hd => ?_⟩
  by_cases hp : P d
  · exact hb.2 d hp
  · obtain ⟨e, he, h1⟩ := h d hd.1 hd.2 hp
    have h2 := hb.2 e he
    rcases h1 with ⟨h3, h4⟩ | h3
    · exact ⟨by omega, fun h5 => by have := h2.2 (by omega); omega⟩
    · exact ⟨by omega, fun _ => by omega⟩
theorem mulpn {a b : Int} (ha : 0 ≤ a) (hb : b ≤ 0) : a * b ≤ 0 := Int.mul_nonpos_of_nonneg_of_nonpos ha hb
theorem mulnp {a b : Int} (ha : a ≤ 0) (hb : 0 ≤ b) : a * b ≤ 0 := Int.mul_nonpos_of_nonpos_of_nonneg ha hb
theorem mulppn {a b : Int} (ha : 0 < a) (hb : b < 0) : a * b < 0 := Int.mul_neg_of_pos_of_neg ha hb
theorem mulnpp {a b : Int} (ha : a < 0) (hb : 0 < b) : a * b < 0 := Int.mul_neg_of_neg_of_pos ha hb
set_option maxHeartbeats 4000000 in
theorem head_eq (x y : Int) (hx : -1073741824 ≤ x ∧ x ≤ 1073741824) (hy : -1073741824 ≤ y ∧ y ≤ 1073741824) : headP x y = headR x y := by
  refine best_unique ?_ (headR_best x y)
  unfold headP
  by_cases q1 : x < 0 ∧ 0 ≤ y
  · rw [if_pos q1]
    refine best_all (fun e he => by omega) (from_best x y hx hy 64 (by omega) (by omega) 64) fun d h0 h1 hp => ?_
    obtain ⟨t1, t2, t3, t4, t5, t6, t7, t8, t9, t10, t11, t12⟩ := table_at d h0 h1
    by_cases a1 : d < 64
    · refine ⟨128 - d, by omega, Or.inr ?_⟩
      have := mulnpp q1.1 (t2 a1)
      unfold vel; rw [(t8 (by omega)).1, (t8 (by omega)).2, Int.mul_neg]; omega
    · by_cases a2 : d < 192
      · refine ⟨256 - d, by omega, Or.inl ⟨by omega, ?_⟩⟩
        have := mulpn q1.2 (t6 (by omega) (by omega)).2
        unfold vel; rw [(t9 (by omega)).1, (t9 (by omega)).2, Int.mul_neg]; omega
      · refine ⟨d - 128, by omega, Or.inl ⟨by omega, ?_⟩⟩
        have h2 := mulpn q1.2 (t7 (by omega)).2
        have h3 := mulnp (Int.le_of_lt q1.1) (t7 (by omega)).1
        unfold vel; rw [(t10 (by omega)).1, (t10 (by omega)).2, Int.mul_neg, Int.mul_neg]; omega
  · rw [if_neg q1]
    by_cases q2 : x ≤ 0 ∧ y < 0
    · rw [if_pos q2]
      refine best_all (fun e he => by omega) (from_best x y hx hy 128 (by omega) (by omega) 64) fun d h0 h1 hp => ?_
      obtain ⟨t1, t2, t3, t4, t5, t6, t7, t8, t9, t10, t11, t12⟩ := table_at d h0 h1
      by_cases a1 : d ≤ 64
      · refine ⟨192, by omega, Or.inr ?_⟩
        have e1 : C 192 = 0 := by decide +kernel
        have e2 : S 192 = -65536 := by decide +kernel
        have h2 := mulnp q2.1 (t1 a1).1
        have h3 := mulnp (Int.le_of_lt q2.2) (t1 a1).2
        unfold vel; rw [e1, e2]; omega
      · by_cases a2 : d < 128
        · refine ⟨256 - d, by omega, Or.inr ?_⟩
          have := mulnpp q2.2 (t3 (by omega) (by omega))
          unfold vel; rw [(t9 (by omega)).1, (t9 (by omega)).2, Int.mul_neg]; omega
        · refine ⟨384 - d, by omega, Or.inl ⟨by omega, ?_⟩⟩
          have := mulnp q2.1 (t7 (by omega)).1
          unfold vel; rw [(t11 (by omega)).1, (t11 (by omega)).2, Int.mul_neg]; omega
    · rw [if_neg q2]
      by_cases q3 : y < 0
      · rw [if_pos q3]
        have hb := vel_bound x y 0 hx hy (by omega) (by omega)
        have h2 : Best x y (fun e => e = 0) 0 := ⟨rfl, fun e he => by subst he; exact ⟨by omega, fun h => by omega⟩⟩
        obtain ⟨b, e1, e2⟩ := tries_best x y 64 192 0 _ h2 (fun e he => by omega)
        rw [show try1 x y init 0 = (0, vel x y 0) from if_pos (by unfold init vel; simp only; omega), e1]
        refine best_all (fun e he => by omega) e2 fun d h0 h1 hp => ?_
        obtain ⟨t1, t2, t3, t4, t5, t6, t7, t8, t9, t10, t11, t12⟩ := table_at d h0 h1
        by_cases a1 : d ≤ 64
        · refine ⟨256 - d, by omega, Or.inr ?_⟩
          have := mulnpp q3 (t3 (by omega) (by omega))
          unfold vel; rw [(t9 (by omega)).1, (t9 (by omega)).2, Int.mul_neg]; omega
        · by_cases a2 : d ≤ 128
          · refine ⟨0, by omega, Or.inl ⟨by omega, ?_⟩⟩
            have e1 : C 0 = 65536 := by decide +kernel
            have e2 : S 0 = 0 := by decide +kernel
            have h2 := mulpn (show 0 ≤ x by omega) (t4 (by omega) a2).1
            have h3 := mulnp (Int.le_of_lt q3) (t4 (by omega) a2).2
            unfold vel; rw [e1, e2]; omega
          · refine ⟨384 - d, by omega, Or.inr ?_⟩
            have := mulppn (show 0 < x by omega) (t5 (by omega) (by omega))
            unfold vel; rw [(t11 (by omega)).1, (t11 (by omega)).2, Int.mul_neg]; omega
      · rw [if_neg q3]
        refine best_all (fun e he => by omega) (from_best x y hx hy 0 (by omega) (by omega) 64) fun d h0 h1 hp => ?_
        obtain ⟨t1, t2, t3, t4, t5, t6, t7, t8, t9, t10, t11, t12⟩ := table_at d h0 h1
        by_cases a1 : d ≤ 128
        · refine ⟨128 - d, by omega, Or.inl ⟨by omega, ?_⟩⟩
          have := mulpn (show 0 ≤ x by omega) (t4 (by omega) a1).1
          unfold vel; rw [(t8 (by omega)).1, (t8 (by omega)).2, Int.mul_neg]; omega
        · by_cases a2 : d < 192
          · refine ⟨d - 128, by omega, Or.inl ⟨by omega, ?_⟩⟩
            have h2 := mulpn (show 0 ≤ x by omega) (t6 (by omega) (by omega)).1
            have h3 := mulpn (show 0 ≤ y by omega) (t6 (by omega) (by omega)).2
            unfold vel; rw [(t10 (by omega)).1, (t10 (by omega)).2, Int.mul_neg, Int.mul_neg]; omega
          · refine ⟨256 - d, by omega, Or.inl ⟨by omega, ?_⟩⟩
            have := mulpn (show 0 ≤ y by omega) (t7 (by omega)).2
            unfold vel; rw [(t9 (by omega)).1, (t9 (by omega)).2, Int.mul_neg]; omega
end Go.Proofs.YtbcddiaplpbhjaaDoor.Tr
namespace Go.Proofs.YtbcddiaplpbhjaaDoor.Tg
open Go Go.RowKit
set_option linter.unusedVariables false
theorem and_mask (i : Nat) (hi : i ≤ 63) (x : Int) : bits .and .i64 x (2 ^ i - 1) = x % 2 ^ i := by
  have hpos : 0 < 2 ^ i := Nat.two_pow_pos i
  have hle : 2 ^ i ≤ 2 ^ 63 := Nat.pow_le_pow_right (by decide) hi
  have hc : ((2 : Int) ^ i - 1) = ((2 ^ i - 1 : Nat) : Int) := by
    rw [Int.natCast_sub hpos]; simp
  have hp : ((2 : Int) ^ i) = ((2 ^ i : Nat) : Int) := by simp
  have hd : (2 ^ i) ∣ (2 ^ 64) := Nat.pow_dvd_pow 2 (by omega)
  have ha : (BitVec.ofInt 64 x).toNat = (x % (2 ^ 64 : Nat)).toNat := by simp [BitVec.toNat_ofInt]
  have hm : 2 ^ i - 1 < 2 ^ 64 := by omega
  rw [hc]
  show IntKind.i64.wrap (((BitVec.ofInt 64 x) &&& (BitVec.ofInt 64 (((2 ^ i - 1 : Nat)) : Int))).toNat : Int) = _
  rw [BitVec.ofInt_natCast, BitVec.toNat_and, BitVec.toNat_ofNat, ha, Nat.mod_eq_of_lt hm, Nat.and_two_pow_sub_one_eq_mod]
  have h1 : (((x % (2 ^ 64 : Nat)).toNat % 2 ^ i : Nat) : Int) = x % 2 ^ i := by
    rw [Int.natCast_emod, Int.toNat_of_nonneg (Int.emod_nonneg _ (by decide)), hp]
    exact Int.emod_emod_of_dvd x (by exact_mod_cast hd)
  rw [h1, IntKind.wrap_i64]
  have h2 : 0 ≤ x % 2 ^ i := Int.emod_nonneg _ (by rw [hp]; omega)
  have h3 : x % 2 ^ i < 2 ^ i := Int.emod_lt_of_pos _ (by rw [hp]; omega)
  have h4 : (2 : Int) ^ i ≤ 9223372036854775808 := by rw [hp]; omega
  omega
theorem and_65535 (x : Int) : bits .and .i64 x 65535 = x % 65536 := by have := and_mask 16 (by decide) x; simpa using this
theorem and_16383 (x : Int) : bits .and .i64 x 16383 = x % 16384 := by have := and_mask 14 (by decide) x; simpa using this
theorem and_255 (x : Int) : bits .and .i64 x 255 = x % 256 := by have := and_mask 8 (by decide) x; simpa using this
theorem and_1 (x : Int) : bits .and .i64 x 1 = x % 2 := by have := and_mask 1 (by decide) x; simpa using this
theorem ret_int {k : IntKind} {a b : Int} (h : a = b) : Ending.returned (.int k a) = .returned (.int k b) := by rw [h]
theorem ret_bool {a b : Bool} (h : a = b) : Ending.returned (.bool a) = .returned (.bool b) := by rw [h]
theorem norm_any (a : Int) (w : World) : Calls Tryd.prog 31 #[.int .i64 a] w fun e w' => e = .returned (.int .i64 (Tr.nrm a)) ∧ w = w' := by
  have hb : bits .and .i64 a 65535 = Tr.nrm a := and_65535 a
  go_enter Tryd.func31, Tryd.ntmps31
  go_wp2
  go_ret
  exact ⟨rfl, rfl⟩
structure Tab (w : World) : Prop where
  size : 0 < w.heap.size
  sines : ∀ i : Nat, i < 65 → w.cell? ⟨0, i, none⟩ = some (.int .i32 (Tr.tab.getD i 0))
theorem Tab.below {w w' : World} (h : Tab w) (hb : Below w.heap.size w w') : Tab w' := by
  have hs := h.size
  refine ⟨by have := hb.size; omega, fun i hi => ?_⟩
  rw [hb.cell (p := ⟨0, i, none⟩) (show 0 < w.heap.size from hs)]
  exact h.sines i hi
theorem Tab.at {w : World} (h : Tab w) (i : Int) (h0 : 0 ≤ i) (h1 : i < 65) : w.cell? ⟨0, i.toNat, none⟩ = some (.int .i32 (Tr.at_ i)) :=
  h.sines i.toNat (by omega)
set_option maxHeartbeats 1000000 in
theorem sin_odd (a : Int) (w : World) (ht : Tab w) (hq : Tr.nrm a / 16384 % 2 = 1) : Calls Tryd.prog 68 #[.int .i64 a] w fun e w' => e = .returned (.int .i64 (Tr.sinA a)) ∧ w = w' := by
  have hr := Tr.nrm_range a
  have nn := norm_any a
  obtain ⟨p, hp⟩ : ∃ p, Tr.nrm a = p := ⟨_, rfl⟩
  rw [hp] at hr hq nn
  have HP : Hid (Tr.sinA a = Tr.sinP p) := by unfold Tr.sinA; rw [hp]; rfl
  clear hp
  have e1 : bits .and .i64 p 16383 = p % 16384 := and_16383 p
  have e2 : bits .and .i64 (p / 16384) 1 = p / 16384 % 2 := and_1 _
  have e3 : bits .and .i64 (16384 - p % 16384) 255 = (16384 - p % 16384) % 256 := and_255 _
  have hb : ((p / 16384 % 2) == 1) = true := by simpa using hq
  have hc := ht.at ((16384 - p % 16384) / 256) (by omega) (by omega)
  have hv0 := Tr.at_bound ((16384 - p % 16384) / 256) (by omega) (by omega)
  have HC : Hid (Tr.core (16384 - p % 16384) = Tr.at_ ((16384 - p % 16384) / 256) + (Tr.at_ ((16384 - p % 16384) / 256 + 1) - Tr.at_ ((16384 - p % 16384) / 256)) * ((16384 - p % 16384) % 256) / 256) := rfl
  have HQ : Hid (p / 16384 % 2 = 1) := hq
  by_cases hf : 0 < (16384 - p % 16384) % 256
  · have hc1 := ht.at ((16384 - p % 16384) / 256 + 1) (by omega) (by omega)
    have hv1 := Tr.at_bound ((16384 - p % 16384) / 256 + 1) (by omega) (by omega)
    have hle := (Tr.at_rise ((16384 - p % 16384) / 256) (by omega) (by omega)).1
    have hm := Tr.part_range (Tr.at_ ((16384 - p % 16384) / 256 + 1) - Tr.at_ ((16384 - p % 16384) / 256)) ((16384 - p % 16384) % 256) (by omega) (by omega) (by omega)
    obtain ⟨v, hv⟩ : ∃ v, Tr.at_ ((16384 - p % 16384) / 256) = v := ⟨_, rfl⟩
    obtain ⟨v1, hvv⟩ : ∃ v, Tr.at_ ((16384 - p % 16384) / 256 + 1) = v := ⟨_, rfl⟩
    rw [hv, hvv] at hm HC hle
    rw [hv] at hc hv0
    rw [hvv] at hc1 hv1
    obtain ⟨m, hmm⟩ : ∃ m, (v1 - v) * ((16384 - p % 16384) % 256) = m := ⟨_, rfl⟩
    rw [hmm] at hm HC
    clear hq hv hvv
    go_enter Tryd.func68, Tryd.ntmps68
    go_wp2_with (first | (go_at_call 31; refine (nn _).mono ?_; rintro e w' ⟨rfl, rfl⟩))
    all_goals go_ret
    all_goals refine ⟨ret_int ?_, rfl⟩
    · rw [HP.out]; unfold Tr.sinP; rw [if_pos HQ.out, if_pos (by omega), HC.out]
    · rw [HP.out]; unfold Tr.sinP; rw [if_pos HQ.out, if_neg (by omega), HC.out]
  · have hm0 : Tr.core (16384 - p % 16384) = Tr.at_ ((16384 - p % 16384) / 256) := by
      rw [HC.out, show (16384 - p % 16384) % 256 = 0 by omega]; simp
    have HM := Lib.hid hm0
    clear hm0 HC
    obtain ⟨v, hv⟩ : ∃ v, Tr.at_ ((16384 - p % 16384) / 256) = v := ⟨_, rfl⟩
    rw [hv] at hc hv0 HM
    clear hq hv
    go_enter Tryd.func68, Tryd.ntmps68
    go_wp2_with (first | (go_at_call 31; refine (nn _).mono ?_; rintro e w' ⟨rfl, rfl⟩))
    all_goals go_ret
    all_goals refine ⟨ret_int ?_, rfl⟩
    · rw [HP.out]; unfold Tr.sinP; rw [if_pos HQ.out, if_pos (by omega), HM.out]
    · rw [HP.out]; unfold Tr.sinP; rw [if_pos HQ.out, if_neg (by omega), HM.out]
set_option maxHeartbeats 1000000 in
theorem sin_even (a : Int) (w : World) (ht : Tab w) (hq : Tr.nrm a / 16384 % 2 ≠ 1) : Calls Tryd.prog 68 #[.int .i64 a] w fun e w' => e = .returned (.int .i64 (Tr.sinA a)) ∧ w = w' := by
  have hr := Tr.nrm_range a
  have nn := norm_any a
  obtain ⟨p, hp⟩ : ∃ p, Tr.nrm a = p := ⟨_, rfl⟩
  rw [hp] at hr hq nn
  have HP : Hid (Tr.sinA a = Tr.sinP p) := by unfold Tr.sinA; rw [hp]; rfl
  clear hp
  obtain ⟨r, hrr⟩ : ∃ r, p % 16384 = r := ⟨_, rfl⟩
  have e1 : bits .and .i64 p 16383 = r := by rw [and_16383]; exact hrr
  have hr0 : 0 ≤ r ∧ r < 16384 := by omega
  have HR : Hid (p % 16384 = r) := hrr
  clear hrr
  have e2 : bits .and .i64 (p / 16384) 1 = p / 16384 % 2 := and_1 _
  have e3 : bits .and .i64 r 255 = r % 256 := and_255 _
  have hb : ((p / 16384 % 2) == 1) = false := by simpa using hq
  have hc := ht.at (r / 256) (by omega) (by omega)
  have hv0 := Tr.at_bound (r / 256) (by omega) (by omega)
  have HC : Hid (Tr.core r = Tr.at_ (r / 256) + (Tr.at_ (r / 256 + 1) - Tr.at_ (r / 256)) * (r % 256) / 256) := rfl
  have HQ : Hid (p / 16384 % 2 ≠ 1) := hq
  by_cases hf : 0 < r % 256
  · have hc1 := ht.at (r / 256 + 1) (by omega) (by omega)
    have hv1 := Tr.at_bound (r / 256 + 1) (by omega) (by omega)
    have hle := (Tr.at_rise (r / 256) (by omega) (by omega)).1
    have hm := Tr.part_range (Tr.at_ (r / 256 + 1) - Tr.at_ (r / 256)) (r % 256) (by omega) (by omega) (by omega)
    obtain ⟨v, hv⟩ : ∃ v, Tr.at_ (r / 256) = v := ⟨_, rfl⟩
    obtain ⟨v1, hvv⟩ : ∃ v, Tr.at_ (r / 256 + 1) = v := ⟨_, rfl⟩
    rw [hv, hvv] at hm HC hle
    rw [hv] at hc hv0
    rw [hvv] at hc1 hv1
    obtain ⟨m, hmm⟩ : ∃ m, (v1 - v) * (r % 256) = m := ⟨_, rfl⟩
    rw [hmm] at hm HC
    clear hq hv hvv
    go_enter Tryd.func68, Tryd.ntmps68
    go_wp2_with (first | (go_at_call 31; refine (nn _).mono ?_; rintro e w' ⟨rfl, rfl⟩))
    all_goals go_ret
    all_goals refine ⟨ret_int ?_, rfl⟩
    · rw [HP.out]; unfold Tr.sinP; rw [if_neg HQ.out, HR.out, if_pos (by omega), HC.out]
    · rw [HP.out]; unfold Tr.sinP; rw [if_neg HQ.out, HR.out, if_neg (by omega), HC.out]
  · have hm0 : Tr.core r = Tr.at_ (r / 256) := by
      rw [HC.out, show r % 256 = 0 by omega]; simp
    have HM := Lib.hid hm0
    clear hm0 HC
    obtain ⟨v, hv⟩ : ∃ v, Tr.at_ (r / 256) = v := ⟨_, rfl⟩
    rw [hv] at hc hv0 HM
    clear hq hv
    go_enter Tryd.func68, Tryd.ntmps68
    go_wp2_with (first | (go_at_call 31; refine (nn _).mono ?_; rintro e w' ⟨rfl, rfl⟩))
    all_goals go_ret
    all_goals refine ⟨ret_int ?_, rfl⟩
    · rw [HP.out]; unfold Tr.sinP; rw [if_neg HQ.out, HR.out, if_pos (by omega), HM.out]
    · rw [HP.out]; unfold Tr.sinP; rw [if_neg HQ.out, HR.out, if_neg (by omega), HM.out]
theorem sin_any (a : Int) (w : World) (ht : Tab w) : Calls Tryd.prog 68 #[.int .i64 a] w fun e w' => e = .returned (.int .i64 (Tr.sinA a)) ∧ w = w' := by
  by_cases hq : Tr.nrm a / 16384 % 2 = 1
  · exact sin_odd a w ht hq
  · exact sin_even a w ht hq
theorem cos_any (a : Int) (w : World) (ht : Tab w) : Calls Tryd.prog 67 #[.int .i64 a] w fun e w' => e = .returned (.int .i64 (Tr.cosA a)) ∧ w = w' := by
  have hr := Tr.nrm_range a
  have nn := norm_any a
  have ss := sin_any (Tr.nrm a + 16384)
  have HS := Lib.hid ss
  clear ss
  have HP : Hid (Tr.cosA a = Tr.sinA (Tr.nrm a + 16384)) := rfl
  obtain ⟨p, hp⟩ : ∃ p, Tr.nrm a = p := ⟨_, rfl⟩
  rw [hp] at hr nn HP HS
  clear hp
  go_enter Tryd.func67, Tryd.ntmps67
  go_wp2_with (first | (go_at_call 31; refine (nn _).mono ?_; rintro e w' ⟨rfl, rfl⟩) | (go_at_call 68; refine (HS.out _ ht).mono ?_; rintro e w' ⟨rfl, rfl⟩))
  go_ret
  exact ⟨ret_int HP.out.symm, rfl⟩
end Go.Proofs.YtbcddiaplpbhjaaDoor.Tg
namespace Go.Proofs.YtbcddiaplpbhjaaDoor.Tg
open Go Go.RowKit
set_option linter.unusedVariables false
theorem Tab.drewN {w : World} (h : Tab w) (n : Nat) : Tab (w.drewN n) := ⟨h.size, h.sines⟩
def farB (v : Int) : Bool := decide (v < -1073741824 ∨ 1073741824 < v)
theorem farB_false {v : Int} (h : farB v = false) : -1073741824 ≤ v ∧ v ≤ 1073741824 := by
  have := of_decide_eq_false h; omega
theorem far_any (v : Int) (w : World) : Calls Tryd.prog 65 #[.int .i64 v] w fun e w' => e = .returned (.bool (farB v)) ∧ w = w' := by
  by_cases h : v < -1073741824
  · have HD : Hid (true = farB v) := (decide_eq_true (Or.inl h)).symm
    go_enter Tryd.func65, Tryd.ntmps65
    go_wp2
    go_ret
    exact ⟨ret_bool HD.out, rfl⟩
  · have HD := Lib.hid (show decide (1073741824 < v) = farB v by unfold farB; simp [h])
    go_enter Tryd.func65, Tryd.ntmps65
    go_wp2
    go_ret
    exact ⟨ret_bool HD.out, rfl⟩
structure HM (w : World) (B : Nat) (x y : Int) (s : Int × Int) : Prop where
  size : B + 4 ≤ w.heap.size
  cx : w.cell? ⟨B, 0, none⟩ = some (.int .i64 x)
  cy : w.cell? ⟨B + 1, 0, none⟩ = some (.int .i64 y)
  cb : w.cell? ⟨B + 2, 0, none⟩ = some (.int .i64 s.1)
  cm : w.cell? ⟨B + 3, 0, none⟩ = some (.int .i64 s.2)
  fb : w.frozen? ⟨B + 2, 0, none⟩ = false
  fm : w.frozen? ⟨B + 3, 0, none⟩ = false
theorem HM.set {w : World} {B : Nat} {x y : Int} {s : Int × Int} (h : HM w B x y s) (n : Nat) (d v : Int) :
    HM (((w.drewN n).setCell ⟨B + 2, 0, none⟩ (.int .i64 d)).setCell ⟨B + 3, 0, none⟩ (.int .i64 v)) B x y (d, v) := by
  obtain ⟨hsz, cx, cy, cb, cm, fb, fm⟩ := h
  refine ⟨by simpa using hsz, ?_, ?_, ?_, ?_, by simpa using fb, by simpa using fm⟩
  · rw [World.cell?_setCell_far _ _ _ _ (by show _ ≠ _; simp), World.cell?_setCell_far _ _ _ _ (by show _ ≠ _; simp)]; exact cx
  · rw [World.cell?_setCell_far _ _ _ _ (by show _ ≠ _; simp), World.cell?_setCell_far _ _ _ _ (by show _ ≠ _; simp)]; exact cy
  · rw [World.cell?_setCell_far _ _ _ _ (by show _ ≠ _; simp)]
    exact World.cell?_setCell_same _ _ _ (u := .int .i64 s.1) cb
  · refine World.cell?_setCell_same _ _ _ (u := .int .i64 s.2) ?_
    rw [World.cell?_setCell_far _ _ _ _ (by show _ ≠ _; simp)]; exact cm
theorem HM.drewN {w : World} {B : Nat} {x y : Int} {s : Int × Int} (h : HM w B x y s) (n : Nat) : HM (w.drewN n) B x y s :=
  ⟨h.size, h.cx, h.cy, h.cb, h.cm, h.fb, h.fm⟩
theorem below_drewN (B : Nat) (w : World) (n : Nat) : Below B w (w.drewN n) := ⟨rfl, rfl, rfl, Nat.le_refl _, fun _ _ => rfl⟩
set_option maxHeartbeats 1000000 in
theorem try_any (B : Nat) (x y d : Int) (s : Int × Int) (w : World) (ht : Tab w) (hm : HM w B x y s)
    (hx : -1073741824 ≤ x ∧ x ≤ 1073741824) (hy : -1073741824 ≤ y ∧ y ≤ 1073741824) (h0 : 0 ≤ d) (h1 : d < 256) :
    Calls Tryd.prog 66 #[.int .i64 d, .pointer (some ⟨B, 0, none⟩), .pointer (some ⟨B + 1, 0, none⟩), .pointer (some ⟨B + 3, 0, none⟩), .pointer (some ⟨B + 2, 0, none⟩)] w fun e w' =>
      e = .returned (.tuple #[]) ∧ HM w' B x y (Tr.try1 x y s d) ∧ Below B w w' := by
  have HH := Lib.hid hm
  obtain ⟨b, m⟩ := s
  obtain ⟨hsz, cx, cy, cb, cm, fb, fm⟩ := hm
  simp only at cb cm
  have hb := Tr.vel_bound x y d hx hy h0 h1
  have hcos := fun n => (cos_any (256 * d) _ (ht.drewN n))
  have hsin := fun n => (sin_any (256 * d) _ (ht.drewN n))
  have HC : Hid (Tr.try1 x y (b, m) d = if m < x * Tr.cosA (256 * d) + y * Tr.sinA (256 * d) then (d, x * Tr.cosA (256 * d) + y * Tr.sinA (256 * d)) else (b, m)) := rfl
  replace hb : (-70368744177664 ≤ x * Tr.cosA (256 * d) ∧ x * Tr.cosA (256 * d) ≤ 70368744177664) ∧ (-70368744177664 ≤ y * Tr.sinA (256 * d) ∧ y * Tr.sinA (256 * d) ≤ 70368744177664) := hb
  obtain ⟨c, hc⟩ : ∃ c, Tr.cosA (256 * d) = c := ⟨_, rfl⟩
  obtain ⟨sn, hs⟩ : ∃ c, Tr.sinA (256 * d) = c := ⟨_, rfl⟩
  rw [hc] at hcos hb HC
  rw [hs] at hsin hb HC
  clear hc hs
  obtain ⟨p1, hp1⟩ : ∃ q, x * c = q := ⟨_, rfl⟩
  obtain ⟨p2, hp2⟩ : ∃ q, y * sn = q := ⟨_, rfl⟩
  rw [hp1, hp2] at hb HC
  have hcos' := Lib.hid hcos
  have hsin' := Lib.hid hsin
  clear hcos hsin ht
  by_cases h : m < p1 + p2
  · go_enter Tryd.func66, Tryd.ntmps66
    go_wp2
    go_quiet ((first | (go_at_call 67; exact Calls.quiet_of_same ((hcos'.out _).mono fun _ _ q => ⟨q.1, q.2.symm⟩)) | (go_at_call 68; exact Calls.quiet_of_same ((hsin'.out _).mono fun _ _ q => ⟨q.1, q.2.symm⟩))))
    go_wp2
    go_end0
    exact ⟨rfl, by rw [HC.out, if_pos h]; exact HH.out.set nq d _, ((below_drewN B w nq).setCell (by simp) _).setCell (by simp) _⟩
  · go_enter Tryd.func66, Tryd.ntmps66
    go_wp2
    go_quiet ((first | (go_at_call 67; exact Calls.quiet_of_same ((hcos'.out _).mono fun _ _ q => ⟨q.1, q.2.symm⟩)) | (go_at_call 68; exact Calls.quiet_of_same ((hsin'.out _).mono fun _ _ q => ⟨q.1, q.2.symm⟩))))
    go_wp2
    go_end0
    exact ⟨rfl, by rw [HC.out, if_neg (by omega)]; exact HH.out.drewN nq, below_drewN B w nq⟩
end Go.Proofs.YtbcddiaplpbhjaaDoor.Tg
namespace Go.Proofs.YtbcddiaplpbhjaaDoor.Tg
open Go Go.RowKit
set_option linter.unusedVariables false
theorem heading_far (x y : Int) (w : World) (h : farB x = true ∨ farB y = true) :
    Calls Tryd.prog 36 #[.int .i64 x, .int .i64 y] w fun e w' => e = .returned (.tuple #[.int .i64 0, .int .i64 8]) ∧ Below w.heap.size w w' := by
  have hx := far_any x
  have hy := far_any y
  have HX := Lib.hid hx
  have HY := Lib.hid hy
  clear hx hy
  by_cases h1 : farB x = true
  · go_enter Tryd.func36, Tryd.ntmps36
    go_wp2_with (first | (go_at_call 65; refine (HX.out _).mono ?_; rintro e w' ⟨rfl, rfl⟩))
    go_ret2
    exact ⟨rfl, ((Below.refl _ _).alloc (Nat.le_refl _) _).alloc (by simp) _⟩
  · have h1' : farB x = false := by simpa using h1
    have h2 : farB y = true := h.resolve_left h1
    clear h1 h
    go_enter Tryd.func36, Tryd.ntmps36
    go_wp2_with (first | (go_at_call 65; (first | (with_reducible refine (HX.out _).mono ?_) | (with_reducible refine (HY.out _).mono ?_)); rintro e w' ⟨rfl, rfl⟩))
    go_ret2
    exact ⟨rfl, ((Below.refl _ _).alloc (Nat.le_refl _) _).alloc (by simp) _⟩
def own4 (w : World) (x y : Int) : World := (((w.alloc (.cells #[.int .i64 x] 2)).alloc (.cells #[.int .i64 y] 2)).alloc (.cells #[.int .i64 0] 2)).alloc (.cells #[.int .i64 (-9223372036854775808)] 2)
theorem own4_hm (w : World) (x y : Int) : HM (own4 w x y) w.heap.size x y Tr.init := by
  unfold own4 Tr.init
  refine ⟨by simp, ?_, ?_, ?_, ?_, ?_, ?_⟩
  · rw [World.cell?_alloc_past _ _ _ (by simp <;> omega), World.cell?_alloc_past _ _ _ (by simp <;> omega), World.cell?_alloc_past _ _ _ (by simp), World.cell?_alloc_at _ _ _ _ rfl]; rfl
  · rw [World.cell?_alloc_past _ _ _ (by simp <;> omega), World.cell?_alloc_past _ _ _ (by simp), World.cell?_alloc_at _ _ _ _ (by simp)]; rfl
  · rw [World.cell?_alloc_past _ _ _ (by simp), World.cell?_alloc_at _ _ _ _ (by simp)]; rfl
  · rw [World.cell?_alloc_at _ _ _ _ (by simp)]; rfl
  · rw [World.frozen?_alloc_past _ _ _ (by simp), World.frozen?_alloc_at _ _ _ _ (by simp)]
  · rw [World.frozen?_alloc_at _ _ _ _ (by simp)]
theorem own4_below (w : World) (x y : Int) : Below w.heap.size w (own4 w x y) :=
  ((((Below.refl _ _).alloc (Nat.le_refl _) _).alloc (by simp) _).alloc (by simp; omega) _).alloc (by simp; omega) _
theorem HM.steps {w' : World} {B : Nat} {x y F : Int} {s0 : Int × Int} {k : Nat} {d : Int} (h : HM w' B x y (Tr.try1 x y (Tr.tries x y k F s0) d)) (hd : d = F + k) : HM w' B x y (Tr.tries x y (k + 1) F s0) := by
  rw [Tr.tries_succ, ← hd]; exact h
set_option maxRecDepth 100000 in
set_option maxHeartbeats 1000000 in
theorem heading_1 (x y : Int) (w : World) (ht : Tab w) (h1 : farB x = false) (h2 : farB y = false) (q : x < 0) (q' : 0 ≤ y) :
    Calls Tryd.prog 36 #[.int .i64 x, .int .i64 y] w fun e w' => e = .returned (.tuple #[.int .i64 (Tr.headP x y), .int .i64 0]) ∧ Below w.heap.size w w' := by
  have HX := Lib.hid (far_any x)
  have HY := Lib.hid (far_any y)
  have hbx := farB_false h1
  have hby := farB_false h2
  have HT := Lib.hid ht
  have HH := Lib.hid (own4_hm w x y)
  have HB := Lib.hid (own4_below w x y)
  clear ht
  have hmf : ∀ (fn : Fn) (first cap : Array Value) (w : World), (Instr.makeFunc fn first cap).run Tryd.prog w = .ok (.func fn first cap) w := fun _ _ _ _ => rfl
  go_enter Tryd.func36, Tryd.ntmps36
  go_wp2_with (first | (go_at_call 65; (first | (with_reducible refine (HX.out _).mono ?_) | (with_reducible refine (HY.out _).mono ?_)); rintro e w' ⟨rfl, rfl⟩))
  go_loopw [10] (fun d wr => ∃ k : Nat, k ≤ 65 ∧ d = .int .i64 (64 + k) ∧ Hid (HM wr w.heap.size x y (Tr.tries x y k 64 Tr.init)) ∧ Hid (Below w.heap.size w wr)) (fun d _ => (64 + 65 - intOf d).toNat)
  case atStart => exact ⟨0, by omega, rfl, HH.out, HB.out⟩
  case round =>
    obtain ⟨k, hk, rfl, H1, H2⟩ := hrel
    by_cases hlt : k < 65
    · go_wp2_with (first | (go_at_call 66; refine (try_any w.heap.size x y _ _ _ (HT.out.below H2.out) H1.out hbx hby (by omega) (by omega)).mono ?_; rintro e w' ⟨rfl, H3, H4⟩; have H5 := Lib.hid H3; have H6 := Lib.hid H4; clear H3 H4))
      go_roundw
      case rel => exact ⟨k + 1, by omega, by go_num, H5.out.steps (by omega), H2.out.trans H6.out⟩
      case measure => simp [intOf]; omega
    · obtain rfl : k = 65 := by omega
      have hcb := H1.out.cb
      have HF := Lib.hid (show (Tr.tries x y 65 64 Tr.init).1 = Tr.headP x y by unfold Tr.headP; rw [if_pos ⟨q, q'⟩])
      rw [HF.out] at hcb
      clear H1
      go_wp2
      go_ret2
      exact ⟨rfl, H2.out⟩
set_option maxRecDepth 100000 in
set_option maxHeartbeats 1000000 in
theorem heading_2a (x y : Int) (w : World) (ht : Tab w) (h1 : farB x = false) (h2 : farB y = false) (q0 : x < 0) (q' : y < 0) :
    Calls Tryd.prog 36 #[.int .i64 x, .int .i64 y] w fun e w' => e = .returned (.tuple #[.int .i64 (Tr.headP x y), .int .i64 0]) ∧ Below w.heap.size w w' := by
  have HX := Lib.hid (far_any x)
  have HY := Lib.hid (far_any y)
  have hbx := farB_false h1
  have hby := farB_false h2
  have HT := Lib.hid ht
  have HH := Lib.hid (own4_hm w x y)
  have HB := Lib.hid (own4_below w x y)
  clear ht
  have hmf : ∀ (fn : Fn) (first cap : Array Value) (w : World), (Instr.makeFunc fn first cap).run Tryd.prog w = .ok (.func fn first cap) w := fun _ _ _ _ => rfl
  go_enter Tryd.func36, Tryd.ntmps36
  go_wp2_with (first | (go_at_call 65; (first | (with_reducible refine (HX.out _).mono ?_) | (with_reducible refine (HY.out _).mono ?_)); rintro e w' ⟨rfl, rfl⟩))
  go_loopw [10] (fun d wr => ∃ k : Nat, k ≤ 65 ∧ d = .int .i64 (128 + k) ∧ Hid (HM wr w.heap.size x y (Tr.tries x y k 128 Tr.init)) ∧ Hid (Below w.heap.size w wr)) (fun d _ => (128 + 65 - intOf d).toNat)
  case atStart => exact ⟨0, by omega, rfl, HH.out, HB.out⟩
  case round =>
    obtain ⟨k, hk, rfl, H1, H2⟩ := hrel
    by_cases hlt : k < 65
    · go_wp2_with (first | (go_at_call 66; refine (try_any w.heap.size x y _ _ _ (HT.out.below H2.out) H1.out hbx hby (by omega) (by omega)).mono ?_; rintro e w' ⟨rfl, H3, H4⟩; have H5 := Lib.hid H3; have H6 := Lib.hid H4; clear H3 H4))
      go_roundw
      case rel => exact ⟨k + 1, by omega, by go_num, H5.out.steps (by omega), H2.out.trans H6.out⟩
      case measure => simp [intOf]; omega
    · obtain rfl : k = 65 := by omega
      have hcb := H1.out.cb
      have HF := Lib.hid (show (Tr.tries x y 65 128 Tr.init).1 = Tr.headP x y by unfold Tr.headP; rw [if_neg (by omega), if_pos ⟨by omega, q'⟩])
      rw [HF.out] at hcb
      clear H1
      go_wp2
      go_ret2
      exact ⟨rfl, H2.out⟩
set_option maxRecDepth 100000 in
set_option maxHeartbeats 1000000 in
theorem heading_2b (x y : Int) (w : World) (ht : Tab w) (h1 : farB x = false) (h2 : farB y = false) (q : x ≤ 0) (q0 : 0 ≤ x) (q' : y < 0) :
    Calls Tryd.prog 36 #[.int .i64 x, .int .i64 y] w fun e w' => e = .returned (.tuple #[.int .i64 (Tr.headP x y), .int .i64 0]) ∧ Below w.heap.size w w' := by
  have HX := Lib.hid (far_any x)
  have HY := Lib.hid (far_any y)
  have hbx := farB_false h1
  have hby := farB_false h2
  have HT := Lib.hid ht
  have HH := Lib.hid (own4_hm w x y)
  have HB := Lib.hid (own4_below w x y)
  clear ht
  have hmf : ∀ (fn : Fn) (first cap : Array Value) (w : World), (Instr.makeFunc fn first cap).run Tryd.prog w = .ok (.func fn first cap) w := fun _ _ _ _ => rfl
  go_enter Tryd.func36, Tryd.ntmps36
  go_wp2_with (first | (go_at_call 65; (first | (with_reducible refine (HX.out _).mono ?_) | (with_reducible refine (HY.out _).mono ?_)); rintro e w' ⟨rfl, rfl⟩))
  go_loopw [10] (fun d wr => ∃ k : Nat, k ≤ 65 ∧ d = .int .i64 (128 + k) ∧ Hid (HM wr w.heap.size x y (Tr.tries x y k 128 Tr.init)) ∧ Hid (Below w.heap.size w wr)) (fun d _ => (128 + 65 - intOf d).toNat)
  case atStart => exact ⟨0, by omega, rfl, HH.out, HB.out⟩
  case round =>
    obtain ⟨k, hk, rfl, H1, H2⟩ := hrel
    by_cases hlt : k < 65
    · go_wp2_with (first | (go_at_call 66; refine (try_any w.heap.size x y _ _ _ (HT.out.below H2.out) H1.out hbx hby (by omega) (by omega)).mono ?_; rintro e w' ⟨rfl, H3, H4⟩; have H5 := Lib.hid H3; have H6 := Lib.hid H4; clear H3 H4))
      go_roundw
      case rel => exact ⟨k + 1, by omega, by go_num, H5.out.steps (by omega), H2.out.trans H6.out⟩
      case measure => simp [intOf]; omega
    · obtain rfl : k = 65 := by omega
      have hcb := H1.out.cb
      have HF := Lib.hid (show (Tr.tries x y 65 128 Tr.init).1 = Tr.headP x y by unfold Tr.headP; rw [if_neg (by omega), if_pos ⟨q, q'⟩])
      rw [HF.out] at hcb
      clear H1
      go_wp2
      go_ret2
      exact ⟨rfl, H2.out⟩
set_option maxRecDepth 100000 in
set_option maxHeartbeats 1000000 in
theorem heading_4a (x y : Int) (w : World) (ht : Tab w) (h1 : farB x = false) (h2 : farB y = false) (q : 0 ≤ x) (q0 : x ≤ 0) (q' : 0 ≤ y) :
    Calls Tryd.prog 36 #[.int .i64 x, .int .i64 y] w fun e w' => e = .returned (.tuple #[.int .i64 (Tr.headP x y), .int .i64 0]) ∧ Below w.heap.size w w' := by
  have HX := Lib.hid (far_any x)
  have HY := Lib.hid (far_any y)
  have hbx := farB_false h1
  have hby := farB_false h2
  have HT := Lib.hid ht
  have HH := Lib.hid (own4_hm w x y)
  have HB := Lib.hid (own4_below w x y)
  clear ht
  have hmf : ∀ (fn : Fn) (first cap : Array Value) (w : World), (Instr.makeFunc fn first cap).run Tryd.prog w = .ok (.func fn first cap) w := fun _ _ _ _ => rfl
  go_enter Tryd.func36, Tryd.ntmps36
  go_wp2_with (first | (go_at_call 65; (first | (with_reducible refine (HX.out _).mono ?_) | (with_reducible refine (HY.out _).mono ?_)); rintro e w' ⟨rfl, rfl⟩))
  go_loopw [10] (fun d wr => ∃ k : Nat, k ≤ 65 ∧ d = .int .i64 (0 + k) ∧ Hid (HM wr w.heap.size x y (Tr.tries x y k 0 Tr.init)) ∧ Hid (Below w.heap.size w wr)) (fun d _ => (0 + 65 - intOf d).toNat)
  case atStart => exact ⟨0, by omega, rfl, HH.out, HB.out⟩
  case round =>
    obtain ⟨k, hk, rfl, H1, H2⟩ := hrel
    by_cases hlt : k < 65
    · go_wp2_with (first | (go_at_call 66; refine (try_any w.heap.size x y _ _ _ (HT.out.below H2.out) H1.out hbx hby (by omega) (by omega)).mono ?_; rintro e w' ⟨rfl, H3, H4⟩; have H5 := Lib.hid H3; have H6 := Lib.hid H4; clear H3 H4))
      go_roundw
      case rel => exact ⟨k + 1, by omega, by go_num, H5.out.steps (by omega), H2.out.trans H6.out⟩
      case measure => simp [intOf]; omega
    · obtain rfl : k = 65 := by omega
      have hcb := H1.out.cb
      have HF := Lib.hid (show (Tr.tries x y 65 0 Tr.init).1 = Tr.headP x y by unfold Tr.headP; rw [if_neg (by omega), if_neg (by omega), if_neg (by omega)])
      rw [HF.out] at hcb
      clear H1
      go_wp2
      go_ret2
      exact ⟨rfl, H2.out⟩
set_option maxRecDepth 100000 in
set_option maxHeartbeats 1000000 in
theorem heading_4b (x y : Int) (w : World) (ht : Tab w) (h1 : farB x = false) (h2 : farB y = false) (q : 0 < x) (q' : 0 ≤ y) :
    Calls Tryd.prog 36 #[.int .i64 x, .int .i64 y] w fun e w' => e = .returned (.tuple #[.int .i64 (Tr.headP x y), .int .i64 0]) ∧ Below w.heap.size w w' := by
  have HX := Lib.hid (far_any x)
  have HY := Lib.hid (far_any y)
  have hbx := farB_false h1
  have hby := farB_false h2
  have HT := Lib.hid ht
  have HH := Lib.hid (own4_hm w x y)
  have HB := Lib.hid (own4_below w x y)
  clear ht
  have hmf : ∀ (fn : Fn) (first cap : Array Value) (w : World), (Instr.makeFunc fn first cap).run Tryd.prog w = .ok (.func fn first cap) w := fun _ _ _ _ => rfl
  go_enter Tryd.func36, Tryd.ntmps36
  go_wp2_with (first | (go_at_call 65; (first | (with_reducible refine (HX.out _).mono ?_) | (with_reducible refine (HY.out _).mono ?_)); rintro e w' ⟨rfl, rfl⟩))
  go_loopw [10] (fun d wr => ∃ k : Nat, k ≤ 65 ∧ d = .int .i64 (0 + k) ∧ Hid (HM wr w.heap.size x y (Tr.tries x y k 0 Tr.init)) ∧ Hid (Below w.heap.size w wr)) (fun d _ => (0 + 65 - intOf d).toNat)
  case atStart => exact ⟨0, by omega, rfl, HH.out, HB.out⟩
  case round =>
    obtain ⟨k, hk, rfl, H1, H2⟩ := hrel
    by_cases hlt : k < 65
    · go_wp2_with (first | (go_at_call 66; refine (try_any w.heap.size x y _ _ _ (HT.out.below H2.out) H1.out hbx hby (by omega) (by omega)).mono ?_; rintro e w' ⟨rfl, H3, H4⟩; have H5 := Lib.hid H3; have H6 := Lib.hid H4; clear H3 H4))
      go_roundw
      case rel => exact ⟨k + 1, by omega, by go_num, H5.out.steps (by omega), H2.out.trans H6.out⟩
      case measure => simp [intOf]; omega
    · obtain rfl : k = 65 := by omega
      have hcb := H1.out.cb
      have HF := Lib.hid (show (Tr.tries x y 65 0 Tr.init).1 = Tr.headP x y by unfold Tr.headP; rw [if_neg (by omega), if_neg (by omega), if_neg (by omega)])
      rw [HF.out] at hcb
      clear H1
      go_wp2
      go_ret2
      exact ⟨rfl, H2.out⟩
set_option maxRecDepth 100000 in
set_option maxHeartbeats 1000000 in
theorem heading_3 (x y : Int) (w : World) (ht : Tab w) (h1 : farB x = false) (h2 : farB y = false) (q : 0 < x) (q' : y < 0) :
    Calls Tryd.prog 36 #[.int .i64 x, .int .i64 y] w fun e w' => e = .returned (.tuple #[.int .i64 (Tr.headP x y), .int .i64 0]) ∧ Below w.heap.size w w' := by
  have HX := Lib.hid (far_any x)
  have HY := Lib.hid (far_any y)
  have hbx := farB_false h1
  have hby := farB_false h2
  have HT := Lib.hid ht
  have HH := Lib.hid (own4_hm w x y)
  have HB := Lib.hid (own4_below w x y)
  clear ht
  have hmf : ∀ (fn : Fn) (first cap : Array Value) (w : World), (Instr.makeFunc fn first cap).run Tryd.prog w = .ok (.func fn first cap) w := fun _ _ _ _ => rfl
  go_enter Tryd.func36, Tryd.ntmps36
  go_wp2_with (first | (go_at_call 65; (first | (with_reducible refine (HX.out _).mono ?_) | (with_reducible refine (HY.out _).mono ?_)); rintro e w' ⟨rfl, rfl⟩) | (go_at_call 66; refine (try_any w.heap.size x y 0 Tr.init _ (HT.out.below HB.out) HH.out hbx hby (by omega) (by omega)).mono ?_; rintro e w1 ⟨rfl, H3, H4⟩; have H7 := Lib.hid H3; have H8 := Lib.hid H4; clear H3 H4))
  go_loopw [10] (fun d wr => ∃ k : Nat, k ≤ 64 ∧ d = .int .i64 (192 + k) ∧ Hid (HM wr w.heap.size x y (Tr.tries x y k 192 (Tr.try1 x y Tr.init 0))) ∧ Hid (Below w.heap.size w wr)) (fun d _ => (192 + 64 - intOf d).toNat)
  case atStart => exact ⟨0, by omega, rfl, H7.out, HB.out.trans H8.out⟩
  case round =>
    obtain ⟨k, hk, rfl, H1, H2⟩ := hrel
    by_cases hlt : k < 64
    · go_wp2_with (first | (go_at_call 66; refine (try_any w.heap.size x y _ _ _ (HT.out.below H2.out) H1.out hbx hby (by omega) (by omega)).mono ?_; rintro e w' ⟨rfl, H3, H4⟩; have H5 := Lib.hid H3; have H6 := Lib.hid H4; clear H3 H4))
      go_roundw
      case rel => exact ⟨k + 1, by omega, by go_num, H5.out.steps (by omega), H2.out.trans H6.out⟩
      case measure => simp [intOf]; omega
    · obtain rfl : k = 64 := by omega
      have hcb := H1.out.cb
      have HF := Lib.hid (show (Tr.tries x y 64 192 (Tr.try1 x y Tr.init 0)).1 = Tr.headP x y by unfold Tr.headP; rw [if_neg (by omega), if_neg (by omega), if_pos q'])
      rw [HF.out] at hcb
      clear H1
      go_wp2
      go_ret2
      exact ⟨rfl, H2.out⟩
theorem heading_any (x y : Int) (w : World) (ht : Tab w) (h1 : farB x = false) (h2 : farB y = false) :
    Calls Tryd.prog 36 #[.int .i64 x, .int .i64 y] w fun e w' => e = .returned (.tuple #[.int .i64 (Tr.headP x y), .int .i64 0]) ∧ Below w.heap.size w w' := by
  by_cases q : 0 ≤ y
  · by_cases p : x < 0
    · exact heading_1 x y w ht h1 h2 p q
    · by_cases r : x ≤ 0
      · exact heading_4a x y w ht h1 h2 (by omega) r q
      · exact heading_4b x y w ht h1 h2 (by omega) q
  · by_cases p : x ≤ 0
    · by_cases r : x < 0
      · exact heading_2a x y w ht h1 h2 r (by omega)
      · exact heading_2b x y w ht h1 h2 p (by omega) (by omega)
    · exact heading_3 x y w ht h1 h2 (by omega) (by omega)
end Go.Proofs.YtbcddiaplpbhjaaDoor.Tg
namespace Go.Proofs.YtbcddiaplpbhjaaDoor.Tr
open Go Go.RowKit
set_option linter.unusedVariables false
end Go.Proofs.YtbcddiaplpbhjaaDoor.Tr
namespace Go.Proofs.YtbcddiaplpbhjaaDoor.Tg
open Go Go.RowKit
set_option linter.unusedVariables false
structure TabR (w : World) : Prop where
  size : 1 < w.heap.size
  quarter : ∀ i : Nat, i < 65 → w.cell? ⟨1, i, none⟩ = some (.int .i64 (Tr.tab.getD i 0))
theorem TabR.below {w w' : World} (h : TabR w) (hb : Below w.heap.size w w') : TabR w' := by
  have hs := h.size
  refine ⟨by have := hb.size; omega, fun i hi => ?_⟩
  rw [hb.cell (p := ⟨1, i, none⟩) (show 1 < w.heap.size from hs)]
  exact h.quarter i hi
theorem TabR.at {w : World} (h : TabR w) (i : Int) (h0 : 0 ≤ i) (h1 : i < 65) : w.cell? ⟨1, i.toNat, none⟩ = some (.int .i64 (Tr.at_ i)) :=
  h.quarter i.toNat (by omega)
theorem TabR.drewN {w : World} (h : TabR w) (n : Nat) : TabR (w.drewN n) := ⟨h.size, h.quarter⟩
theorem first_top (w : World) (ht : TabR w) : Calls Tryd.prog 74 #[.int .i64 16384] w fun e w' => e = .returned (.int .i64 65536) ∧ ∃ n, w' = w.drewN n := by
  have hc := ht.quarter 64 (by omega)
  have e : Tr.tab.getD 64 0 = 65536 := rfl
  rw [e] at hc
  go_enter Tryd.func74, Tryd.ntmps74
  go_wp2
  go_ret
  exact ⟨rfl, 0, rfl⟩
theorem first_low (r : Int) (w : World) (ht : TabR w) (h0 : 0 ≤ r) (h1 : r < 16384) : Calls Tryd.prog 74 #[.int .i64 r] w fun e w' => e = .returned (.int .i64 (Tr.core r)) ∧ ∃ n, w' = w.drewN n := by
  have hc := ht.at (r / 256) (by omega) (by omega)
  have hc1 := ht.at (r / 256 + 1) (by omega) (by omega)
  have hv0 := Tr.at_bound (r / 256) (by omega) (by omega)
  have hv1 := Tr.at_bound (r / 256 + 1) (by omega) (by omega)
  have hle := (Tr.at_rise (r / 256) (by omega) (by omega)).1
  have hm := Tr.part_range (Tr.at_ (r / 256 + 1) - Tr.at_ (r / 256)) (r % 256) (by omega) (by omega) (by omega)
  have HC : Hid (Tr.core r = Tr.at_ (r / 256) + (Tr.at_ (r / 256 + 1) - Tr.at_ (r / 256)) * (r % 256) / 256) := rfl
  obtain ⟨v, hv⟩ : ∃ v, Tr.at_ (r / 256) = v := ⟨_, rfl⟩
  obtain ⟨v1, hvv⟩ : ∃ v, Tr.at_ (r / 256 + 1) = v := ⟨_, rfl⟩
  rw [hv, hvv] at hm HC hle
  rw [hv] at hc hv0
  rw [hvv] at hc1 hv1
  obtain ⟨m, hmm⟩ : ∃ m, (v1 - v) * (r % 256) = m := ⟨_, rfl⟩
  rw [hmm] at hm HC
  have hne : ((r : Int) == 16384) = false := by simp; omega
  clear hv hvv ht
  go_enter Tryd.func74, Tryd.ntmps74
  go_wp2
  go_quiet (fail)
  go_wp2
  go_ret
  exact ⟨ret_int HC.out.symm, _, rfl⟩
theorem first_any (r : Int) (w : World) (ht : TabR w) (h0 : 0 ≤ r) (h1 : r ≤ 16384) : Calls Tryd.prog 74 #[.int .i64 r] w fun e w' => e = .returned (.int .i64 (Tr.core r)) ∧ ∃ n, w' = w.drewN n := by
  by_cases h : r = 16384
  · subst h; rw [Tr.core_top]; exact first_top w ht
  · exact first_low r w ht h0 (by omega)
end Go.Proofs.YtbcddiaplpbhjaaDoor.Tg
namespace Go.Proofs.YtbcddiaplpbhjaaDoor.Tg
open Go Go.RowKit
set_option linter.unusedVariables false
end Go.Proofs.YtbcddiaplpbhjaaDoor.Tg
namespace Go.Proofs.YtbcddiaplpbhjaaDoor.Tg
open Go Go.RowKit
set_option linter.unusedVariables false
end Go.Proofs.YtbcddiaplpbhjaaDoor.Tg
namespace Go.Proofs.YtbcddiaplpbhjaaDoor.Tg
open Go Go.RowKit Go.ChangeShapes Go.WideShapes Go.ChangeAt
set_option linter.unusedVariables false
theorem own : ownKnob Tryd.prog.godebug = none := by kernel_rfl
theorem arr_reads {H : Type} {enc : TypeId × Value → H} {W : World} {base : Nat} {sp : Nat → Bool} {held : Bool} {fuel : Nat} {T E : TypeId} {n : Nat} {k : IntKind} {cs : Array Value} {p : List MemPlace}
    (hT : Tryd.prog.underlying T = some (.array n E)) (hE : Tryd.prog.underlying E = some (.int k)) (cE : Tryd.prog.cellsOf E = 1) (vals : List Int) (hl : vals.length = n)
    (hd : DataW.trod enc Tryd.prog W base sp held fuel T cs.toList = some (.agg (vals.map fun z => .lit (.int k z)), p)) : ∀ i, i < n → cs[i]? = some (.int k (vals.getD i 0)) := by
  intro i hi
  obtain ⟨xs, m, rfl, hx, hlen, hn, hel⟩ := DataW.trod_array hT hd
  have h1 := hel i hi
  have hxi : i < xs.length := by omega
  rw [cE, Nat.mul_one, List.getElem?_eq_getElem hxi] at h1
  obtain ⟨z, e1, e2, _⟩ := DataW.trod_int hE h1
  simp only [Prod.mk.injEq, DataW.agg.injEq] at hx
  have h2 : (vals.map fun z => (DataW.lit (.int k z) : DataW H))[i]? = (xs.map (·.1))[i]? := by rw [hx.1]
  rw [List.getElem?_map, List.getElem?_map, List.getElem?_eq_getElem hxi, List.getElem?_eq_getElem (show i < vals.length by omega), e2] at h2
  simp only [Option.map_some, Option.some.injEq, DataW.lit.injEq, Lit.int.injEq, true_and] at h2
  have h3 : (cs.toList.drop i)[0]? = some (.int k z) := by
    have : ((cs.toList.drop i).take 1)[0]? = some (.int k z) := by rw [e1]; rfl
    rwa [List.getElem?_take_of_lt (by omega)] at this
  rw [List.getElem?_drop, Nat.add_zero, Array.getElem?_toList] at h3
  have h4 : vals.getD i 0 = vals[i]'(show i < vals.length by omega) := by rw [List.getD_eq_getElem?_getD, List.getElem?_eq_getElem (show i < vals.length by omega)]; rfl
  rw [h3, ← h2]
  exact congrArg (fun x => some (Value.int k x)) h4.symm
theorem gS : Tryd.prog.globalNamed "bivouac/trig.sines" = some 0 := by kernel_rfl
theorem tS : (Tryd.prog.globals[0]?).map (·.type) = some 106 := by kernel_rfl
theorem c32 : Tryd.prog.cellsOf 21 = 1 := by kernel_rfl
theorem size_of_cell {w : World} {b o : Nat} {v : Value} (h : w.cell? ⟨b, o, none⟩ = some v) : b < w.heap.size := by
  rcases Nat.lt_or_ge b w.heap.size with h1 | h1
  · exact h1
  · simp [World.cell?, Array.getElem?_eq_none h1] at h
theorem tab_of_cells {W : World} {cs : Array Value} (h2 : 0 < W.heap.size) (hv : W.var? Tryd.prog "bivouac/trig.sines" = some cs) (h : ∀ i, i < 65 → cs[i]? = some (.int .i32 (Tr.tab.getD i 0))) : Tab W :=
  ⟨h2, fun i hi => by rw [World.var?_cell gS hv i]; exact h i hi⟩
def laidS : List (String × DataW Unit) := [("bivouac/trig.sines", Rows.laid_bivouac_trig_sines)]
theorem tab_of_laid {W : World} (h : laidMetH Tryd.prog laidS W) : Tab W := by
  rw [MakeChecks.laidMetH_plain _ _ _ (by kernel_rfl)] at h
  obtain ⟨ps, ⟨g1, t1, cs1, f1, p1, q1, hg1, ht1, hv1, hd1, _, _⟩, _, _⟩ := h
  obtain rfl := Option.some.inj (gS.symm.trans hg1)
  obtain rfl := Option.some.inj (tS.symm.trans ht1)
  have a1 := arr_reads Tryd.underlying106 Tryd.underlying21 c32 Tr.tab (by decide) hd1
  exact tab_of_cells (size_of_cell ((World.var?_cell gS hv1 0).trans (a1 0 (by omega)))) hv1 a1
end Go.Proofs.YtbcddiaplpbhjaaDoor.Tg
namespace Go.Proofs.YtbcddiaplpbhjaaDoor
open Go Go.RowKit Go.ChangeShapes Go.WideShapes Go.Proofs.YtbcddiaplpbhjaaDoorW.PrintWords
set_option linter.unusedVariables false
set_option linter.unusedSimpArgs false
inductive Leaf where
  | int (k : IntKind) | bool | other (t : TypeId)
def gleavesF (P : Program) (L : TypeId → Option (List Leaf)) : List Field → Nat → Option (List Leaf)
  | [], _ => some []
  | f :: r, o => if f.offset = o then (match L f.type, gleavesF P L r (o + P.cellsOf f.type) with
    | some a, some b => if a.length = P.cellsOf f.type then some (a ++ b) else none
    | _, _ => none) else none
def gleaves (P : Program) : Nat → TypeId → Option (List Leaf)
  | 0, _ => none
  | n + 1, t => match P.underlying t with
    | some (.int k) => some [.int k]
    | some .bool => some [.bool]
    | some (.struct fs) => (match gleavesF P (gleaves P n) fs.toList 0 with
      | some ks => if ks.length = P.cellsOf t then some ks else none
      | none => none)
    | some (.slice _) => if P.cellsOf t = 1 then some [.other t] else none
    | some .string => if P.cellsOf t = 1 then some [.other t] else none
    | _ => none
section
variable {H : Type} {enc : TypeId × Value → H} {P : Program} {w : World} {base : Nat} {spare : Nat → Bool} {held : Bool}
def gokLeaf (enc : TypeId × Value → H) (P : Program) (w : World) (base : Nat) (spare : Nat → Bool) (held : Bool) : Leaf → Value → Prop
  | .int k, v => ∃ z, v = .int k z ∧ (Lit.int k z).wf = true
  | .bool, v => ∃ b, v = .bool b
  | .other t, v => ∃ m x, DataW.trod enc P w base spare held m t [v] = some x
def gflatOk (enc : TypeId × Value → H) (P : Program) (w : World) (base : Nat) (spare : Nat → Bool) (held : Bool) : List Leaf → List Value → Prop
  | [], [] => True
  | k :: ks, v :: vs => gokLeaf enc P w base spare held k v ∧ gflatOk enc P w base spare held ks vs
  | _, _ => False
theorem gflatOk_append : ∀ (a b : List Leaf) (x y : List Value), gflatOk enc P w base spare held a x → gflatOk enc P w base spare held b y → gflatOk enc P w base spare held (a ++ b) (x ++ y)
  | [], b, [], y, _, h => h
  | _ :: a, b, _ :: x, y, h, h' => ⟨h.1, gflatOk_append a b x y h.2 h'⟩
  | [], _, _ :: _, _, h, _ => h.elim
  | _ :: _, _, [], _, h, _ => h.elim
theorem gflat_fields {n : Nat} (ih : ∀ t ks, gleaves P n t = some ks → ∀ fuel cs x, cs.length = P.cellsOf t → DataW.trod enc P w base spare held fuel t cs = some x → gflatOk enc P w base spare held ks cs)
    (m : Nat) (cs : List Value) : ∀ (fl : List Field) (o : Nat) (ks : List Leaf) (ys : List (DataW H × List MemPlace)), gleavesF P (gleaves P n) fl o = some ks → ys.length = fl.length → o + ks.length ≤ cs.length →
      (∀ (i : Nat) (f : Field), fl[i]? = some f → DataW.trod enc P w base spare held m f.type ((cs.drop f.offset).take (P.cellsOf f.type)) = ys[i]?) →
      gflatOk enc P w base spare held ks ((cs.drop o).take ks.length)
  | [], o, ks, ys, hk, hl, hle, _ => by
    obtain rfl := Option.some.inj (show some [] = some ks from hk)
    exact trivial
  | f :: r, o, ks, [], hk, hl, hle, hf => by simp at hl
  | f :: r, o, ks, y :: ys, hk, hl, hle, hf => by
    unfold gleavesF at hk
    split at hk
    · rename_i ho
      split at hk
      · rename_i a b ha hb
        split at hk
        · rename_i hc
          obtain rfl := Option.some.inj hk
          have h0 := hf 0 f rfl
          rw [List.getElem?_cons_zero] at h0
          rw [List.length_append] at hle
          have h1 := ih _ _ ha _ _ _ (by rw [List.length_take, List.length_drop]; omega) h0
          have g1 := gflat_fields ih m cs r _ b ys hb (by simpa using hl) (by omega) (fun i f' hi => by simpa using hf (i + 1) f' (by simpa using hi))
          subst ho
          rw [List.length_append, List.take_add, List.drop_drop, hc]
          exact gflatOk_append _ _ _ _ h1 g1
        · cases hk
      · cases hk
    · cases hk
theorem gflat_open : ∀ (n : Nat) (t : TypeId) (ks : List Leaf), gleaves P n t = some ks → ∀ (fuel : Nat) (cs : List Value) (x : DataW H × List MemPlace), cs.length = P.cellsOf t → DataW.trod enc P w base spare held fuel t cs = some x →
    gflatOk enc P w base spare held ks cs
  | 0, _, _, hk, _, _, _, _, _ => by cases hk
  | n + 1, t, ks, hk, fuel, cs, x, hlc, h => by
    unfold gleaves at hk
    split at hk
    · rename_i k ht
      obtain rfl := Option.some.inj hk
      obtain ⟨z, rfl, rfl, hw⟩ := DataW.trod_int ht h
      exact ⟨⟨z, rfl, hw⟩, trivial⟩
    · rename_i ht
      obtain rfl := Option.some.inj hk
      obtain ⟨b, rfl, rfl⟩ := DataW.trod_bool ht h
      exact ⟨⟨b, rfl⟩, trivial⟩
    · rename_i fs ht
      split at hk
      · rename_i ks' hks
        split at hk
        · rename_i hlen
          obtain rfl := Option.some.inj hk
          obtain ⟨xs, m, rfl, rfl, hl, hxl, hf⟩ := DataW.trod_struct ht h
          have g1 := gflat_fields (gflat_open n) m cs fs.toList 0 ks' xs hks (by simpa using hxl) (by omega) (fun i f hi => hf i f (by simpa using hi))
          rw [List.drop_zero, List.take_of_length_le (by omega)] at g1
          exact g1
        · cases hk
      · cases hk
    · split at hk
      · rename_i e ht hc
        obtain rfl := Option.some.inj hk
        rw [hc] at hlc
        match cs, hlc with
        | [v], _ => exact ⟨⟨fuel, x, h⟩, trivial⟩
      · cases hk
    · split at hk
      · rename_i ht hc
        obtain rfl := Option.some.inj hk
        rw [hc] at hlc
        match cs, hlc with
        | [v], _ => exact ⟨⟨fuel, x, h⟩, trivial⟩
      · cases hk
    · cases hk
theorem gopen_flat {n : Nat} {ks : List Leaf} {fs : Array Field} {r : Reach} {b0 : Nat} {t : TypeId} {v : Value} {d : DataW H} {p : List MemPlace} (hk : gleaves P n t = some ks) (hs : P.underlying t = some (.struct fs))
    (hv : Value.okWide P w r b0 t v) (h : DataW.Trod enc P w base spare held t v d p) :
    ∃ cs, v = .agg cs ∧ gflatOk enc P w base spare held ks cs.toList := by
  obtain ⟨cs, rfl, hsz⟩ := okWide_struct hs hv
  obtain ⟨fuel, hf⟩ := h
  exact ⟨cs, rfl, gflat_open n t ks hk _ _ _ (by simpa [Value.cells] using hsz) hf⟩
theorem gslice_ints {t e : TypeId} {k : IntKind} {v : Value} {m : Nat} {x : DataW H × List MemPlace} (ht : P.underlying t = some (.slice e)) (he : P.underlying e = some (.int k)) (hc : P.cellsOf e = 1)
    (h : DataW.trod enc P w base spare held m t [v] = some x) :
    ∃ (A : Option Addr) (c : Nat) (l : List Int), v = .slice A l.length c ∧ l.length ≤ c ∧ Kd.C (Kd.int k) w A l.length l ∧ ∀ z ∈ l, (Lit.int k z).wf = true := by
  rcases open_ints ht he hc h with ⟨h1, _⟩ | ⟨a, len, cap, zs, h1, hb, hl, hm, hz, hx, hcell, hwf⟩
  · simp only [List.cons.injEq, and_true] at h1
    exact ⟨none, 0, [], h1, Nat.le_refl _, Kd.C_nil _ _, fun z hz => by cases hz⟩
  · simp only [List.cons.injEq, and_true] at h1
    have hlz : len ≤ zs.length := by rw [hz]; split <;> omega
    refine ⟨some a, cap, zs.take len, ?_, ?_, ?_, fun z hz => hwf z (List.mem_of_mem_take hz)⟩
    · rw [List.length_take, Nat.min_eq_left hlz]; exact h1
    · rw [List.length_take, Nat.min_eq_left hlz]; exact hl
    · refine Kd.C_of_reads (d := (0 : Int)) ⟨rfl, ?_, fun h0 => ⟨a, rfl, fun j hj => ?_⟩⟩
      · rw [List.length_take]; unfold maxLen at hm; omega
      · rw [List.length_take] at hj
        rw [hcell j (by omega)]
        congr 2
        simp only [List.getD_eq_getElem?_getD]
        rw [List.getElem?_take_of_lt (by omega)]
end
end Go.Proofs.YtbcddiaplpbhjaaDoor
namespace Go.Proofs
open Go.Shelf
def Tryd.lays134_ren : Go.Shelf.Ren := ⟨fun | 134 => 101 | 129 => 80 | n => n, fun | 53 => 75 | 3 => 3 | 4 => 4 | 46 => 92 | 5 => 5 | 9 => 9 | n => n, fun | n => n⟩
theorem Tryd.lays134 : Go.Proofs.Lays.n134 Tryd.prog Tryd.lays134_ren := {
  mixed := by kernel_rfl
  f129 := Tryd.func80.trans (congrArg some (by kernel_rfl))
  f134 := Tryd.func101.trans (congrArg some (by kernel_rfl))
  t3 := Tryd.underlying3
  a3 := Tryd.isAgg3
  z3 := Tryd.sizeOf3
  v3 := Tryd.zeroValue3
  t4 := Tryd.underlying4
  a4 := Tryd.isAgg4
  z4 := Tryd.sizeOf4
  v4 := Tryd.zeroValue4
  t5 := Tryd.underlying5
  a5 := Tryd.isAgg5
  z5 := Tryd.sizeOf5
  v5 := Tryd.zeroValue5
  t9 := Tryd.underlying9
  a9 := Tryd.isAgg9
  z9 := Tryd.sizeOf9
  v9 := Tryd.zeroValue9
  t46 := Tryd.underlying92
  a46 := Tryd.isAgg92
  z46 := Tryd.sizeOf92
  v46 := Tryd.zeroValue92
  t53 := Tryd.underlying75
  a53 := Tryd.isAgg75
  z53 := Tryd.sizeOf75
  v53 := Tryd.zeroValue75 }
theorem Tryd.bits_LeadingZeros64 (x : Int) (w : World) (h0 : 0 ≤ x) (h1 : x ≤ 18446744073709551615) :
    Calls Tryd.prog 101 #[.int .u64 x] w fun e w' => e = .returned (.int .i64 (64 - (Lib.bitLen x.toNat : Int))) ∧ w' = w := Any.bits_LeadingZeros64 Tryd.lays134 x w h0 h1
def Tryd.lays129_ren : Go.Shelf.Ren := ⟨fun | 129 => 80 | n => n, fun | 53 => 75 | 3 => 3 | 4 => 4 | 46 => 92 | 5 => 5 | 9 => 9 | n => n, fun | n => n⟩
theorem Tryd.lays129 : Go.Proofs.Lays.n129 Tryd.prog Tryd.lays129_ren := {
  mixed := by kernel_rfl
  f129 := Tryd.func80.trans (congrArg some (by kernel_rfl))
  t3 := Tryd.underlying3
  a3 := Tryd.isAgg3
  z3 := Tryd.sizeOf3
  v3 := Tryd.zeroValue3
  t4 := Tryd.underlying4
  a4 := Tryd.isAgg4
  z4 := Tryd.sizeOf4
  v4 := Tryd.zeroValue4
  t5 := Tryd.underlying5
  a5 := Tryd.isAgg5
  z5 := Tryd.sizeOf5
  v5 := Tryd.zeroValue5
  t9 := Tryd.underlying9
  a9 := Tryd.isAgg9
  z9 := Tryd.sizeOf9
  v9 := Tryd.zeroValue9
  t46 := Tryd.underlying92
  a46 := Tryd.isAgg92
  z46 := Tryd.sizeOf92
  v46 := Tryd.zeroValue92
  t53 := Tryd.underlying75
  a53 := Tryd.isAgg75
  z53 := Tryd.sizeOf75
  v53 := Tryd.zeroValue75 }
theorem Tryd.bits_Len64 (x : Int) (w : World) (h0 : 0 ≤ x) (h1 : x ≤ 18446744073709551615) :
    Calls Tryd.prog 80 #[.int .u64 x] w fun e w' => e = .returned (.int .i64 (Lib.bitLen x.toNat)) ∧ w' = w := Any.bits_Len64 Tryd.lays129 x w h0 h1
def Tryd.lays264_ren : Go.Shelf.Ren := ⟨fun | 264 => 91 | n => n, fun | 53 => 75 | 46 => 92 | n => n, fun | n => n⟩
theorem Tryd.lays264 : Go.Proofs.Lays.n264 Tryd.prog Tryd.lays264_ren := {
  mixed := by kernel_rfl
  f264 := Tryd.func91.trans (congrArg some (by kernel_rfl))
  t46 := Tryd.underlying92
  a46 := Tryd.isAgg92
  z46 := Tryd.sizeOf92
  v46 := Tryd.zeroValue92
  t53 := Tryd.underlying75
  a53 := Tryd.isAgg75
  z53 := Tryd.sizeOf75
  v53 := Tryd.zeroValue75 }
open Go.RowKit Go.Lib in
theorem Tryd.bits_Mul64 (x y : Nat) (hx : x < 18446744073709551616) (hy : y < 18446744073709551616) (w : World) :
    Calls Tryd.prog 91 #[.int .u64 x, .int .u64 y] w fun e w' => e = .returned (.tuple #[.int .u64 ((x * y / 18446744073709551616 : Nat) : Int), .int .u64 ((x * y % 18446744073709551616 : Nat) : Int)]) ∧ w' = w := Any.bits_Mul64 Tryd.lays264 x y hx hy w
end Go.Proofs
namespace Go.Proofs.YtbcddiaplpbhjaaDoor.Dv
open Go Go.RowKit
set_option linter.unusedVariables false
structure Guess (U u y yh yl q rh : Int) : Prop where
  sum : q * yh + rh = U
  q0 : 0 ≤ q
  q1 : q ≤ 4294967297
  rh0 : 0 ≤ rh
  rh1 : rh < 4294967296
  high : (U * 4294967296 + u) / y ≤ q
theorem quo_lt {U u y : Int} (hU0 : 0 ≤ U) (hU : U < y) (hu0 : 0 ≤ u) (hu : u < 4294967296) : (U * 4294967296 + u) / y < 4294967296 := by
  apply Int.ediv_lt_of_lt_mul (by omega)
  omega
theorem quo_nonneg {U u y : Int} (hU0 : 0 ≤ U) (hU : U < y) (hu0 : 0 ≤ u) : 0 ≤ (U * 4294967296 + u) / y := Int.ediv_nonneg (by omega) (by omega)
theorem guess_start {U u y yh yl : Int} (e : y = yh * 4294967296 + yl) (p1 : 2147483648 ≤ yh) (p2 : yh < 4294967296) (p3 : 0 ≤ yl) (p4 : yl < 4294967296) (hU0 : 0 ≤ U) (hU : U < y) (hu0 : 0 ≤ u) (hu : u < 4294967296) :
    Guess U u y yh yl (U / yh) (U - U / yh * yh) := by
  have d1 : U / yh * yh + U % yh = U := by rw [Int.mul_comm]; exact Int.mul_ediv_add_emod U yh
  have d2 : 0 ≤ U % yh := Int.emod_nonneg _ (by omega)
  have d3 : U % yh < yh := Int.emod_lt_of_pos _ (by omega)
  have d4 : 0 ≤ U / yh := Int.ediv_nonneg hU0 (by omega)
  generalize U / yh = q at *
  generalize U % yh = r at *
  refine ⟨by omega, d4, ?_, by omega, by omega, ?_⟩
  · by_cases h : q ≤ 4294967297
    · exact h
    · have h2 : 4294967298 * yh ≤ q * yh := Int.mul_le_mul_of_nonneg_right (by omega) (by omega)
      omega
  · have h3 : (U * 4294967296 + u) / y < q + 1 := by
      apply Int.ediv_lt_of_lt_mul (by omega)
      have h4 : (q + 1) * y = (q + 1) * yh * 4294967296 + (q + 1) * yl := by rw [e, Int.mul_add, Int.mul_assoc]
      have h5 : (q + 1) * yh = q * yh + yh := by rw [Int.add_mul, Int.one_mul]
      have h6 : 0 ≤ (q + 1) * yl := Int.mul_nonneg (by omega) p3
      rw [h4, h5]; omega
    omega
theorem guess_high {U u y yh yl q rh : Int} (hy : 0 < y) (e : y = yh * 4294967296 + yl) (hlt : (U * 4294967296 + u) / y < 4294967296) (g : Guess U u y yh yl q rh) (h : 4294967296 ≤ q ∨ 4294967296 * rh + u < q * yl) : (U * 4294967296 + u) / y ≤ q - 1 := by
  rcases h with h | h
  · omega
  · have h2 : (U * 4294967296 + u) / y < q := by
      apply Int.ediv_lt_of_lt_mul hy
      have h4 : q * y = q * yh * 4294967296 + q * yl := by rw [e, Int.mul_add, Int.mul_assoc]
      have := g.sum
      rw [h4]; omega
    omega
theorem guess_right {U u y yh yl q rh : Int} (hy : 0 < y) (e : y = yh * 4294967296 + yl) (g : Guess U u y yh yl q rh) (h : q * yl ≤ 4294967296 * rh + u) : q = (U * 4294967296 + u) / y := by
  have h1 := g.high
  have h2 : q ≤ (U * 4294967296 + u) / y := by
    apply (Int.le_ediv_iff_mul_le hy).2
    have h4 : q * y = q * yh * 4294967296 + q * yl := by rw [e, Int.mul_add, Int.mul_assoc]
    have := g.sum
    rw [h4]; omega
  omega
theorem guess_next {U u y yh yl q rh : Int} (hyh : 0 < yh) (g : Guess U u y yh yl q rh) (hlow : (U * 4294967296 + u) / y ≤ q - 1) (h0 : 0 ≤ (U * 4294967296 + u) / y) (hr : rh + yh < 4294967296) : Guess U u y yh yl (q - 1) (rh + yh) := by
  obtain ⟨s, a, b, c, d, f⟩ := g
  refine ⟨by rw [Int.sub_mul, Int.one_mul]; omega, by omega, by omega, by omega, by omega, hlow⟩
theorem guess_stop {U u y yh yl q rh : Int} (hy : 0 < y) (e : y = yh * 4294967296 + yl) (hyh : 0 < yh) (hyl0 : 0 ≤ yl) (hyl : yl < 4294967296) (hu0 : 0 ≤ u) (g : Guess U u y yh yl q rh) (hlow : (U * 4294967296 + u) / y ≤ q - 1) (h0 : 0 ≤ (U * 4294967296 + u) / y) (hr : 4294967296 ≤ rh + yh) : q - 1 = (U * 4294967296 + u) / y := by
  obtain ⟨s, a, b, c, d, f⟩ := g
  have h2 : q - 1 ≤ (U * 4294967296 + u) / y := by
    apply (Int.le_ediv_iff_mul_le hy).2
    have h4 : (q - 1) * y = (q - 1) * yh * 4294967296 + (q - 1) * yl := by rw [e, Int.mul_add, Int.mul_assoc]
    have h5 : (q - 1) * yh = q * yh - yh := by rw [Int.sub_mul, Int.one_mul]
    have h6 : (q - 1) * yl ≤ 4294967296 * yl := Int.mul_le_mul_of_nonneg_right (by omega) hyl0
    rw [h4, h5]; omega
  omega
theorem left_over {U u y q : Int} (hy0 : 0 < y) (hy : y < 18446744073709551616) (hq : q = (U * 4294967296 + u) / y) :
    0 ≤ U * 4294967296 + u - q * y ∧ U * 4294967296 + u - q * y < y := by
  have h1 := Int.mul_ediv_add_emod (U * 4294967296 + u) y
  have h2 := Int.emod_nonneg (U * 4294967296 + u) (show y ≠ 0 by omega)
  have h3 := Int.emod_lt_of_pos (U * 4294967296 + u) hy0
  have h4 : y * ((U * 4294967296 + u) / y) = q * y := by rw [hq, Int.mul_comm]
  omega
theorem whole {N y p Q1 Q0 r1 r2 U u1 u0 : Int} (hp : 0 < p) (hy0 : 0 < y) (hN : N * p = U * 18446744073709551616 + u1 * 4294967296 + u0) (h1 : U * 4294967296 + u1 = Q1 * (y * p) + r1) (h2 : r1 * 4294967296 + u0 = Q0 * (y * p) + r2)
    (h3 : 0 ≤ r2) (h4 : r2 < y * p) : Q1 * 4294967296 + Q0 = N / y ∧ r2 / p = N % y := by
  have e : N * p = (Q1 * 4294967296 + Q0) * y * p + r2 := by
    have e1 : (Q1 * 4294967296 + Q0) * y * p = Q1 * (y * p) * 4294967296 + Q0 * (y * p) := by
      rw [Int.mul_assoc, Int.add_mul, Int.mul_assoc, Int.mul_assoc, Int.mul_comm 4294967296]
    rw [hN, e1]; omega
  obtain ⟨Q, hQ⟩ : ∃ z, Q1 * 4294967296 + Q0 = z := ⟨_, rfl⟩
  rw [hQ] at e ⊢
  have e2 : r2 = (N - Q * y) * p := by rw [Int.sub_mul]; omega
  have e3 : 0 ≤ N - Q * y := by
    by_cases h : 0 ≤ N - Q * y
    · exact h
    · have := Int.mul_neg_of_neg_of_pos (show N - Q * y < 0 by omega) hp
      omega
  have e4 : N - Q * y < y := by
    by_cases h : N - Q * y < y
    · exact h
    · have : y * p ≤ (N - Q * y) * p := Int.mul_le_mul_of_nonneg_right (by omega) (by omega)
      omega
  constructor
  · have h5 : N = (N - Q * y) + Q * y := by omega
    rw [h5, Int.add_mul_ediv_right _ _ (by omega), Int.ediv_eq_zero_of_lt e3 e4]; omega
  · rw [e2, Int.mul_ediv_cancel _ (by omega)]
    have h5 : N % y = ((N - Q * y) + Q * y) % y := by congr 1; omega
    rw [h5, Int.add_mul_emod_self_right, Int.emod_eq_of_lt e3 e4]
end Go.Proofs.YtbcddiaplpbhjaaDoor.Dv
namespace Go.Proofs.YtbcddiaplpbhjaaDoor
open Go Go.RowKit
set_option linter.unusedVariables false
theorem div64_low (lo y : Int) (w : World) (h0 : 0 ≤ lo) (h1 : lo ≤ 18446744073709551615) (hy0 : 0 < y) (hy1 : y ≤ 18446744073709551615) :
    Calls Tryd.prog 94 #[.int .u64 0, .int .u64 lo, .int .u64 y] w fun e w' => e = .returned (.tuple #[.int .u64 (lo / y), .int .u64 (lo % y)]) ∧ ∃ n, w' = w.drewN n := by
  have hne : ((y : Int) == 0) = false := by simp; omega
  go_enter Tryd.func94, Tryd.ntmps94
  go_wp2
  go_quiet (fail)
  go_wp2
  go_ret2
  exact ⟨rfl, _, rfl⟩
theorem wrap_u64 (n : Int) : IntKind.u64.wrap n = n % 18446744073709551616 := by simp [IntKind.wrap, IntKind.bits, IntKind.signed]
theorem u64_eq {a b : Int} (h : a = b) : Value.int .u64 a = .int .u64 b := by rw [h]
theorem lz_any (y : Int) (s : Nat) (w : World) (h0 : 0 < y) (h1 : y ≤ 18446744073709551615) (hs : (64 - (Lib.bitLen y.toNat : Int)) = s) :
    Calls Tryd.prog 101 #[.int .u64 y] w fun e w' => e = .returned (.int .i64 s) ∧ w = w' :=
  (Tryd.bits_LeadingZeros64 y w (by omega) h1).mono fun _ _ q => ⟨by rw [← hs]; exact q.1, q.2.symm⟩
theorem start_wrap (U m r : Int) (hm0 : 0 ≤ m) (hm1 : m ≤ 18446744073709551615) (h : r = U - m) (h0 : 0 ≤ r) (h1 : r < 4294967296) : IntKind.u64.wrap (U - IntKind.u64.wrap m) = r := by
  rw [wrap_u64, wrap_u64]; omega
theorem left_wrap (U u P r : Int) (h : U * 4294967296 + u - P = r) (h0 : 0 ≤ r) (h1 : r < 18446744073709551616) : IntKind.u64.wrap (IntKind.u64.wrap (IntKind.u64.wrap (U * 4294967296) + u) - IntKind.u64.wrap P) = r := by
  rw [wrap_u64, wrap_u64, wrap_u64, wrap_u64]; omega
set_option maxHeartbeats 2000000 in
set_option maxRecDepth 100000 in
theorem div64_high (hi lo y : Int) (s : Nat) (w : World) (h0 : 0 ≤ lo) (h1 : lo ≤ 18446744073709551615) (hh0 : 0 < hi) (hh1 : hi < y) (hy1 : y ≤ 18446744073709551615)
    (hs : (64 - (Lib.bitLen y.toNat : Int)) = s) (hs1 : s ≤ 63) (Y : Int) (hY : y * 2 ^ s = Y) (hY0 : 9223372036854775808 ≤ Y) (hY1 : Y ≤ 18446744073709551615)
    (H L U X yh yl u1 u0 : Int) (eH : IntKind.u64.wrap (hi * 2 ^ s) = H) (eL : lo / 2 ^ (64 - s) = L) (eU : bits .or .u64 H L = U) (eX : IntKind.u64.wrap (lo * 2 ^ s) = X)
    (eyh : Y / 4294967296 = yh) (eyl : bits .and .u64 Y 4294967295 = yl) (eu1 : X / 4294967296 = u1) (eu0 : bits .and .u64 X 4294967295 = u0)
    (hU0 : 0 ≤ U) (hU : U < Y) (bh0 : 2147483648 ≤ yh) (bh1 : yh < 4294967296) (bl0 : 0 ≤ yl) (bl1 : yl < 4294967296) (b10 : 0 ≤ u1) (b11 : u1 < 4294967296) (b00 : 0 ≤ u0) (b01 : u0 < 4294967296)
    (hYY : Hid (Y = yh * 4294967296 + yl)) :
    Calls Tryd.prog 94 #[.int .u64 hi, .int .u64 lo, .int .u64 y] w fun e w' => ∃ Q1 Q0 r1 r2, e = .returned (.tuple #[.int .u64 (Q1 * 4294967296 + Q0), .int .u64 (r2 / 2 ^ s)]) ∧ w = w' ∧
      U * 4294967296 + u1 = Q1 * Y + r1 ∧ r1 * 4294967296 + u0 = Q0 * Y + r2 ∧ 0 ≤ r2 ∧ r2 < Y := by
  have HL := Lib.hid (lz_any y s w (by omega) hy1 hs)
  clear hs
  have hne : ((y : Int) == 0) = false := by simp; omega
  have hne2 : ((hi : Int) == 0) = false := by simp; omega
  have HG := Lib.hid (Dv.guess_start (u := u1) hYY.out bh0 bh1 bl0 bl1 hU0 hU b10 b11)
  have HQL := Lib.hid (Dv.quo_lt hU0 hU b10 b11)
  have HQ0 := Lib.hid (Dv.quo_nonneg (u := u1) hU0 hU b10)
  obtain ⟨Q1, hQ1⟩ : ∃ q, (U * 4294967296 + u1) / Y = q := ⟨_, rfl⟩
  have HQ1 := Lib.hid hQ1
  rw [hQ1] at HQL HQ0
  obtain ⟨q, hq⟩ : ∃ q, U / yh = q := ⟨_, rfl⟩
  have hg := HG.out
  rw [hq] at hg
  have hq0 := hg.q0
  have hq1 := hg.q1
  obtain ⟨m, hm⟩ : ∃ m, q * yh = m := ⟨_, rfl⟩
  have hsum := hg.sum
  have hrh0 := hg.rh0
  have hrh1 := hg.rh1
  rw [hm] at hg hsum hrh0 hrh1
  have HG1 := Lib.hid hg
  have hm0 : 0 ≤ m := by rw [← hm]; exact Int.mul_nonneg hq0 (by omega)
  clear hg HG hQ1
  go_enter Tryd.func94, Tryd.ntmps94
  go_upto_block 0 with (first | (go_at_call 101; refine HL.out.mono ?_; rintro e w' ⟨rfl, rfl⟩))
  go_cut [15, 16] (fun a b wc => a = .int .u64 Q1 ∧ wc = w)
  case first =>
    go_wp2_with fail
    go_loop [15, 16] (fun a b => ∃ q r : Int, a = .int .u64 q ∧ b = .int .u64 r ∧ Hid (Dv.Guess U u1 Y yh yl q r)) (fun a _ => (intOf a).toNat)
    case atStart => exact ⟨q, U - m, u64_eq hq, (by first | rfl | exact u64_eq (start_wrap U m _ (by omega) (by omega) rfl hrh0 hrh1)), HG1.out⟩
    case round =>
      clear hq hm HG1 hsum hrh0 hrh1 hq0 hq1 hm0
      obtain ⟨q, r, rfl, rfl, G⟩ := hrel
      have b1 := G.out.q0
      have b2 := G.out.q1
      have b3 := G.out.rh0
      have b4 := G.out.rh1
      have HH := Lib.hid (Dv.guess_high (show 0 < Y by omega) hYY.out (by rw [HQ1.out]; exact HQL.out) G.out)
      rw [HQ1.out] at HH
      by_cases hA : 4294967296 ≤ q
      · have hlow := HH.out (Or.inl hA)
        by_cases hr : r + yh < 4294967296
        · have HN := Lib.hid (Dv.guess_next (show 0 < yh by omega) G.out (by rw [HQ1.out]; exact hlow) (by rw [HQ1.out]; exact HQ0.out) hr)
          go_wp2
          go_round
          case rel => exact ⟨q - 1, r + yh, rfl, rfl, HN.out⟩
          case measure => simp [intOf]; omega
        · have HS := Lib.hid (Dv.guess_stop (show 0 < Y by omega) hYY.out (show 0 < yh by omega) bl0 bl1 b10 G.out (by rw [HQ1.out]; exact hlow) (by rw [HQ1.out]; exact HQ0.out) (by omega))
          rw [HQ1.out] at HS
          go_wp2
          go_meet
          exact ⟨u64_eq HS.out, rfl⟩
      · obtain ⟨m2, hm2⟩ : ∃ m2, q * yl = m2 := ⟨_, rfl⟩
        have hm20 : 0 ≤ m2 := by rw [← hm2]; exact Int.mul_nonneg b1 bl0
        have hm21 : m2 ≤ 18446744065119617025 := by
          rw [← hm2]
          have a1 : q * yl ≤ 4294967295 * yl := Int.mul_le_mul_of_nonneg_right (by omega) bl0
          omega
        by_cases hB : 4294967296 * r + u1 < m2
        · have hlow := HH.out (Or.inr (by rw [hm2]; exact hB))
          have hqpos : 1 ≤ q := by have := HQ0.out; omega
          by_cases hr : r + yh < 4294967296
          · have HN := Lib.hid (Dv.guess_next (show 0 < yh by omega) G.out (by rw [HQ1.out]; exact hlow) (by rw [HQ1.out]; exact HQ0.out) hr)
            go_wp2
            go_round
            case rel => exact ⟨q - 1, r + yh, rfl, rfl, HN.out⟩
            case measure => simp [intOf]; omega
          · have HS := Lib.hid (Dv.guess_stop (show 0 < Y by omega) hYY.out (show 0 < yh by omega) bl0 bl1 b10 G.out (by rw [HQ1.out]; exact hlow) (by rw [HQ1.out]; exact HQ0.out) (by omega))
            rw [HQ1.out] at HS
            go_wp2
            go_meet
            exact ⟨u64_eq HS.out, rfl⟩
        · have HR := Lib.hid (Dv.guess_right (show 0 < Y by omega) hYY.out G.out (by rw [hm2]; omega))
          rw [HQ1.out] at HR
          go_wp2
          go_meet
          exact ⟨u64_eq HR.out, rfl⟩
  case rest =>
    obtain ⟨rfl, rfl⟩ := hcut
    clear hq hm HG1 hsum hrh0 hrh1 hq0 hq1 hm0
    have hlo := Dv.left_over (u := u1) (show 0 < Y by omega) (show Y < 18446744073709551616 by omega) HQ1.out.symm
    obtain ⟨P, hP⟩ : ∃ P, Q1 * Y = P := ⟨_, rfl⟩
    rw [hP] at hlo
    obtain ⟨r1, hr1⟩ : ∃ r, U * 4294967296 + u1 - P = r := ⟨_, rfl⟩
    rw [hr1] at hlo
    have e9 := left_wrap U u1 P r1 hr1 hlo.1 (by omega)
    have HR1 := Lib.hid hr1
    clear hr1
    have HG := Lib.hid (Dv.guess_start (u := u0) hYY.out bh0 bh1 bl0 bl1 hlo.1 hlo.2 b00 b01)
    have HKL := Lib.hid (Dv.quo_lt hlo.1 hlo.2 b00 b01)
    have HK0 := Lib.hid (Dv.quo_nonneg (u := u0) hlo.1 hlo.2 b00)
    have hQ1a := HQL.out
    have hQ1b := HQ0.out
    obtain ⟨Q0, hK1⟩ : ∃ q, (r1 * 4294967296 + u0) / Y = q := ⟨_, rfl⟩
    have HK1 := Lib.hid hK1
    rw [hK1] at HKL HK0
    obtain ⟨q, hq⟩ : ∃ q, r1 / yh = q := ⟨_, rfl⟩
    have hg := HG.out
    rw [hq] at hg
    have hq0 := hg.q0
    have hq1 := hg.q1
    obtain ⟨m, hm⟩ : ∃ m, q * yh = m := ⟨_, rfl⟩
    have hsum := hg.sum
    have hrh0 := hg.rh0
    have hrh1 := hg.rh1
    rw [hm] at hg hsum hrh0 hrh1
    have HG1 := Lib.hid hg
    have hm0 : 0 ≤ m := by rw [← hm]; exact Int.mul_nonneg hq0 (by omega)
    clear hg HG hK1
    go_upto_block 2 with fail
    go_cut [18, 16] (fun a b wx => a = .int .u64 Q0 ∧ wx = wc)
    case first =>
      go_wp2_with fail
      go_loop [18, 16] (fun a b => ∃ q r : Int, a = .int .u64 q ∧ b = .int .u64 r ∧ Hid (Dv.Guess r1 u0 Y yh yl q r)) (fun a _ => (intOf a).toNat)
      case atStart => exact ⟨q, r1 - m, u64_eq hq, (by first | rfl | exact u64_eq (start_wrap r1 m _ (by omega) (by omega) rfl hrh0 hrh1)), HG1.out⟩
      case round =>
        clear hq hm HG1 hsum hrh0 hrh1 hq0 hq1 hm0
        obtain ⟨q, r, rfl, rfl, G⟩ := hrel
        have b1 := G.out.q0
        have b2 := G.out.q1
        have b3 := G.out.rh0
        have b4 := G.out.rh1
        have HH := Lib.hid (Dv.guess_high (show 0 < Y by omega) hYY.out (by rw [HK1.out]; exact HKL.out) G.out)
        rw [HK1.out] at HH
        by_cases hA : 4294967296 ≤ q
        · have hlow := HH.out (Or.inl hA)
          by_cases hr : r + yh < 4294967296
          · have HN := Lib.hid (Dv.guess_next (show 0 < yh by omega) G.out (by rw [HK1.out]; exact hlow) (by rw [HK1.out]; exact HK0.out) hr)
            go_wp2
            go_round
            case rel => exact ⟨q - 1, r + yh, rfl, rfl, HN.out⟩
            case measure => simp [intOf]; omega
          · have HS := Lib.hid (Dv.guess_stop (show 0 < Y by omega) hYY.out (show 0 < yh by omega) bl0 bl1 b00 G.out (by rw [HK1.out]; exact hlow) (by rw [HK1.out]; exact HK0.out) (by omega))
            rw [HK1.out] at HS
            go_wp2
            go_meet
            exact ⟨u64_eq HS.out, rfl⟩
        · obtain ⟨m2, hm2⟩ : ∃ m2, q * yl = m2 := ⟨_, rfl⟩
          have hm20 : 0 ≤ m2 := by rw [← hm2]; exact Int.mul_nonneg b1 bl0
          have hm21 : m2 ≤ 18446744065119617025 := by
            rw [← hm2]
            have a1 : q * yl ≤ 4294967295 * yl := Int.mul_le_mul_of_nonneg_right (by omega) bl0
            omega
          by_cases hB : 4294967296 * r + u0 < m2
          · have hlow := HH.out (Or.inr (by rw [hm2]; exact hB))
            have hqpos : 1 ≤ q := by have := HK0.out; omega
            by_cases hr : r + yh < 4294967296
            · have HN := Lib.hid (Dv.guess_next (show 0 < yh by omega) G.out (by rw [HK1.out]; exact hlow) (by rw [HK1.out]; exact HK0.out) hr)
              go_wp2
              go_round
              case rel => exact ⟨q - 1, r + yh, rfl, rfl, HN.out⟩
              case measure => simp [intOf]; omega
            · have HS := Lib.hid (Dv.guess_stop (show 0 < Y by omega) hYY.out (show 0 < yh by omega) bl0 bl1 b00 G.out (by rw [HK1.out]; exact hlow) (by rw [HK1.out]; exact HK0.out) (by omega))
              rw [HK1.out] at HS
              go_wp2
              go_meet
              exact ⟨u64_eq HS.out, rfl⟩
          · have HR := Lib.hid (Dv.guess_right (show 0 < Y by omega) hYY.out G.out (by rw [hm2]; omega))
            rw [HK1.out] at HR
            go_wp2
            go_meet
            exact ⟨u64_eq HR.out, rfl⟩
    case rest =>
      obtain ⟨rfl, rfl⟩ := hcut
      clear hq hm HG1 hsum hrh0 hrh1 hq0 hq1 hm0
      have hlo2 := Dv.left_over (u := u0) (show 0 < Y by omega) (show Y < 18446744073709551616 by omega) HK1.out.symm
      have hK1a := HKL.out
      have hK1b := HK0.out
      obtain ⟨P0, hP0⟩ : ∃ P, Q0 * Y = P := ⟨_, rfl⟩
      rw [hP0] at hlo2
      obtain ⟨r2, hr2⟩ : ∃ r, r1 * 4294967296 + u0 - P0 = r := ⟨_, rfl⟩
      rw [hr2] at hlo2
      have e10 := left_wrap r1 u0 P0 r2 hr2 hlo2.1 (by omega)
      have HR2 := Lib.hid hr2
      have HP := Lib.hid hP
      have HP0 := Lib.hid hP0
      clear hr2
      go_wp2
      go_ret2
      refine ⟨Q1, Q0, r1, r2, rfl, rfl, ?_, ?_, hlo2.1, hlo2.2⟩
      · rw [HP.out]; have := HR1.out; omega
      · rw [HP0.out]; have := HR2.out; omega
end Go.Proofs.YtbcddiaplpbhjaaDoor
namespace Go.Proofs.YtbcddiaplpbhjaaDoor
open Go Go.RowKit
set_option linter.unusedVariables false
theorem pow_int (s : Nat) : ((2 : Int) ^ s) = ((2 ^ s : Nat) : Int) := by simp
theorem pow_pos' (s : Nat) : (0 : Int) < 2 ^ s := by rw [pow_int]; have := Nat.two_pow_pos s; omega
theorem pow_split (s : Nat) (hs : s ≤ 64) : (2 : Int) ^ (64 - s) * 2 ^ s = 18446744073709551616 := by
  rw [← Int.pow_add, show 64 - s + s = 64 by omega]; rfl
theorem shift_split (lo : Int) (s : Nat) (h0 : 0 ≤ lo) (h1 : lo ≤ 18446744073709551615) (hs : s ≤ 64) :
    lo * 2 ^ s = lo / 2 ^ (64 - s) * 18446744073709551616 + (lo * 2 ^ s) % 18446744073709551616 ∧ 0 ≤ lo / 2 ^ (64 - s) ∧ lo / 2 ^ (64 - s) < 2 ^ s := by
  have e : (lo * 2 ^ s) / 18446744073709551616 = lo / 2 ^ (64 - s) := by
    rw [← pow_split s hs]; exact Int.mul_ediv_mul_of_pos_left _ _ (pow_pos' s)
  refine ⟨?_, Int.ediv_nonneg h0 (Int.le_of_lt (pow_pos' _)), ?_⟩
  · rw [← e]; have := Int.mul_ediv_add_emod (lo * 2 ^ s) 18446744073709551616; omega
  · apply Int.ediv_lt_of_lt_mul (pow_pos' _)
    rw [Int.mul_comm, pow_split s hs]; omega
theorem len_facts (y : Int) (h0 : 0 < y) (h1 : y ≤ 18446744073709551615) : ∃ s : Nat, (64 - (Lib.bitLen y.toNat : Int)) = s ∧ s ≤ 63 ∧ 9223372036854775808 ≤ y * 2 ^ s ∧ y * 2 ^ s ≤ 18446744073709551615 := by
  obtain ⟨n, rfl⟩ : ∃ n : Nat, y = n := ⟨y.toNat, by omega⟩
  have hb := Lib.bitLenAux_bounds 64 n (by omega) (by omega)
  change 1 ≤ Lib.bitLen n ∧ 2 ^ (Lib.bitLen n - 1) ≤ n ∧ n < 2 ^ Lib.bitLen n at hb
  have hl := Lib.bitLen_le n 64 (by omega) (by omega)
  rw [Int.toNat_natCast]
  obtain ⟨L, hL⟩ : ∃ L, Lib.bitLen n = L := ⟨_, rfl⟩
  rw [hL] at hb hl ⊢
  refine ⟨64 - L, by omega, by omega, ?_, ?_⟩
  · have a1 : 2 ^ (L - 1) * 2 ^ (64 - L) ≤ n * 2 ^ (64 - L) := Nat.mul_le_mul_right _ hb.2.1
    rw [← Nat.pow_add, show L - 1 + (64 - L) = 63 by omega] at a1
    have a4 := Int.ofNat_le.2 a1
    rw [Int.natCast_mul] at a4
    rw [pow_int]; omega
  · have a1 : (n + 1) * 2 ^ (64 - L) ≤ 2 ^ L * 2 ^ (64 - L) := Nat.mul_le_mul_right _ hb.2.2
    rw [← Nat.pow_add, show L + (64 - L) = 64 by omega, Nat.add_mul] at a1
    have a2 := Nat.two_pow_pos (64 - L)
    have a3 : n * 2 ^ (64 - L) ≤ 18446744073709551615 := by omega
    have a4 := Int.ofNat_le.2 a3
    rw [Int.natCast_mul] at a4
    rw [pow_int]; omega
theorem wraps_u64 (n : Int) (h₀ : 0 ≤ n) (h₁ : n < 2 ^ 64) : IntKind.u64.wrap n = n := by rw [wrap_u64]; omega
theorem u64_mask32 (x : Int) (h0 : 0 ≤ x) (h1 : x ≤ 18446744073709551615) : bits .and .u64 x 4294967295 = x % 4294967296 := by
  have := bits_mask .u64 64 (by decide) wraps_u64 32 (by decide) x h0 (by omega)
  simpa using this
theorem div64_any (hi lo y : Int) (w : World) (hh0 : 0 ≤ hi) (hh1 : hi < y) (h0 : 0 ≤ lo) (h1 : lo ≤ 18446744073709551615) (hy1 : y ≤ 18446744073709551615) :
    Calls Tryd.prog 94 #[.int .u64 hi, .int .u64 lo, .int .u64 y] w fun e w' => e = .returned (.tuple #[.int .u64 ((hi * 18446744073709551616 + lo) / y), .int .u64 ((hi * 18446744073709551616 + lo) % y)]) ∧ ∃ n, w' = w.drewN n := by
  by_cases hz : hi = 0
  · subst hz
    rw [Int.zero_mul, Int.zero_add]
    exact div64_low lo y w h0 h1 hh1 hy1
  · obtain ⟨s, e1, e2, e3, e4⟩ := len_facts y (by omega) hy1
    have hp := pow_pos' s
    have hsp := shift_split lo s h0 h1 (by omega)
    have hH1 : hi * 2 ^ s ≤ (y - 1) * 2 ^ s := Int.mul_le_mul_of_nonneg_right (by omega) (Int.le_of_lt hp)
    rw [Int.sub_mul, Int.one_mul] at hH1
    have hH0 : 0 ≤ hi * 2 ^ s := Int.mul_nonneg hh0 (Int.le_of_lt hp)
    have eH : IntKind.u64.wrap (hi * 2 ^ s) = hi * 2 ^ s := by rw [wrap_u64]; omega
    have hL64 : (2 : Int) ^ s ≤ 2 ^ 63 := by rw [pow_int, pow_int]; exact_mod_cast Nat.pow_le_pow_right (by omega) e2
    have eU : bits .or .u64 (hi * 2 ^ s) (lo / 2 ^ (64 - s)) = hi * 2 ^ s + lo / 2 ^ (64 - s) :=
      bits_join .u64 64 (by decide) wraps_u64 s _ _ hH0 (Int.mul_emod_left _ _) (by omega) hsp.2.1 hsp.2.2 (by omega)
    have eX : IntKind.u64.wrap (lo * 2 ^ s) = (lo * 2 ^ s) % 18446744073709551616 := wrap_u64 _
    obtain ⟨X, hX⟩ : ∃ X, (lo * 2 ^ s) % 18446744073709551616 = X := ⟨_, rfl⟩
    have hX0 : 0 ≤ X ∧ X ≤ 18446744073709551615 := by omega
    rw [hX] at eX hsp
    have hN : (hi * 18446744073709551616 + lo) * 2 ^ s = (hi * 2 ^ s + lo / 2 ^ (64 - s)) * 18446744073709551616 + X := by
      rw [Int.add_mul, Int.add_mul, hsp.1, Int.mul_assoc, Int.mul_comm 18446744073709551616, ← Int.mul_assoc]; omega
    refine (div64_high hi lo y s w h0 h1 (by omega) hh1 hy1 e1 e2 (y * 2 ^ s) rfl e3 e4 (hi * 2 ^ s) (lo / 2 ^ (64 - s)) (hi * 2 ^ s + lo / 2 ^ (64 - s)) X (y * 2 ^ s / 4294967296) (y * 2 ^ s % 4294967296) (X / 4294967296) (X % 4294967296)
      eH rfl eU eX rfl (u64_mask32 _ (by omega) e4) rfl (u64_mask32 _ hX0.1 hX0.2) (by omega) (by omega) (by omega) (by omega) (by omega) (by omega) (by omega) (by omega) (by omega) (by omega) (by show _ = _; omega)).mono ?_
    rintro e w' ⟨Q1, Q0, r1, r2, rfl, rfl, h2, h3, h4, h5⟩
    have hw := Dv.whole (N := hi * 18446744073709551616 + lo) (y := y) (p := 2 ^ s) (Q1 := Q1) (Q0 := Q0) (r1 := r1) (r2 := r2) (U := hi * 2 ^ s + lo / 2 ^ (64 - s)) (u1 := X / 4294967296) (u0 := X % 4294967296) hp (by omega) (by rw [hN]; omega) h2 h3 h4 h5
    exact ⟨by rw [hw.1, hw.2], 0, rfl⟩
end Go.Proofs.YtbcddiaplpbhjaaDoor
namespace Go.Proofs.YtbcddiaplpbhjaaDoor
open Go Go.RowKit
set_option linter.unusedVariables false
def absI (a : Int) : Int := if a < 0 then -a else a
theorem absI_pos (a : Int) : 0 ≤ absI a := by unfold absI; split <;> omega
theorem ret_u64 {a b : Int} (h : a = b) : Ending.returned (.int .u64 a) = .returned (.int .u64 b) := by rw [h]
theorem ret_bool {a b : Bool} (h : a = b) : Ending.returned (.bool a) = .returned (.bool b) := by rw [h]
theorem size_any (a : Int) (w : World) (h0 : -9223372036854775808 ≤ a) (h1 : a ≤ 9223372036854775807) : Calls Tryd.prog 92 #[.int .i64 a] w fun e w' => e = .returned (.int .u64 (absI a)) ∧ w = w' := by
  have HA := Lib.hid (show (a < 0 → IntKind.u64.wrap (-IntKind.u64.wrap a) = absI a) ∧ (0 ≤ a → IntKind.u64.wrap a = absI a) by
    unfold absI; rw [wrap_u64, wrap_u64]; split <;> omega)
  by_cases h : a < 0
  · have e := HA.out.1 h
    go_enter Tryd.func92, Tryd.ntmps92
    go_wp2
    go_ret
    exact ⟨rfl, rfl⟩
  · have e := HA.out.2 (by omega)
    have HE := Lib.hid (show a = absI a by unfold absI; rw [if_neg h])
    go_enter Tryd.func92, Tryd.ntmps92
    go_wp2
    go_ret
    exact ⟨ret_u64 (by first | rfl | exact e | exact HE.out), rfl⟩
theorem mul64_any (a b : Int) (w : World) (ha0 : 0 ≤ a) (ha1 : a ≤ 18446744073709551615) (hb0 : 0 ≤ b) (hb1 : b ≤ 18446744073709551615) :
    Calls Tryd.prog 91 #[.int .u64 a, .int .u64 b] w fun e w' => e = .returned (.tuple #[.int .u64 (a * b / 18446744073709551616), .int .u64 (a * b % 18446744073709551616)]) ∧ w = w' := by
  obtain ⟨n, rfl⟩ : ∃ n : Nat, a = n := ⟨a.toNat, by omega⟩
  obtain ⟨m, rfl⟩ : ∃ n : Nat, b = n := ⟨b.toNat, by omega⟩
  refine (Tryd.bits_Mul64 n m (by omega) (by omega) w).mono ?_
  rintro e w' ⟨rfl, rfl⟩
  exact ⟨by simp, rfl⟩
def belowB (a b c : Int) : Bool := (((decide (a < 0) != decide (b < 0)) != decide (c < 0)) && a != 0) && b != 0
set_option maxHeartbeats 1000000 in
theorem below_any (a b c : Int) (B : Nat) (w : World) (ca : w.cell? ⟨B, 0, none⟩ = some (.int .i64 a)) (cb : w.cell? ⟨B + 1, 0, none⟩ = some (.int .i64 b)) (cc : w.cell? ⟨B + 2, 0, none⟩ = some (.int .i64 c)) :
    Calls Tryd.prog 93 #[.pointer (some ⟨B, 0, none⟩), .pointer (some ⟨B + 1, 0, none⟩), .pointer (some ⟨B + 2, 0, none⟩)] w fun e w' => e = .returned (.bool (belowB a b c)) ∧ w = w' := by
  by_cases ha : a < 0 <;> by_cases hb : b < 0 <;> by_cases hc : c < 0
  all_goals
    first
    | have dA := Lib.hid (show decide (a < 0) = true from decide_eq_true ha)
    | have dA := Lib.hid (show decide (a < 0) = false from decide_eq_false ha)
    first
    | have dB := Lib.hid (show decide (b < 0) = true from decide_eq_true hb)
    | have dB := Lib.hid (show decide (b < 0) = false from decide_eq_false hb)
    first
    | have dC := Lib.hid (show decide (c < 0) = true from decide_eq_true hc)
    | have dC := Lib.hid (show decide (c < 0) = false from decide_eq_false hc)
    go_enter Tryd.func93, Tryd.ntmps93
    go_wp2
    all_goals go_ret
    all_goals exact ⟨ret_bool (by first | rfl | (unfold belowB; rw [dA.out, dB.out, dC.out]; first | rfl | (simp; done)) | (unfold belowB; simp; done)), rfl⟩
end Go.Proofs.YtbcddiaplpbhjaaDoor
namespace Go.Proofs.YtbcddiaplpbhjaaDoor
open Go Go.RowKit
set_option linter.unusedVariables false
def mdv (a b c : Int) : Int × Int :=
  if absI c ≤ absI a * absI b / 18446744073709551616 then (0, 8)
  else if belowB a b c = false then
    if 9223372036854775807 < absI a * absI b / absI c then (0, 8) else (absI a * absI b / absI c, 0)
  else if absI a * absI b % absI c = 0 then
    if absI a * absI b / absI c = 0 ∨ 9223372036854775808 < absI a * absI b / absI c then (0, 8) else (-(absI a * absI b / absI c), 0)
  else if 9223372036854775808 < absI a * absI b / absI c + 1 then (0, 8) else (-(absI a * absI b / absI c + 1), 0)
theorem mdv_eq (a b c : Int) : mdv a b c =
  (if absI c ≤ absI a * absI b / 18446744073709551616 then (0, 8)
    else if belowB a b c = false then
      if 9223372036854775807 < absI a * absI b / absI c then (0, 8) else (absI a * absI b / absI c, 0)
    else if absI a * absI b % absI c = 0 then
      if absI a * absI b / absI c = 0 ∨ 9223372036854775808 < absI a * absI b / absI c then (0, 8) else (-(absI a * absI b / absI c), 0)
    else if 9223372036854775808 < absI a * absI b / absI c + 1 then (0, 8) else (-(absI a * absI b / absI c + 1), 0)) := rfl
def own4 (w : World) (a b c p q : Int) : World := (((w.alloc (.cells #[.int .i64 a] 2)).alloc (.cells #[.int .i64 b] 2)).alloc (.cells #[.int .i64 c] 2)).alloc (.cells #[.int .u64 p, .int .u64 q] 116)
theorem own4_cells (w : World) (a b c p q : Int) : (own4 w a b c p q).cell? ⟨w.heap.size, 0, none⟩ = some (.int .i64 a) ∧ (own4 w a b c p q).cell? ⟨w.heap.size + 1, 0, none⟩ = some (.int .i64 b) ∧
    (own4 w a b c p q).cell? ⟨w.heap.size + 2, 0, none⟩ = some (.int .i64 c) ∧ (own4 w a b c p q).cell? ⟨w.heap.size + 3, 0, none⟩ = some (.int .u64 p) ∧ (own4 w a b c p q).cell? ⟨w.heap.size + 3, 1, none⟩ = some (.int .u64 q) := by
  unfold own4
  refine ⟨?_, ?_, ?_, ?_, ?_⟩
  · rw [World.cell?_alloc_past _ _ _ (by simp <;> omega), World.cell?_alloc_past _ _ _ (by simp <;> omega), World.cell?_alloc_past _ _ _ (by simp), World.cell?_alloc_at _ _ _ _ rfl]; rfl
  · rw [World.cell?_alloc_past _ _ _ (by simp <;> omega), World.cell?_alloc_past _ _ _ (by simp), World.cell?_alloc_at _ _ _ _ (by simp)]; rfl
  · rw [World.cell?_alloc_past _ _ _ (by simp), World.cell?_alloc_at _ _ _ _ (by simp)]; rfl
  · rw [World.cell?_alloc_at _ _ _ _ (by simp)]; rfl
  · rw [World.cell?_alloc_at _ _ _ _ (by simp)]; rfl
theorem own4_below (w : World) (a b c p q : Int) : Below w.heap.size w (own4 w a b c p q) :=
  ((((Below.refl _ _).alloc (Nat.le_refl _) _).alloc (by simp) _).alloc (by simp; omega) _).alloc (by simp; omega) _
theorem below_drewN {B : Nat} {a w : World} (h : Below B a w) (n : Nat) : Below B a (w.drewN n) := ⟨h.os, h.tape, h.output, h.size, h.block⟩
theorem neg_conv (q : Int) (h0 : 0 < q) (h1 : q ≤ 9223372036854775808) : wrap64 (IntKind.u64.wrap (-q)) = -q := by
  rw [wrap_u64]; unfold wrap64; omega
theorem muldiv_zero (a b : Int) (w : World) : Calls Tryd.prog 81 #[.int .i64 a, .int .i64 b, .int .i64 0] w fun e w' => e = .returned (.tuple #[.int .i64 0, .int .i64 9]) ∧ Below w.heap.size w w' := by
  go_enter Tryd.func81, Tryd.ntmps81
  go_wp2
  go_ret2
  exact ⟨rfl, (((Below.refl _ _).alloc (Nat.le_refl _) _).alloc (by simp) _).alloc (by simp; omega) _⟩
set_option maxHeartbeats 4000000 in
theorem muldiv_walk (a b c : Int) (w : World) (hc : c ≠ 0) (ha0 : -9223372036854775808 ≤ a) (ha1 : a ≤ 9223372036854775807) (hb0 : -9223372036854775808 ≤ b) (hb1 : b ≤ 9223372036854775807) (hc0 : -9223372036854775808 ≤ c) (hc1 : c ≤ 9223372036854775807) :
    Calls Tryd.prog 81 #[.int .i64 a, .int .i64 b, .int .i64 c] w fun e w' => e = .returned (.tuple #[.int .i64 (mdv a b c).1, .int .i64 (mdv a b c).2]) ∧ Below w.heap.size w w' := by
  have hne : ((c : Int) == 0) = false := by simpa using hc
  have HA := Lib.hid (fun w => size_any a w ha0 ha1)
  have HB := Lib.hid (fun w => size_any b w hb0 hb1)
  have HC := Lib.hid (fun w => size_any c w hc0 hc1)
  have A0 := absI_pos a
  have B0 := absI_pos b
  have C0 : 0 < absI c := by unfold absI; split <;> omega
  have A1 : absI a ≤ 9223372036854775808 := by unfold absI; split <;> omega
  have B1 : absI b ≤ 9223372036854775808 := by unfold absI; split <;> omega
  have C1 : absI c ≤ 9223372036854775808 := by unfold absI; split <;> omega
  have HM := Lib.hid (fun w => mul64_any (absI a) (absI b) w A0 (by omega) B0 (by omega))
  have HR := Lib.hid (mdv_eq a b c)
  have N0 : 0 ≤ absI a * absI b := Int.mul_nonneg A0 B0
  have HBB := Lib.hid (fun w => below_any a b c w)
  clear A0 B0 A1 B1
  obtain ⟨x, hx⟩ : ∃ x, absI a = x := ⟨_, rfl⟩
  obtain ⟨y, hy⟩ : ∃ x, absI b = x := ⟨_, rfl⟩
  obtain ⟨d, hd⟩ : ∃ x, absI c = x := ⟨_, rfl⟩
  obtain ⟨bb, hbb⟩ : ∃ x, belowB a b c = x := ⟨_, rfl⟩
  rw [hx, hy, hd, hbb] at HR
  rw [hbb] at HBB
  rw [hx, hy] at N0
  rw [hx] at HA HM
  rw [hy] at HB HM
  rw [hd] at HC C0 C1
  obtain ⟨N, hN⟩ : ∃ z, x * y = z := ⟨_, rfl⟩
  rw [hN] at HR HM N0
  have HDV := Lib.hid (fun (h : N / 18446744073709551616 < d) w => div64_any (N / 18446744073709551616) (N % 18446744073709551616) d w (by omega) h (by omega) (by omega) (by omega))
  rw [show N / 18446744073709551616 * 18446744073709551616 + N % 18446744073709551616 = N by omega] at HDV
  have hQ0 : 0 ≤ N / d := Int.ediv_nonneg N0 (by omega)
  have HQR := Lib.hid (show (N / 18446744073709551616 < d → N / d < 18446744073709551616) ∧ 0 ≤ N % d ∧ N % d < d from
    ⟨fun h => Int.ediv_lt_of_lt_mul C0 (by omega), Int.emod_nonneg _ (by omega), Int.emod_lt_of_pos _ C0⟩)
  obtain ⟨Q, hQ⟩ : ∃ z, N / d = z := ⟨_, rfl⟩
  obtain ⟨R, hR⟩ : ∃ z, N % d = z := ⟨_, rfl⟩
  rw [hQ, hR] at HR HDV HQR
  rw [hQ] at hQ0
  have hp0 : 0 ≤ N / 18446744073709551616 := by omega
  have hq0 : 0 ≤ N % 18446744073709551616 ∧ N % 18446744073709551616 ≤ 18446744073709551615 := by omega
  obtain ⟨p, hp⟩ : ∃ z, N / 18446744073709551616 = z := ⟨_, rfl⟩
  obtain ⟨q, hq⟩ : ∃ z, N % 18446744073709551616 = z := ⟨_, rfl⟩
  rw [hp, hq] at HM
  rw [hp] at HR HDV HQR hp0
  rw [hq] at HDV hq0
  have OC := Lib.hid (own4_cells w a b c p q)
  have OB := Lib.hid (own4_below w a b c p q)
  clear hx hy hp hq hQ hR hN hd hbb hc N0
  have hmf : ∀ (fn : Fn) (first cap : Array Value) (w : World), (Instr.makeFunc fn first cap).run Tryd.prog w = .ok (.func fn first cap) w := fun _ _ _ _ => rfl
  go_enter Tryd.func81, Tryd.ntmps81
  go_upto_region 4 with fail
  go_cut [8] (fun s wx => s = .pointer (some ⟨w.heap.size + 3, 0, none⟩) ∧ ∃ n, wx = (own4 w a b c p q).drewN n)
  case first =>
    go_region_with (first
      | (go_at_call 92; (first | (with_reducible refine (HA.out _).mono ?_) | (with_reducible refine (HB.out _).mono ?_)); rintro e w' ⟨rfl, rfl⟩)
      | (go_at_call 91; refine (HM.out _).mono ?_; rintro e w' ⟨rfl, rfl⟩))
    all_goals (go_wp2_with fail; go_meet; exact ⟨rfl, _, rfl⟩)
  case rest =>
    obtain ⟨rfl, n, rfl⟩ := hcut
    obtain ⟨ca, cb, cc, cp, cq⟩ := OC.out
    have OCC := Lib.hid (fun m => HBB.out w.heap.size ((own4 w a b c p q).drewN m) ca cb cc)
    by_cases h1 : d ≤ p
    · have hr := HR.out
      rw [if_pos h1] at hr
      have HF := Lib.hid hr
      clear hr
      go_wp2_with (first | (go_at_call 92; refine (HC.out _).mono ?_; rintro e w' ⟨rfl, rfl⟩))
      go_ret2
      exact ⟨by rw [HF.out]; rfl, below_drewN OB.out _⟩
    · have hlt : p < d := by omega
      have hQ1 := HQR.out.1 hlt
      have hR0 := HQR.out.2.1
      have hR1 := HQR.out.2.2
      have HD := Lib.hid (HDV.out hlt)
      have hr := HR.out
      rw [if_neg h1] at hr
      clear HDV HR h1
      cases bb with
      | false =>
        rw [if_pos rfl] at hr
        by_cases h2 : 9223372036854775807 < Q
        · rw [if_pos h2] at hr
          have HF := Lib.hid hr
          clear hr
          go_wp2_with (first | (go_at_call 92; refine (HC.out _).mono ?_; rintro e w' ⟨rfl, rfl⟩) | (go_at_call 94; refine (HD.out _).mono ?_; rintro e w' ⟨rfl, k, rfl⟩) | (go_at_call 93; refine (OCC.out _).mono ?_; rintro e w' ⟨rfl, rfl⟩))
          go_ret2
          exact ⟨by rw [HF.out]; rfl, below_drewN OB.out _⟩
        · rw [if_neg h2] at hr
          have HF := Lib.hid hr
          clear hr
          go_wp2_with (first | (go_at_call 92; refine (HC.out _).mono ?_; rintro e w' ⟨rfl, rfl⟩) | (go_at_call 94; refine (HD.out _).mono ?_; rintro e w' ⟨rfl, k, rfl⟩) | (go_at_call 93; refine (OCC.out _).mono ?_; rintro e w' ⟨rfl, rfl⟩))
          go_ret2
          exact ⟨by rw [HF.out]; rfl, below_drewN OB.out _⟩
      | true =>
        rw [if_neg (by decide)] at hr
        by_cases hz : R = 0
        · rw [if_pos hz] at hr
          have hz1 : ((R : Int) != 0) = false := by simp [hz]
          clear hz
          by_cases hq1 : Q = 0
          · have hq2 : ((Q : Int) == 0) = true := by simp [hq1]
            rw [if_pos (Or.inl hq1)] at hr
            have HF := Lib.hid hr
            clear hr
            clear hq1
            go_wp2_with (first | (go_at_call 92; refine (HC.out _).mono ?_; rintro e w' ⟨rfl, rfl⟩) | (go_at_call 94; refine (HD.out _).mono ?_; rintro e w' ⟨rfl, k, rfl⟩) | (go_at_call 93; refine (OCC.out _).mono ?_; rintro e w' ⟨rfl, rfl⟩))
            go_ret2
            exact ⟨by rw [HF.out]; rfl, below_drewN OB.out _⟩
          · have hq2 : ((Q : Int) == 0) = false := by simpa using hq1
            by_cases hq3 : 9223372036854775808 < Q
            · rw [if_pos (Or.inr hq3)] at hr
              have HF := Lib.hid hr
              clear hr
              clear hq1
              go_wp2_with (first | (go_at_call 92; refine (HC.out _).mono ?_; rintro e w' ⟨rfl, rfl⟩) | (go_at_call 94; refine (HD.out _).mono ?_; rintro e w' ⟨rfl, k, rfl⟩) | (go_at_call 93; refine (OCC.out _).mono ?_; rintro e w' ⟨rfl, rfl⟩))
              go_ret2
              exact ⟨by rw [HF.out]; rfl, below_drewN OB.out _⟩
            · rw [if_neg (by omega)] at hr
              have HF := Lib.hid hr
              have hng := neg_conv Q (by omega) (by omega)
              clear hr hq1
              go_wp2_with (first | (go_at_call 92; refine (HC.out _).mono ?_; rintro e w' ⟨rfl, rfl⟩) | (go_at_call 94; refine (HD.out _).mono ?_; rintro e w' ⟨rfl, k, rfl⟩) | (go_at_call 93; refine (OCC.out _).mono ?_; rintro e w' ⟨rfl, rfl⟩))
              go_ret2
              exact ⟨by rw [HF.out]; first | rfl | (rw [hng]; rfl), below_drewN OB.out _⟩
        · rw [if_neg hz] at hr
          have hz1 : ((R : Int) != 0) = true := by simpa using hz
          clear hz
          by_cases hq3 : 9223372036854775808 < Q + 1
          · rw [if_pos hq3] at hr
            have HF := Lib.hid hr
            clear hr
            have hw : IntKind.u64.wrap (Q + 1) = 0 ∨ 9223372036854775808 < IntKind.u64.wrap (Q + 1) := by rw [wrap_u64]; omega
            obtain ⟨z, hz⟩ : ∃ z, IntKind.u64.wrap (Q + 1) = z := ⟨_, rfl⟩
            rw [hz] at hw
            have hz0 : 0 ≤ z := by rw [← hz, wrap_u64]; omega
            rcases hw with rfl | hw
            all_goals
              go_wp2_with (first | (go_at_call 92; refine (HC.out _).mono ?_; rintro e w' ⟨rfl, rfl⟩) | (go_at_call 94; refine (HD.out _).mono ?_; rintro e w' ⟨rfl, k, rfl⟩) | (go_at_call 93; refine (OCC.out _).mono ?_; rintro e w' ⟨rfl, rfl⟩))
              go_ret2
              exact ⟨by rw [HF.out]; rfl, below_drewN OB.out _⟩
          · rw [if_neg hq3] at hr
            have HF := Lib.hid hr
            have hng := neg_conv (Q + 1) (by omega) (by omega)
            have hq4 : (((Q + 1 : Int)) == 0) = false := by simp; omega
            clear hr
            go_wp2_with (first | (go_at_call 92; refine (HC.out _).mono ?_; rintro e w' ⟨rfl, rfl⟩) | (go_at_call 94; refine (HD.out _).mono ?_; rintro e w' ⟨rfl, k, rfl⟩) | (go_at_call 93; refine (OCC.out _).mono ?_; rintro e w' ⟨rfl, rfl⟩))
            go_ret2
            exact ⟨by rw [HF.out]; first | rfl | (rw [hng]; rfl), below_drewN OB.out _⟩
end Go.Proofs.YtbcddiaplpbhjaaDoor
namespace Go.Proofs.YtbcddiaplpbhjaaDoor
open Go Go.RowKit
set_option linter.unusedVariables false
def flr (n c : Int) : Int := if 0 < c then n / c else (-n) / (-c)
def fits (z : Int) : Prop := -9223372036854775808 ≤ z ∧ z ≤ 9223372036854775807
instance (z : Int) : Decidable (fits z) := by unfold fits; infer_instance
def fitted (z : Int) : Int × Int := if fits z then (z, 0) else (0, 8)
theorem fitted_in {z : Int} (h : fits z) : fitted z = (z, 0) := if_pos h
theorem fitted_out {z : Int} (h : ¬ fits z) : fitted z = (0, 8) := if_neg h
def mulDiv (a b c : Int) : Int × Int := if c = 0 then (0, 9) else fitted (flr (a * b) c)
theorem neg_quo (N d : Int) (hd : 0 < d) (h0 : 0 ≤ N) : (-N) / d = if N % d = 0 then -(N / d) else -(N / d + 1) := by
  have e := Int.mul_ediv_add_emod N d
  have r0 := Int.emod_nonneg N (show d ≠ 0 by omega)
  have r1 := Int.emod_lt_of_pos N hd
  generalize N / d = Q at *
  generalize N % d = R at *
  by_cases hR : R = 0
  · rw [if_pos hR]
    exact ((Int.ediv_emod_unique hd).2 ⟨show 0 + d * -Q = -N by rw [Int.mul_neg]; omega, by omega, by omega⟩).1
  · rw [if_neg hR]
    exact ((Int.ediv_emod_unique hd).2 ⟨show d - R + d * -(Q + 1) = -N by rw [Int.mul_neg, Int.mul_add, Int.mul_one]; omega, by omega, by omega⟩).1
theorem absI_mul (a b : Int) : absI a * absI b = absI (a * b) := by
  unfold absI
  by_cases ha : a < 0
  · by_cases hb : b < 0
    · have := Int.mul_pos_of_neg_of_neg ha hb
      rw [if_pos ha, if_pos hb, if_neg (by omega), Int.neg_mul_neg]
    · rw [if_pos ha, if_neg hb, Int.neg_mul]
      by_cases hz : b = 0
      · subst hz; simp
      · have := Int.mul_neg_of_neg_of_pos ha (show 0 < b by omega)
        rw [if_pos this]
  · by_cases hb : b < 0
    · rw [if_neg ha, if_pos hb, Int.mul_neg]
      by_cases hz : a = 0
      · subst hz; simp
      · have := Int.mul_neg_of_pos_of_neg (show 0 < a by omega) hb
        rw [if_pos this]
    · have := Int.mul_nonneg (show 0 ≤ a by omega) (show 0 ≤ b by omega)
      rw [if_neg ha, if_neg hb, if_neg (by omega)]
def signed (P c : Int) : Int := if 0 < c then P else -P
theorem below_signed (a b c : Int) (hc : c ≠ 0) : belowB a b c = decide (signed (a * b) c < 0) := by
  unfold belowB signed
  by_cases ha0 : a = 0
  · subst ha0; simp
  · by_cases hb0 : b = 0
    · subst hb0; simp
    · have e1 : (a != 0) = true := by simpa using ha0
      have e2 : (b != 0) = true := by simpa using hb0
      rw [e1, e2, Bool.and_true, Bool.and_true]
      rcases Int.lt_or_gt_of_ne ha0 with ha | ha <;> rcases Int.lt_or_gt_of_ne hb0 with hb | hb
      · have p := Int.mul_pos_of_neg_of_neg ha hb
        by_cases h : 0 < c
        · rw [if_pos h, decide_eq_true ha, decide_eq_true hb, decide_eq_false (show ¬ c < 0 by omega), decide_eq_false (show ¬ a * b < 0 by omega)]; rfl
        · rw [if_neg h, decide_eq_true ha, decide_eq_true hb, decide_eq_true (show c < 0 by omega), decide_eq_true (show -(a * b) < 0 by omega)]; rfl
      · have p := Int.mul_neg_of_neg_of_pos ha hb
        by_cases h : 0 < c
        · rw [if_pos h, decide_eq_true ha, decide_eq_false (show ¬ b < 0 by omega), decide_eq_false (show ¬ c < 0 by omega), decide_eq_true (show a * b < 0 by omega)]; rfl
        · rw [if_neg h, decide_eq_true ha, decide_eq_false (show ¬ b < 0 by omega), decide_eq_true (show c < 0 by omega), decide_eq_false (show ¬ -(a * b) < 0 by omega)]; rfl
      · have p := Int.mul_neg_of_pos_of_neg ha hb
        by_cases h : 0 < c
        · rw [if_pos h, decide_eq_false (show ¬ a < 0 by omega), decide_eq_true hb, decide_eq_false (show ¬ c < 0 by omega), decide_eq_true (show a * b < 0 by omega)]; rfl
        · rw [if_neg h, decide_eq_false (show ¬ a < 0 by omega), decide_eq_true hb, decide_eq_true (show c < 0 by omega), decide_eq_false (show ¬ -(a * b) < 0 by omega)]; rfl
      · have p := Int.mul_pos ha hb
        by_cases h : 0 < c
        · rw [if_pos h, decide_eq_false (show ¬ a < 0 by omega), decide_eq_false (show ¬ b < 0 by omega), decide_eq_false (show ¬ c < 0 by omega), decide_eq_false (show ¬ a * b < 0 by omega)]; rfl
        · rw [if_neg h, decide_eq_false (show ¬ a < 0 by omega), decide_eq_false (show ¬ b < 0 by omega), decide_eq_true (show c < 0 by omega), decide_eq_true (show -(a * b) < 0 by omega)]; rfl
theorem mdv_core (M d : Int) (hd : 0 < d) (N : Int) (hN : N = absI M) :
    (if d ≤ N / 18446744073709551616 then ((0 : Int), (8 : Int))
      else if decide (M < 0) = false then if 9223372036854775807 < N / d then (0, 8) else (N / d, 0)
      else if N % d = 0 then if N / d = 0 ∨ 9223372036854775808 < N / d then (0, 8) else (-(N / d), 0)
      else if 9223372036854775808 < N / d + 1 then (0, 8) else (-(N / d + 1), 0)) = fitted (M / d) := by
  have hN0 : 0 ≤ N := by rw [hN]; exact absI_pos M
  have hQ0 : 0 ≤ N / d := Int.ediv_nonneg hN0 (by omega)
  have hbig : d ≤ N / 18446744073709551616 → 18446744073709551616 ≤ N / d := fun h => by
    apply (Int.le_ediv_iff_mul_le hd).2; omega
  by_cases hM : M < 0
  · have hM' : M = -N := by rw [hN]; unfold absI; rw [if_pos hM]; omega
    rw [hM', neg_quo N d hd hN0, ← hM', decide_eq_true hM, if_neg (show ¬ (true = false) by decide)]
    have hpos : N % d = 0 → N / d ≠ 0 := fun h1 h2 => by
      have e := Int.mul_ediv_add_emod N d
      rw [h1, h2, Int.mul_zero] at e; omega
    generalize N / d = Q at *
    generalize N % d = R at *
    by_cases h1 : d ≤ N / 18446744073709551616
    · have := hbig h1
      rw [if_pos h1]
      split <;> rw [fitted_out (by unfold fits; omega)]
    · rw [if_neg h1]
      by_cases h2 : R = 0
      · have := hpos h2
        rw [if_pos h2, if_pos h2]
        by_cases h3 : 9223372036854775808 < Q
        · rw [if_pos (Or.inr h3), fitted_out (by unfold fits; omega)]
        · rw [if_neg (by omega), fitted_in (by unfold fits; omega)]
      · rw [if_neg h2, if_neg h2]
        by_cases h3 : 9223372036854775808 < Q + 1
        · rw [if_pos h3, fitted_out (by unfold fits; omega)]
        · rw [if_neg h3, fitted_in (by unfold fits; omega)]
  · have hM' : M = N := by rw [hN]; unfold absI; rw [if_neg hM]
    rw [hM'] at hM ⊢
    rw [decide_eq_false hM, if_pos rfl]
    generalize N / d = Q at *
    by_cases h1 : d ≤ N / 18446744073709551616
    · have := hbig h1
      rw [if_pos h1, fitted_out (by unfold fits; omega)]
    · rw [if_neg h1]
      by_cases h3 : 9223372036854775807 < Q
      · rw [if_pos h3, fitted_out (by unfold fits; omega)]
      · rw [if_neg h3, fitted_in (by unfold fits; omega)]
theorem mdv_mulDiv (a b c : Int) (hc : c ≠ 0) : mdv a b c = mulDiv a b c := by
  unfold mulDiv
  rw [if_neg hc]
  have hd : 0 < absI c := by unfold absI; split <;> omega
  have e : flr (a * b) c = signed (a * b) c / absI c := by
    unfold flr signed absI
    by_cases h : 0 < c
    · rw [if_pos h, if_pos h, if_neg (by omega)]
    · rw [if_neg h, if_neg h, if_pos (by omega)]
  have eN : absI a * absI b = absI (signed (a * b) c) := by
    rw [absI_mul]; unfold signed; split
    · rfl
    · unfold absI; split <;> split <;> omega
  rw [e, mdv_eq, below_signed a b c hc]
  exact mdv_core _ _ hd _ eN
theorem mulDiv_any (a b c : Int) (w : World) (ha : fits a) (hb : fits b) (hc : fits c) :
    Calls Tryd.prog 81 #[.int .i64 a, .int .i64 b, .int .i64 c] w fun e w' => e = .returned (.tuple #[.int .i64 (mulDiv a b c).1, .int .i64 (mulDiv a b c).2]) ∧ Below w.heap.size w w' := by
  by_cases h : c = 0
  · subst h
    exact muldiv_zero a b w
  · rw [← mdv_mulDiv a b c h]
    exact muldiv_walk a b c w h ha.1 ha.2 hb.1 hb.2 hc.1 hc.2
end Go.Proofs.YtbcddiaplpbhjaaDoor
namespace Go.Proofs.YtbcddiaplpbhjaaDoor
open Go Go.RowKit
set_option linter.unusedVariables false
end Go.Proofs.YtbcddiaplpbhjaaDoor
namespace Go.Proofs.YtbcddiaplpbhjaaDoor
open Go Go.RowKit Go.ChangeShapes Go.WideShapes Go.ChangeAt
set_option linter.unusedVariables false
theorem own : ownKnob Tryd.prog.godebug = none := by kernel_rfl
end Go.Proofs.YtbcddiaplpbhjaaDoor
namespace Go.Proofs.YtbcddiaplpbhjaaDoor.Rt
open Go Go.RowKit
set_option linter.unusedVariables false
def isRoot (n r : Int) : Prop := 0 ≤ r ∧ r * r ≤ n ∧ n < (r + 1) * (r + 1)
theorem sq_mono {x y : Int} (h0 : 0 ≤ x) (h : x ≤ y) : x * x ≤ y * y := by
  have h1 : x * x ≤ y * x := Int.mul_le_mul_of_nonneg_right h h0
  have h2 : y * x ≤ y * y := Int.mul_le_mul_of_nonneg_left h (by omega)
  omega
theorem lt_of_sq {x y : Int} (h0 : 0 ≤ y) (h : x * x < y * y) : x < y := by
  by_cases hx : x < y
  · exact hx
  · have := sq_mono h0 (show y ≤ x by omega); omega
theorem isRoot_unique {n r s : Int} (h : isRoot n r) (k : isRoot n s) : r = s := by
  have h1 := lt_of_sq (show 0 ≤ s + 1 by have := k.1; omega) (show r * r < (s + 1) * (s + 1) by have := h.2.1; have := k.2.2; omega)
  have h2 := lt_of_sq (show 0 ≤ r + 1 by have := h.1; omega) (show s * s < (r + 1) * (r + 1) by have := k.2.1; have := h.2.2; omega)
  omega
theorem sq_succ (r : Int) : (r + 1) * (r + 1) = r * r + 2 * r + 1 := by rw [Int.add_mul, Int.mul_add]; omega
theorem isRoot_nat (n : Nat) : ∃ r : Int, isRoot n r := by
  induction n with
  | zero => exact ⟨0, by omega, by omega, by omega⟩
  | succ n ih =>
    obtain ⟨r, h0, h1, h2⟩ := ih
    rw [sq_succ] at h2
    by_cases h : ((n + 1 : Nat) : Int) < (r + 1) * (r + 1)
    · exact ⟨r, h0, by omega, h⟩
    · refine ⟨r + 1, by omega, by omega, ?_⟩
      have e := sq_succ r
      have e2 := sq_succ (r + 1)
      omega
theorem isRoot_ex {n : Int} (h : 0 ≤ n) : ∃ r, isRoot n r := by
  obtain ⟨m, rfl⟩ : ∃ m : Nat, n = m := ⟨n.toNat, by omega⟩
  exact isRoot_nat m
noncomputable def rt (n : Int) : Int := open Classical in if h : ∃ r, isRoot n r then Classical.choose h else 0
theorem rt_is {n : Int} (h : 0 ≤ n) : isRoot n (rt n) := by
  unfold rt
  rw [dif_pos (isRoot_ex h)]
  exact Classical.choose_spec (isRoot_ex h)
theorem rt_eq {n r : Int} (h : 0 ≤ n) (k : isRoot n r) : rt n = r := isRoot_unique (rt_is h) k
theorem rt_lt {n m : Int} (h : 0 ≤ n) (hm : 0 ≤ m) (k : n < m * m) : rt n < m := by
  obtain ⟨h0, h1, h2⟩ := rt_is h
  exact lt_of_sq hm (by omega)
theorem newton {n r x : Int} (hr : isRoot n r) (hx : 0 < x) (hrx : r ≤ x) : r ≤ (x + n / x) / 2 ∧ (x ≤ (x + n / x) / 2 → x = r) := by
  obtain ⟨h0, h1, h2⟩ := hr
  have a : (2 * r - x) * x ≤ n := by
    obtain ⟨d, rfl⟩ : ∃ d, x = r + d := ⟨x - r, by omega⟩
    have e : (2 * r - (r + d)) * (r + d) = r * r - d * d := by
      rw [show 2 * r - (r + d) = r - d by omega, Int.sub_mul, Int.mul_add, Int.mul_add, Int.mul_comm d r]; omega
    have := sq_mono (show (0 : Int) ≤ 0 by omega) (show 0 ≤ d by omega)
    rw [e]; omega
  have b : 2 * r - x ≤ n / x := (Int.le_ediv_iff_mul_le hx).2 a
  refine ⟨by omega, fun h => ?_⟩
  by_cases hx2 : x ≤ r
  · omega
  · have c : n < x * x := by have := sq_mono (show 0 ≤ r + 1 by omega) (show r + 1 ≤ x by omega); omega
    have d := Int.ediv_lt_of_lt_mul hx c
    omega
theorem quo_le {n r x : Int} (hr : isRoot n r) (hx : 0 < x) (hrx : r ≤ x) : 0 ≤ n / x ∧ n / x ≤ r + 2 := by
  obtain ⟨h0, h1, h2⟩ := hr
  rw [sq_succ] at h2
  have hn : 0 ≤ n := by have := sq_mono (show (0 : Int) ≤ 0 by omega) h0; omega
  refine ⟨Int.ediv_nonneg hn (by omega), ?_⟩
  have e : r * (r + 2) ≤ x * (r + 2) := Int.mul_le_mul_of_nonneg_right hrx (by omega)
  have e2 : r * (r + 2) = r * r + 2 * r := by rw [Int.mul_add]; omega
  have : n / x < r + 3 := Int.ediv_lt_of_lt_mul hx (by rw [show r + 3 = (r + 2) + 1 by omega, Int.add_mul, Int.mul_comm (r + 2)]; omega)
  omega
def p2 : Nat → Int
  | 0 => 1
  | k + 1 => 2 * p2 k
theorem p2_pos : ∀ k, 0 < p2 k
  | 0 => by decide
  | k + 1 => by have := p2_pos k; unfold p2; omega
theorem p2_add (a b : Nat) : p2 (a + b) = p2 a * p2 b := by
  induction b with
  | zero => simp [p2]
  | succ b ih => rw [show a + (b + 1) = (a + b) + 1 from rfl, p2, ih, p2, Int.mul_left_comm]
theorem p2_mono {a b : Nat} (h : a ≤ b) : p2 a ≤ p2 b := by
  obtain ⟨c, rfl⟩ : ∃ c, b = a + c := ⟨b - a, by omega⟩
  rw [p2_add]
  have h1 := p2_pos a
  have h2 := p2_pos c
  have : p2 a * 1 ≤ p2 a * p2 c := Int.mul_le_mul_of_nonneg_left (by omega) (by omega)
  omega
end Go.Proofs.YtbcddiaplpbhjaaDoor.Rt
namespace Go.Proofs.YtbcddiaplpbhjaaDoor.Rt
open Go Go.RowKit
set_option linter.unusedVariables false
theorem ret_u {a b : Int} (h : a = b) : Ending.returned (.int .u64 a) = .returned (.int .u64 b) := by rw [h]
theorem p2_pow (k : Nat) : p2 k = ((2 ^ k : Nat) : Int) := by
  induction k with
  | zero => rfl
  | succ k ih => rw [p2, ih, Nat.pow_succ]; omega
theorem start_facts (n : Int) (h0 : 0 < n) (h1 : n ≤ 18446744073709551615) : ∃ L h : Nat, Lib.bitLen n.toNat = L ∧ 1 ≤ L ∧ L ≤ 64 ∧ (L + 1) / 2 = h ∧ h ≤ 32 ∧ rt n ≤ p2 h ∧ p2 h ≤ 4294967296 := by
  have hb := Lib.bitLenAux_bounds 64 n.toNat (by omega) (by omega)
  change 1 ≤ Lib.bitLen n.toNat ∧ 2 ^ (Lib.bitLen n.toNat - 1) ≤ n.toNat ∧ n.toNat < 2 ^ Lib.bitLen n.toNat at hb
  have hl := Lib.bitLen_le n.toNat 64 (by omega) (by omega)
  obtain ⟨L, hL⟩ : ∃ L, Lib.bitLen n.toNat = L := ⟨_, rfl⟩
  rw [hL] at hb hl
  refine ⟨L, (L + 1) / 2, hL, hb.1, hl, rfl, by omega, ?_, ?_⟩
  · have h2 : n < p2 ((L + 1) / 2) * p2 ((L + 1) / 2) := by
      rw [← p2_add]
      have h3 : p2 L ≤ p2 ((L + 1) / 2 + (L + 1) / 2) := p2_mono (by omega)
      rw [p2_pow L] at h3
      omega
    have := rt_lt (show 0 ≤ n by omega) (Int.le_of_lt (p2_pos _)) h2
    omega
  · have h3 : p2 ((L + 1) / 2) ≤ p2 32 := p2_mono (by omega)
    exact h3
set_option maxHeartbeats 1000000 in
theorem root_any (n : Int) (w : World) (h0 : 0 ≤ n) (h1 : n ≤ 18446744073709551615) : Calls Tryd.prog 69 #[.int .u64 n] w fun e w' => e = .returned (.int .u64 (rt n)) ∧ w = w' := by
  by_cases hz : n = 0
  · subst hz
    have HF := Lib.hid (rt_eq (n := 0) (r := 0) (by omega) ⟨by omega, by omega, by omega⟩)
    go_enter Tryd.func69, Tryd.ntmps69
    go_wp2
    go_step3
    go_wp2
    (try rw [Exit.noGoto_ret])
    go_ret
    exact ⟨ret_u HF.out.symm, rfl⟩
  · have hz1 : ((n : Int) == 0) = false := by simpa using hz
    have hnp : 0 < n := by omega
    obtain ⟨L, h, hL, L1, L2, hh, H1, H2, H3⟩ := start_facts n hnp h1
    have HL := Lib.hid (Tryd.bits_Len64 n w h0 h1)
    rw [hL] at HL
    have HR := Lib.hid (rt_is h0)
    obtain ⟨r, hr⟩ : ∃ r, rt n = r := ⟨_, rfl⟩
    rw [hr] at H2 HR ⊢
    clear hr hL hz
    have hrp : 0 < r := by
      obtain ⟨q0, q1, q2⟩ := HR.out
      by_cases h : r = 0
      · subst h; omega
      · omega
    have HN := Lib.hid hnp
    have P2 := Lib.hid (p2_pow h)
    obtain ⟨x0, hx0⟩ : ∃ x, p2 h = x := ⟨_, rfl⟩
    have hx00 := p2_pos h
    rw [hx0] at H2 H3 hx00
    have HW := Lib.hid (show IntKind.u64.wrap (2 ^ ((L + 1) / 2)) = x0 by
      have e : (2 : Int) ^ ((L + 1) / 2) = x0 := by rw [← hx0, hh, p2_pow]; simp
      rw [e]; exact IntWalk.u64_in _ (by omega))
    clear hx0
    go_enter Tryd.func69, Tryd.ntmps69
    go_wp2
    go_step3
    go_wp2_with (go_at_call 80; refine HL.out.mono ?_; rintro e w' ⟨rfl, rfl⟩)
    rw [HW.out]
    go_step3
    go_wp2
    go_loop [3] (fun x => ∃ z : Int, x = .int .u64 z ∧ r ≤ z ∧ 0 < z ∧ z ≤ 4294967296) (fun x => (intOf x).toNat)
    case atStart => exact ⟨x0, rfl, H2, hx00, H3⟩
    case round =>
      obtain ⟨z, rfl, hrz, hz0, hz1⟩ := hrel
      have hq := quo_le HR.out hz0 hrz
      have hnw := newton HR.out hz0 hrz
      have hrb : r ≤ 4294967296 := by omega
      obtain ⟨hq0, hq1⟩ := hq
      have HS : IntKind.u64.wrap (z + n / z) = z + n / z := IntWalk.u64_in _ (by omega)
      have HD : IntKind.u64.wrap ((z + n / z).tdiv 2) = (z + n / z) / 2 := IntWalk.u64_quo _ _ (by omega)
      have hzz : ((z : Int) == 0) = false := by simp; omega
      by_cases hstop : z ≤ (z + n / z) / 2
      · have HF := Lib.hid (hnw.2 hstop)
        go_wp2
        (try rw [Exit.noGoto_ret])
        go_ret
        exact ⟨ret_u HF.out, rfl⟩
      · go_wp2
        go_round
        case rel => exact ⟨(z + n / z) / 2, rfl, hnw.1, by omega, by omega⟩
        case measure => simp [intOf]; omega
end Go.Proofs.YtbcddiaplpbhjaaDoor.Rt
namespace Go.Proofs.YtbcddiaplpbhjaaDoor
open Go Go.RowKit Go.Proofs.YtbcddiaplpbhjaaDoor.Rt
set_option linter.unusedVariables false
theorem and_part (x : Int) : bits .and .i64 x 65535 = x % 65536 := by
  have h0 : (0:Int) ≤ x % 65536 := by omega
  have e : ((BitVec.ofInt 64 x).toNat &&& 65535 : Nat) = (x % 65536).toNat := by
    rw [show (65535 : Nat) = 2 ^ 16 - 1 from rfl, Nat.and_two_pow_sub_one_eq_mod, BitVec.toNat_ofInt]
    omega
  have e2 : (BitVec.ofInt 64 65535).toNat = 65535 := by decide
  have e3 : (BitVec.ofInt 64 x &&& BitVec.ofInt 64 65535).toNat = (x % 65536).toNat := by rw [BitVec.toNat_and, e2, e]
  show IntKind.i64.wrap (((BitVec.ofInt 64 x &&& BitVec.ofInt 64 65535).toNat : Nat) : Int) = _
  rw [e3, IntKind.wrap_i64]; omega
theorem rt_bound {n m : Int} (h : 0 ≤ n) (hm : 0 ≤ m) (k : n < m * m) : 0 ≤ rt n ∧ rt n < m := ⟨(rt_is h).1, rt_lt h hm k⟩
end Go.Proofs.YtbcddiaplpbhjaaDoor
namespace Go.Proofs.YtbcddiaplpbhjaaDoor.Dg
open Go Go.RowKit
set_option linter.unusedVariables false
def ok (ds : List Int) : Prop := ∀ d ∈ ds, 0 ≤ d ∧ d ≤ 999
def pw : Nat → Int
  | 0 => 1
  | k + 1 => pw k * 1000
def digs : Nat → Nat → List Int
  | 0, _ => []
  | f + 1, n => if n = 0 then [] else ((n % 1000 : Nat) : Int) :: digs f (n / 1000)
def canon (n : Nat) : List Int := digs n n
theorem digs_fuel : ∀ (f g n : Nat), n ≤ f → n ≤ g → digs f n = digs g n
  | 0, g, n, h1, h2 => by
    obtain rfl : n = 0 := by omega
    cases g <;> simp [digs]
  | f + 1, 0, n, h1, h2 => by
    obtain rfl : n = 0 := by omega
    simp [digs]
  | f + 1, g + 1, n, h1, h2 => by
    simp only [digs]
    by_cases h : n = 0
    · rw [if_pos h, if_pos h]
    · rw [if_neg h, if_neg h, digs_fuel f g (n / 1000) (by omega) (by omega)]
theorem canon_zero : canon 0 = [] := rfl
theorem canon_pos (n : Nat) (h : 0 < n) : canon n = ((n % 1000 : Nat) : Int) :: canon (n / 1000) := by
  unfold canon
  obtain ⟨m, rfl⟩ : ∃ m, n = m + 1 := ⟨n - 1, by omega⟩
  rw [show digs (m + 1) (m + 1) = ((((m + 1) % 1000 : Nat)) : Int) :: digs m ((m + 1) / 1000) from by rw [digs, if_neg (by omega)]]
  rw [digs_fuel m ((m + 1) / 1000) _ (by omega) (Nat.le_refl _)]
theorem canon_len (n k : Nat) (h : (n : Int) < pw k) : (canon n).length ≤ k := by
  induction k generalizing n with
  | zero =>
    have : n = 0 := by simp only [pw] at h; omega
    subst this; simp [canon_zero]
  | succ k ih =>
    by_cases h0 : n = 0
    · subst h0; simp [canon_zero]
    · rw [canon_pos n (by omega), List.length_cons]
      have := ih (n / 1000) (by simp only [pw] at h; omega)
      omega
end Go.Proofs.YtbcddiaplpbhjaaDoor.Dg
namespace Go.Proofs.YtbcddiaplpbhjaaDoor.Bg
open Go Go.RowKit Go.Proofs.YtbcddiaplpbhjaaDoor.Dg
set_option linter.unusedVariables false
def Reads (w : World) (v : Value) (ds : List Int) : Prop :=
  (v = .slice none 0 0 ∧ ds = []) ∨ ∃ b off len cap, v = .slice (some ⟨b, off, none⟩) len cap ∧ ds.length = len ∧ len ≤ cap ∧ b < w.heap.size ∧ ∀ i, i < len → w.cell? ⟨b, off + i, none⟩ = some (.int .i64 (ds.getD i 0))
theorem Reads.below {w w' : World} {v : Value} {ds : List Int} (h : Reads w v ds) (hb : Below w.heap.size w w') : Reads w' v ds := by
  rcases h with h | ⟨b, off, len, cap, e, hl, hc, hs, hr⟩
  · exact Or.inl h
  · refine Or.inr ⟨b, off, len, cap, e, hl, hc, Nat.lt_of_lt_of_le hs hb.size, fun i hi => ?_⟩
    rw [hb.cell (p := ⟨b, off + i, none⟩) hs]; exact hr i hi
theorem Reads.drewN {w : World} {v : Value} {ds : List Int} (h : Reads w v ds) (n : Nat) : Reads (w.drewN n) v ds := h
theorem Reads.len {w : World} {v : Value} {ds : List Int} (h : Reads w v ds) : ∃ a cap, v = .slice a ds.length cap ∧ ds.length ≤ cap := by
  rcases h with ⟨rfl, rfl⟩ | ⟨b, off, len, cap, rfl, rfl, hc, hs, hr⟩
  · exact ⟨none, 0, rfl, Nat.le_refl _⟩
  · exact ⟨_, cap, rfl, hc⟩
def Is (w : World) (v : Value) (z : Int) : Prop := ∃ s, v = .agg #[.bool (decide (z < 0)), s] ∧ Reads w s (canon z.natAbs)
theorem Is.below {w w' : World} {v : Value} {z : Int} (h : Is w v z) (hb : Below w.heap.size w w') : Is w' v z :=
  h.elim fun s ⟨e, hr⟩ => ⟨s, e, hr.below hb⟩
end Go.Proofs.YtbcddiaplpbhjaaDoor.Bg
namespace Go.Proofs.YtbcddiaplpbhjaaDoor.Bg
open Go Go.RowKit Go.Proofs.YtbcddiaplpbhjaaDoor.Dg
set_option linter.unusedVariables false
end Go.Proofs.YtbcddiaplpbhjaaDoor.Bg
namespace Go.Proofs.YtbcddiaplpbhjaaDoor.Bg
open Go Go.RowKit Go.Proofs.YtbcddiaplpbhjaaDoor.Dg
set_option linter.unusedVariables false
end Go.Proofs.YtbcddiaplpbhjaaDoor.Bg
namespace Go.Proofs.YtbcddiaplpbhjaaDoor.Bg
open Go Go.RowKit Go.Proofs.YtbcddiaplpbhjaaDoor.Dg
set_option linter.unusedVariables false
structure Keeps (w w' : World) : Prop where
  size : w.heap.size ≤ w'.heap.size
  ints : ∀ (a : Addr) (x : Int), w.cell? a = some (.int .i64 x) → w'.cell? a = some (.int .i64 x)
theorem Keeps.refl (w : World) : Keeps w w := ⟨Nat.le_refl _, fun _ _ h => h⟩
theorem Keeps.trans {a b c : World} (h : Keeps a b) (k : Keeps b c) : Keeps a c := ⟨Nat.le_trans h.size k.size, fun x v hx => k.ints x v (h.ints x v hx)⟩
theorem Keeps.of_setCell {w : World} {p : Addr} {u v : Value} (h : w.cell? p = some u) (hu : ∀ x, u ≠ .int .i64 x) : Keeps w (w.setCell p v) :=
  ⟨by simp, fun a x hx => by
    have hne : p ≠ a := fun e => by subst e; rw [h] at hx; exact hu x (Option.some.inj hx)
    rw [World.cell?_setCell_other _ _ _ _ hne]; exact hx⟩
theorem Reads.keeps {w w' : World} {v : Value} {ds : List Int} (h : Reads w v ds) (hk : Keeps w w') : Reads w' v ds := by
  rcases h with h | ⟨b, off, len, cap, e, hl, hc, hs, hr⟩
  · exact Or.inl h
  · exact Or.inr ⟨b, off, len, cap, e, hl, hc, Nat.lt_of_lt_of_le hs hk.size, fun i hi => hk.ints _ _ (hr i hi)⟩
theorem Is.keeps {w w' : World} {v : Value} {z : Int} (h : Is w v z) (hk : Keeps w w') : Is w' v z := h.elim fun s ⟨e, hr⟩ => ⟨s, e, hr.keeps hk⟩
def put2 (w : World) (B : Nat) (x y : Value) : World := (w.setCell ⟨B, 0, none⟩ x).setCell ⟨B, 1, none⟩ y
theorem put2_cells {w : World} {B : Nat} {x y u v : Value} (h0 : w.cell? ⟨B, 0, none⟩ = some u) (h1 : w.cell? ⟨B, 1, none⟩ = some v) :
    (put2 w B x y).cell? ⟨B, 0, none⟩ = some x ∧ (put2 w B x y).cell? ⟨B, 1, none⟩ = some y := by
  unfold put2
  refine ⟨?_, ?_⟩
  · rw [World.cell?_setCell_other _ _ _ _ (by simp)]; exact World.cell?_setCell_same _ _ _ h0
  · refine World.cell?_setCell_same _ _ _ (u := v) ?_
    rw [World.cell?_setCell_other _ _ _ _ (by simp)]; exact h1
theorem put2_keeps {w : World} {B : Nat} {x y u v : Value} (h0 : w.cell? ⟨B, 0, none⟩ = some u) (h1 : w.cell? ⟨B, 1, none⟩ = some v) (hu : ∀ z, u ≠ .int .i64 z) (hv : ∀ z, v ≠ .int .i64 z) : Keeps w (put2 w B x y) := by
  unfold put2
  refine (Keeps.of_setCell h0 hu).trans (Keeps.of_setCell (u := v) ?_ hv)
  rw [World.cell?_setCell_other _ _ _ _ (by simp)]; exact h1
theorem put2_below {w w2 : World} {B : Nat} {x y : Value} (h : Below w.heap.size w w2) (hB : w.heap.size ≤ B) : Below w.heap.size w (put2 w2 B x y) := (h.setCell (p := ⟨B, 0, none⟩) hB x).setCell (p := ⟨B, 1, none⟩) hB y
end Go.Proofs.YtbcddiaplpbhjaaDoor.Bg
namespace Go.Proofs.YtbcddiaplpbhjaaDoor.Bg
open Go Go.RowKit Go.Proofs.YtbcddiaplpbhjaaDoor.Dg
set_option linter.unusedVariables false
def Sm (x : Int) : Prop := -1000000000000000000000000000000000000000000000000000000000000 < x ∧ x < 1000000000000000000000000000000000000000000000000000000000000
theorem Sm.len {x : Int} (h : Sm x) : (canon x.natAbs).length ≤ 20 := canon_len _ 20 (by
  have e : pw 20 = 1000000000000000000000000000000000000000000000000000000000000 := by decide
  have := h.1; have := h.2
  omega)
theorem nb (b : Bool) : ∀ z, (Value.bool b) ≠ .int .i64 z := fun z h => by cases h
theorem ns (a : Option Addr) (l c : Nat) : ∀ z, (Value.slice a l c) ≠ .int .i64 z := fun z h => by cases h
end Go.Proofs.YtbcddiaplpbhjaaDoor.Bg
namespace Go.Proofs.YtbcddiaplpbhjaaDoor.Bg
open Go Go.RowKit Go.Proofs.YtbcddiaplpbhjaaDoor.Dg
set_option linter.unusedVariables false
theorem put2_other {w : World} {B b o : Nat} {x y v : Value} (hne : B ≠ b) (h : w.cell? ⟨b, o, none⟩ = some v) : (put2 w B x y).cell? ⟨b, o, none⟩ = some v := by
  unfold put2
  rw [World.cell?_setCell_other _ _ _ _ (fun e => hne (congrArg Addr.block e)), World.cell?_setCell_other _ _ _ _ (fun e => hne (congrArg Addr.block e))]; exact h
structure BoxesAt (w w' : World) (b0 : Bool) (s0 : Value) (b1 : Bool) (s1 : Value) : Prop where
  x0 : w'.cell? ⟨w.heap.size, 0, none⟩ = some (.bool b0)
  x1 : w'.cell? ⟨w.heap.size, 1, none⟩ = some s0
  y0 : w'.cell? ⟨w.heap.size + 1, 0, none⟩ = some (.bool b1)
  y1 : w'.cell? ⟨w.heap.size + 1, 1, none⟩ = some s1
  z0 : w'.cell? ⟨w.heap.size + 2, 0, none⟩ = some (.bool false)
  z1 : w'.cell? ⟨w.heap.size + 2, 1, none⟩ = some (.slice none 0 0)
  f0 : w'.frozen? ⟨w.heap.size + 2, 0, none⟩ = false
  f1 : w'.frozen? ⟨w.heap.size + 2, 1, none⟩ = false
theorem BoxesAt.below {w w' w2 : World} {b0 : Bool} {s0 : Value} {b1 : Bool} {s1 : Value} (h : BoxesAt w w' b0 s0 b1 s1) (hs : w.heap.size + 3 ≤ w'.heap.size) (hb : Below w'.heap.size w' w2) : BoxesAt w w2 b0 s0 b1 s1 := by
  obtain ⟨a, b, c, d, e, f, g, i⟩ := h
  refine ⟨?_, ?_, ?_, ?_, ?_, ?_, ?_, ?_⟩
  all_goals first
    | (rw [hb.cell (show _ < w'.heap.size by show _ < _; simp only; omega)]; assumption)
    | (rw [hb.frozen (show _ < w'.heap.size by show _ < _; simp only; omega)]; assumption)
theorem BoxesAt.drewN {w w' : World} {b0 : Bool} {s0 : Value} {b1 : Bool} {s1 : Value} (h : BoxesAt w w' b0 s0 b1 s1) (n : Nat) : BoxesAt w (w'.drewN n) b0 s0 b1 s1 := ⟨h.x0, h.x1, h.y0, h.y1, h.z0, h.z1, h.f0, h.f1⟩
end Go.Proofs.YtbcddiaplpbhjaaDoor.Bg
namespace Go.Proofs.YtbcddiaplpbhjaaDoor.Bg
open Go Go.RowKit Go.Proofs.YtbcddiaplpbhjaaDoor.Dg
set_option linter.unusedVariables false
end Go.Proofs.YtbcddiaplpbhjaaDoor.Bg
namespace Go.Proofs.YtbcddiaplpbhjaaDoor.Bg
open Go Go.RowKit Go.Proofs.YtbcddiaplpbhjaaDoor.Dg
set_option linter.unusedVariables false
end Go.Proofs.YtbcddiaplpbhjaaDoor.Bg
namespace Go.Proofs.YtbcddiaplpbhjaaDoor.Bg
open Go Go.RowKit Go.Proofs.YtbcddiaplpbhjaaDoor.Dg
set_option linter.unusedVariables false
def Box (p : Nat) (b : Bool) (s : Value) (w : World) : Prop := w.cell? ⟨p, 0, none⟩ = some (.bool b) ∧ w.cell? ⟨p, 1, none⟩ = some s
theorem Box.below {p : Nat} {b : Bool} {s : Value} {w w2 : World} {B : Nat} (h : Box p b s w) (hp : p < B) (hb : Below B w w2) : Box p b s w2 :=
  ⟨by rw [hb.cell (p := ⟨p, 0, none⟩) hp]; exact h.1, by rw [hb.cell (p := ⟨p, 1, none⟩) hp]; exact h.2⟩
theorem Box.drewN {p : Nat} {b : Bool} {s : Value} {w : World} (h : Box p b s w) (n : Nat) : Box p b s (w.drewN n) := h
def I64 (x : Int) : Prop := -9223372036854775808 ≤ x ∧ x ≤ 9223372036854775807
instance (x : Int) : Decidable (I64 x) := by unfold I64; infer_instance
end Go.Proofs.YtbcddiaplpbhjaaDoor.Bg
namespace Go.Proofs.YtbcddiaplpbhjaaDoor.Bg
open Go Go.RowKit Go.Proofs.YtbcddiaplpbhjaaDoor.Dg
set_option linter.unusedVariables false
structure MulAt (w wr : World) (b0 : Bool) (s0 : Value) (b1 : Bool) (s1 : Value) (ss : Value) (z : Int) : Prop where
  x : Box w.heap.size b0 s0 wr
  y : Box (w.heap.size + 1) b1 s1 wr
  r : Box (w.heap.size + 2) false (.slice none 0 0) wr
  s : Box (w.heap.size + 3) false ss wr
  f0 : wr.frozen? ⟨w.heap.size + 2, 0, none⟩ = false
  f1 : wr.frozen? ⟨w.heap.size + 2, 1, none⟩ = false
  g0 : wr.frozen? ⟨w.heap.size + 3, 0, none⟩ = false
  g1 : wr.frozen? ⟨w.heap.size + 3, 1, none⟩ = false
  sz : w.heap.size + 4 ≤ wr.heap.size
  num : Is wr (.agg #[.bool false, ss]) z
  bel : Below w.heap.size w wr
theorem MulAt.below {w wr w2 : World} {b0 : Bool} {s0 : Value} {b1 : Bool} {s1 ss : Value} {z : Int} (h : MulAt w wr b0 s0 b1 s1 ss z) (hb : Below wr.heap.size wr w2) : MulAt w w2 b0 s0 b1 s1 ss z := by
  have hs := h.sz
  refine ⟨h.x.below (by omega) hb, h.y.below (by omega) hb, h.r.below (by omega) hb, h.s.below (by omega) hb, ?_, ?_, ?_, ?_, Nat.le_trans hs hb.size, h.num.below hb, h.bel.trans (hb.mono h.bel.size)⟩
  all_goals first
    | (rw [hb.frozen (show _ < wr.heap.size by show _ < _; simp only; omega)]; first | exact h.f0 | exact h.f1 | exact h.g0 | exact h.g1)
theorem MulAt.put {w w2 : World} {b0 : Bool} {s0 : Value} {b1 : Bool} {s1 ss ss' : Value} {z z' : Int} (h : MulAt w w2 b0 s0 b1 s1 ss z) (hss : ∀ x, ss ≠ .int .i64 x) (hn : Is w2 (.agg #[.bool false, ss']) z') :
    MulAt w (put2 w2 (w.heap.size + 3) (.bool false) ss') b0 s0 b1 s1 ss' z' := by
  have hk : Keeps w2 (put2 w2 (w.heap.size + 3) (.bool false) ss') := put2_keeps h.s.1 h.s.2 (nb _) hss
  refine ⟨⟨put2_other (by omega) h.x.1, put2_other (by omega) h.x.2⟩, ⟨put2_other (by omega) h.y.1, put2_other (by omega) h.y.2⟩, ⟨put2_other (by omega) h.r.1, put2_other (by omega) h.r.2⟩, put2_cells h.s.1 h.s.2, ?_, ?_, ?_, ?_, ?_, hn.keeps hk, put2_below h.bel (by omega)⟩
  · unfold put2; rw [World.frozen?_setCell, World.frozen?_setCell]; exact h.f0
  · unfold put2; rw [World.frozen?_setCell, World.frozen?_setCell]; exact h.f1
  · unfold put2; rw [World.frozen?_setCell, World.frozen?_setCell]; exact h.g0
  · unfold put2; rw [World.frozen?_setCell, World.frozen?_setCell]; exact h.g1
  · exact Nat.le_trans h.sz hk.size
theorem MulAt.slice {w wr : World} {b0 : Bool} {s0 : Value} {b1 : Bool} {s1 ss : Value} {z : Int} (h : MulAt w wr b0 s0 b1 s1 ss z) : ∃ a cap, ss = .slice a (canon z.natAbs).length cap ∧ Reads wr ss (canon z.natAbs) := by
  obtain ⟨s, e, hr⟩ := h.num
  obtain ⟨a, cap, rfl, _⟩ := hr.len
  simp at e
  obtain ⟨e1, e2⟩ := e
  subst e2
  exact ⟨a, cap, rfl, hr⟩
theorem Reads.at {w : World} {a : Option Addr} {l c : Nat} {ds : List Int} (h : Reads w (.slice a l c) ds) (k : Nat) (hk : k < l) : ∃ b off, a = some ⟨b, off, none⟩ ∧ l ≤ c ∧ w.cell? ⟨b, off + k, none⟩ = some (.int .i64 (ds.getD k 0)) := by
  rcases h with ⟨e, _⟩ | ⟨b, off, len, cap, e, hl, hc, hs, hr⟩
  · cases e; omega
  · cases e; exact ⟨b, off, rfl, hc, hr k hk⟩
end Go.Proofs.YtbcddiaplpbhjaaDoor.Bg
namespace Go.Proofs.YtbcddiaplpbhjaaDoor.Bg
open Go Go.RowKit Go.Proofs.YtbcddiaplpbhjaaDoor.Dg
set_option linter.unusedVariables false
def Holds (p : Nat) (z : Int) (w : World) : Prop := ∃ b sa l cap, Box p b (.slice sa l cap) w ∧ Is w (.agg #[.bool b, .slice sa l cap]) z ∧ w.frozen? ⟨p, 0, none⟩ = false ∧ w.frozen? ⟨p, 1, none⟩ = false ∧ b = decide (z < 0)
theorem Holds.below {p : Nat} {z : Int} {w w2 : World} (h : Holds p z w) (hp : p < w.heap.size) (hb : Below w.heap.size w w2) : Holds p z w2 := by
  obtain ⟨b, sa, l, cap, h1, h2, h3, h4, h5⟩ := h
  exact ⟨b, sa, l, cap, h1.below hp hb, h2.below hb, by rw [hb.frozen (p := ⟨p, 0, none⟩) hp]; exact h3, by rw [hb.frozen (p := ⟨p, 1, none⟩) hp]; exact h4, h5⟩
theorem Holds.drewN {p : Nat} {z : Int} {w : World} (h : Holds p z w) (n : Nat) : Holds p z (w.drewN n) := h
theorem Holds.put {p : Nat} {z : Int} {w : World} {b b' : Bool} {sa sa' : Option Addr} {l cap l' cap' : Nat} (h : Box p b (.slice sa l cap) w) (f0 : w.frozen? ⟨p, 0, none⟩ = false) (f1 : w.frozen? ⟨p, 1, none⟩ = false) (hn : Is w (.agg #[.bool b', .slice sa' l' cap']) z) :
    Holds p z (put2 w p (.bool b') (.slice sa' l' cap')) := by
  have hb : b' = decide (z < 0) := by obtain ⟨s, e, _⟩ := hn; simp at e; exact e.1
  refine ⟨b', sa', l', cap', put2_cells h.1 h.2, hn.keeps (put2_keeps h.1 h.2 (nb _) (ns _ _ _)), ?_, ?_, hb⟩
  · unfold put2; rw [World.frozen?_setCell, World.frozen?_setCell]; exact f0
  · unfold put2; rw [World.frozen?_setCell, World.frozen?_setCell]; exact f1
theorem Holds.other {p q : Nat} {z : Int} {w : World} {b : Bool} {sa : Option Addr} {l cap : Nat} {x y : Value} (h : Holds p z w) (hq : Box q b (.slice sa l cap) w) (hne : q ≠ p) : Holds p z (put2 w q x y) := by
  obtain ⟨b1, sa1, l1, cap1, h1, h2, h3, h4, h5⟩ := h
  refine ⟨b1, sa1, l1, cap1, ⟨put2_other hne h1.1, put2_other hne h1.2⟩, h2.keeps (put2_keeps hq.1 hq.2 (nb _) (ns _ _ _)), ?_, ?_, h5⟩
  · unfold put2; rw [World.frozen?_setCell, World.frozen?_setCell]; exact h3
  · unfold put2; rw [World.frozen?_setCell, World.frozen?_setCell]; exact h4
structure BoxF (p : Nat) (b : Bool) (s : Value) (w : World) : Prop where
  c0 : w.cell? ⟨p, 0, none⟩ = some (.bool b)
  c1 : w.cell? ⟨p, 1, none⟩ = some s
  f0 : w.frozen? ⟨p, 0, none⟩ = false
  f1 : w.frozen? ⟨p, 1, none⟩ = false
theorem BoxF.below {p : Nat} {b : Bool} {s : Value} {w w2 : World} {B : Nat} (h : BoxF p b s w) (hp : p < B) (hb : Below B w w2) : BoxF p b s w2 :=
  ⟨by rw [hb.cell (p := ⟨p, 0, none⟩) hp]; exact h.c0, by rw [hb.cell (p := ⟨p, 1, none⟩) hp]; exact h.c1, by rw [hb.frozen (p := ⟨p, 0, none⟩) hp]; exact h.f0, by rw [hb.frozen (p := ⟨p, 1, none⟩) hp]; exact h.f1⟩
structure Fl (w wx : World) (x y z : Int) : Prop where
  a : Holds w.heap.size x wx
  b : Holds (w.heap.size + 1) y wx
  q : Holds (w.heap.size + 2) z wx
  sz : w.heap.size + 3 ≤ wx.heap.size
  bel : Below w.heap.size w wx
theorem Fl.below {w wx w2 : World} {x y z : Int} (h : Fl w wx x y z) (hb : Below wx.heap.size wx w2) : Fl w w2 x y z := by
  have := h.sz
  exact ⟨h.a.below (by omega) hb, h.b.below (by omega) hb, h.q.below (by omega) hb, Nat.le_trans h.sz hb.size, h.bel.trans (hb.mono h.bel.size)⟩
end Go.Proofs.YtbcddiaplpbhjaaDoor.Bg
namespace Go.Proofs.YtbcddiaplpbhjaaDoor.Bg
open Go Go.RowKit Go.Proofs.YtbcddiaplpbhjaaDoor.Dg
set_option linter.unusedVariables false
structure Tw (w wx : World) (x y : Int) : Prop where
  a : Holds w.heap.size x wx
  b : Holds (w.heap.size + 1) y wx
  sz : w.heap.size + 2 ≤ wx.heap.size
  bel : Below w.heap.size w wx
theorem Tw.below {w wx w2 : World} {x y : Int} (h : Tw w wx x y) (hb : Below wx.heap.size wx w2) : Tw w w2 x y := by
  have := h.sz
  exact ⟨h.a.below (by omega) hb, h.b.below (by omega) hb, Nat.le_trans h.sz hb.size, h.bel.trans (hb.mono h.bel.size)⟩
end Go.Proofs.YtbcddiaplpbhjaaDoor.Bg
namespace Go.Proofs.YtbcddiaplpbhjaaDoor
open Go Go.RowKit Go.Proofs.YtbcddiaplpbhjaaDoor.Dg Go.Proofs.YtbcddiaplpbhjaaDoor.Bg
set_option linter.unusedVariables false
end Go.Proofs.YtbcddiaplpbhjaaDoor
namespace Go.Proofs.YtbcddiaplpbhjaaDoor
open Go Go.RowKit Go.Proofs.YtbcddiaplpbhjaaDoor.Dg Go.Proofs.YtbcddiaplpbhjaaDoor.Bg
set_option linter.unusedVariables false
end Go.Proofs.YtbcddiaplpbhjaaDoor
namespace Go.Proofs.YtbcddiaplpbhjaaDoor
open Go Go.RowKit Go.Proofs.YtbcddiaplpbhjaaDoor.Dg Go.Proofs.YtbcddiaplpbhjaaDoor.Bg
set_option linter.unusedVariables false
end Go.Proofs.YtbcddiaplpbhjaaDoor
namespace Go.Proofs.YtbcddiaplpbhjaaDoor.Bg
open Go Go.RowKit Go.Proofs.YtbcddiaplpbhjaaDoor.Dg
set_option linter.unusedVariables false
def floorS (z : Int) : Int × Bool := if I64 (z / 65536) then (z / 65536, true) else (0, false)
end Go.Proofs.YtbcddiaplpbhjaaDoor.Bg
namespace Go.Proofs.YtbcddiaplpbhjaaDoor
open Go Go.RowKit Go.Proofs.YtbcddiaplpbhjaaDoor.Dg Go.Proofs.YtbcddiaplpbhjaaDoor.Bg Go.Proofs.YtbcddiaplpbhjaaDoor.Rt
set_option linter.unusedVariables false
def Tabs (w : World) : Prop := Tg.Tab w ∧ Tg.TabR w
theorem Tabs.below {w w' : World} (h : Tabs w) (hb : Below w.heap.size w w') : Tabs w' := ⟨h.1.below hb, h.2.below hb⟩
theorem Tabs.drewN {w : World} (h : Tabs w) (n : Nat) : Tabs (w.drewN n) := ⟨h.1.drewN n, h.2.drewN n⟩
def timesS (a b : Int) : Int := (floorS (a * b)).1
end Go.Proofs.YtbcddiaplpbhjaaDoor
namespace Go.Proofs.YtbcddiaplpbhjaaDoor.Am
open Go Go.RowKit Go.Proofs.YtbcddiaplpbhjaaDoorW.PrintWords Go.Proofs.YtbcddiaplpbhjaaDoorW.PrintLast Go.Proofs.YtbcddiaplpbhjaaDoorW.PrintMore
set_option linter.unusedVariables false
set_option linter.unusedSimpArgs false
set_option maxHeartbeats 4000000 in
set_option maxRecDepth 100000 in
theorem corners_any (W H Wa : Int) (A : Option Addr) (c : Nat) (l : List Int) (i j k d : Int) (w : World) (hr : Kd.C (Kd.int .u8) w A l.length l) (hc : l.length ≤ c)
    (hk : wrap64 (wrap64 (wrap64 (W + 1) * j) + i) = k) (hd : wrap64 (wrap64 (k + W) + 1) = d) (h0 : 0 ≤ k) (h1 : k + 1 < l.length) (h2 : 0 ≤ d) (h3 : d + 1 < l.length) (hb : (l.length : Int) < 9223372036854775807) :
    Calls Tryd.prog 89 #[.agg #[.int .i64 W, .int .i64 H, .int .i64 Wa, .slice A l.length c], .int .i64 i, .int .i64 j] w fun e w' =>
      e = .returned (.agg #[.int .i64 (wrap64 (rd l k)), .int .i64 (wrap64 (rd l (k + 1))), .int .i64 (wrap64 (rd l d)), .int .i64 (wrap64 (rd l (d + 1)))]) ∧ Below w.heap.size w w' := by
  obtain ⟨a0, rfl, c0⟩ := Kd.at_int hr k h0 (by omega)
  obtain ⟨a1, e1, c1⟩ := Kd.at_int hr (k + 1) (by omega) (by omega)
  obtain ⟨a2, e2, c2⟩ := Kd.at_int hr d (by omega) (by omega)
  obtain ⟨a3, e3, c3⟩ := Kd.at_int hr (d + 1) (by omega) (by omega)
  cases e1; cases e2; cases e3
  have hu := Tryd.underlying45
  have hw1 : wrap64 (k + 1) = k + 1 := by unfold wrap64; omega
  have hw2 : wrap64 (d + 1) = d + 1 := by unfold wrap64; omega
  have hk' : IntKind.i64.wrap (wrap64 (wrap64 (W + 1) * j) + i) = k := (i64_w _).trans hk
  have hd' : IntKind.i64.wrap (wrap64 (k + W) + 1) = d := (i64_w _).trans hd
  go_enter Tryd.func89, Tryd.ntmps89
  go_wp2
  obtain ⟨V, hV⟩ : ∃ V, (w.alloc (Obj.cells #[Value.int IntKind.i64 W, Value.int IntKind.i64 H, Value.int IntKind.i64 Wa, Value.slice (some a0) l.length c] 45)).alloc (Obj.cells #[Value.int IntKind.i64 0, Value.int IntKind.i64 0, Value.int IntKind.i64 0, Value.int IntKind.i64 0] 114) = V := ⟨_, rfl⟩
  have hB : Below w.heap.size w V := by rw [← hV]; exact below_alloc (below_alloc (Below.refl _ _) _) _
  have b0 := blk_alloc (blk_new w (Obj.cells #[Value.int IntKind.i64 W, Value.int IntKind.i64 H, Value.int IntKind.i64 Wa, Value.slice (some a0) l.length c] 45)) (Obj.cells #[Value.int IntKind.i64 0, Value.int IntKind.i64 0, Value.int IntKind.i64 0, Value.int IntKind.i64 0] 114)
  rw [hV] at b0
  have b1 := blk_new (w.alloc (Obj.cells #[Value.int IntKind.i64 W, Value.int IntKind.i64 H, Value.int IntKind.i64 Wa, Value.slice (some a0) l.length c] 45)) (Obj.cells #[Value.int IntKind.i64 0, Value.int IntKind.i64 0, Value.int IntKind.i64 0, Value.int IntKind.i64 0] 114)
  rw [hV] at b1
  have z1 : (w.alloc (Obj.cells #[Value.int IntKind.i64 W, Value.int IntKind.i64 H, Value.int IntKind.i64 Wa, Value.slice (some a0) l.length c] 45)).heap.size = w.heap.size + 1 := by simp
  rw [z1] at b1
  rw [hV]
  clear hV z1
  have x3 := blk_cell b0 3
  simp only [List.getElem?_toArray, List.getElem?_cons_succ, List.getElem?_cons_zero] at x3
  replace c0 := pw_cell_below hB c0
  replace c1 := pw_cell_below hB c1
  replace c2 := pw_cell_below hB c2
  replace c3 := pw_cell_below hB c3
  have p0 : 0 ≤ k + 1 := by omega
  have p1 : 0 ≤ d + 1 := by omega
  have p2 : k < (l.length : Int) := by omega
  have p3 : d < (l.length : Int) := by omega
  have hw1' : IntKind.i64.wrap (k + 1) = k + 1 := (i64_w _).trans hw1
  have hw2' : IntKind.i64.wrap (d + 1) = d + 1 := (i64_w _).trans hw2
  go_still_tail 27, (by kernel_rfl)
  change wpList _ _ _ _ _ V.drew
  replace b1 := blk_drew b1
  replace hB := below_drew hB
  generalize V.drew = V2 at b1 hB ⊢
  have f1 := blk_frozen b1
  have g0 := blk_cell b1 0
  have g1 := blk_cell b1 1
  have g2 := blk_cell b1 2
  have g3 := blk_cell b1 3
  simp only [List.getElem?_toArray, List.getElem?_cons_succ, List.getElem?_cons_zero] at g0 g1 g2 g3
  clear c0 c1 c2 c3 x3 b0 hk' hd' hw1' hw2' hr
  simp only [i64_w]
  go_wp2
  have e := blk_set (blk_set (blk_set (blk_set b1 0 (.int .i64 (wrap64 (rd l k)))) 1 (.int .i64 (wrap64 (rd l (k + 1))))) 2 (.int .i64 (wrap64 (rd l d)))) 3 (.int .i64 (wrap64 (rd l (d + 1))))
  have hB3 := below_set (j := 3) (v := .int .i64 (wrap64 (rd l (d + 1)))) (below_set (j := 2) (v := .int .i64 (wrap64 (rd l d))) (below_set (j := 1) (v := .int .i64 (wrap64 (rd l (k + 1)))) (below_set (j := 0) (v := .int .i64 (wrap64 (rd l k))) hB (Nat.le_succ _)) (Nat.le_succ _)) (Nat.le_succ _)) (Nat.le_succ _)
  generalize (((V2.setCell ⟨w.heap.size + 1, 0, none⟩ (.int .i64 (wrap64 (rd l k)))).setCell ⟨w.heap.size + 1, 1, none⟩ (.int .i64 (wrap64 (rd l (k + 1))))).setCell ⟨w.heap.size + 1, 2, none⟩ (.int .i64 (wrap64 (rd l d)))).setCell ⟨w.heap.size + 1, 3, none⟩ (.int .i64 (wrap64 (rd l (d + 1)))) = V3 at e hB3 ⊢
  have y0 := blk_cell e 0
  have y1 := blk_cell e 1
  have y2 := blk_cell e 2
  have y3 := blk_cell e 3
  simp only [List.setIfInBounds_toArray, List.set_cons_zero, List.set_cons_succ, List.getElem?_toArray, List.getElem?_cons_succ, List.getElem?_cons_zero] at y0 y1 y2 y3
  exact bodyPost_ret (v := .agg #[.int .i64 (wrap64 (rd l k)), .int .i64 (wrap64 (rd l (k + 1))), .int .i64 (wrap64 (rd l d)), .int .i64 (wrap64 (rd l (d + 1)))]) (by simp [results, Tryd.results89, go_sem, y0, y1, y2, y3]) rfl ⟨rfl, hB3⟩
end Go.Proofs.YtbcddiaplpbhjaaDoor.Am
namespace Go.Proofs.YtbcddiaplpbhjaaDoor.MAi
open Go.RowKit Go.Proofs.YtbcddiaplpbhjaaDoorW.PrintWords Go.Proofs.YtbcddiaplpbhjaaDoorW.PrintLast Go.Proofs.YtbcddiaplpbhjaaDoorW.PrintMore
attribute [local go_sem] max2_int min2_int max_two min_two max_three min_three max_four min_four
set_option linter.unusedVariables false
set_option linter.unusedSimpArgs false
def errW : Option Int → Value
  | none => .nilIface
  | some c => .iface 0 (.int .i64 c)
theorem errW_none : errW none = .nilIface := rfl
theorem errW_some (c : Int) : errW (some c) = .iface 0 (.int .i64 c) := rfl
theorem info5 : (Tryd.prog.info? 5).map (fun i => (i.zero, i.size, i.bytes)) = some (some (.int .u8 0), 1, 1) := by kernel_rfl
end Go.Proofs.YtbcddiaplpbhjaaDoor.MAi
namespace Go.Proofs.YtbcddiaplpbhjaaDoor.MAi
open Go.RowKit Go.Proofs.YtbcddiaplpbhjaaDoorW.PrintWords Go.Proofs.YtbcddiaplpbhjaaDoorW.PrintLast Go.Proofs.YtbcddiaplpbhjaaDoorW.PrintMore
attribute [local go_sem] max2_int min2_int max_two min_two max_three min_three max_four min_four
set_option linter.unusedVariables false
set_option linter.unusedSimpArgs false
noncomputable def trig_Heading.f (x y : Int) : Option (Int × Int) := if Tg.farB x = true then some (0, 8) else if Tg.farB y = true then some (0, 8) else some (Tr.headP x y, 0)
theorem trig_Heading.calls (a0 a1 r1 r2 : Int) (w : World) (hT_ : Tg.Tab w) (h : trig_Heading.f a0 a1 = some (r1, r2)) : Calls Tryd.prog 36 #[.int .i64 a0, .int .i64 a1] w fun e w' => e = .returned (.tuple #[.int .i64 r1, .int .i64 r2]) ∧ Below w.heap.size w w' := by
  unfold trig_Heading.f at h
  split at h
  · rename_i hx
    obtain ⟨rfl, rfl⟩ := Prod.mk.inj (Option.some.inj h)
    exact Tg.heading_far a0 a1 w (.inl hx)
  · split at h
    · rename_i hx
      obtain ⟨rfl, rfl⟩ := Prod.mk.inj (Option.some.inj h)
      exact Tg.heading_far a0 a1 w (.inr hx)
    · rename_i hx hy
      obtain ⟨rfl, rfl⟩ := Prod.mk.inj (Option.some.inj h)
      exact Tg.heading_any a0 a1 w hT_ (by simpa using hx) (by simpa using hy)
noncomputable def trig_far.f (a0 : Int) : Option (Bool) := if a0 < (-1073741824) then (some true) else (some (decide (a0 > 1073741824)))
set_option maxHeartbeats 8000000 in
set_option maxRecDepth 100000 in
theorem trig_far.calls (a0 : Int) (r : Bool) (w : World) (h : trig_far.f a0 = some r) :
    Calls Tryd.prog 65 #[.int .i64 a0] w fun e w' => e = .returned (.bool r) ∧ Drawn0 w w' := by
  have H : (if a0 < (-1073741824) then (some true) else (some (decide (a0 > 1073741824)))) = some r := h
  clear h
  by_cases c2 : a0 < (-1073741824)
  · rw [if_pos c2] at H
    have c2b0 : decide (a0 < (-1073741824)) = true := decide_eq_true c2
    clear c2
    obtain rfl := Option.some.inj H
    go_enter Tryd.func65, Tryd.ntmps65
    go_wp2
    go_ret
    exact ⟨by first | rfl | (simp; done) | (simp [*]; done), by repeat (first | exact Drawn0.refl _ | apply Drawn0.step)⟩
  · rw [if_neg c2] at H
    have c2b0 : decide (a0 < (-1073741824)) = false := decide_eq_false c2
    clear c2
    obtain rfl := Option.some.inj H
    go_enter Tryd.func65, Tryd.ntmps65
    go_wp2
    go_ret
    exact ⟨by first | rfl | (simp; done) | (simp [*]; done), by repeat (first | exact Drawn0.refl _ | apply Drawn0.step)⟩
noncomputable def trig_Cos.f (a : Int) : Option Int := some (Tr.cosA a)
theorem trig_Cos.calls (a0 r : Int) (w : World) (hT_ : Tg.Tab w) (h : trig_Cos.f a0 = some r) : Calls Tryd.prog 67 #[.int .i64 a0] w fun e w' => e = .returned (.int .i64 r) ∧ Below w.heap.size w w' := by
  obtain rfl := Option.some.inj h
  exact (Tg.cos_any a0 w hT_).mono fun e w' q => ⟨q.1, q.2 ▸ Below.refl _ _⟩
noncomputable def trig_Sin.f (a : Int) : Option Int := some (Tr.sinA a)
theorem trig_Sin.calls (a0 r : Int) (w : World) (hT_ : Tg.Tab w) (h : trig_Sin.f a0 = some r) : Calls Tryd.prog 68 #[.int .i64 a0] w fun e w' => e = .returned (.int .i64 r) ∧ Below w.heap.size w w' := by
  obtain rfl := Option.some.inj h
  exact (Tg.sin_any a0 w hT_).mono fun e w' q => ⟨q.1, q.2 ▸ Below.refl _ _⟩
noncomputable def num_MulDiv.f (a b c : Int) : Option (Int × Int) := if fits a then (if fits b then (if fits c then some (mulDiv a b c) else none) else none) else none
theorem num_MulDiv.calls (a0 a1 a2 : Int) (r1 r2 : Int) (w : World) (h : num_MulDiv.f a0 a1 a2 = some (r1, r2)) :
    Calls Tryd.prog 81 #[.int .i64 a0, .int .i64 a1, .int .i64 a2] w fun e w' => e = .returned (.tuple #[.int .i64 r1, .int .i64 r2]) ∧ Below w.heap.size w w' := by
  unfold num_MulDiv.f at h
  split at h
  · split at h
    · split at h
      · rename_i h1 h2 h3
        have e := Option.some.inj h
        have c := mulDiv_any a0 a1 a2 w h1 h2 h3
        rw [e] at c
        exact c
      · cases h
    · cases h
  · cases h
noncomputable def fix_Mul.f (a0 : Int) (a1 : Int) : Option (Int × Int) := (num_MulDiv.f a0 a1 65536).bind fun bt101 => (some (bt101.1, bt101.2))
set_option maxHeartbeats 8000000 in
set_option maxRecDepth 100000 in
theorem fix_Mul.calls (a0 : Int) (a1 : Int) (r1 : Int) (r2 : Int) (w : World) (h : fix_Mul.f a0 a1 = some (r1, r2)) :
    Calls Tryd.prog 70 #[.int .i64 a0, .int .i64 a1] w fun e w' => e = .returned (.tuple #[.int .i64 r1, .int .i64 r2]) ∧ Below w.heap.size w w' := by
  have HB := Aside0.mk (Below.refl w.heap.size w)
  have H : ((num_MulDiv.f a0 a1 65536).bind fun bt101 => (some (bt101.1, bt101.2))) = some (r1, r2) := h
  clear h
  replace H := Option.bind_eq_some_iff.mp H
  obtain ⟨⟨t101, t102⟩, A30, H⟩ := H
  replace H : (some (t101, t102)) = some (r1, r2) := H
  have A3 := Aside0.mk A30
  clear A30
  simp only [Option.some.injEq, Prod.mk.injEq] at H
  obtain ⟨rfl, rfl⟩ := H
  go_enter Tryd.func70, Tryd.ntmps70
  go_wp2_with (first | ((with_reducible refine gate_callee (f := 81) rfl ?_); refine goesL_ (some 8) rfl rfl Tryd.func81 (by kernel_rfl) rfl #[.int .i64 a0, .int .i64 a1, .int .i64 65536] rfl (by (try simp only [List.map_toArray, List.map_cons, List.map_nil]); first | done | rfl | (simp only [List.length_drop, List.length_take]; rfl)) ?_; (with_reducible refine (num_MulDiv.calls a0 a1 65536 t101 t102 _ A3.out).mono ?_); rintro e w4 ⟨rfl, hb⟩; refine ⟨_, rfl, ?_⟩; have n0_ := Aside0.mk (below_step (by repeat (first | (with_reducible first | exact HB.out | apply below_alloc | apply pw_below_drewN | apply below_drew1) | exact HB.out)) hb); clear HB; have HB := n0_; clear n0_; (try clear hb); (try clear hb2); (try clear hk); (try clear hi)))
  go_ret2
  exact ⟨by first | rfl | (simp [errW_none, errW_some] <;> rfl) | (simp [*, errW_none, errW_some] <;> rfl), by repeat (first | (with_reducible first | exact HB.out | apply below_alloc | apply pw_below_drewN | apply below_drew1) | exact HB.out)⟩
noncomputable def trig_Vec.f (a0 : Int) (a1 : Int) : Option (Int × Int × Int) := (trig_far.f a1).bind fun t103 => (if t103 = true then (some (0, 0, 8)) else ((trig_Cos.f a0).bind fun t104 => ((fix_Mul.f a1 t104).bind fun bt105 => ((trig_Sin.f a0).bind fun t107 => ((fix_Mul.f a1 t107).bind fun bt108 => (some (bt105.1, bt108.1, 0)))))))
set_option maxHeartbeats 8000000 in
set_option maxRecDepth 100000 in
theorem trig_Vec.calls (a0 : Int) (a1 : Int) (r1 : Int) (r2 : Int) (r3 : Int) (w : World) (hT_ : Tg.Tab w) (h : trig_Vec.f a0 a1 = some (r1, r2, r3)) :
    Calls Tryd.prog 39 #[.int .i64 a0, .int .i64 a1] w fun e w' => e = .returned (.tuple #[.int .i64 r1, .int .i64 r2, .int .i64 r3]) ∧ Below w.heap.size w w' := by
  have HB := Aside0.mk (Below.refl w.heap.size w)
  have HTAB := Aside0.mk hT_
  clear hT_
  have H : ((trig_far.f a1).bind fun t103 => (if t103 = true then (some (0, 0, 8)) else ((trig_Cos.f a0).bind fun t104 => ((fix_Mul.f a1 t104).bind fun bt105 => ((trig_Sin.f a0).bind fun t107 => ((fix_Mul.f a1 t107).bind fun bt108 => (some (bt105.1, bt108.1, 0)))))))) = some (r1, r2, r3) := h
  clear h
  replace H := Option.bind_eq_some_iff.mp H
  obtain ⟨t103, A30, H⟩ := H
  replace H : (if t103 = true then (some (0, 0, 8)) else ((trig_Cos.f a0).bind fun t104 => ((fix_Mul.f a1 t104).bind fun bt105 => ((trig_Sin.f a0).bind fun t107 => ((fix_Mul.f a1 t107).bind fun bt108 => (some (bt105.1, bt108.1, 0))))))) = some (r1, r2, r3) := H
  have A3 := Aside0.mk A30
  clear A30
  by_cases c4 : t103 = true
  · subst c4
    have H1 : (some (0, 0, 8)) = some (r1, r2, r3) := by rw [if_pos rfl] at H; exact H
    clear H
    have H := H1
    clear H1
    simp only [Option.some.injEq, Prod.mk.injEq] at H
    obtain ⟨rfl, rfl, rfl⟩ := H
    go_enter Tryd.func39, Tryd.ntmps39
    go_wp2_with (first | ((with_reducible refine gate_callee (f := 65) rfl ?_); refine goesL_ (some 12) rfl rfl Tryd.func65 (by kernel_rfl) rfl #[.int .i64 a1] rfl (by (try simp only [List.map_toArray, List.map_cons, List.map_nil]); first | done | rfl | (simp only [List.length_drop, List.length_take]; rfl)) ?_; (with_reducible refine (trig_far.calls a1 true _ A3.out).mono ?_); rintro e w' ⟨rfl, ⟨nd, rfl⟩⟩; refine ⟨_, rfl, ?_⟩))
    go_ret3
    exact ⟨by first | rfl | (simp [errW_none, errW_some] <;> rfl) | (simp [*, errW_none, errW_some] <;> rfl), by repeat (first | (with_reducible first | exact HB.out | apply below_alloc | apply pw_below_drewN | apply below_drew1) | exact HB.out)⟩
  · replace c4 := Bool.eq_false_iff.mpr c4
    subst c4
    have H1 : ((trig_Cos.f a0).bind fun t104 => ((fix_Mul.f a1 t104).bind fun bt105 => ((trig_Sin.f a0).bind fun t107 => ((fix_Mul.f a1 t107).bind fun bt108 => (some (bt105.1, bt108.1, 0)))))) = some (r1, r2, r3) := by rw [if_neg (show ¬ (false = true) by decide)] at H; exact H
    clear H
    have H := H1
    clear H1
    replace H := Option.bind_eq_some_iff.mp H
    obtain ⟨t104, A50, H⟩ := H
    replace H : ((fix_Mul.f a1 t104).bind fun bt105 => ((trig_Sin.f a0).bind fun t107 => ((fix_Mul.f a1 t107).bind fun bt108 => (some (bt105.1, bt108.1, 0))))) = some (r1, r2, r3) := H
    have A5 := Aside0.mk A50
    clear A50
    replace H := Option.bind_eq_some_iff.mp H
    obtain ⟨⟨t105, t106⟩, A60, H⟩ := H
    replace H : ((trig_Sin.f a0).bind fun t107 => ((fix_Mul.f a1 t107).bind fun bt108 => (some (t105, bt108.1, 0)))) = some (r1, r2, r3) := H
    have A6 := Aside0.mk A60
    clear A60
    replace H := Option.bind_eq_some_iff.mp H
    obtain ⟨t107, A70, H⟩ := H
    replace H : ((fix_Mul.f a1 t107).bind fun bt108 => (some (t105, bt108.1, 0))) = some (r1, r2, r3) := H
    have A7 := Aside0.mk A70
    clear A70
    replace H := Option.bind_eq_some_iff.mp H
    obtain ⟨⟨t108, t109⟩, A80, H⟩ := H
    replace H : (some (t105, t108, 0)) = some (r1, r2, r3) := H
    have A8 := Aside0.mk A80
    clear A80
    simp only [Option.some.injEq, Prod.mk.injEq] at H
    obtain ⟨rfl, rfl, rfl⟩ := H
    go_enter Tryd.func39, Tryd.ntmps39
    go_wp2_with (first | ((with_reducible refine gate_callee (f := 65) rfl ?_); refine goesL_ (some 12) rfl rfl Tryd.func65 (by kernel_rfl) rfl #[.int .i64 a1] rfl (by (try simp only [List.map_toArray, List.map_cons, List.map_nil]); first | done | rfl | (simp only [List.length_drop, List.length_take]; rfl)) ?_; (with_reducible refine (trig_far.calls a1 false _ A3.out).mono ?_); rintro e w' ⟨rfl, ⟨nd, rfl⟩⟩; refine ⟨_, rfl, ?_⟩) | ((with_reducible refine gate_callee (f := 67) rfl ?_); refine goesL_ (some 16) rfl rfl Tryd.func67 (by kernel_rfl) rfl #[.int .i64 a0] rfl (by (try simp only [List.map_toArray, List.map_cons, List.map_nil]); first | done | rfl | (simp only [List.length_drop, List.length_take]; rfl)) ?_; (with_reducible refine (trig_Cos.calls a0 t104 _ ?side1 A5.out).mono ?_); (case side1 => exact Tg.Tab.below HTAB.out (by repeat (first | (with_reducible first | exact HB.out | apply below_alloc | apply pw_below_drewN | apply below_drew1) | exact HB.out))); rintro e w9 ⟨rfl, hb⟩; refine ⟨_, rfl, ?_⟩; have n0_ := Aside0.mk (below_step (by repeat (first | (with_reducible first | exact HB.out | apply below_alloc | apply pw_below_drewN | apply below_drew1) | exact HB.out)) hb); clear HB; have HB := n0_; clear n0_; (try clear hb); (try clear hb2); (try clear hk); (try clear hi)) | ((with_reducible refine gate_callee (f := 70) rfl ?_); refine goesL_ (some 17) rfl rfl Tryd.func70 (by kernel_rfl) rfl #[.int .i64 a1, .int .i64 t104] rfl (by (try simp only [List.map_toArray, List.map_cons, List.map_nil]); first | done | rfl | (simp only [List.length_drop, List.length_take]; rfl)) ?_; (with_reducible refine (fix_Mul.calls a1 t104 t105 t106 _ A6.out).mono ?_); rintro e w10 ⟨rfl, hb⟩; refine ⟨_, rfl, ?_⟩; have n0_ := Aside0.mk (below_step (by repeat (first | (with_reducible first | exact HB.out | apply below_alloc | apply pw_below_drewN | apply below_drew1) | exact HB.out)) hb); clear HB; have HB := n0_; clear n0_; (try clear hb); (try clear hb2); (try clear hk); (try clear hi)) | ((with_reducible refine gate_callee (f := 68) rfl ?_); refine goesL_ (some 23) rfl rfl Tryd.func68 (by kernel_rfl) rfl #[.int .i64 a0] rfl (by (try simp only [List.map_toArray, List.map_cons, List.map_nil]); first | done | rfl | (simp only [List.length_drop, List.length_take]; rfl)) ?_; (with_reducible refine (trig_Sin.calls a0 t107 _ ?side1 A7.out).mono ?_); (case side1 => exact Tg.Tab.below HTAB.out (by repeat (first | (with_reducible first | exact HB.out | apply below_alloc | apply pw_below_drewN | apply below_drew1) | exact HB.out))); rintro e w11 ⟨rfl, hb⟩; refine ⟨_, rfl, ?_⟩; have n0_ := Aside0.mk (below_step (by repeat (first | (with_reducible first | exact HB.out | apply below_alloc | apply pw_below_drewN | apply below_drew1) | exact HB.out)) hb); clear HB; have HB := n0_; clear n0_; (try clear hb); (try clear hb2); (try clear hk); (try clear hi)) | ((with_reducible refine gate_callee (f := 70) rfl ?_); refine goesL_ (some 24) rfl rfl Tryd.func70 (by kernel_rfl) rfl #[.int .i64 a1, .int .i64 t107] rfl (by (try simp only [List.map_toArray, List.map_cons, List.map_nil]); first | done | rfl | (simp only [List.length_drop, List.length_take]; rfl)) ?_; (with_reducible refine (fix_Mul.calls a1 t107 t108 t109 _ A8.out).mono ?_); rintro e w12 ⟨rfl, hb⟩; refine ⟨_, rfl, ?_⟩; have n0_ := Aside0.mk (below_step (by repeat (first | (with_reducible first | exact HB.out | apply below_alloc | apply pw_below_drewN | apply below_drew1) | exact HB.out)) hb); clear HB; have HB := n0_; clear n0_; (try clear hb); (try clear hb2); (try clear hk); (try clear hi)))
    go_ret3
    exact ⟨by first | rfl | (simp [errW_none, errW_some] <;> rfl) | (simp [*, errW_none, errW_some] <;> rfl), by repeat (first | (with_reducible first | exact HB.out | apply below_alloc | apply pw_below_drewN | apply below_drew1) | exact HB.out)⟩
noncomputable def aim_fast.f (a0 : Int) : Option (Bool) := if a0 ≥ 1 then (some (decide (a0 ≤ 262144))) else (some false)
set_option maxHeartbeats 8000000 in
set_option maxRecDepth 100000 in
theorem aim_fast.calls (a0 : Int) (r : Bool) (w : World) (h : aim_fast.f a0 = some r) :
    Calls Tryd.prog 50 #[.int .i64 a0] w fun e w' => e = .returned (.bool r) ∧ Drawn0 w w' := by
  have H : (if a0 ≥ 1 then (some (decide (a0 ≤ 262144))) else (some false)) = some r := h
  clear h
  by_cases c2 : a0 ≥ 1
  · rw [if_pos c2] at H
    have c2b0 : decide (1 ≤ a0) = true := decide_eq_true c2
    clear c2
    obtain rfl := Option.some.inj H
    go_enter Tryd.func50, Tryd.ntmps50
    go_wp2
    go_ret
    exact ⟨by first | rfl | (simp; done) | (simp [*]; done), by repeat (first | exact Drawn0.refl _ | apply Drawn0.step)⟩
  · rw [if_neg c2] at H
    have c2b0 : decide (1 ≤ a0) = false := decide_eq_false c2
    clear c2
    obtain rfl := Option.some.inj H
    go_enter Tryd.func50, Tryd.ntmps50
    go_wp2
    go_ret
    exact ⟨by first | rfl | (simp; done) | (simp [*]; done), by repeat (first | exact Drawn0.refl _ | apply Drawn0.step)⟩
noncomputable def aim_inside.l0 : Nat → List Int → Int → Int → Option (Bool)
  | 0, _, _, _ => none
  | k + 1, x5, x6, x7 => if x7 < x6 then (if 0 ≤ x7 then (if x7 < (x5.length : Int) then (if (rd x5 x7) < 0 then (some false) else (if (rd x5 x7) > 4194304 then (some false) else (aim_inside.l0 k x5 x6 (wrap64 (x7 + 1))))) else (none)) else (none)) else (some true)
noncomputable def aim_inside.f (k : Nat) (l0 : List Int) : Option (Bool) := aim_inside.l0 k l0 (l0.length : Int) 0
theorem aim_inside.mono_l : ∀ k, (∀ y0 y1 y2, LeO (aim_inside.l0 k y0 y1 y2) (aim_inside.l0 (k + 1) y0 y1 y2))
  | 0 => fun _ _ _ r h => by simp [aim_inside.l0] at h
  | k + 1 => by
    have ih0 := aim_inside.mono_l k
    · intro y0 y1 y2
      unfold aim_inside.l0
      repeat' first
      | (with_reducible exact ih0 _ _ _)
      | (with_reducible exact LeO.refl _)
      | (with_reducible exact LeO.none _)
      | (with_reducible refine LeO.ite ?_ ?_)
      | (with_reducible refine LeO.bind ?_ (fun _ => ?_))
      | exact ih0 _ _ _
      | exact LeO.none _
      | refine LeO.ite ?_ ?_
      | refine LeO.bind ?_ (fun _ => ?_)
theorem aim_inside.mono : ∀ a0 k, LeO (aim_inside.f k a0) (aim_inside.f (k + 1) a0) := by
  intro a0 k
  have ih0 := aim_inside.mono_l k
  unfold aim_inside.f
  repeat' first
      | (with_reducible exact ih0 _ _ _)
      | (with_reducible exact LeO.refl _)
      | (with_reducible exact LeO.none _)
      | (with_reducible refine LeO.ite ?_ ?_)
      | (with_reducible refine LeO.bind ?_ (fun _ => ?_))
      | exact ih0 _ _ _
      | exact LeO.none _
      | refine LeO.ite ?_ ?_
      | refine LeO.bind ?_ (fun _ => ?_)
set_option maxHeartbeats 8000000 in
set_option maxRecDepth 100000 in
theorem aim_inside.calls (k : Nat) (A0 : Option Addr) (c0 : Nat) (l0 : List Int) (r : Bool) (w : World) (hr0 : Kd.C (Kd.int .i64) w A0 l0.length l0) (hc0 : l0.length ≤ c0) (h : aim_inside.f k l0 = some r) :
    Calls Tryd.prog 51 #[.slice A0 l0.length c0] w fun e w' => e = .returned (.bool r) ∧ Drawn0 w w' := by
  have HR0 := Aside0.mk hr0
  have HC0 := Aside0.mk hc0
  clear hr0 hc0
  have H : (aim_inside.l0 k l0 (l0.length : Int) 0) = some r := h
  clear h
  have H' := Aside0.mk H
  clear H
  go_enter Tryd.func51, Tryd.ntmps51
  go_wp2
  go_loopg [7] k (fun kq v7 w' => ∃ (x7_1 : Int), v7 = .int .i64 x7_1 ∧ Aside0 (aim_inside.l0 kq l0 (l0.length : Int) x7_1 = some r) ∧ Aside0 (kq ≤ k) ∧ Drawn0 w w')
  case atStart => exact ⟨(0), (by first | rfl | (simp; done) | (simp [*]; done)), H', ⟨Nat.le_refl _⟩, by repeat (first | exact Drawn0.refl _ | apply Drawn0.step)⟩
  case round =>
    clear H'
    obtain ⟨x7_1, rfl, HA, HK1, ⟨m1, rfl⟩⟩ := hrel
    cases gk with
    | zero => exact absurd HA.out (by simp [aim_inside.l0])
    | succ k1 =>
      have H := HA.out
      clear HA
      simp only [aim_inside.l0] at H
      by_cases c2 : x7_1 < (l0.length : Int)
      · rw [if_pos c2] at H
        have c2b0 : decide (x7_1 < (l0.length : Int)) = true := decide_eq_true c2
        clear c2
        by_cases c3 : 0 ≤ x7_1
        · rw [if_pos c3] at H
          have c3b0 : decide (0 ≤ x7_1) = true := decide_eq_true c3
          clear c3
          by_cases c4 : x7_1 < (l0.length : Int)
          · rw [if_pos c4] at H
            have c4b0 : decide (x7_1 < (l0.length : Int)) = true := decide_eq_true c4
            clear c4
            by_cases c5 : (rd l0 x7_1) < 0
            · rw [if_pos c5] at H
              have c5b0 : decide ((rd l0 x7_1) < 0) = true := decide_eq_true c5
              clear c5
              obtain rfl := Option.some.inj H
              have p110 : 0 ≤ (x7_1 : Int) := of_decide_eq_true (by first | (with_reducible assumption) | assumption)
              have q110 : x7_1 < (l0.length : Int) := of_decide_eq_true (by first | (with_reducible assumption) | assumption)
              obtain ⟨ad110, e110, hx110_0⟩ := Kd.at_int HR0.out x7_1 p110 q110
              cases e110
              replace p110 := eq_true p110
              replace q110 := eq_true q110
              go_wp2
              go_ret
              exact ⟨by first | rfl | (simp; done) | (simp [*]; done), by repeat (first | exact Drawn0.refl _ | apply Drawn0.step)⟩
            · rw [if_neg c5] at H
              have c5b0 : decide ((rd l0 x7_1) < 0) = false := decide_eq_false c5
              clear c5
              by_cases c6 : (rd l0 x7_1) > 4194304
              · rw [if_pos c6] at H
                have c6b0 : decide (4194304 < (rd l0 x7_1)) = true := decide_eq_true c6
                clear c6
                obtain rfl := Option.some.inj H
                have p110 : 0 ≤ (x7_1 : Int) := of_decide_eq_true (by first | (with_reducible assumption) | assumption)
                have q110 : x7_1 < (l0.length : Int) := of_decide_eq_true (by first | (with_reducible assumption) | assumption)
                obtain ⟨ad110, e110, hx110_0⟩ := Kd.at_int HR0.out x7_1 p110 q110
                cases e110
                replace p110 := eq_true p110
                replace q110 := eq_true q110
                go_wp2
                go_ret
                exact ⟨by first | rfl | (simp; done) | (simp [*]; done), by repeat (first | exact Drawn0.refl _ | apply Drawn0.step)⟩
              · rw [if_neg c6] at H
                have c6b0 : decide (4194304 < (rd l0 x7_1)) = false := decide_eq_false c6
                clear c6
                have H' := Aside0.mk H
                clear H
                have p110 : 0 ≤ (x7_1 : Int) := of_decide_eq_true (by first | (with_reducible assumption) | assumption)
                have q110 : x7_1 < (l0.length : Int) := of_decide_eq_true (by first | (with_reducible assumption) | assumption)
                obtain ⟨ad110, e110, hx110_0⟩ := Kd.at_int HR0.out x7_1 p110 q110
                cases e110
                replace p110 := eq_true p110
                replace q110 := eq_true q110
                go_wp2
                go_roundg k1
                case measure => have := HK1.out; omega
                case rel => exact ⟨(wrap64 (x7_1 + 1)), (by first | rfl | (simp; done) | (simp [*]; done)), H', ⟨by have := HK1.out; omega⟩, by repeat (first | exact Drawn0.refl _ | apply Drawn0.step)⟩
          · rw [if_neg c4] at H
            exact absurd H (by simp)
        · rw [if_neg c3] at H
          exact absurd H (by simp)
      · rw [if_neg c2] at H
        have c2b0 : decide (x7_1 < (l0.length : Int)) = false := decide_eq_false c2
        clear c2
        obtain rfl := Option.some.inj H
        go_wp2
        go_ret
        exact ⟨by first | rfl | (simp; done) | (simp [*]; done), by repeat (first | exact Drawn0.refl _ | apply Drawn0.step)⟩
noncomputable def aim_Shot.j0 : Nat → Int → Int → Int → Int → Bool → Int → Int → Int → Int → Int → Int → Option (Int × Int × Int × Int × Int × Int × Int)
  | 0, _, _, _, _, _, _, _, _, _, _, _ => none
  | k + 1, x1, x2, x3, x4, x41, x112000, x112001, x112002, x112003, x112004, x112005 => if x41 = true then (some (0, 0, 0, 0, 0, 0, 1)) else ((trig_Heading.f (wrap64 (x1 - x112000)) (wrap64 (x2 - x112001))).bind fun bt118 => ((trig_Vec.f (wrap64 (x4 * 256)) x3).bind fun bt120 => ((trig_Vec.f (wrap64 (bt118.1 * 256)) bt120.1).bind fun bt123 => (some (x112000, x112001, x112002, bt123.1, bt123.2.1, bt120.2.1, 0)))))
noncomputable def aim_Shot.f (k : Nat) (a0_0 : Int) (a0_1 : Int) (a0_2 : Int) (a0_3 : Int) (a0_4 : Int) (a0_5 : Int) (a1 : Int) (a2 : Int) (a3 : Int) (a4 : Int) : Option (Int × Int × Int × Int × Int × Int × Int) := if a4 < 0 then (aim_Shot.j0 k a1 a2 a3 a4 true a0_0 a0_1 a0_2 a0_3 a0_4 a0_5) else (if a4 ≥ 65 then (aim_Shot.j0 k a1 a2 a3 a4 true a0_0 a0_1 a0_2 a0_3 a0_4 a0_5) else ((aim_fast.f a3).bind fun t113 => (if t113 = true then ((aim_inside.f k (([a0_0, a0_1, a1, a2] : List Int))).bind fun t117 => (aim_Shot.j0 k a1 a2 a3 a4 (!t117) a0_0 a0_1 a0_2 a0_3 a0_4 a0_5)) else (aim_Shot.j0 k a1 a2 a3 a4 true a0_0 a0_1 a0_2 a0_3 a0_4 a0_5))))
theorem aim_Shot.mono_l : ∀ k, (∀ y0 y1 y2 y3 y4 y5 y6 y7 y8 y9 y10, LeO (aim_Shot.j0 k y0 y1 y2 y3 y4 y5 y6 y7 y8 y9 y10) (aim_Shot.j0 (k + 1) y0 y1 y2 y3 y4 y5 y6 y7 y8 y9 y10))
  | 0 => fun _ _ _ _ _ _ _ _ _ _ _ r h => by simp [aim_Shot.j0] at h
  | k + 1 => by
    have ih0 := aim_Shot.mono_l k
    · intro y0 y1 y2 y3 y4 y5 y6 y7 y8 y9 y10
      unfold aim_Shot.j0
      repeat' first
      | (with_reducible exact ih0 _ _ _ _ _ _ _ _ _ _ _)
      | (with_reducible exact aim_inside.mono _ _)
      | (with_reducible exact LeO.refl _)
      | (with_reducible exact LeO.none _)
      | (with_reducible refine LeO.ite ?_ ?_)
      | (with_reducible refine LeO.bind ?_ (fun _ => ?_))
      | exact ih0 _ _ _ _ _ _ _ _ _ _ _
      | exact aim_inside.mono _ _
      | exact LeO.none _
      | refine LeO.ite ?_ ?_
      | refine LeO.bind ?_ (fun _ => ?_)
theorem aim_Shot.mono : ∀ a0 a1 a2 a3 a4 a5 a6 a7 a8 a9 k, LeO (aim_Shot.f k a0 a1 a2 a3 a4 a5 a6 a7 a8 a9) (aim_Shot.f (k + 1) a0 a1 a2 a3 a4 a5 a6 a7 a8 a9) := by
  intro a0 a1 a2 a3 a4 a5 a6 a7 a8 a9 k
  have ih0 := aim_Shot.mono_l k
  unfold aim_Shot.f
  repeat' first
      | (with_reducible exact ih0 _ _ _ _ _ _ _ _ _ _ _)
      | (with_reducible exact aim_inside.mono _ _)
      | (with_reducible exact LeO.refl _)
      | (with_reducible exact LeO.none _)
      | (with_reducible refine LeO.ite ?_ ?_)
      | (with_reducible refine LeO.bind ?_ (fun _ => ?_))
      | exact ih0 _ _ _ _ _ _ _ _ _ _ _
      | exact aim_inside.mono _ _
      | exact LeO.none _
      | refine LeO.ite ?_ ?_
      | refine LeO.bind ?_ (fun _ => ?_)
set_option maxHeartbeats 8000000 in
set_option maxRecDepth 100000 in
theorem aim_Shot.calls (k : Nat) (a0_0 : Int) (a0_1 : Int) (a0_2 : Int) (a0_3 : Int) (a0_4 : Int) (a0_5 : Int) (a1 : Int) (a2 : Int) (a3 : Int) (a4 : Int) (r1 : Int) (r2 : Int) (r3 : Int) (r4 : Int) (r5 : Int) (r6 : Int) (r7 : Int) (w : World) (hT_ : Tg.Tab w) (h : aim_Shot.f k a0_0 a0_1 a0_2 a0_3 a0_4 a0_5 a1 a2 a3 a4 = some (r1, r2, r3, r4, r5, r6, r7)) :
    Calls Tryd.prog 20 #[.agg #[.int .i64 a0_0, .int .i64 a0_1, .int .i64 a0_2, .int .i64 a0_3, .int .i64 a0_4, .int .i64 a0_5], .int .i64 a1, .int .i64 a2, .int .i64 a3, .int .i64 a4] w fun e w' => e = .returned (.tuple #[.agg #[.int .i64 r1, .int .i64 r2, .int .i64 r3, .int .i64 r4, .int .i64 r5, .int .i64 r6], .int .i64 r7]) ∧ Below w.heap.size w w' := by
  have hu47 := Tryd.underlying47
  have HB := Aside0.mk (Below.refl w.heap.size w)
  have HTAB := Aside0.mk hT_
  clear hT_
  have H : (if a4 < 0 then (aim_Shot.j0 k a1 a2 a3 a4 true a0_0 a0_1 a0_2 a0_3 a0_4 a0_5) else (if a4 ≥ 65 then (aim_Shot.j0 k a1 a2 a3 a4 true a0_0 a0_1 a0_2 a0_3 a0_4 a0_5) else ((aim_fast.f a3).bind fun t113 => (if t113 = true then ((aim_inside.f k (([a0_0, a0_1, a1, a2] : List Int))).bind fun t117 => (aim_Shot.j0 k a1 a2 a3 a4 (!t117) a0_0 a0_1 a0_2 a0_3 a0_4 a0_5)) else (aim_Shot.j0 k a1 a2 a3 a4 true a0_0 a0_1 a0_2 a0_3 a0_4 a0_5))))) = some (r1, r2, r3, r4, r5, r6, r7) := h
  clear h
  have HC6 := Aside0.mk H
  clear H
  go_enter Tryd.func20, Tryd.ntmps20
  go_upto_region 1 with (first | ((with_reducible refine gate_dst (N := 5) rfl ?_); (try (refine gate_guard (by rfl) ?_; dsimp only)); refine box_event ?hg (N := 5) ?hd (cs := #[.int .i64 a0_0, .int .i64 a0_1, .int .i64 a0_2, .int .i64 a0_3, .int .i64 a0_4, .int .i64 a0_5]) (t := 47) ?hr ?_; (case hd => rfl); (case hg => rfl); (case hr => first | (go_simp; done) | (go_simp; rfl)); intro gb111 hg w7 hbox hb; have n0_ := Aside0.mk (below_step (by repeat (first | (with_reducible first | exact HB.out | apply below_alloc | apply pw_below_drewN | apply below_drew1) | exact HB.out)) hb); have n1_ := Aside0.mk (hbox); have n2_ := Aside0.mk ((by rw [hg]; exact (below_size (by repeat (first | (with_reducible first | exact HB.out | apply below_alloc | apply pw_below_drewN | apply below_drew1) | exact HB.out))) : w.heap.size ≤ gb111)); have n3_ := Aside0.mk ((by rw [hg]; exact (below_size (by repeat (first | (with_reducible first | exact HB.out | apply below_alloc | apply pw_below_drewN | apply below_drew1) | exact HB.out))) : w.heap.size ≤ gb111)); clear HB; have HB := n0_; have BK111 := n1_; have GW111 := n2_; have GE111 := n3_; clear n0_ n1_ n2_ n3_; clear hb hbox hg) | ((with_reducible refine gate_dst (N := 10) rfl ?_); (try (refine gate_guard (by rfl) ?_; dsimp only)); refine box_event ?hg (N := 10) ?hd (cs := #[.int .i64 0, .int .i64 0, .int .i64 0, .int .i64 0, .int .i64 0, .int .i64 0]) (t := 47) ?hr ?_; (case hd => rfl); (case hg => rfl); (case hr => first | (go_simp; done) | (go_simp; rfl)); intro gb112 hg w8 hbox hb; have n0_ := Aside0.mk (blk_below (g := gb111) (o := .cells #[.int .i64 a0_0, .int .i64 a0_1, .int .i64 a0_2, .int .i64 a0_3, .int .i64 a0_4, .int .i64 a0_5] 47 (0, 0)) (by (with_reducible repeat (first | refine blk_drewN ?_ _ | refine blk_drew ?_ | refine blk_alloc ?_ _)); exact BK111.out) hb); have n1_ := Aside0.mk (below_step (by repeat (first | (with_reducible first | exact HB.out | apply below_alloc | apply pw_below_drewN | apply below_drew1 | refine below_set ?_ GE111.out) | exact HB.out)) hb); have n2_ := Aside0.mk (hbox); have n3_ := Aside0.mk ((by rw [hg]; exact (below_size (by repeat (first | (with_reducible first | exact HB.out | apply below_alloc | apply pw_below_drewN | apply below_drew1 | refine below_set ?_ GE111.out) | exact HB.out))) : w.heap.size ≤ gb112)); have n4_ := Aside0.mk ((by rw [hg]; exact (below_size (by repeat (first | (with_reducible first | exact HB.out | apply below_alloc | apply pw_below_drewN | apply below_drew1 | refine below_set ?_ GE111.out) | exact HB.out))) : w.heap.size ≤ gb112)); have n5_ := Aside0.mk ((by rw [hg]; exact Nat.ne_of_lt (blk_lt (g := gb111) (o := .cells #[.int .i64 a0_0, .int .i64 a0_1, .int .i64 a0_2, .int .i64 a0_3, .int .i64 a0_4, .int .i64 a0_5] 47 (0, 0)) (by (with_reducible repeat (first | refine blk_drewN ?_ _ | refine blk_drew ?_ | refine blk_alloc ?_ _)); exact BK111.out)) : gb111 ≠ gb112)); have n6_ := Aside0.mk ((by rw [hg]; exact Nat.ne_of_gt (blk_lt (g := gb111) (o := .cells #[.int .i64 a0_0, .int .i64 a0_1, .int .i64 a0_2, .int .i64 a0_3, .int .i64 a0_4, .int .i64 a0_5] 47 (0, 0)) (by (with_reducible repeat (first | refine blk_drewN ?_ _ | refine blk_drew ?_ | refine blk_alloc ?_ _)); exact BK111.out)) : gb112 ≠ gb111)); clear BK111; clear HB; have BK111 := n0_; have HB := n1_; have BK112 := n2_; have GW112 := n3_; have GE112 := n4_; have NB111_112 := n5_; have NB112_111 := n6_; clear n0_ n1_ n2_ n3_ n4_ n5_ n6_; clear hb hbox hg))
  (try simp only [Act.put, List.setIfInBounds_toArray, List.set_cons_zero, List.set_cons_succ])
  go_cut [41] (fun v41 wc => ∃ (kq : Nat) (x41_5 : Bool), v41 = .bool x41_5 ∧ Aside0 (aim_Shot.j0 kq a1 a2 a3 a4 x41_5 a0_0 a0_1 a0_2 a0_3 a0_4 a0_5 = some (r1, r2, r3, r4, r5, r6, r7)) ∧ Aside0 (kq ≤ k) ∧ Aside0 (wc.heap[gb111]? = some (.cells #[.int .i64 a0_0, .int .i64 a0_1, .int .i64 a0_2, .int .i64 a0_3, .int .i64 a0_4, .int .i64 a0_5] 47 (0, 0))) ∧ Aside0 (wc.heap[gb112]? = some (.cells #[.int .i64 0, .int .i64 0, .int .i64 0, .int .i64 0, .int .i64 0, .int .i64 0] 47 (0, 0))) ∧ Aside0 (Below w.heap.size w wc))
  case first =>
    have H := HC6.out
    clear HC6
    by_cases c9 : a4 < 0
    · rw [if_pos c9] at H
      have c9b0 : decide (a4 < 0) = true := decide_eq_true c9
      clear c9
      (first | rw [c9b0] | (simp only [i64_w, i32_w]; rw [c9b0]) | skip)
      have H' := Aside0.mk H
      clear H
      go_wp2
      go_meet
      case rel => exact ⟨_, (true), (by first | rfl | (simp; done) | (simp [*]; done)), H', ⟨by first | omega | exact Nat.le_refl _⟩, ⟨by (with_reducible repeat (first | refine blk_drewN ?_ _ | refine blk_drew ?_ | refine blk_alloc ?_ _)); exact BK111.out⟩, ⟨by (with_reducible repeat (first | refine blk_drewN ?_ _ | refine blk_drew ?_ | refine blk_alloc ?_ _)); exact BK112.out⟩, ⟨by repeat (first | (with_reducible first | exact HB.out | apply below_alloc | apply pw_below_drewN | apply below_drew1 | refine below_set ?_ GE111.out | refine below_set ?_ GE112.out) | exact HB.out)⟩⟩
    · rw [if_neg c9] at H
      have c9b0 : decide (a4 < 0) = false := decide_eq_false c9
      clear c9
      (first | rw [c9b0] | (simp only [i64_w, i32_w]; rw [c9b0]) | skip)
      by_cases c10 : a4 ≥ 65
      · rw [if_pos c10] at H
        have c10b0 : decide (65 ≤ a4) = true := decide_eq_true c10
        clear c10
        have H' := Aside0.mk H
        clear H
        go_wp2
        go_meet
        case rel => exact ⟨_, (true), (by first | rfl | (simp; done) | (simp [*]; done)), H', ⟨by first | omega | exact Nat.le_refl _⟩, ⟨by (with_reducible repeat (first | refine blk_drewN ?_ _ | refine blk_drew ?_ | refine blk_alloc ?_ _)); exact BK111.out⟩, ⟨by (with_reducible repeat (first | refine blk_drewN ?_ _ | refine blk_drew ?_ | refine blk_alloc ?_ _)); exact BK112.out⟩, ⟨by repeat (first | (with_reducible first | exact HB.out | apply below_alloc | apply pw_below_drewN | apply below_drew1 | refine below_set ?_ GE111.out | refine below_set ?_ GE112.out) | exact HB.out)⟩⟩
      · rw [if_neg c10] at H
        have c10b0 : decide (65 ≤ a4) = false := decide_eq_false c10
        clear c10
        replace H := Option.bind_eq_some_iff.mp H
        obtain ⟨t113, A110, H⟩ := H
        replace H : (if t113 = true then ((aim_inside.f k (([a0_0, a0_1, a1, a2] : List Int))).bind fun t117 => (aim_Shot.j0 k a1 a2 a3 a4 (!t117) a0_0 a0_1 a0_2 a0_3 a0_4 a0_5)) else (aim_Shot.j0 k a1 a2 a3 a4 true a0_0 a0_1 a0_2 a0_3 a0_4 a0_5)) = some (r1, r2, r3, r4, r5, r6, r7) := H
        have A11 := Aside0.mk A110
        clear A110
        by_cases c12 : t113 = true
        · subst c12
          have H1 : ((aim_inside.f k (([a0_0, a0_1, a1, a2] : List Int))).bind fun t117 => (aim_Shot.j0 k a1 a2 a3 a4 (!t117) a0_0 a0_1 a0_2 a0_3 a0_4 a0_5)) = some (r1, r2, r3, r4, r5, r6, r7) := by rw [if_pos rfl] at H; exact H
          clear H
          have H := H1
          clear H1
          obtain ⟨y114, hy114⟩ : ∃ y_ : List Int, y_ = (([a0_0, a0_1, a1, a2] : List Int)) := ⟨_, rfl⟩
          replace H : ((aim_inside.f k y114).bind fun t117 => (aim_Shot.j0 k a1 a2 a3 a4 (!t117) a0_0 a0_1 a0_2 a0_3 a0_4 a0_5)) = some (r1, r2, r3, r4, r5, r6, r7) := by first | (rw [hy114]; with_reducible exact H) | (have H2_ := (Option.bind_some _ _).symm.trans H; rw [hy114]; with_reducible exact H2_) | (have H2_ := (Option.bind_some _ _).symm.trans H; with_reducible exact H2_) | with_reducible exact H | (rw [hy114]; exact H) | exact H
          have Ny114 := Aside0.mk hy114
          clear hy114
          replace H := Option.bind_eq_some_iff.mp H
          obtain ⟨t117, A130, H⟩ := H
          replace H : (aim_Shot.j0 k a1 a2 a3 a4 (!t117) a0_0 a0_1 a0_2 a0_3 a0_4 a0_5) = some (r1, r2, r3, r4, r5, r6, r7) := H
          have A13 := Aside0.mk A130
          clear A130
          have H' := Aside0.mk H
          clear H
          go_wp2_with (first | (go_at_call 50; (with_reducible refine (aim_fast.calls a3 true _ A11.out).mono ?_); rintro e w' ⟨rfl, ⟨nd, rfl⟩⟩; have hnb14 := NB111_112.out; have hnc14 := NB112_111.out; have hcz15_0 : w8.cell? ⟨gb111, 0, none⟩ = some (.int .i64 a0_0) := (blk_cell BK111.out 0).trans rfl; have hcz15_1 : w8.cell? ⟨gb111, 1, none⟩ = some (.int .i64 a0_1) := (blk_cell BK111.out 1).trans rfl; have hcz15_2 : w8.cell? ⟨gb111, 2, none⟩ = some (.int .i64 a0_2) := (blk_cell BK111.out 2).trans rfl; have hcz15_3 : w8.cell? ⟨gb111, 3, none⟩ = some (.int .i64 a0_3) := (blk_cell BK111.out 3).trans rfl; have hcz15_4 : w8.cell? ⟨gb111, 4, none⟩ = some (.int .i64 a0_4) := (blk_cell BK111.out 4).trans rfl; have hcz15_5 : w8.cell? ⟨gb111, 5, none⟩ = some (.int .i64 a0_5) := (blk_cell BK111.out 5).trans rfl; have hfz15_0 := blk_frozen BK111.out 0; have hfz15_1 := blk_frozen BK111.out 1; have hfz15_2 := blk_frozen BK111.out 2; have hfz15_3 := blk_frozen BK111.out 3; have hfz15_4 := blk_frozen BK111.out 4; have hfz15_5 := blk_frozen BK111.out 5) | ((with_reducible refine gate_dst (N := 38) rfl ?_); (try (refine gate_guard (by rfl) ?_; dsimp only)); refine Kd.R_lit (Kd.int .i64) _ 2 ?hg (N := 38) ?hd (xs := ([a0_0, a0_1, a1, a2] : List Int)) (inner := [.int .i64 a0_0, .int .i64 a0_1, .int .i64 a1, .int .i64 a2]) (ok := fun _ => True) (okp := fun _ => True) ?hr ?hp (fun _ hk => hk) trivial (Below.refl _ _) (Nat.le_refl _) (by simp) ?_; (case hd => rfl); (case hg => rfl); (case hr => first | (go_simp; done) | (go_simp; rfl)); (case hp => exact (Reps.one (show Kd.M (Kd.int .i64) _ _ _ a0_0 [.int .i64 a0_0] from rfl) (Reps.one (show Kd.M (Kd.int .i64) _ _ _ a0_1 [.int .i64 a0_1] from rfl) (Reps.one (show Kd.M (Kd.int .i64) _ _ _ a1 [.int .i64 a1] from rfl) (Reps.one (show Kd.M (Kd.int .i64) _ _ _ a2 [.int .i64 a2] from rfl) (Reps.none _ _)))))); intro v115 w16 ho17 hb hg_ hnew_; clear hg_ hnew_; (first | rw [← Ny114.out] at ho17 | (simp only [Int.reduceToNat] at ho17; rw [← Ny114.out] at ho17)); have n0_ := Aside0.mk (Kd.R_lower ho17 (below_size (by repeat (first | (with_reducible first | exact HB.out | apply below_alloc | apply pw_below_drewN | apply below_drew1 | refine below_set ?_ GE111.out | refine below_set ?_ GE112.out) | exact HB.out)))); have n1_ := Aside0.mk (blk_below (g := gb111) (o := .cells #[.int .i64 a0_0, .int .i64 a0_1, .int .i64 a0_2, .int .i64 a0_3, .int .i64 a0_4, .int .i64 a0_5] 47 (0, 0)) (by (with_reducible repeat (first | refine blk_drewN ?_ _ | refine blk_drew ?_ | refine blk_alloc ?_ _)); exact BK111.out) hb); have n2_ := Aside0.mk (blk_below (g := gb112) (o := .cells #[.int .i64 0, .int .i64 0, .int .i64 0, .int .i64 0, .int .i64 0, .int .i64 0] 47 (0, 0)) (by (with_reducible repeat (first | refine blk_drewN ?_ _ | refine blk_drew ?_ | refine blk_alloc ?_ _)); exact BK112.out) hb); have n3_ := Aside0.mk (below_step (by repeat (first | (with_reducible first | exact HB.out | apply below_alloc | apply pw_below_drewN | apply below_drew1 | refine below_set ?_ GE111.out | refine below_set ?_ GE112.out) | exact HB.out)) hb); clear BK111; clear BK112; clear HB; have HO116 := n0_; have BK111 := n1_; have BK112 := n2_; have HB := n3_; clear n0_ n1_ n2_ n3_; clear hb ho17; obtain ⟨Ao18, co18, eo18⟩ := Kd.R_slice HO116.out; subst eo18) | (go_at_call 51; (with_reducible refine (aim_inside.calls k _ _ y114 t117 _ ?side1 ?side2 A13.out).mono ?_); (case side1 => repeat (first | exact (Kd.R_reads' HO116.out).2.2 | (with_reducible refine Kd.C_alloc ?_ _) | (with_reducible refine Kd.C_drewN ?_ _) | (with_reducible refine Kd.C_drew ?_))); (case side2 => exact (Kd.R_reads' HO116.out).2.1); rintro e w' ⟨rfl, ⟨nd, rfl⟩⟩))
          go_meet
          case rel => exact ⟨_, (!t117), (by first | rfl | (simp; done) | (simp [*]; done)), H', ⟨by first | omega | exact Nat.le_refl _⟩, ⟨by (with_reducible repeat (first | refine blk_drewN ?_ _ | refine blk_drew ?_ | refine blk_alloc ?_ _)); exact BK111.out⟩, ⟨by (with_reducible repeat (first | refine blk_drewN ?_ _ | refine blk_drew ?_ | refine blk_alloc ?_ _)); exact BK112.out⟩, ⟨by repeat (first | (with_reducible first | exact HB.out | apply below_alloc | apply pw_below_drewN | apply below_drew1 | refine below_set ?_ GE111.out | refine below_set ?_ GE112.out) | exact HB.out)⟩⟩
        · replace c12 := Bool.eq_false_iff.mpr c12
          subst c12
          have H1 : (aim_Shot.j0 k a1 a2 a3 a4 true a0_0 a0_1 a0_2 a0_3 a0_4 a0_5) = some (r1, r2, r3, r4, r5, r6, r7) := by rw [if_neg (show ¬ (false = true) by decide)] at H; exact H
          clear H
          have H := H1
          clear H1
          have H' := Aside0.mk H
          clear H
          go_wp2_with (first | (go_at_call 50; (with_reducible refine (aim_fast.calls a3 false _ A11.out).mono ?_); rintro e w' ⟨rfl, ⟨nd, rfl⟩⟩))
          go_meet
          case rel => exact ⟨_, (true), (by first | rfl | (simp; done) | (simp [*]; done)), H', ⟨by first | omega | exact Nat.le_refl _⟩, ⟨by (with_reducible repeat (first | refine blk_drewN ?_ _ | refine blk_drew ?_ | refine blk_alloc ?_ _)); exact BK111.out⟩, ⟨by (with_reducible repeat (first | refine blk_drewN ?_ _ | refine blk_drew ?_ | refine blk_alloc ?_ _)); exact BK112.out⟩, ⟨by repeat (first | (with_reducible first | exact HB.out | apply below_alloc | apply pw_below_drewN | apply below_drew1 | refine below_set ?_ GE111.out | refine below_set ?_ GE112.out) | exact HB.out)⟩⟩
  case rest =>
    clear HC6
    try clear c1
    try clear c2
    try clear p2
    try clear c9
    try clear c9b0
    try clear c10
    try clear c10b0
    try clear c12
    try clear c14
    try clear hcz15_0
    try clear hcz15_1
    try clear hcz15_2
    try clear hcz15_3
    try clear hcz15_4
    try clear hcz15_5
    try clear hfz15_0
    try clear hfz15_1
    try clear hfz15_2
    try clear hfz15_3
    try clear hfz15_4
    try clear hfz15_5
    obtain ⟨kq, x41_5, rfl, HA, HJ5, BK111, BK112, HB⟩ := hcut
    cases kq with
    | zero => exact absurd HA.out (by simp [aim_Shot.j0])
    | succ kj5 =>
      have H := HA.out
      clear HA
      simp only [aim_Shot.j0] at H
      by_cases c19 : x41_5 = true
      · subst c19
        have H1 : (some (0, 0, 0, 0, 0, 0, 1)) = some (r1, r2, r3, r4, r5, r6, r7) := by rw [if_pos rfl] at H; exact H
        clear H
        have H := H1
        clear H1
        simp only [Option.some.injEq, Prod.mk.injEq] at H
        obtain ⟨rfl, rfl, rfl, rfl, rfl, rfl, rfl⟩ := H
        have hnb20 := NB112_111.out
        have hnc20 := NB111_112.out
        have hcz21_0 : wc.cell? ⟨gb112, 0, none⟩ = some (.int .i64 0) := (blk_cell BK112.out 0).trans rfl
        have hcz21_1 : wc.cell? ⟨gb112, 1, none⟩ = some (.int .i64 0) := (blk_cell BK112.out 1).trans rfl
        have hcz21_2 : wc.cell? ⟨gb112, 2, none⟩ = some (.int .i64 0) := (blk_cell BK112.out 2).trans rfl
        have hcz21_3 : wc.cell? ⟨gb112, 3, none⟩ = some (.int .i64 0) := (blk_cell BK112.out 3).trans rfl
        have hcz21_4 : wc.cell? ⟨gb112, 4, none⟩ = some (.int .i64 0) := (blk_cell BK112.out 4).trans rfl
        have hcz21_5 : wc.cell? ⟨gb112, 5, none⟩ = some (.int .i64 0) := (blk_cell BK112.out 5).trans rfl
        have hfz21_0 := blk_frozen BK112.out 0
        have hfz21_1 := blk_frozen BK112.out 1
        have hfz21_2 := blk_frozen BK112.out 2
        have hfz21_3 := blk_frozen BK112.out 3
        have hfz21_4 := blk_frozen BK112.out 4
        have hfz21_5 := blk_frozen BK112.out 5
        go_wp2
        refine bodyPost_ret (results_ct rfl _ _ gb112 47 #[.int .i64 0, .int .i64 0, .int .i64 0, .int .i64 0, .int .i64 0, .int .i64 0] (0, 0) _ rfl (by (with_reducible repeat (first | refine blk_drewN ?_ _ | refine blk_drew ?_ | refine blk_alloc ?_ _)); refine blk_put (cs := #[.int .i64 0, .int .i64 0, .int .i64 0, .int .i64 0, .int .i64 0, .int .i64 0]) ?_ 5 _ rfl; (with_reducible repeat (first | refine blk_drewN ?_ _ | refine blk_drew ?_ | refine blk_alloc ?_ _)); refine blk_put (cs := #[.int .i64 0, .int .i64 0, .int .i64 0, .int .i64 0, .int .i64 0, .int .i64 0]) ?_ 4 _ rfl; (with_reducible repeat (first | refine blk_drewN ?_ _ | refine blk_drew ?_ | refine blk_alloc ?_ _)); refine blk_put (cs := #[.int .i64 0, .int .i64 0, .int .i64 0, .int .i64 0, .int .i64 0, .int .i64 0]) ?_ 3 _ rfl; (with_reducible repeat (first | refine blk_drewN ?_ _ | refine blk_drew ?_ | refine blk_alloc ?_ _)); refine blk_put (cs := #[.int .i64 0, .int .i64 0, .int .i64 0, .int .i64 0, .int .i64 0, .int .i64 0]) ?_ 2 _ rfl; (with_reducible repeat (first | refine blk_drewN ?_ _ | refine blk_drew ?_ | refine blk_alloc ?_ _)); refine blk_put (cs := #[.int .i64 0, .int .i64 0, .int .i64 0, .int .i64 0, .int .i64 0, .int .i64 0]) ?_ 1 _ rfl; (with_reducible repeat (first | refine blk_drewN ?_ _ | refine blk_drew ?_ | refine blk_alloc ?_ _)); refine blk_put (cs := #[.int .i64 0, .int .i64 0, .int .i64 0, .int .i64 0, .int .i64 0, .int .i64 0]) ?_ 0 _ rfl; (with_reducible repeat (first | refine blk_drewN ?_ _ | refine blk_drew ?_ | refine blk_alloc ?_ _)); exact BK112.out) Tryd.underlying47 rfl (by kernel_rfl)) rfl ?_
        exact ⟨by first | rfl | (simp [errW_none, errW_some] <;> rfl) | (simp [*, errW_none, errW_some] <;> rfl), by repeat (first | (with_reducible first | exact HB.out | apply below_alloc | apply pw_below_drewN | apply below_drew1 | refine below_set ?_ GE111.out | refine below_set ?_ GE112.out) | exact HB.out)⟩
      · replace c19 := Bool.eq_false_iff.mpr c19
        subst c19
        have H1 : ((trig_Heading.f (wrap64 (a1 - a0_0)) (wrap64 (a2 - a0_1))).bind fun bt118 => ((trig_Vec.f (wrap64 (a4 * 256)) a3).bind fun bt120 => ((trig_Vec.f (wrap64 (bt118.1 * 256)) bt120.1).bind fun bt123 => (some (a0_0, a0_1, a0_2, bt123.1, bt123.2.1, bt120.2.1, 0))))) = some (r1, r2, r3, r4, r5, r6, r7) := by rw [if_neg (show ¬ (false = true) by decide)] at H; exact H
        clear H
        have H := H1
        clear H1
        replace H := Option.bind_eq_some_iff.mp H
        obtain ⟨⟨t118, t119⟩, A220, H⟩ := H
        replace H : ((trig_Vec.f (wrap64 (a4 * 256)) a3).bind fun bt120 => ((trig_Vec.f (wrap64 (t118 * 256)) bt120.1).bind fun bt123 => (some (a0_0, a0_1, a0_2, bt123.1, bt123.2.1, bt120.2.1, 0)))) = some (r1, r2, r3, r4, r5, r6, r7) := H
        have A22 := Aside0.mk A220
        clear A220
        replace H := Option.bind_eq_some_iff.mp H
        obtain ⟨⟨t120, t121, t122⟩, A230, H⟩ := H
        replace H : ((trig_Vec.f (wrap64 (t118 * 256)) t120).bind fun bt123 => (some (a0_0, a0_1, a0_2, bt123.1, bt123.2.1, t121, 0))) = some (r1, r2, r3, r4, r5, r6, r7) := H
        have A23 := Aside0.mk A230
        clear A230
        replace H := Option.bind_eq_some_iff.mp H
        obtain ⟨⟨t123, t124, t125⟩, A240, H⟩ := H
        replace H : (some (a0_0, a0_1, a0_2, t123, t124, t121, 0)) = some (r1, r2, r3, r4, r5, r6, r7) := H
        have A24 := Aside0.mk A240
        clear A240
        simp only [Option.some.injEq, Prod.mk.injEq] at H
        obtain ⟨rfl, rfl, rfl, rfl, rfl, rfl, rfl⟩ := H
        have hnb25 := NB111_112.out
        have hnc25 := NB112_111.out
        have hcz26_0 : wc.cell? ⟨gb111, 0, none⟩ = some (.int .i64 a0_0) := (blk_cell BK111.out 0).trans rfl
        have hcz26_1 : wc.cell? ⟨gb111, 1, none⟩ = some (.int .i64 a0_1) := (blk_cell BK111.out 1).trans rfl
        have hcz26_2 : wc.cell? ⟨gb111, 2, none⟩ = some (.int .i64 a0_2) := (blk_cell BK111.out 2).trans rfl
        have hcz26_3 : wc.cell? ⟨gb111, 3, none⟩ = some (.int .i64 a0_3) := (blk_cell BK111.out 3).trans rfl
        have hcz26_4 : wc.cell? ⟨gb111, 4, none⟩ = some (.int .i64 a0_4) := (blk_cell BK111.out 4).trans rfl
        have hcz26_5 : wc.cell? ⟨gb111, 5, none⟩ = some (.int .i64 a0_5) := (blk_cell BK111.out 5).trans rfl
        have hfz26_0 := blk_frozen BK111.out 0
        have hfz26_1 := blk_frozen BK111.out 1
        have hfz26_2 := blk_frozen BK111.out 2
        have hfz26_3 := blk_frozen BK111.out 3
        have hfz26_4 := blk_frozen BK111.out 4
        have hfz26_5 := blk_frozen BK111.out 5
        go_wp2_with (first | ((with_reducible refine gate_callee (f := 36) rfl ?_); refine goesL_ (some 52) rfl rfl Tryd.func36 (by kernel_rfl) rfl #[.int .i64 (wrap64 (a1 - a0_0)), .int .i64 (wrap64 (a2 - a0_1))] rfl (by (try simp only [List.map_toArray, List.map_cons, List.map_nil]); first | done | rfl | (simp only [List.length_drop, List.length_take]; rfl)) ?_; (with_reducible refine (trig_Heading.calls (wrap64 (a1 - a0_0)) (wrap64 (a2 - a0_1)) t118 t119 _ ?side1 A22.out).mono ?_); (case side1 => exact Tg.Tab.below HTAB.out (by repeat (first | (with_reducible first | exact HB.out | apply below_alloc | apply pw_below_drewN | apply below_drew1 | refine below_set ?_ GE111.out | refine below_set ?_ GE112.out) | exact HB.out))); rintro e w27 ⟨rfl, hb⟩; refine ⟨_, rfl, ?_⟩; have n0_ := Aside0.mk (blk_below (g := gb111) (o := .cells #[.int .i64 a0_0, .int .i64 a0_1, .int .i64 a0_2, .int .i64 a0_3, .int .i64 a0_4, .int .i64 a0_5] 47 (0, 0)) (by (with_reducible repeat (first | refine blk_drewN ?_ _ | refine blk_drew ?_ | refine blk_alloc ?_ _)); exact BK111.out) hb); have n1_ := Aside0.mk (blk_below (g := gb112) (o := .cells #[.int .i64 0, .int .i64 0, .int .i64 0, .int .i64 0, .int .i64 0, .int .i64 0] 47 (0, 0)) (by (with_reducible repeat (first | refine blk_drewN ?_ _ | refine blk_drew ?_ | refine blk_alloc ?_ _)); exact BK112.out) hb); have n2_ := Aside0.mk (below_step (by repeat (first | (with_reducible first | exact HB.out | apply below_alloc | apply pw_below_drewN | apply below_drew1 | refine below_set ?_ GE111.out | refine below_set ?_ GE112.out) | exact HB.out)) hb); clear BK111; clear BK112; clear HB; have BK111 := n0_; have BK112 := n1_; have HB := n2_; clear n0_ n1_ n2_; (try clear hb); (try clear hb2); (try clear hk); (try clear hi)) | ((with_reducible refine gate_callee (f := 39) rfl ?_); refine goesL_ (some 59) rfl rfl Tryd.func39 (by kernel_rfl) rfl #[.int .i64 (wrap64 (a4 * 256)), .int .i64 a3] rfl (by (try simp only [List.map_toArray, List.map_cons, List.map_nil]); first | done | rfl | (simp only [List.length_drop, List.length_take]; rfl)) ?_; (with_reducible refine (trig_Vec.calls (wrap64 (a4 * 256)) a3 t120 t121 t122 _ ?side1 A23.out).mono ?_); (case side1 => exact Tg.Tab.below HTAB.out (by repeat (first | (with_reducible first | exact HB.out | apply below_alloc | apply pw_below_drewN | apply below_drew1 | refine below_set ?_ GE111.out | refine below_set ?_ GE112.out) | exact HB.out))); rintro e w28 ⟨rfl, hb⟩; refine ⟨_, rfl, ?_⟩; have n0_ := Aside0.mk (blk_below (g := gb111) (o := .cells #[.int .i64 a0_0, .int .i64 a0_1, .int .i64 a0_2, .int .i64 a0_3, .int .i64 a0_4, .int .i64 a0_5] 47 (0, 0)) (by (with_reducible repeat (first | refine blk_drewN ?_ _ | refine blk_drew ?_ | refine blk_alloc ?_ _)); exact BK111.out) hb); have n1_ := Aside0.mk (blk_below (g := gb112) (o := .cells #[.int .i64 0, .int .i64 0, .int .i64 0, .int .i64 0, .int .i64 0, .int .i64 0] 47 (0, 0)) (by (with_reducible repeat (first | refine blk_drewN ?_ _ | refine blk_drew ?_ | refine blk_alloc ?_ _)); exact BK112.out) hb); have n2_ := Aside0.mk (below_step (by repeat (first | (with_reducible first | exact HB.out | apply below_alloc | apply pw_below_drewN | apply below_drew1 | refine below_set ?_ GE111.out | refine below_set ?_ GE112.out) | exact HB.out)) hb); clear BK111; clear BK112; clear HB; have BK111 := n0_; have BK112 := n1_; have HB := n2_; clear n0_ n1_ n2_; (try clear hb); (try clear hb2); (try clear hk); (try clear hi)) | ((with_reducible refine gate_callee (f := 39) rfl ?_); refine goesL_ (some 67) rfl rfl Tryd.func39 (by kernel_rfl) rfl #[.int .i64 (wrap64 (t118 * 256)), .int .i64 t120] rfl (by (try simp only [List.map_toArray, List.map_cons, List.map_nil]); first | done | rfl | (simp only [List.length_drop, List.length_take]; rfl)) ?_; (with_reducible refine (trig_Vec.calls (wrap64 (t118 * 256)) t120 t123 t124 t125 _ ?side1 A24.out).mono ?_); (case side1 => exact Tg.Tab.below HTAB.out (by repeat (first | (with_reducible first | exact HB.out | apply below_alloc | apply pw_below_drewN | apply below_drew1 | refine below_set ?_ GE111.out | refine below_set ?_ GE112.out) | exact HB.out))); rintro e w29 ⟨rfl, hb⟩; refine ⟨_, rfl, ?_⟩; have n0_ := Aside0.mk (blk_below (g := gb111) (o := .cells #[.int .i64 a0_0, .int .i64 a0_1, .int .i64 a0_2, .int .i64 a0_3, .int .i64 a0_4, .int .i64 a0_5] 47 (0, 0)) (by (with_reducible repeat (first | refine blk_drewN ?_ _ | refine blk_drew ?_ | refine blk_alloc ?_ _)); exact BK111.out) hb); have n1_ := Aside0.mk (blk_below (g := gb112) (o := .cells #[.int .i64 0, .int .i64 0, .int .i64 0, .int .i64 0, .int .i64 0, .int .i64 0] 47 (0, 0)) (by (with_reducible repeat (first | refine blk_drewN ?_ _ | refine blk_drew ?_ | refine blk_alloc ?_ _)); exact BK112.out) hb); have n2_ := Aside0.mk (below_step (by repeat (first | (with_reducible first | exact HB.out | apply below_alloc | apply pw_below_drewN | apply below_drew1 | refine below_set ?_ GE111.out | refine below_set ?_ GE112.out) | exact HB.out)) hb); clear BK111; clear BK112; clear HB; have BK111 := n0_; have BK112 := n1_; have HB := n2_; clear n0_ n1_ n2_; (try clear hb); (try clear hb2); (try clear hk); (try clear hi); have hcz30_0 : w29.cell? ⟨gb111, 0, none⟩ = some (.int .i64 a0_0) := (blk_cell BK111.out 0).trans rfl; have hcz30_1 : w29.cell? ⟨gb111, 1, none⟩ = some (.int .i64 a0_1) := (blk_cell BK111.out 1).trans rfl; have hcz30_2 : w29.cell? ⟨gb111, 2, none⟩ = some (.int .i64 a0_2) := (blk_cell BK111.out 2).trans rfl; have hcz30_3 : w29.cell? ⟨gb111, 3, none⟩ = some (.int .i64 a0_3) := (blk_cell BK111.out 3).trans rfl; have hcz30_4 : w29.cell? ⟨gb111, 4, none⟩ = some (.int .i64 a0_4) := (blk_cell BK111.out 4).trans rfl; have hcz30_5 : w29.cell? ⟨gb111, 5, none⟩ = some (.int .i64 a0_5) := (blk_cell BK111.out 5).trans rfl; have hfz30_0 := blk_frozen BK111.out 0; have hfz30_1 := blk_frozen BK111.out 1; have hfz30_2 := blk_frozen BK111.out 2; have hfz30_3 := blk_frozen BK111.out 3; have hfz30_4 := blk_frozen BK111.out 4; have hfz30_5 := blk_frozen BK111.out 5; have hcz31_0 : w29.cell? ⟨gb112, 0, none⟩ = some (.int .i64 0) := (blk_cell BK112.out 0).trans rfl; have hcz31_1 : w29.cell? ⟨gb112, 1, none⟩ = some (.int .i64 0) := (blk_cell BK112.out 1).trans rfl; have hcz31_2 : w29.cell? ⟨gb112, 2, none⟩ = some (.int .i64 0) := (blk_cell BK112.out 2).trans rfl; have hcz31_3 : w29.cell? ⟨gb112, 3, none⟩ = some (.int .i64 0) := (blk_cell BK112.out 3).trans rfl; have hcz31_4 : w29.cell? ⟨gb112, 4, none⟩ = some (.int .i64 0) := (blk_cell BK112.out 4).trans rfl; have hcz31_5 : w29.cell? ⟨gb112, 5, none⟩ = some (.int .i64 0) := (blk_cell BK112.out 5).trans rfl; have hfz31_0 := blk_frozen BK112.out 0; have hfz31_1 := blk_frozen BK112.out 1; have hfz31_2 := blk_frozen BK112.out 2; have hfz31_3 := blk_frozen BK112.out 3; have hfz31_4 := blk_frozen BK112.out 4; have hfz31_5 := blk_frozen BK112.out 5))
        refine bodyPost_ret (results_ct rfl _ _ gb112 47 #[.int .i64 a0_0, .int .i64 a0_1, .int .i64 a0_2, .int .i64 t123, .int .i64 t124, .int .i64 t121] (0, 0) _ rfl (by (with_reducible repeat (first | refine blk_drewN ?_ _ | refine blk_drew ?_ | refine blk_alloc ?_ _)); refine blk_put (cs := #[.int .i64 a0_0, .int .i64 a0_1, .int .i64 a0_2, .int .i64 t123, .int .i64 t124, .int .i64 0]) ?_ 5 _ rfl; (with_reducible repeat (first | refine blk_drewN ?_ _ | refine blk_drew ?_ | refine blk_alloc ?_ _)); refine blk_put (cs := #[.int .i64 a0_0, .int .i64 a0_1, .int .i64 a0_2, .int .i64 t123, .int .i64 0, .int .i64 0]) ?_ 4 _ rfl; (with_reducible repeat (first | refine blk_drewN ?_ _ | refine blk_drew ?_ | refine blk_alloc ?_ _)); refine blk_put (cs := #[.int .i64 a0_0, .int .i64 a0_1, .int .i64 a0_2, .int .i64 0, .int .i64 0, .int .i64 0]) ?_ 3 _ rfl; (with_reducible repeat (first | refine blk_drewN ?_ _ | refine blk_drew ?_ | refine blk_alloc ?_ _)); refine blk_put (cs := #[.int .i64 a0_0, .int .i64 a0_1, .int .i64 0, .int .i64 0, .int .i64 0, .int .i64 0]) ?_ 2 _ rfl; (with_reducible repeat (first | refine blk_drewN ?_ _ | refine blk_drew ?_ | refine blk_alloc ?_ _)); refine blk_put (cs := #[.int .i64 a0_0, .int .i64 0, .int .i64 0, .int .i64 0, .int .i64 0, .int .i64 0]) ?_ 1 _ rfl; (with_reducible repeat (first | refine blk_drewN ?_ _ | refine blk_drew ?_ | refine blk_alloc ?_ _)); refine blk_put (cs := #[.int .i64 0, .int .i64 0, .int .i64 0, .int .i64 0, .int .i64 0, .int .i64 0]) ?_ 0 _ rfl; (with_reducible repeat (first | refine blk_drewN ?_ _ | refine blk_drew ?_ | refine blk_alloc ?_ _)); exact BK112.out) Tryd.underlying47 rfl (by kernel_rfl)) rfl ?_
        exact ⟨by first | rfl | (simp [errW_none, errW_some] <;> rfl) | (simp [*, errW_none, errW_some] <;> rfl), by repeat (first | (with_reducible first | exact HB.out | apply below_alloc | apply pw_below_drewN | apply below_drew1 | refine below_set ?_ GE111.out | refine below_set ?_ GE112.out) | exact HB.out)⟩
end Go.Proofs.YtbcddiaplpbhjaaDoor.MAi
namespace Go.Proofs.YtbcddiaplpbhjaaDoor.MAi
open Go.RowKit Go.Proofs.YtbcddiaplpbhjaaDoorW.PrintWords Go.Proofs.YtbcddiaplpbhjaaDoorW.PrintLast Go.Proofs.YtbcddiaplpbhjaaDoorW.PrintMore
attribute [local go_sem] max2_int min2_int max_two min_two max_three min_three max_four min_four
set_option linter.unusedVariables false
set_option linter.unusedSimpArgs false
noncomputable def relief_Check.j0 : Nat → Bool → Int → Int → Int → List Int → Option (Int)
  | 0, _, _, _, _, _ => none
  | k + 1, x31, x132000, x132001, x132002, x132003 => if x31 = true then (some 1) else (if (x132003.length : Int) < (wrap64 ((wrap64 (x132000 + 1)) * (wrap64 (x132001 + 1)))) then (some 2) else (if (x132003.length : Int) > (wrap64 ((wrap64 (x132000 + 1)) * (wrap64 (x132001 + 1)))) then (some 7) else (some 0)))
noncomputable def relief_Check.f (k : Nat) (a0_0 : Int) (a0_1 : Int) (a0_2 : Int) (l0_3 : List Int) : Option (Int) := if a0_0 < 1 then (relief_Check.j0 k true a0_0 a0_1 a0_2 l0_3) else (if a0_0 > 64 then (relief_Check.j0 k true a0_0 a0_1 a0_2 l0_3) else (if a0_1 < 1 then (relief_Check.j0 k true a0_0 a0_1 a0_2 l0_3) else (if a0_1 > 64 then (relief_Check.j0 k true a0_0 a0_1 a0_2 l0_3) else (if a0_2 < 0 then (relief_Check.j0 k true a0_0 a0_1 a0_2 l0_3) else (relief_Check.j0 k (decide (a0_2 > 255)) a0_0 a0_1 a0_2 l0_3)))))
theorem relief_Check.mono_l : ∀ k, (∀ y0 y1 y2 y3 y4, LeO (relief_Check.j0 k y0 y1 y2 y3 y4) (relief_Check.j0 (k + 1) y0 y1 y2 y3 y4))
  | 0 => fun _ _ _ _ _ r h => by simp [relief_Check.j0] at h
  | k + 1 => by
    have ih0 := relief_Check.mono_l k
    · intro y0 y1 y2 y3 y4
      unfold relief_Check.j0
      repeat' first
      | (with_reducible exact ih0 _ _ _ _ _)
      | (with_reducible exact LeO.refl _)
      | (with_reducible exact LeO.none _)
      | (with_reducible refine LeO.ite ?_ ?_)
      | (with_reducible refine LeO.bind ?_ (fun _ => ?_))
      | exact ih0 _ _ _ _ _
      | exact LeO.none _
      | refine LeO.ite ?_ ?_
      | refine LeO.bind ?_ (fun _ => ?_)
theorem relief_Check.mono : ∀ a0 a1 a2 a3 k, LeO (relief_Check.f k a0 a1 a2 a3) (relief_Check.f (k + 1) a0 a1 a2 a3) := by
  intro a0 a1 a2 a3 k
  have ih0 := relief_Check.mono_l k
  unfold relief_Check.f
  repeat' first
      | (with_reducible exact ih0 _ _ _ _ _)
      | (with_reducible exact LeO.refl _)
      | (with_reducible exact LeO.none _)
      | (with_reducible refine LeO.ite ?_ ?_)
      | (with_reducible refine LeO.bind ?_ (fun _ => ?_))
      | exact ih0 _ _ _ _ _
      | exact LeO.none _
      | refine LeO.ite ?_ ?_
      | refine LeO.bind ?_ (fun _ => ?_)
set_option maxHeartbeats 8000000 in
set_option maxRecDepth 100000 in
theorem relief_Check.calls (k : Nat) (a0_0 : Int) (a0_1 : Int) (a0_2 : Int) (A0_3 : Option Addr) (c0_3 : Nat) (l0_3 : List Int) (r : Int) (w : World) (hr0_3 : Kd.C (Kd.int .u8) w A0_3 l0_3.length l0_3) (hc0_3 : l0_3.length ≤ c0_3) (h : relief_Check.f k a0_0 a0_1 a0_2 l0_3 = some r) :
    Calls Tryd.prog 75 #[.agg #[.int .i64 a0_0, .int .i64 a0_1, .int .i64 a0_2, .slice A0_3 l0_3.length c0_3]] w fun e w' => e = .returned (.int .i64 r) ∧ Below w.heap.size w w' := by
  have hu45 := Tryd.underlying45
  have HR0_3 := Aside0.mk hr0_3
  have HC0_3 := Aside0.mk hc0_3
  clear hr0_3 hc0_3
  have HB := Aside0.mk (Below.refl w.heap.size w)
  have H : (if a0_0 < 1 then (relief_Check.j0 k true a0_0 a0_1 a0_2 l0_3) else (if a0_0 > 64 then (relief_Check.j0 k true a0_0 a0_1 a0_2 l0_3) else (if a0_1 < 1 then (relief_Check.j0 k true a0_0 a0_1 a0_2 l0_3) else (if a0_1 > 64 then (relief_Check.j0 k true a0_0 a0_1 a0_2 l0_3) else (if a0_2 < 0 then (relief_Check.j0 k true a0_0 a0_1 a0_2 l0_3) else (relief_Check.j0 k (decide (a0_2 > 255)) a0_0 a0_1 a0_2 l0_3)))))) = some r := h
  clear h
  have HC2 := Aside0.mk H
  clear H
  go_enter Tryd.func75, Tryd.ntmps75
  go_upto_region 1 with (first | ((with_reducible refine gate_dst (N := 1) rfl ?_); refine box_event ?hg (N := 1) ?hd (cs := #[.int .i64 a0_0, .int .i64 a0_1, .int .i64 a0_2, .slice A0_3 l0_3.length c0_3]) (t := 45) ?hr ?_; (case hd => rfl); (case hg => rfl); (case hr => first | (go_simp; done) | (go_simp; rfl)); intro gb131 hg w3 hbox hb; have n0_ := Aside0.mk (below_step (by repeat (first | (with_reducible first | exact HB.out | apply below_alloc | apply pw_below_drewN | apply below_drew1) | exact HB.out)) hb); have n1_ := Aside0.mk (hbox); have n2_ := Aside0.mk ((by rw [hg]; exact (below_size (by repeat (first | (with_reducible first | exact HB.out | apply below_alloc | apply pw_below_drewN | apply below_drew1) | exact HB.out))) : w.heap.size ≤ gb131)); have n3_ := Aside0.mk ((by rw [hg]; exact (below_size (by repeat (first | (with_reducible first | exact HB.out | apply below_alloc | apply pw_below_drewN | apply below_drew1) | exact HB.out))) : w.heap.size ≤ gb131)); clear HB; have HB := n0_; have BK131 := n1_; have GW131 := n2_; have GE131 := n3_; clear n0_ n1_ n2_ n3_; clear hb hbox hg))
  (try simp only [Act.put, List.setIfInBounds_toArray, List.set_cons_zero, List.set_cons_succ])
  go_cut [31] (fun v31 wc => ∃ (kq : Nat) (x31_1 : Bool), v31 = .bool x31_1 ∧ Aside0 (relief_Check.j0 kq x31_1 a0_0 a0_1 a0_2 l0_3 = some r) ∧ Aside0 (kq ≤ k) ∧ Aside0 (wc.heap[gb131]? = some (.cells #[.int .i64 a0_0, .int .i64 a0_1, .int .i64 a0_2, (.slice A0_3 l0_3.length c0_3)] 45 (0, 0))) ∧ Aside0 (Below w.heap.size w wc))
  case first =>
    have H := HC2.out
    clear HC2
    by_cases c4 : a0_0 < 1
    · rw [if_pos c4] at H
      have c4b0 : decide (a0_0 < 1) = true := decide_eq_true c4
      clear c4
      (first | rw [c4b0] | (simp only [i64_w, i32_w]; rw [c4b0]) | skip)
      have H' := Aside0.mk H
      clear H
      have hcz5_0 : w3.cell? ⟨gb131, 0, none⟩ = some (.int .i64 a0_0) := (blk_cell BK131.out 0).trans rfl
      have hcz5_1 : w3.cell? ⟨gb131, 1, none⟩ = some (.int .i64 a0_1) := (blk_cell BK131.out 1).trans rfl
      have hcz5_2 : w3.cell? ⟨gb131, 2, none⟩ = some (.int .i64 a0_2) := (blk_cell BK131.out 2).trans rfl
      have hcz5_3 : w3.cell? ⟨gb131, 3, none⟩ = some (.slice A0_3 l0_3.length c0_3) := (blk_cell BK131.out 3).trans rfl
      have hfz5_0 := blk_frozen BK131.out 0
      have hfz5_1 := blk_frozen BK131.out 1
      have hfz5_2 := blk_frozen BK131.out 2
      have hfz5_3 := blk_frozen BK131.out 3
      go_wp2
      go_meet
      case rel => exact ⟨_, (true), (by first | rfl | (simp; done) | (simp [*]; done)), H', ⟨by first | omega | exact Nat.le_refl _⟩, ⟨by (with_reducible repeat (first | refine blk_drewN ?_ _ | refine blk_drew ?_ | refine blk_alloc ?_ _)); exact BK131.out⟩, ⟨by repeat (first | (with_reducible first | exact HB.out | apply below_alloc | apply pw_below_drewN | apply below_drew1 | refine below_set ?_ GE131.out) | exact HB.out)⟩⟩
    · rw [if_neg c4] at H
      have c4b0 : decide (a0_0 < 1) = false := decide_eq_false c4
      clear c4
      (first | rw [c4b0] | (simp only [i64_w, i32_w]; rw [c4b0]) | skip)
      by_cases c6 : a0_0 > 64
      · rw [if_pos c6] at H
        have c6b0 : decide (64 < a0_0) = true := decide_eq_true c6
        clear c6
        have H' := Aside0.mk H
        clear H
        have hcz7_0 : w3.cell? ⟨gb131, 0, none⟩ = some (.int .i64 a0_0) := (blk_cell BK131.out 0).trans rfl
        have hcz7_1 : w3.cell? ⟨gb131, 1, none⟩ = some (.int .i64 a0_1) := (blk_cell BK131.out 1).trans rfl
        have hcz7_2 : w3.cell? ⟨gb131, 2, none⟩ = some (.int .i64 a0_2) := (blk_cell BK131.out 2).trans rfl
        have hcz7_3 : w3.cell? ⟨gb131, 3, none⟩ = some (.slice A0_3 l0_3.length c0_3) := (blk_cell BK131.out 3).trans rfl
        have hfz7_0 := blk_frozen BK131.out 0
        have hfz7_1 := blk_frozen BK131.out 1
        have hfz7_2 := blk_frozen BK131.out 2
        have hfz7_3 := blk_frozen BK131.out 3
        go_wp2
        go_meet
        case rel => exact ⟨_, (true), (by first | rfl | (simp; done) | (simp [*]; done)), H', ⟨by first | omega | exact Nat.le_refl _⟩, ⟨by (with_reducible repeat (first | refine blk_drewN ?_ _ | refine blk_drew ?_ | refine blk_alloc ?_ _)); exact BK131.out⟩, ⟨by repeat (first | (with_reducible first | exact HB.out | apply below_alloc | apply pw_below_drewN | apply below_drew1 | refine below_set ?_ GE131.out) | exact HB.out)⟩⟩
      · rw [if_neg c6] at H
        have c6b0 : decide (64 < a0_0) = false := decide_eq_false c6
        clear c6
        by_cases c8 : a0_1 < 1
        · rw [if_pos c8] at H
          have c8b0 : decide (a0_1 < 1) = true := decide_eq_true c8
          clear c8
          have H' := Aside0.mk H
          clear H
          have hcz9_0 : w3.cell? ⟨gb131, 0, none⟩ = some (.int .i64 a0_0) := (blk_cell BK131.out 0).trans rfl
          have hcz9_1 : w3.cell? ⟨gb131, 1, none⟩ = some (.int .i64 a0_1) := (blk_cell BK131.out 1).trans rfl
          have hcz9_2 : w3.cell? ⟨gb131, 2, none⟩ = some (.int .i64 a0_2) := (blk_cell BK131.out 2).trans rfl
          have hcz9_3 : w3.cell? ⟨gb131, 3, none⟩ = some (.slice A0_3 l0_3.length c0_3) := (blk_cell BK131.out 3).trans rfl
          have hfz9_0 := blk_frozen BK131.out 0
          have hfz9_1 := blk_frozen BK131.out 1
          have hfz9_2 := blk_frozen BK131.out 2
          have hfz9_3 := blk_frozen BK131.out 3
          go_wp2
          go_meet
          case rel => exact ⟨_, (true), (by first | rfl | (simp; done) | (simp [*]; done)), H', ⟨by first | omega | exact Nat.le_refl _⟩, ⟨by (with_reducible repeat (first | refine blk_drewN ?_ _ | refine blk_drew ?_ | refine blk_alloc ?_ _)); exact BK131.out⟩, ⟨by repeat (first | (with_reducible first | exact HB.out | apply below_alloc | apply pw_below_drewN | apply below_drew1 | refine below_set ?_ GE131.out) | exact HB.out)⟩⟩
        · rw [if_neg c8] at H
          have c8b0 : decide (a0_1 < 1) = false := decide_eq_false c8
          clear c8
          by_cases c10 : a0_1 > 64
          · rw [if_pos c10] at H
            have c10b0 : decide (64 < a0_1) = true := decide_eq_true c10
            clear c10
            have H' := Aside0.mk H
            clear H
            have hcz11_0 : w3.cell? ⟨gb131, 0, none⟩ = some (.int .i64 a0_0) := (blk_cell BK131.out 0).trans rfl
            have hcz11_1 : w3.cell? ⟨gb131, 1, none⟩ = some (.int .i64 a0_1) := (blk_cell BK131.out 1).trans rfl
            have hcz11_2 : w3.cell? ⟨gb131, 2, none⟩ = some (.int .i64 a0_2) := (blk_cell BK131.out 2).trans rfl
            have hcz11_3 : w3.cell? ⟨gb131, 3, none⟩ = some (.slice A0_3 l0_3.length c0_3) := (blk_cell BK131.out 3).trans rfl
            have hfz11_0 := blk_frozen BK131.out 0
            have hfz11_1 := blk_frozen BK131.out 1
            have hfz11_2 := blk_frozen BK131.out 2
            have hfz11_3 := blk_frozen BK131.out 3
            go_wp2
            go_meet
            case rel => exact ⟨_, (true), (by first | rfl | (simp; done) | (simp [*]; done)), H', ⟨by first | omega | exact Nat.le_refl _⟩, ⟨by (with_reducible repeat (first | refine blk_drewN ?_ _ | refine blk_drew ?_ | refine blk_alloc ?_ _)); exact BK131.out⟩, ⟨by repeat (first | (with_reducible first | exact HB.out | apply below_alloc | apply pw_below_drewN | apply below_drew1 | refine below_set ?_ GE131.out) | exact HB.out)⟩⟩
          · rw [if_neg c10] at H
            have c10b0 : decide (64 < a0_1) = false := decide_eq_false c10
            clear c10
            by_cases c12 : a0_2 < 0
            · rw [if_pos c12] at H
              have c12b0 : decide (a0_2 < 0) = true := decide_eq_true c12
              clear c12
              have H' := Aside0.mk H
              clear H
              have hcz13_0 : w3.cell? ⟨gb131, 0, none⟩ = some (.int .i64 a0_0) := (blk_cell BK131.out 0).trans rfl
              have hcz13_1 : w3.cell? ⟨gb131, 1, none⟩ = some (.int .i64 a0_1) := (blk_cell BK131.out 1).trans rfl
              have hcz13_2 : w3.cell? ⟨gb131, 2, none⟩ = some (.int .i64 a0_2) := (blk_cell BK131.out 2).trans rfl
              have hcz13_3 : w3.cell? ⟨gb131, 3, none⟩ = some (.slice A0_3 l0_3.length c0_3) := (blk_cell BK131.out 3).trans rfl
              have hfz13_0 := blk_frozen BK131.out 0
              have hfz13_1 := blk_frozen BK131.out 1
              have hfz13_2 := blk_frozen BK131.out 2
              have hfz13_3 := blk_frozen BK131.out 3
              go_wp2
              go_meet
              case rel => exact ⟨_, (true), (by first | rfl | (simp; done) | (simp [*]; done)), H', ⟨by first | omega | exact Nat.le_refl _⟩, ⟨by (with_reducible repeat (first | refine blk_drewN ?_ _ | refine blk_drew ?_ | refine blk_alloc ?_ _)); exact BK131.out⟩, ⟨by repeat (first | (with_reducible first | exact HB.out | apply below_alloc | apply pw_below_drewN | apply below_drew1 | refine below_set ?_ GE131.out) | exact HB.out)⟩⟩
            · rw [if_neg c12] at H
              have c12b0 : decide (a0_2 < 0) = false := decide_eq_false c12
              clear c12
              have H' := Aside0.mk H
              clear H
              have hcz14_0 : w3.cell? ⟨gb131, 0, none⟩ = some (.int .i64 a0_0) := (blk_cell BK131.out 0).trans rfl
              have hcz14_1 : w3.cell? ⟨gb131, 1, none⟩ = some (.int .i64 a0_1) := (blk_cell BK131.out 1).trans rfl
              have hcz14_2 : w3.cell? ⟨gb131, 2, none⟩ = some (.int .i64 a0_2) := (blk_cell BK131.out 2).trans rfl
              have hcz14_3 : w3.cell? ⟨gb131, 3, none⟩ = some (.slice A0_3 l0_3.length c0_3) := (blk_cell BK131.out 3).trans rfl
              have hfz14_0 := blk_frozen BK131.out 0
              have hfz14_1 := blk_frozen BK131.out 1
              have hfz14_2 := blk_frozen BK131.out 2
              have hfz14_3 := blk_frozen BK131.out 3
              go_wp2
              go_meet
              case rel => exact ⟨_, (decide (a0_2 > 255)), (by first | rfl | (simp; done) | (simp [*]; done)), H', ⟨by first | omega | exact Nat.le_refl _⟩, ⟨by (with_reducible repeat (first | refine blk_drewN ?_ _ | refine blk_drew ?_ | refine blk_alloc ?_ _)); exact BK131.out⟩, ⟨by repeat (first | (with_reducible first | exact HB.out | apply below_alloc | apply pw_below_drewN | apply below_drew1 | refine below_set ?_ GE131.out) | exact HB.out)⟩⟩
  case rest =>
    clear HC2
    try clear c1
    try clear p2
    try clear c4
    try clear c4b0
    try clear c6
    try clear c6b0
    try clear c7
    try clear c8
    try clear c8b0
    try clear c10
    try clear c10b0
    try clear c12
    try clear c12b0
    try clear hcz11_0
    try clear hcz11_1
    try clear hcz11_2
    try clear hcz11_3
    try clear hcz13_0
    try clear hcz13_1
    try clear hcz13_2
    try clear hcz13_3
    try clear hcz14_0
    try clear hcz14_1
    try clear hcz14_2
    try clear hcz14_3
    try clear hcz5_0
    try clear hcz5_1
    try clear hcz5_2
    try clear hcz5_3
    try clear hcz7_0
    try clear hcz7_1
    try clear hcz7_2
    try clear hcz7_3
    try clear hcz9_0
    try clear hcz9_1
    try clear hcz9_2
    try clear hcz9_3
    try clear hfz11_0
    try clear hfz11_1
    try clear hfz11_2
    try clear hfz11_3
    try clear hfz13_0
    try clear hfz13_1
    try clear hfz13_2
    try clear hfz13_3
    try clear hfz14_0
    try clear hfz14_1
    try clear hfz14_2
    try clear hfz14_3
    try clear hfz5_0
    try clear hfz5_1
    try clear hfz5_2
    try clear hfz5_3
    try clear hfz7_0
    try clear hfz7_1
    try clear hfz7_2
    try clear hfz7_3
    try clear hfz9_0
    try clear hfz9_1
    try clear hfz9_2
    try clear hfz9_3
    obtain ⟨kq, x31_1, rfl, HA, HJ1, BK131, HB⟩ := hcut
    cases kq with
    | zero => exact absurd HA.out (by simp [relief_Check.j0])
    | succ kj1 =>
      have H := HA.out
      clear HA
      simp only [relief_Check.j0] at H
      by_cases c15 : x31_1 = true
      · subst c15
        have H1 : (some 1) = some r := by rw [if_pos rfl] at H; exact H
        clear H
        have H := H1
        clear H1
        obtain rfl := Option.some.inj H
        go_wp2
        go_ret
        exact ⟨by first | rfl | (simp [errW_none, errW_some] <;> rfl) | (simp [*, errW_none, errW_some] <;> rfl), by repeat (first | (with_reducible first | exact HB.out | apply below_alloc | apply pw_below_drewN | apply below_drew1 | refine below_set ?_ GE131.out) | exact HB.out)⟩
      · replace c15 := Bool.eq_false_iff.mpr c15
        subst c15
        have H1 : (if (l0_3.length : Int) < (wrap64 ((wrap64 (a0_0 + 1)) * (wrap64 (a0_1 + 1)))) then (some 2) else (if (l0_3.length : Int) > (wrap64 ((wrap64 (a0_0 + 1)) * (wrap64 (a0_1 + 1)))) then (some 7) else (some 0))) = some r := by rw [if_neg (show ¬ (false = true) by decide)] at H; exact H
        clear H
        have H := H1
        clear H1
        by_cases c16 : (l0_3.length : Int) < (wrap64 ((wrap64 (a0_0 + 1)) * (wrap64 (a0_1 + 1))))
        · rw [if_pos c16] at H
          have c16b0 : decide ((l0_3.length : Int) < (wrap64 ((wrap64 (a0_0 + 1)) * (wrap64 (a0_1 + 1))))) = true := decide_eq_true c16
          clear c16
          obtain rfl := Option.some.inj H
          have hcz17_0 : wc.cell? ⟨gb131, 0, none⟩ = some (.int .i64 a0_0) := (blk_cell BK131.out 0).trans rfl
          have hcz17_1 : wc.cell? ⟨gb131, 1, none⟩ = some (.int .i64 a0_1) := (blk_cell BK131.out 1).trans rfl
          have hcz17_2 : wc.cell? ⟨gb131, 2, none⟩ = some (.int .i64 a0_2) := (blk_cell BK131.out 2).trans rfl
          have hcz17_3 : wc.cell? ⟨gb131, 3, none⟩ = some (.slice A0_3 l0_3.length c0_3) := (blk_cell BK131.out 3).trans rfl
          have hfz17_0 := blk_frozen BK131.out 0
          have hfz17_1 := blk_frozen BK131.out 1
          have hfz17_2 := blk_frozen BK131.out 2
          have hfz17_3 := blk_frozen BK131.out 3
          go_wp2
          go_ret
          exact ⟨by first | rfl | (simp [errW_none, errW_some] <;> rfl) | (simp [*, errW_none, errW_some] <;> rfl), by repeat (first | (with_reducible first | exact HB.out | apply below_alloc | apply pw_below_drewN | apply below_drew1 | refine below_set ?_ GE131.out) | exact HB.out)⟩
        · rw [if_neg c16] at H
          have c16b0 : decide ((l0_3.length : Int) < (wrap64 ((wrap64 (a0_0 + 1)) * (wrap64 (a0_1 + 1))))) = false := decide_eq_false c16
          clear c16
          by_cases c18 : (l0_3.length : Int) > (wrap64 ((wrap64 (a0_0 + 1)) * (wrap64 (a0_1 + 1))))
          · rw [if_pos c18] at H
            have c18b0 : decide ((wrap64 ((wrap64 (a0_0 + 1)) * (wrap64 (a0_1 + 1)))) < (l0_3.length : Int)) = true := decide_eq_true c18
            clear c18
            obtain rfl := Option.some.inj H
            have hcz19_0 : wc.cell? ⟨gb131, 0, none⟩ = some (.int .i64 a0_0) := (blk_cell BK131.out 0).trans rfl
            have hcz19_1 : wc.cell? ⟨gb131, 1, none⟩ = some (.int .i64 a0_1) := (blk_cell BK131.out 1).trans rfl
            have hcz19_2 : wc.cell? ⟨gb131, 2, none⟩ = some (.int .i64 a0_2) := (blk_cell BK131.out 2).trans rfl
            have hcz19_3 : wc.cell? ⟨gb131, 3, none⟩ = some (.slice A0_3 l0_3.length c0_3) := (blk_cell BK131.out 3).trans rfl
            have hfz19_0 := blk_frozen BK131.out 0
            have hfz19_1 := blk_frozen BK131.out 1
            have hfz19_2 := blk_frozen BK131.out 2
            have hfz19_3 := blk_frozen BK131.out 3
            go_wp2
            go_ret
            exact ⟨by first | rfl | (simp [errW_none, errW_some] <;> rfl) | (simp [*, errW_none, errW_some] <;> rfl), by repeat (first | (with_reducible first | exact HB.out | apply below_alloc | apply pw_below_drewN | apply below_drew1 | refine below_set ?_ GE131.out) | exact HB.out)⟩
          · rw [if_neg c18] at H
            have c18b0 : decide ((wrap64 ((wrap64 (a0_0 + 1)) * (wrap64 (a0_1 + 1)))) < (l0_3.length : Int)) = false := decide_eq_false c18
            clear c18
            obtain rfl := Option.some.inj H
            have hcz20_0 : wc.cell? ⟨gb131, 0, none⟩ = some (.int .i64 a0_0) := (blk_cell BK131.out 0).trans rfl
            have hcz20_1 : wc.cell? ⟨gb131, 1, none⟩ = some (.int .i64 a0_1) := (blk_cell BK131.out 1).trans rfl
            have hcz20_2 : wc.cell? ⟨gb131, 2, none⟩ = some (.int .i64 a0_2) := (blk_cell BK131.out 2).trans rfl
            have hcz20_3 : wc.cell? ⟨gb131, 3, none⟩ = some (.slice A0_3 l0_3.length c0_3) := (blk_cell BK131.out 3).trans rfl
            have hfz20_0 := blk_frozen BK131.out 0
            have hfz20_1 := blk_frozen BK131.out 1
            have hfz20_2 := blk_frozen BK131.out 2
            have hfz20_3 := blk_frozen BK131.out 3
            go_wp2
            go_ret
            exact ⟨by first | rfl | (simp [errW_none, errW_some] <;> rfl) | (simp [*, errW_none, errW_some] <;> rfl), by repeat (first | (with_reducible first | exact HB.out | apply below_alloc | apply pw_below_drewN | apply below_drew1 | refine below_set ?_ GE131.out) | exact HB.out)⟩
noncomputable def relief_On.f (k : Nat) (a0_0 : Int) (a0_1 : Int) (a0_2 : Int) (l0_3 : List Int) (a1 : Int) (a2 : Int) : Option (Bool) := (relief_Check.f k a0_0 a0_1 a0_2 l0_3).bind fun t133 => (if t133 = 0 then (if a1 ≥ 0 then (if a1 < (wrap64 (a0_0 * 65536)) then (if a2 ≥ 0 then (some (decide (a2 < (wrap64 (a0_1 * 65536))))) else (some false)) else (some false)) else (some false)) else (some false))
theorem relief_On.mono : ∀ a0 a1 a2 a3 a4 a5 k, LeO (relief_On.f k a0 a1 a2 a3 a4 a5) (relief_On.f (k + 1) a0 a1 a2 a3 a4 a5) := by
  intro a0 a1 a2 a3 a4 a5 k
  unfold relief_On.f
  repeat' first
      | (with_reducible exact relief_Check.mono _ _ _ _ _)
      | (with_reducible exact LeO.refl _)
      | (with_reducible exact LeO.none _)
      | (with_reducible refine LeO.ite ?_ ?_)
      | (with_reducible refine LeO.bind ?_ (fun _ => ?_))
      | exact relief_Check.mono _ _ _ _ _
      | exact LeO.none _
      | refine LeO.ite ?_ ?_
      | refine LeO.bind ?_ (fun _ => ?_)
set_option maxHeartbeats 8000000 in
set_option maxRecDepth 100000 in
theorem relief_On.calls (k : Nat) (a0_0 : Int) (a0_1 : Int) (a0_2 : Int) (A0_3 : Option Addr) (c0_3 : Nat) (l0_3 : List Int) (a1 : Int) (a2 : Int) (r : Bool) (w : World) (hr0_3 : Kd.C (Kd.int .u8) w A0_3 l0_3.length l0_3) (hc0_3 : l0_3.length ≤ c0_3) (h : relief_On.f k a0_0 a0_1 a0_2 l0_3 a1 a2 = some r) :
    Calls Tryd.prog 55 #[.agg #[.int .i64 a0_0, .int .i64 a0_1, .int .i64 a0_2, .slice A0_3 l0_3.length c0_3], .int .i64 a1, .int .i64 a2] w fun e w' => e = .returned (.bool r) ∧ Below w.heap.size w w' := by
  have hu45 := Tryd.underlying45
  have HR0_3 := Aside0.mk hr0_3
  have HC0_3 := Aside0.mk hc0_3
  clear hr0_3 hc0_3
  have HB := Aside0.mk (Below.refl w.heap.size w)
  have H : ((relief_Check.f k a0_0 a0_1 a0_2 l0_3).bind fun t133 => (if t133 = 0 then (if a1 ≥ 0 then (if a1 < (wrap64 (a0_0 * 65536)) then (if a2 ≥ 0 then (some (decide (a2 < (wrap64 (a0_1 * 65536))))) else (some false)) else (some false)) else (some false)) else (some false))) = some r := h
  clear h
  replace H := Option.bind_eq_some_iff.mp H
  obtain ⟨t133, A40, H⟩ := H
  replace H : (if t133 = 0 then (if a1 ≥ 0 then (if a1 < (wrap64 (a0_0 * 65536)) then (if a2 ≥ 0 then (some (decide (a2 < (wrap64 (a0_1 * 65536))))) else (some false)) else (some false)) else (some false)) else (some false)) = some r := H
  have A4 := Aside0.mk A40
  clear A40
  by_cases c5 : t133 = 0
  · rw [if_pos c5] at H
    have c5b0 : (t133 == 0) = true := beq_iff_eq.mpr c5
    have c5b1 : (t133 != 0) = false := bne_eq_false_iff_eq.mpr c5
    clear c5
    by_cases c6 : a1 ≥ 0
    · rw [if_pos c6] at H
      have c6b0 : decide (0 ≤ a1) = true := decide_eq_true c6
      clear c6
      by_cases c7 : a1 < (wrap64 (a0_0 * 65536))
      · rw [if_pos c7] at H
        have c7b0 : decide (a1 < (wrap64 (a0_0 * 65536))) = true := decide_eq_true c7
        clear c7
        by_cases c8 : a2 ≥ 0
        · rw [if_pos c8] at H
          have c8b0 : decide (0 ≤ a2) = true := decide_eq_true c8
          clear c8
          obtain rfl := Option.some.inj H
          go_enter Tryd.func55, Tryd.ntmps55
          go_wp2_with (first | ((with_reducible refine gate_dst (N := 3) rfl ?_); refine box_event ?hg (N := 3) ?hd (cs := #[.int .i64 a0_0, .int .i64 a0_1, .int .i64 a0_2, .slice A0_3 l0_3.length c0_3]) (t := 45) ?hr ?_; (case hd => rfl); (case hg => rfl); (case hr => first | (go_simp; done) | (go_simp; rfl)); intro gb132 hg w9 hbox hb; have n0_ := Aside0.mk (below_step (by repeat (first | (with_reducible first | exact HB.out | apply below_alloc | apply pw_below_drewN | apply below_drew1) | exact HB.out)) hb); have n1_ := Aside0.mk (hbox); have n2_ := Aside0.mk ((by rw [hg]; exact (below_size (by repeat (first | (with_reducible first | exact HB.out | apply below_alloc | apply pw_below_drewN | apply below_drew1) | exact HB.out))) : w.heap.size ≤ gb132)); have n3_ := Aside0.mk ((by rw [hg]; exact (below_size (by repeat (first | (with_reducible first | exact HB.out | apply below_alloc | apply pw_below_drewN | apply below_drew1) | exact HB.out))) : w.heap.size ≤ gb132)); clear HB; have HB := n0_; have BK132 := n1_; have GW132 := n2_; have GE132 := n3_; clear n0_ n1_ n2_ n3_; clear hb hbox hg; have hcz10_0 : w9.cell? ⟨gb132, 0, none⟩ = some (.int .i64 a0_0) := (blk_cell BK132.out 0).trans rfl; have hcz10_1 : w9.cell? ⟨gb132, 1, none⟩ = some (.int .i64 a0_1) := (blk_cell BK132.out 1).trans rfl; have hcz10_2 : w9.cell? ⟨gb132, 2, none⟩ = some (.int .i64 a0_2) := (blk_cell BK132.out 2).trans rfl; have hcz10_3 : w9.cell? ⟨gb132, 3, none⟩ = some (.slice A0_3 l0_3.length c0_3) := (blk_cell BK132.out 3).trans rfl; have hfz10_0 := blk_frozen BK132.out 0; have hfz10_1 := blk_frozen BK132.out 1; have hfz10_2 := blk_frozen BK132.out 2; have hfz10_3 := blk_frozen BK132.out 3) | ((with_reducible refine gate_callee (f := 75) rfl ?_); refine goesL_ (some 8) rfl rfl Tryd.func75 (by kernel_rfl) rfl #[.agg #[.int .i64 a0_0, .int .i64 a0_1, .int .i64 a0_2, .slice A0_3 l0_3.length c0_3]] rfl (by (try simp only [List.map_toArray, List.map_cons, List.map_nil]); first | done | rfl | (simp only [List.length_drop, List.length_take]; rfl)) ?_; (with_reducible refine (relief_Check.calls k a0_0 a0_1 a0_2 _ _ l0_3 t133 _ ?side1 ?side2 A4.out).mono ?_); (case side1 => repeat (first | exact (Kd.C_below HR0_3.out HB.out) | (with_reducible refine Kd.C_alloc ?_ _) | (with_reducible refine Kd.C_drewN ?_ _) | (with_reducible refine Kd.C_drew ?_))); (case side2 => exact HC0_3.out); rintro e w11 ⟨rfl, hb⟩; refine ⟨_, rfl, ?_⟩; have n0_ := Aside0.mk (blk_below (g := gb132) (o := .cells #[.int .i64 a0_0, .int .i64 a0_1, .int .i64 a0_2, .slice A0_3 l0_3.length c0_3] 45 (0, 0)) (by (with_reducible repeat (first | refine blk_drewN ?_ _ | refine blk_drew ?_ | refine blk_alloc ?_ _)); exact BK132.out) hb); have n1_ := Aside0.mk (below_step (by repeat (first | (with_reducible first | exact HB.out | apply below_alloc | apply pw_below_drewN | apply below_drew1 | refine below_set ?_ GE132.out) | exact HB.out)) hb); clear BK132; clear HB; have BK132 := n0_; have HB := n1_; clear n0_ n1_; (try clear hb); (try clear hb2); (try clear hk); (try clear hi); have hcz12_0 : w11.cell? ⟨gb132, 0, none⟩ = some (.int .i64 a0_0) := (blk_cell BK132.out 0).trans rfl; have hcz12_1 : w11.cell? ⟨gb132, 1, none⟩ = some (.int .i64 a0_1) := (blk_cell BK132.out 1).trans rfl; have hcz12_2 : w11.cell? ⟨gb132, 2, none⟩ = some (.int .i64 a0_2) := (blk_cell BK132.out 2).trans rfl; have hcz12_3 : w11.cell? ⟨gb132, 3, none⟩ = some (.slice A0_3 l0_3.length c0_3) := (blk_cell BK132.out 3).trans rfl; have hfz12_0 := blk_frozen BK132.out 0; have hfz12_1 := blk_frozen BK132.out 1; have hfz12_2 := blk_frozen BK132.out 2; have hfz12_3 := blk_frozen BK132.out 3))
          go_ret
          exact ⟨by first | rfl | (simp [errW_none, errW_some] <;> rfl) | (simp [*, errW_none, errW_some] <;> rfl), by repeat (first | (with_reducible first | exact HB.out | apply below_alloc | apply pw_below_drewN | apply below_drew1 | refine below_set ?_ GE132.out) | exact HB.out)⟩
        · rw [if_neg c8] at H
          have c8b0 : decide (0 ≤ a2) = false := decide_eq_false c8
          clear c8
          obtain rfl := Option.some.inj H
          go_enter Tryd.func55, Tryd.ntmps55
          go_wp2_with (first | ((with_reducible refine gate_dst (N := 3) rfl ?_); refine box_event ?hg (N := 3) ?hd (cs := #[.int .i64 a0_0, .int .i64 a0_1, .int .i64 a0_2, .slice A0_3 l0_3.length c0_3]) (t := 45) ?hr ?_; (case hd => rfl); (case hg => rfl); (case hr => first | (go_simp; done) | (go_simp; rfl)); intro gb132 hg w13 hbox hb; have n0_ := Aside0.mk (below_step (by repeat (first | (with_reducible first | exact HB.out | apply below_alloc | apply pw_below_drewN | apply below_drew1) | exact HB.out)) hb); have n1_ := Aside0.mk (hbox); have n2_ := Aside0.mk ((by rw [hg]; exact (below_size (by repeat (first | (with_reducible first | exact HB.out | apply below_alloc | apply pw_below_drewN | apply below_drew1) | exact HB.out))) : w.heap.size ≤ gb132)); have n3_ := Aside0.mk ((by rw [hg]; exact (below_size (by repeat (first | (with_reducible first | exact HB.out | apply below_alloc | apply pw_below_drewN | apply below_drew1) | exact HB.out))) : w.heap.size ≤ gb132)); clear HB; have HB := n0_; have BK132 := n1_; have GW132 := n2_; have GE132 := n3_; clear n0_ n1_ n2_ n3_; clear hb hbox hg; have hcz14_0 : w13.cell? ⟨gb132, 0, none⟩ = some (.int .i64 a0_0) := (blk_cell BK132.out 0).trans rfl; have hcz14_1 : w13.cell? ⟨gb132, 1, none⟩ = some (.int .i64 a0_1) := (blk_cell BK132.out 1).trans rfl; have hcz14_2 : w13.cell? ⟨gb132, 2, none⟩ = some (.int .i64 a0_2) := (blk_cell BK132.out 2).trans rfl; have hcz14_3 : w13.cell? ⟨gb132, 3, none⟩ = some (.slice A0_3 l0_3.length c0_3) := (blk_cell BK132.out 3).trans rfl; have hfz14_0 := blk_frozen BK132.out 0; have hfz14_1 := blk_frozen BK132.out 1; have hfz14_2 := blk_frozen BK132.out 2; have hfz14_3 := blk_frozen BK132.out 3) | ((with_reducible refine gate_callee (f := 75) rfl ?_); refine goesL_ (some 8) rfl rfl Tryd.func75 (by kernel_rfl) rfl #[.agg #[.int .i64 a0_0, .int .i64 a0_1, .int .i64 a0_2, .slice A0_3 l0_3.length c0_3]] rfl (by (try simp only [List.map_toArray, List.map_cons, List.map_nil]); first | done | rfl | (simp only [List.length_drop, List.length_take]; rfl)) ?_; (with_reducible refine (relief_Check.calls k a0_0 a0_1 a0_2 _ _ l0_3 t133 _ ?side1 ?side2 A4.out).mono ?_); (case side1 => repeat (first | exact (Kd.C_below HR0_3.out HB.out) | (with_reducible refine Kd.C_alloc ?_ _) | (with_reducible refine Kd.C_drewN ?_ _) | (with_reducible refine Kd.C_drew ?_))); (case side2 => exact HC0_3.out); rintro e w15 ⟨rfl, hb⟩; refine ⟨_, rfl, ?_⟩; have n0_ := Aside0.mk (blk_below (g := gb132) (o := .cells #[.int .i64 a0_0, .int .i64 a0_1, .int .i64 a0_2, .slice A0_3 l0_3.length c0_3] 45 (0, 0)) (by (with_reducible repeat (first | refine blk_drewN ?_ _ | refine blk_drew ?_ | refine blk_alloc ?_ _)); exact BK132.out) hb); have n1_ := Aside0.mk (below_step (by repeat (first | (with_reducible first | exact HB.out | apply below_alloc | apply pw_below_drewN | apply below_drew1 | refine below_set ?_ GE132.out) | exact HB.out)) hb); clear BK132; clear HB; have BK132 := n0_; have HB := n1_; clear n0_ n1_; (try clear hb); (try clear hb2); (try clear hk); (try clear hi); have hcz16_0 : w15.cell? ⟨gb132, 0, none⟩ = some (.int .i64 a0_0) := (blk_cell BK132.out 0).trans rfl; have hcz16_1 : w15.cell? ⟨gb132, 1, none⟩ = some (.int .i64 a0_1) := (blk_cell BK132.out 1).trans rfl; have hcz16_2 : w15.cell? ⟨gb132, 2, none⟩ = some (.int .i64 a0_2) := (blk_cell BK132.out 2).trans rfl; have hcz16_3 : w15.cell? ⟨gb132, 3, none⟩ = some (.slice A0_3 l0_3.length c0_3) := (blk_cell BK132.out 3).trans rfl; have hfz16_0 := blk_frozen BK132.out 0; have hfz16_1 := blk_frozen BK132.out 1; have hfz16_2 := blk_frozen BK132.out 2; have hfz16_3 := blk_frozen BK132.out 3))
          go_ret
          exact ⟨by first | rfl | (simp [errW_none, errW_some] <;> rfl) | (simp [*, errW_none, errW_some] <;> rfl), by repeat (first | (with_reducible first | exact HB.out | apply below_alloc | apply pw_below_drewN | apply below_drew1 | refine below_set ?_ GE132.out) | exact HB.out)⟩
      · rw [if_neg c7] at H
        have c7b0 : decide (a1 < (wrap64 (a0_0 * 65536))) = false := decide_eq_false c7
        clear c7
        obtain rfl := Option.some.inj H
        go_enter Tryd.func55, Tryd.ntmps55
        go_wp2_with (first | ((with_reducible refine gate_dst (N := 3) rfl ?_); refine box_event ?hg (N := 3) ?hd (cs := #[.int .i64 a0_0, .int .i64 a0_1, .int .i64 a0_2, .slice A0_3 l0_3.length c0_3]) (t := 45) ?hr ?_; (case hd => rfl); (case hg => rfl); (case hr => first | (go_simp; done) | (go_simp; rfl)); intro gb132 hg w17 hbox hb; have n0_ := Aside0.mk (below_step (by repeat (first | (with_reducible first | exact HB.out | apply below_alloc | apply pw_below_drewN | apply below_drew1) | exact HB.out)) hb); have n1_ := Aside0.mk (hbox); have n2_ := Aside0.mk ((by rw [hg]; exact (below_size (by repeat (first | (with_reducible first | exact HB.out | apply below_alloc | apply pw_below_drewN | apply below_drew1) | exact HB.out))) : w.heap.size ≤ gb132)); have n3_ := Aside0.mk ((by rw [hg]; exact (below_size (by repeat (first | (with_reducible first | exact HB.out | apply below_alloc | apply pw_below_drewN | apply below_drew1) | exact HB.out))) : w.heap.size ≤ gb132)); clear HB; have HB := n0_; have BK132 := n1_; have GW132 := n2_; have GE132 := n3_; clear n0_ n1_ n2_ n3_; clear hb hbox hg; have hcz18_0 : w17.cell? ⟨gb132, 0, none⟩ = some (.int .i64 a0_0) := (blk_cell BK132.out 0).trans rfl; have hcz18_1 : w17.cell? ⟨gb132, 1, none⟩ = some (.int .i64 a0_1) := (blk_cell BK132.out 1).trans rfl; have hcz18_2 : w17.cell? ⟨gb132, 2, none⟩ = some (.int .i64 a0_2) := (blk_cell BK132.out 2).trans rfl; have hcz18_3 : w17.cell? ⟨gb132, 3, none⟩ = some (.slice A0_3 l0_3.length c0_3) := (blk_cell BK132.out 3).trans rfl; have hfz18_0 := blk_frozen BK132.out 0; have hfz18_1 := blk_frozen BK132.out 1; have hfz18_2 := blk_frozen BK132.out 2; have hfz18_3 := blk_frozen BK132.out 3) | ((with_reducible refine gate_callee (f := 75) rfl ?_); refine goesL_ (some 8) rfl rfl Tryd.func75 (by kernel_rfl) rfl #[.agg #[.int .i64 a0_0, .int .i64 a0_1, .int .i64 a0_2, .slice A0_3 l0_3.length c0_3]] rfl (by (try simp only [List.map_toArray, List.map_cons, List.map_nil]); first | done | rfl | (simp only [List.length_drop, List.length_take]; rfl)) ?_; (with_reducible refine (relief_Check.calls k a0_0 a0_1 a0_2 _ _ l0_3 t133 _ ?side1 ?side2 A4.out).mono ?_); (case side1 => repeat (first | exact (Kd.C_below HR0_3.out HB.out) | (with_reducible refine Kd.C_alloc ?_ _) | (with_reducible refine Kd.C_drewN ?_ _) | (with_reducible refine Kd.C_drew ?_))); (case side2 => exact HC0_3.out); rintro e w19 ⟨rfl, hb⟩; refine ⟨_, rfl, ?_⟩; have n0_ := Aside0.mk (blk_below (g := gb132) (o := .cells #[.int .i64 a0_0, .int .i64 a0_1, .int .i64 a0_2, .slice A0_3 l0_3.length c0_3] 45 (0, 0)) (by (with_reducible repeat (first | refine blk_drewN ?_ _ | refine blk_drew ?_ | refine blk_alloc ?_ _)); exact BK132.out) hb); have n1_ := Aside0.mk (below_step (by repeat (first | (with_reducible first | exact HB.out | apply below_alloc | apply pw_below_drewN | apply below_drew1 | refine below_set ?_ GE132.out) | exact HB.out)) hb); clear BK132; clear HB; have BK132 := n0_; have HB := n1_; clear n0_ n1_; (try clear hb); (try clear hb2); (try clear hk); (try clear hi); have hcz20_0 : w19.cell? ⟨gb132, 0, none⟩ = some (.int .i64 a0_0) := (blk_cell BK132.out 0).trans rfl; have hcz20_1 : w19.cell? ⟨gb132, 1, none⟩ = some (.int .i64 a0_1) := (blk_cell BK132.out 1).trans rfl; have hcz20_2 : w19.cell? ⟨gb132, 2, none⟩ = some (.int .i64 a0_2) := (blk_cell BK132.out 2).trans rfl; have hcz20_3 : w19.cell? ⟨gb132, 3, none⟩ = some (.slice A0_3 l0_3.length c0_3) := (blk_cell BK132.out 3).trans rfl; have hfz20_0 := blk_frozen BK132.out 0; have hfz20_1 := blk_frozen BK132.out 1; have hfz20_2 := blk_frozen BK132.out 2; have hfz20_3 := blk_frozen BK132.out 3))
        go_ret
        exact ⟨by first | rfl | (simp [errW_none, errW_some] <;> rfl) | (simp [*, errW_none, errW_some] <;> rfl), by repeat (first | (with_reducible first | exact HB.out | apply below_alloc | apply pw_below_drewN | apply below_drew1 | refine below_set ?_ GE132.out) | exact HB.out)⟩
    · rw [if_neg c6] at H
      have c6b0 : decide (0 ≤ a1) = false := decide_eq_false c6
      clear c6
      obtain rfl := Option.some.inj H
      go_enter Tryd.func55, Tryd.ntmps55
      go_wp2_with (first | ((with_reducible refine gate_dst (N := 3) rfl ?_); refine box_event ?hg (N := 3) ?hd (cs := #[.int .i64 a0_0, .int .i64 a0_1, .int .i64 a0_2, .slice A0_3 l0_3.length c0_3]) (t := 45) ?hr ?_; (case hd => rfl); (case hg => rfl); (case hr => first | (go_simp; done) | (go_simp; rfl)); intro gb132 hg w21 hbox hb; have n0_ := Aside0.mk (below_step (by repeat (first | (with_reducible first | exact HB.out | apply below_alloc | apply pw_below_drewN | apply below_drew1) | exact HB.out)) hb); have n1_ := Aside0.mk (hbox); have n2_ := Aside0.mk ((by rw [hg]; exact (below_size (by repeat (first | (with_reducible first | exact HB.out | apply below_alloc | apply pw_below_drewN | apply below_drew1) | exact HB.out))) : w.heap.size ≤ gb132)); have n3_ := Aside0.mk ((by rw [hg]; exact (below_size (by repeat (first | (with_reducible first | exact HB.out | apply below_alloc | apply pw_below_drewN | apply below_drew1) | exact HB.out))) : w.heap.size ≤ gb132)); clear HB; have HB := n0_; have BK132 := n1_; have GW132 := n2_; have GE132 := n3_; clear n0_ n1_ n2_ n3_; clear hb hbox hg; have hcz22_0 : w21.cell? ⟨gb132, 0, none⟩ = some (.int .i64 a0_0) := (blk_cell BK132.out 0).trans rfl; have hcz22_1 : w21.cell? ⟨gb132, 1, none⟩ = some (.int .i64 a0_1) := (blk_cell BK132.out 1).trans rfl; have hcz22_2 : w21.cell? ⟨gb132, 2, none⟩ = some (.int .i64 a0_2) := (blk_cell BK132.out 2).trans rfl; have hcz22_3 : w21.cell? ⟨gb132, 3, none⟩ = some (.slice A0_3 l0_3.length c0_3) := (blk_cell BK132.out 3).trans rfl; have hfz22_0 := blk_frozen BK132.out 0; have hfz22_1 := blk_frozen BK132.out 1; have hfz22_2 := blk_frozen BK132.out 2; have hfz22_3 := blk_frozen BK132.out 3) | ((with_reducible refine gate_callee (f := 75) rfl ?_); refine goesL_ (some 8) rfl rfl Tryd.func75 (by kernel_rfl) rfl #[.agg #[.int .i64 a0_0, .int .i64 a0_1, .int .i64 a0_2, .slice A0_3 l0_3.length c0_3]] rfl (by (try simp only [List.map_toArray, List.map_cons, List.map_nil]); first | done | rfl | (simp only [List.length_drop, List.length_take]; rfl)) ?_; (with_reducible refine (relief_Check.calls k a0_0 a0_1 a0_2 _ _ l0_3 t133 _ ?side1 ?side2 A4.out).mono ?_); (case side1 => repeat (first | exact (Kd.C_below HR0_3.out HB.out) | (with_reducible refine Kd.C_alloc ?_ _) | (with_reducible refine Kd.C_drewN ?_ _) | (with_reducible refine Kd.C_drew ?_))); (case side2 => exact HC0_3.out); rintro e w23 ⟨rfl, hb⟩; refine ⟨_, rfl, ?_⟩; have n0_ := Aside0.mk (blk_below (g := gb132) (o := .cells #[.int .i64 a0_0, .int .i64 a0_1, .int .i64 a0_2, .slice A0_3 l0_3.length c0_3] 45 (0, 0)) (by (with_reducible repeat (first | refine blk_drewN ?_ _ | refine blk_drew ?_ | refine blk_alloc ?_ _)); exact BK132.out) hb); have n1_ := Aside0.mk (below_step (by repeat (first | (with_reducible first | exact HB.out | apply below_alloc | apply pw_below_drewN | apply below_drew1 | refine below_set ?_ GE132.out) | exact HB.out)) hb); clear BK132; clear HB; have BK132 := n0_; have HB := n1_; clear n0_ n1_; (try clear hb); (try clear hb2); (try clear hk); (try clear hi)))
      go_ret
      exact ⟨by first | rfl | (simp [errW_none, errW_some] <;> rfl) | (simp [*, errW_none, errW_some] <;> rfl), by repeat (first | (with_reducible first | exact HB.out | apply below_alloc | apply pw_below_drewN | apply below_drew1 | refine below_set ?_ GE132.out) | exact HB.out)⟩
  · rw [if_neg c5] at H
    have c5b0 : (t133 == 0) = false := beq_eq_false_iff_ne.mpr c5
    have c5b1 : (t133 != 0) = true := bne_iff_ne.mpr c5
    obtain rfl := Option.some.inj H
    go_enter Tryd.func55, Tryd.ntmps55
    go_wp2_with (first | ((with_reducible refine gate_dst (N := 3) rfl ?_); refine box_event ?hg (N := 3) ?hd (cs := #[.int .i64 a0_0, .int .i64 a0_1, .int .i64 a0_2, .slice A0_3 l0_3.length c0_3]) (t := 45) ?hr ?_; (case hd => rfl); (case hg => rfl); (case hr => first | (go_simp; done) | (go_simp; rfl)); intro gb132 hg w24 hbox hb; have n0_ := Aside0.mk (below_step (by repeat (first | (with_reducible first | exact HB.out | apply below_alloc | apply pw_below_drewN | apply below_drew1) | exact HB.out)) hb); have n1_ := Aside0.mk (hbox); have n2_ := Aside0.mk ((by rw [hg]; exact (below_size (by repeat (first | (with_reducible first | exact HB.out | apply below_alloc | apply pw_below_drewN | apply below_drew1) | exact HB.out))) : w.heap.size ≤ gb132)); have n3_ := Aside0.mk ((by rw [hg]; exact (below_size (by repeat (first | (with_reducible first | exact HB.out | apply below_alloc | apply pw_below_drewN | apply below_drew1) | exact HB.out))) : w.heap.size ≤ gb132)); clear HB; have HB := n0_; have BK132 := n1_; have GW132 := n2_; have GE132 := n3_; clear n0_ n1_ n2_ n3_; clear hb hbox hg; have hcz25_0 : w24.cell? ⟨gb132, 0, none⟩ = some (.int .i64 a0_0) := (blk_cell BK132.out 0).trans rfl; have hcz25_1 : w24.cell? ⟨gb132, 1, none⟩ = some (.int .i64 a0_1) := (blk_cell BK132.out 1).trans rfl; have hcz25_2 : w24.cell? ⟨gb132, 2, none⟩ = some (.int .i64 a0_2) := (blk_cell BK132.out 2).trans rfl; have hcz25_3 : w24.cell? ⟨gb132, 3, none⟩ = some (.slice A0_3 l0_3.length c0_3) := (blk_cell BK132.out 3).trans rfl; have hfz25_0 := blk_frozen BK132.out 0; have hfz25_1 := blk_frozen BK132.out 1; have hfz25_2 := blk_frozen BK132.out 2; have hfz25_3 := blk_frozen BK132.out 3) | ((with_reducible refine gate_callee (f := 75) rfl ?_); refine goesL_ (some 8) rfl rfl Tryd.func75 (by kernel_rfl) rfl #[.agg #[.int .i64 a0_0, .int .i64 a0_1, .int .i64 a0_2, .slice A0_3 l0_3.length c0_3]] rfl (by (try simp only [List.map_toArray, List.map_cons, List.map_nil]); first | done | rfl | (simp only [List.length_drop, List.length_take]; rfl)) ?_; (with_reducible refine (relief_Check.calls k a0_0 a0_1 a0_2 _ _ l0_3 t133 _ ?side1 ?side2 A4.out).mono ?_); (case side1 => repeat (first | exact (Kd.C_below HR0_3.out HB.out) | (with_reducible refine Kd.C_alloc ?_ _) | (with_reducible refine Kd.C_drewN ?_ _) | (with_reducible refine Kd.C_drew ?_))); (case side2 => exact HC0_3.out); rintro e w26 ⟨rfl, hb⟩; refine ⟨_, rfl, ?_⟩; have n0_ := Aside0.mk (blk_below (g := gb132) (o := .cells #[.int .i64 a0_0, .int .i64 a0_1, .int .i64 a0_2, .slice A0_3 l0_3.length c0_3] 45 (0, 0)) (by (with_reducible repeat (first | refine blk_drewN ?_ _ | refine blk_drew ?_ | refine blk_alloc ?_ _)); exact BK132.out) hb); have n1_ := Aside0.mk (below_step (by repeat (first | (with_reducible first | exact HB.out | apply below_alloc | apply pw_below_drewN | apply below_drew1 | refine below_set ?_ GE132.out) | exact HB.out)) hb); clear BK132; clear HB; have BK132 := n0_; have HB := n1_; clear n0_ n1_; (try clear hb); (try clear hb2); (try clear hk); (try clear hi)))
    go_ret
    exact ⟨by first | rfl | (simp [errW_none, errW_some] <;> rfl) | (simp [*, errW_none, errW_some] <;> rfl), by repeat (first | (with_reducible first | exact HB.out | apply below_alloc | apply pw_below_drewN | apply below_drew1 | refine below_set ?_ GE132.out) | exact HB.out)⟩
noncomputable def fix_Root.f (a : Int) : Option Int := if 0 ≤ a then (if a ≤ 18446744073709551615 then some (Rt.rt a) else none) else none
theorem fix_Root.calls (a0 r : Int) (w : World) (h : fix_Root.f a0 = some r) : Calls Tryd.prog 69 #[.int .u64 a0] w fun e w' => e = .returned (.int .u64 r) ∧ Below w.heap.size w w' := by
  unfold fix_Root.f at h
  split at h
  · split at h
    · rename_i h0 h1
      obtain rfl := Option.some.inj h
      exact (Rt.root_any a0 w h0 h1).mono fun e w' q => ⟨q.1, q.2 ▸ Below.refl _ _⟩
    · cases h
  · cases h
noncomputable def fix_Length.f (a0 : Int) (a1 : Int) : Option (Int × Int) := if a0 < (-1073741824) then (some (0, 8)) else (if a0 > 1073741824 then (some (0, 8)) else (if a1 < (-1073741824) then (some (0, 8)) else (if a1 > 1073741824 then (some (0, 8)) else ((fix_Root.f (IntKind.u64.wrap (wrap64 ((wrap64 (a0 * a0)) + (wrap64 (a1 * a1)))))).bind fun t136 => (some (wrap64 (t136), 0))))))
set_option maxHeartbeats 8000000 in
set_option maxRecDepth 100000 in
theorem fix_Length.calls (a0 : Int) (a1 : Int) (r1 : Int) (r2 : Int) (w : World) (h : fix_Length.f a0 a1 = some (r1, r2)) :
    Calls Tryd.prog 38 #[.int .i64 a0, .int .i64 a1] w fun e w' => e = .returned (.tuple #[.int .i64 r1, .int .i64 r2]) ∧ Below w.heap.size w w' := by
  have HB := Aside0.mk (Below.refl w.heap.size w)
  have H : (if a0 < (-1073741824) then (some (0, 8)) else (if a0 > 1073741824 then (some (0, 8)) else (if a1 < (-1073741824) then (some (0, 8)) else (if a1 > 1073741824 then (some (0, 8)) else ((fix_Root.f (IntKind.u64.wrap (wrap64 ((wrap64 (a0 * a0)) + (wrap64 (a1 * a1)))))).bind fun t136 => (some (wrap64 (t136), 0))))))) = some (r1, r2) := h
  clear h
  by_cases c3 : a0 < (-1073741824)
  · rw [if_pos c3] at H
    have c3b0 : decide (a0 < (-1073741824)) = true := decide_eq_true c3
    clear c3
    simp only [Option.some.injEq, Prod.mk.injEq] at H
    obtain ⟨rfl, rfl⟩ := H
    go_enter Tryd.func38, Tryd.ntmps38
    go_wp2
    go_ret2
    exact ⟨by first | rfl | (simp [errW_none, errW_some] <;> rfl) | (simp [*, errW_none, errW_some] <;> rfl), by repeat (first | (with_reducible first | exact HB.out | apply below_alloc | apply pw_below_drewN | apply below_drew1) | exact HB.out)⟩
  · rw [if_neg c3] at H
    have c3b0 : decide (a0 < (-1073741824)) = false := decide_eq_false c3
    clear c3
    by_cases c4 : a0 > 1073741824
    · rw [if_pos c4] at H
      have c4b0 : decide (1073741824 < a0) = true := decide_eq_true c4
      clear c4
      simp only [Option.some.injEq, Prod.mk.injEq] at H
      obtain ⟨rfl, rfl⟩ := H
      go_enter Tryd.func38, Tryd.ntmps38
      go_wp2
      go_ret2
      exact ⟨by first | rfl | (simp [errW_none, errW_some] <;> rfl) | (simp [*, errW_none, errW_some] <;> rfl), by repeat (first | (with_reducible first | exact HB.out | apply below_alloc | apply pw_below_drewN | apply below_drew1) | exact HB.out)⟩
    · rw [if_neg c4] at H
      have c4b0 : decide (1073741824 < a0) = false := decide_eq_false c4
      clear c4
      by_cases c5 : a1 < (-1073741824)
      · rw [if_pos c5] at H
        have c5b0 : decide (a1 < (-1073741824)) = true := decide_eq_true c5
        clear c5
        simp only [Option.some.injEq, Prod.mk.injEq] at H
        obtain ⟨rfl, rfl⟩ := H
        go_enter Tryd.func38, Tryd.ntmps38
        go_wp2
        go_ret2
        exact ⟨by first | rfl | (simp [errW_none, errW_some] <;> rfl) | (simp [*, errW_none, errW_some] <;> rfl), by repeat (first | (with_reducible first | exact HB.out | apply below_alloc | apply pw_below_drewN | apply below_drew1) | exact HB.out)⟩
      · rw [if_neg c5] at H
        have c5b0 : decide (a1 < (-1073741824)) = false := decide_eq_false c5
        clear c5
        by_cases c6 : a1 > 1073741824
        · rw [if_pos c6] at H
          have c6b0 : decide (1073741824 < a1) = true := decide_eq_true c6
          clear c6
          simp only [Option.some.injEq, Prod.mk.injEq] at H
          obtain ⟨rfl, rfl⟩ := H
          go_enter Tryd.func38, Tryd.ntmps38
          go_wp2
          go_ret2
          exact ⟨by first | rfl | (simp [errW_none, errW_some] <;> rfl) | (simp [*, errW_none, errW_some] <;> rfl), by repeat (first | (with_reducible first | exact HB.out | apply below_alloc | apply pw_below_drewN | apply below_drew1) | exact HB.out)⟩
        · rw [if_neg c6] at H
          have c6b0 : decide (1073741824 < a1) = false := decide_eq_false c6
          clear c6
          replace H := Option.bind_eq_some_iff.mp H
          obtain ⟨t136, A70, H⟩ := H
          replace H : (some (wrap64 (t136), 0)) = some (r1, r2) := H
          have A7 := Aside0.mk A70
          clear A70
          simp only [Option.some.injEq, Prod.mk.injEq] at H
          obtain ⟨rfl, rfl⟩ := H
          go_enter Tryd.func38, Tryd.ntmps38
          go_wp2_with (first | ((with_reducible refine gate_callee (f := 69) rfl ?_); refine goesL_ (some 28) rfl rfl Tryd.func69 (by kernel_rfl) rfl #[.int .u64 (IntKind.u64.wrap (wrap64 ((wrap64 (a0 * a0)) + (wrap64 (a1 * a1)))))] rfl (by (try simp only [List.map_toArray, List.map_cons, List.map_nil]); first | done | rfl | (simp only [List.length_drop, List.length_take]; rfl)) ?_; (with_reducible refine (fix_Root.calls (IntKind.u64.wrap (wrap64 ((wrap64 (a0 * a0)) + (wrap64 (a1 * a1))))) t136 _ A7.out).mono ?_); rintro e w8 ⟨rfl, hb⟩; refine ⟨_, rfl, ?_⟩; have n0_ := Aside0.mk (below_step (by repeat (first | (with_reducible first | exact HB.out | apply below_alloc | apply pw_below_drewN | apply below_drew1) | exact HB.out)) hb); clear HB; have HB := n0_; clear n0_; (try clear hb); (try clear hb2); (try clear hk); (try clear hi)))
          go_ret2
          exact ⟨by first | rfl | (simp [errW_none, errW_some] <;> rfl) | (simp [*, errW_none, errW_some] <;> rfl), by repeat (first | (with_reducible first | exact HB.out | apply below_alloc | apply pw_below_drewN | apply below_drew1) | exact HB.out)⟩
noncomputable def aim_InReach.f (k : Nat) (a0 : Int) (a1 : Int) (a2 : Int) (a3 : Int) (a4 : Int) : Option (Bool) := if a4 < 0 then (some false) else (if a4 > 32 then (some false) else ((aim_inside.f k (([a0, a1, a2, a3] : List Int))).bind fun t140 => (if t140 = true then ((fix_Length.f (wrap64 (a2 - a0)) (wrap64 (a3 - a1))).bind fun bt141 => (some (decide (bt141.1 ≤ (wrap64 (a4 * 65536)))))) else (some false))))
theorem aim_InReach.mono : ∀ a0 a1 a2 a3 a4 k, LeO (aim_InReach.f k a0 a1 a2 a3 a4) (aim_InReach.f (k + 1) a0 a1 a2 a3 a4) := by
  intro a0 a1 a2 a3 a4 k
  unfold aim_InReach.f
  repeat' first
      | (with_reducible exact aim_inside.mono _ _)
      | (with_reducible exact LeO.refl _)
      | (with_reducible exact LeO.none _)
      | (with_reducible refine LeO.ite ?_ ?_)
      | (with_reducible refine LeO.bind ?_ (fun _ => ?_))
      | exact aim_inside.mono _ _
      | exact LeO.none _
      | refine LeO.ite ?_ ?_
      | refine LeO.bind ?_ (fun _ => ?_)
set_option maxHeartbeats 8000000 in
set_option maxRecDepth 100000 in
theorem aim_InReach.calls (k : Nat) (a0 : Int) (a1 : Int) (a2 : Int) (a3 : Int) (a4 : Int) (r : Bool) (w : World) (h : aim_InReach.f k a0 a1 a2 a3 a4 = some r) :
    Calls Tryd.prog 28 #[.int .i64 a0, .int .i64 a1, .int .i64 a2, .int .i64 a3, .int .i64 a4] w fun e w' => e = .returned (.bool r) ∧ Below w.heap.size w w' := by
  have HB := Aside0.mk (Below.refl w.heap.size w)
  have H : (if a4 < 0 then (some false) else (if a4 > 32 then (some false) else ((aim_inside.f k (([a0, a1, a2, a3] : List Int))).bind fun t140 => (if t140 = true then ((fix_Length.f (wrap64 (a2 - a0)) (wrap64 (a3 - a1))).bind fun bt141 => (some (decide (bt141.1 ≤ (wrap64 (a4 * 65536)))))) else (some false))))) = some r := h
  clear h
  by_cases c6 : a4 < 0
  · rw [if_pos c6] at H
    have c6b0 : decide (a4 < 0) = true := decide_eq_true c6
    clear c6
    obtain rfl := Option.some.inj H
    go_enter Tryd.func28, Tryd.ntmps28
    go_wp2
    go_ret
    exact ⟨by first | rfl | (simp [errW_none, errW_some] <;> rfl) | (simp [*, errW_none, errW_some] <;> rfl), by repeat (first | (with_reducible first | exact HB.out | apply below_alloc | apply pw_below_drewN | apply below_drew1) | exact HB.out)⟩
  · rw [if_neg c6] at H
    have c6b0 : decide (a4 < 0) = false := decide_eq_false c6
    clear c6
    by_cases c7 : a4 > 32
    · rw [if_pos c7] at H
      have c7b0 : decide (32 < a4) = true := decide_eq_true c7
      clear c7
      obtain rfl := Option.some.inj H
      go_enter Tryd.func28, Tryd.ntmps28
      go_wp2
      go_ret
      exact ⟨by first | rfl | (simp [errW_none, errW_some] <;> rfl) | (simp [*, errW_none, errW_some] <;> rfl), by repeat (first | (with_reducible first | exact HB.out | apply below_alloc | apply pw_below_drewN | apply below_drew1) | exact HB.out)⟩
    · rw [if_neg c7] at H
      have c7b0 : decide (32 < a4) = false := decide_eq_false c7
      clear c7
      obtain ⟨y137, hy137⟩ : ∃ y_ : List Int, y_ = (([a0, a1, a2, a3] : List Int)) := ⟨_, rfl⟩
      replace H : ((aim_inside.f k y137).bind fun t140 => (if t140 = true then ((fix_Length.f (wrap64 (a2 - a0)) (wrap64 (a3 - a1))).bind fun bt141 => (some (decide (bt141.1 ≤ (wrap64 (a4 * 65536)))))) else (some false))) = some r := by first | (rw [hy137]; with_reducible exact H) | (have H2_ := (Option.bind_some _ _).symm.trans H; rw [hy137]; with_reducible exact H2_) | (have H2_ := (Option.bind_some _ _).symm.trans H; with_reducible exact H2_) | with_reducible exact H | (rw [hy137]; exact H) | exact H
      have Ny137 := Aside0.mk hy137
      clear hy137
      replace H := Option.bind_eq_some_iff.mp H
      obtain ⟨t140, A80, H⟩ := H
      replace H : (if t140 = true then ((fix_Length.f (wrap64 (a2 - a0)) (wrap64 (a3 - a1))).bind fun bt141 => (some (decide (bt141.1 ≤ (wrap64 (a4 * 65536)))))) else (some false)) = some r := H
      have A8 := Aside0.mk A80
      clear A80
      by_cases c9 : t140 = true
      · subst c9
        have H1 : ((fix_Length.f (wrap64 (a2 - a0)) (wrap64 (a3 - a1))).bind fun bt141 => (some (decide (bt141.1 ≤ (wrap64 (a4 * 65536)))))) = some r := by rw [if_pos rfl] at H; exact H
        clear H
        have H := H1
        clear H1
        replace H := Option.bind_eq_some_iff.mp H
        obtain ⟨⟨t141, t142⟩, A100, H⟩ := H
        replace H : (some (decide (t141 ≤ (wrap64 (a4 * 65536))))) = some r := H
        have A10 := Aside0.mk A100
        clear A100
        obtain rfl := Option.some.inj H
        go_enter Tryd.func28, Tryd.ntmps28
        go_wp2_with (first | ((with_reducible refine gate_dst (N := 24) rfl ?_); (try (refine gate_guard (by rfl) ?_; dsimp only)); refine Kd.R_lit (Kd.int .i64) _ 2 ?hg (N := 24) ?hd (xs := ([a0, a1, a2, a3] : List Int)) (inner := [.int .i64 a0, .int .i64 a1, .int .i64 a2, .int .i64 a3]) (ok := fun _ => True) (okp := fun _ => True) ?hr ?hp (fun _ hk => hk) trivial (Below.refl _ _) (Nat.le_refl _) (by simp) ?_; (case hd => rfl); (case hg => rfl); (case hr => first | (go_simp; done) | (go_simp; rfl)); (case hp => exact (Reps.one (show Kd.M (Kd.int .i64) _ _ _ a0 [.int .i64 a0] from rfl) (Reps.one (show Kd.M (Kd.int .i64) _ _ _ a1 [.int .i64 a1] from rfl) (Reps.one (show Kd.M (Kd.int .i64) _ _ _ a2 [.int .i64 a2] from rfl) (Reps.one (show Kd.M (Kd.int .i64) _ _ _ a3 [.int .i64 a3] from rfl) (Reps.none _ _)))))); intro v138 w11 ho12 hb hg_ hnew_; clear hg_ hnew_; (first | rw [← Ny137.out] at ho12 | (simp only [Int.reduceToNat] at ho12; rw [← Ny137.out] at ho12)); have n0_ := Aside0.mk (Kd.R_lower ho12 (below_size (by repeat (first | (with_reducible first | exact HB.out | apply below_alloc | apply pw_below_drewN | apply below_drew1) | exact HB.out)))); have n1_ := Aside0.mk (below_step (by repeat (first | (with_reducible first | exact HB.out | apply below_alloc | apply pw_below_drewN | apply below_drew1) | exact HB.out)) hb); clear HB; have HO139 := n0_; have HB := n1_; clear n0_ n1_; clear hb ho12; obtain ⟨Ao13, co13, eo13⟩ := Kd.R_slice HO139.out; subst eo13) | (go_at_call 51; (with_reducible refine (aim_inside.calls k _ _ y137 true _ ?side1 ?side2 A8.out).mono ?_); (case side1 => repeat (first | exact (Kd.R_reads' HO139.out).2.2 | (with_reducible refine Kd.C_alloc ?_ _) | (with_reducible refine Kd.C_drewN ?_ _) | (with_reducible refine Kd.C_drew ?_))); (case side2 => exact (Kd.R_reads' HO139.out).2.1); rintro e w' ⟨rfl, ⟨nd, rfl⟩⟩) | ((with_reducible refine gate_callee (f := 38) rfl ?_); refine goesL_ (some 35) rfl rfl Tryd.func38 (by kernel_rfl) rfl #[.int .i64 (wrap64 (a2 - a0)), .int .i64 (wrap64 (a3 - a1))] rfl (by (try simp only [List.map_toArray, List.map_cons, List.map_nil]); first | done | rfl | (simp only [List.length_drop, List.length_take]; rfl)) ?_; (with_reducible refine (fix_Length.calls (wrap64 (a2 - a0)) (wrap64 (a3 - a1)) t141 t142 _ A10.out).mono ?_); rintro e w14 ⟨rfl, hb⟩; refine ⟨_, rfl, ?_⟩; have n0_ := Aside0.mk (Kd.R_below (by (with_reducible repeat (first | apply Kd.R_alloc | apply Kd.R_drewN | apply Kd.R_drew)); exact HO139.out) hb); have n1_ := Aside0.mk (below_step (by repeat (first | (with_reducible first | exact HB.out | apply below_alloc | apply pw_below_drewN | apply below_drew1) | exact HB.out)) hb); clear HO139; clear HB; have HO139 := n0_; have HB := n1_; clear n0_ n1_; (try clear hb); (try clear hb2); (try clear hk); (try clear hi)))
        go_ret
        exact ⟨by first | rfl | (simp [errW_none, errW_some] <;> rfl) | (simp [*, errW_none, errW_some] <;> rfl), by repeat (first | (with_reducible first | exact HB.out | apply below_alloc | apply pw_below_drewN | apply below_drew1) | exact HB.out)⟩
      · replace c9 := Bool.eq_false_iff.mpr c9
        subst c9
        have H1 : (some false) = some r := by rw [if_neg (show ¬ (false = true) by decide)] at H; exact H
        clear H
        have H := H1
        clear H1
        obtain rfl := Option.some.inj H
        go_enter Tryd.func28, Tryd.ntmps28
        go_wp2_with (first | ((with_reducible refine gate_dst (N := 24) rfl ?_); (try (refine gate_guard (by rfl) ?_; dsimp only)); refine Kd.R_lit (Kd.int .i64) _ 2 ?hg (N := 24) ?hd (xs := ([a0, a1, a2, a3] : List Int)) (inner := [.int .i64 a0, .int .i64 a1, .int .i64 a2, .int .i64 a3]) (ok := fun _ => True) (okp := fun _ => True) ?hr ?hp (fun _ hk => hk) trivial (Below.refl _ _) (Nat.le_refl _) (by simp) ?_; (case hd => rfl); (case hg => rfl); (case hr => first | (go_simp; done) | (go_simp; rfl)); (case hp => exact (Reps.one (show Kd.M (Kd.int .i64) _ _ _ a0 [.int .i64 a0] from rfl) (Reps.one (show Kd.M (Kd.int .i64) _ _ _ a1 [.int .i64 a1] from rfl) (Reps.one (show Kd.M (Kd.int .i64) _ _ _ a2 [.int .i64 a2] from rfl) (Reps.one (show Kd.M (Kd.int .i64) _ _ _ a3 [.int .i64 a3] from rfl) (Reps.none _ _)))))); intro v138 w15 ho16 hb hg_ hnew_; clear hg_ hnew_; (first | rw [← Ny137.out] at ho16 | (simp only [Int.reduceToNat] at ho16; rw [← Ny137.out] at ho16)); have n0_ := Aside0.mk (Kd.R_lower ho16 (below_size (by repeat (first | (with_reducible first | exact HB.out | apply below_alloc | apply pw_below_drewN | apply below_drew1) | exact HB.out)))); have n1_ := Aside0.mk (below_step (by repeat (first | (with_reducible first | exact HB.out | apply below_alloc | apply pw_below_drewN | apply below_drew1) | exact HB.out)) hb); clear HB; have HO139 := n0_; have HB := n1_; clear n0_ n1_; clear hb ho16; obtain ⟨Ao17, co17, eo17⟩ := Kd.R_slice HO139.out; subst eo17) | (go_at_call 51; (with_reducible refine (aim_inside.calls k _ _ y137 false _ ?side1 ?side2 A8.out).mono ?_); (case side1 => repeat (first | exact (Kd.R_reads' HO139.out).2.2 | (with_reducible refine Kd.C_alloc ?_ _) | (with_reducible refine Kd.C_drewN ?_ _) | (with_reducible refine Kd.C_drew ?_))); (case side2 => exact (Kd.R_reads' HO139.out).2.1); rintro e w' ⟨rfl, ⟨nd, rfl⟩⟩))
        go_ret
        exact ⟨by first | rfl | (simp [errW_none, errW_some] <;> rfl) | (simp [*, errW_none, errW_some] <;> rfl), by repeat (first | (with_reducible first | exact HB.out | apply below_alloc | apply pw_below_drewN | apply below_drew1) | exact HB.out)⟩
noncomputable def bivouaclaw16_Flat.f  : Option (Int × Int × Int × List Int) := if 100 ≤ 281474976710656 then (some (9, 9, 0, (List.replicate 100 0))) else (none)
set_option maxHeartbeats 8000000 in
set_option maxRecDepth 100000 in
theorem bivouaclaw16_Flat.calls  (r1 : Int) (r2 : Int) (r3 : Int) (r4 : List Int) (w : World) (h : bivouaclaw16_Flat.f  = some (r1, r2, r3, r4)) :
    Calls Tryd.prog 53 #[] w fun e w' => ∃ v3_ : Value, e = .returned (.agg #[.int .i64 r1, .int .i64 r2, .int .i64 r3, v3_]) ∧ Kd.R (Kd.int .u8) 5 w' w.heap.size (fun _ => True) v3_ r4 ∧ Below w.heap.size w w' := by
  have hu45 := Tryd.underlying45
  have HB := Aside0.mk (Below.refl w.heap.size w)
  have H : (if 100 ≤ 281474976710656 then (some (9, 9, 0, (List.replicate 100 0))) else (none)) = some (r1, r2, r3, r4) := h
  clear h
  by_cases c1 : 100 ≤ 281474976710656
  · rw [if_pos c1] at H
    have c1b0 := eq_true c1
    have c1b1 : decide (100 ≤ 281474976710656) = true := decide_eq_true c1
    clear c1
    obtain ⟨y144, hy144⟩ : ∃ y_ : List Int, y_ = (List.replicate 100 0) := ⟨_, rfl⟩
    replace H : (some (9, 9, 0, y144)) = some (r1, r2, r3, r4) := by first | (rw [hy144]; with_reducible exact H) | (have H2_ := (Option.bind_some _ _).symm.trans H; rw [hy144]; with_reducible exact H2_) | (have H2_ := (Option.bind_some _ _).symm.trans H; with_reducible exact H2_) | with_reducible exact H | (rw [hy144]; exact H) | exact H
    have Ny144 := Aside0.mk hy144
    clear hy144
    simp only [Option.some.injEq, Prod.mk.injEq] at H
    obtain ⟨rfl, rfl, rfl, rfl⟩ := H
    go_enter Tryd.func53, Tryd.ntmps53
    go_wp2_with (first | ((with_reducible refine gate_dst (N := 0) rfl ?_); refine box_event ?hg (N := 0) ?hd (cs := #[.int .i64 0, .int .i64 0, .int .i64 0, .slice none 0 0]) (t := 45) ?hr ?_; (case hd => rfl); (case hg => rfl); (case hr => first | (go_simp; done) | (go_simp; rfl)); intro gb143 hg w2 hbox hb; have n0_ := Aside0.mk (below_step (by repeat (first | (with_reducible first | exact HB.out | apply below_alloc | apply pw_below_drewN | apply below_drew1) | exact HB.out)) hb); have n1_ := Aside0.mk (hbox); have n2_ := Aside0.mk ((by rw [hg]; exact (below_size (by repeat (first | (with_reducible first | exact HB.out | apply below_alloc | apply pw_below_drewN | apply below_drew1) | exact HB.out))) : w.heap.size ≤ gb143)); have n3_ := Aside0.mk ((by rw [hg]; exact (below_size (by repeat (first | (with_reducible first | exact HB.out | apply below_alloc | apply pw_below_drewN | apply below_drew1) | exact HB.out))) : w.heap.size ≤ gb143)); clear HB; have HB := n0_; have BK143 := n1_; have GW143 := n2_; have GE143 := n3_; clear n0_ n1_ n2_ n3_; clear hb hbox hg) | ((with_reducible refine gate_dst (N := 1) rfl ?_); refine Kd.R_make (Kd.int .u8) _ 5 rfl (N := 1) rfl 43 _ _ rfl 100 rfl rfl Tryd.underlying43 (.int .u8 0) 1 info5 rfl (by decide) (by omega) 0 (ok := fun _ => True) (okp := fun _ => True) rfl (fun _ hk => hk) trivial (by omega) (by omega) (Below.refl _ _) (Nat.le_refl _) ?_; intro v145 w3 ho4 hb hg_ hnew_; clear hg_ hnew_; (first | rw [← Ny144.out] at ho4 | (simp only [Int.reduceToNat] at ho4; rw [← Ny144.out] at ho4)); have n0_ := Aside0.mk (Kd.R_lower ho4 (below_size (by repeat (first | (with_reducible first | exact HB.out | apply below_alloc | apply pw_below_drewN | apply below_drew1 | refine below_set ?_ GE143.out) | exact HB.out)))); have n1_ := Aside0.mk (blk_below (g := gb143) (o := .cells #[.int .i64 0, .int .i64 0, .int .i64 0, .slice none 0 0] 45 (0, 0)) (by (with_reducible repeat (first | refine blk_drewN ?_ _ | refine blk_drew ?_ | refine blk_alloc ?_ _)); exact BK143.out) hb); have n2_ := Aside0.mk (below_step (by repeat (first | (with_reducible first | exact HB.out | apply below_alloc | apply pw_below_drewN | apply below_drew1 | refine below_set ?_ GE143.out) | exact HB.out)) hb); clear BK143; clear HB; have HO146 := n0_; have BK143 := n1_; have HB := n2_; clear n0_ n1_ n2_; clear hb ho4; obtain ⟨Ao5, co5, eo5⟩ := Kd.R_slice HO146.out; subst eo5; have hcz6_0 : w3.cell? ⟨gb143, 0, none⟩ = some (.int .i64 0) := (blk_cell BK143.out 0).trans rfl; have hcz6_1 : w3.cell? ⟨gb143, 1, none⟩ = some (.int .i64 0) := (blk_cell BK143.out 1).trans rfl; have hcz6_2 : w3.cell? ⟨gb143, 2, none⟩ = some (.int .i64 0) := (blk_cell BK143.out 2).trans rfl; have hcz6_3 : w3.cell? ⟨gb143, 3, none⟩ = some (.slice none 0 0) := (blk_cell BK143.out 3).trans rfl; have hfz6_0 := blk_frozen BK143.out 0; have hfz6_1 := blk_frozen BK143.out 1; have hfz6_2 := blk_frozen BK143.out 2; have hfz6_3 := blk_frozen BK143.out 3))
    refine bodyPost_ret (results_cell_row rfl _ _ gb143 45 #[.int .i64 9, .int .i64 9, .int .i64 0, .slice Ao5 y144.length co5] (0, 0) _ rfl (by (with_reducible repeat (first | refine blk_drewN ?_ _ | refine blk_drew ?_ | refine blk_alloc ?_ _)); refine blk_put (cs := #[.int .i64 9, .int .i64 9, .int .i64 0, .slice none 0 0]) ?_ 3 _ rfl; (with_reducible repeat (first | refine blk_drewN ?_ _ | refine blk_drew ?_ | refine blk_alloc ?_ _)); refine blk_put (cs := #[.int .i64 9, .int .i64 9, .int .i64 0, .slice none 0 0]) ?_ 2 _ rfl; (with_reducible repeat (first | refine blk_drewN ?_ _ | refine blk_drew ?_ | refine blk_alloc ?_ _)); refine blk_put (cs := #[.int .i64 9, .int .i64 0, .int .i64 0, .slice none 0 0]) ?_ 1 _ rfl; (with_reducible repeat (first | refine blk_drewN ?_ _ | refine blk_drew ?_ | refine blk_alloc ?_ _)); refine blk_put (cs := #[.int .i64 0, .int .i64 0, .int .i64 0, .slice none 0 0]) ?_ 0 _ rfl; (with_reducible repeat (first | refine blk_drewN ?_ _ | refine blk_drew ?_ | refine blk_alloc ?_ _)); exact BK143.out) Tryd.underlying45 rfl (by kernel_rfl)) rfl ?_
    exact ⟨_, by first | rfl | (simp [errW_none, errW_some] <;> rfl) | (simp [*, errW_none, errW_some] <;> rfl), by (with_reducible repeat (first | apply Kd.R_alloc | apply Kd.R_drewN | apply Kd.R_drew)); exact Kd.R_mono (Kd.R_far (p := ⟨gb143, 3, none⟩) (Kd.R_far (p := ⟨gb143, 2, none⟩) (Kd.R_far (p := ⟨gb143, 1, none⟩) (Kd.R_far (p := ⟨gb143, 0, none⟩) (Kd.R_types HO146.out BK143.out (by decide)) (fun _ hk => hk.2) (.int .i64 9)) (fun _ hk => hk.2) (.int .i64 9)) (fun _ hk => hk.2) (.int .i64 0)) (fun _ hk => hk.2) (.slice Ao5 y144.length co5)) (fun _ hk => trivial), by repeat (first | (with_reducible first | exact HB.out | apply below_alloc | apply pw_below_drewN | apply below_drew1 | refine below_set ?_ GE143.out) | exact HB.out)⟩
  · rw [if_neg c1] at H
    exact absurd H (by simp)
noncomputable def bivouacref17_times.f (a b : Int) : Option Int := if fits a then (if fits b then some (timesS a b) else none) else none
end Go.Proofs.YtbcddiaplpbhjaaDoor.MAi
