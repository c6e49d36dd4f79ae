/- The plain law of the sines: the table, the core of a quarter, and what follows of it. -/
import Derived.Below
namespace Go.Proofs.YtikhgdbbbingbaaDoor.Tr
open Go Go.RowKit
set_option linter.unusedVariables false

def tab : List Int := [0, 1608, 3216, 4821, 6424, 8022, 9616, 11204, 12785, 14359, 15924, 17479, 19024, 20557, 22078, 23586, 25080, 26558, 28020, 29466, 30893, 32303, 33692, 35062, 36410, 37736, 39040, 40320, 41576, 42806, 44011, 45190, 46341, 47464, 48559, 49624, 50660, 51665, 52639, 53581, 54491, 55368, 56212, 57022, 57798, 58538, 59244, 59914, 60547, 61145, 61705, 62228, 62714, 63162, 63572, 63944, 64277, 64571, 64827, 65043, 65220, 65358, 65457, 65516, 65536]

def at_ (i : Int) : Int := tab.getD i.toNat 0

/-- the sine of a quarter's angle r, 0 to 16384 -/
def core (r : Int) : Int := at_ (r / 256) + (at_ (r / 256 + 1) - at_ (r / 256)) * (r % 256) / 256

/-- the sine of an angle p from 0 to 65535 -/
def sinP (p : Int) : Int :=
  if p ≥ 32768 then -core (if p / 16384 % 2 = 1 then 16384 - p % 16384 else p % 16384)
  else core (if p / 16384 % 2 = 1 then 16384 - p % 16384 else p % 16384)

def nrm (a : Int) : Int := a % 65536
def sinA (a : Int) : Int := sinP (nrm a)
def cosA (a : Int) : Int := sinA (nrm a + 16384)

theorem nrm_range (a : Int) : 0 ≤ nrm a ∧ nrm a < 65536 := by unfold nrm; omega

theorem tmod_pos (a n : Int) (h : 0 ≤ a) : a.tmod n = a % n := Int.tmod_eq_emod_of_nonneg h
theorem tmod_neg (a n : Int) (h : a ≤ 0) : a.tmod n = -((-a) % n) := by
  have h1 := Int.neg_tmod (-a) n
  rw [Int.neg_neg] at h1
  rw [h1, Int.tmod_eq_emod_of_nonneg (show 0 ≤ -a by omega)]

/-- the table rises, step by step, from 0 to 65536 -/
theorem at_nat (n : Nat) (h : n < 64) : at_ (n : Int) ≤ at_ ((n : Int) + 1) ∧ at_ ((n : Int) + 1) ≤ at_ n + 1700 ∧ 0 ≤ at_ n ∧ at_ ((n : Int) + 1) ≤ 65536 := by
  have key : ∀ k : Fin 64, at_ (k.val : Int) ≤ at_ ((k.val : Int) + 1) ∧ at_ ((k.val : Int) + 1) ≤ at_ k.val + 1700 ∧ 0 ≤ at_ k.val ∧ at_ ((k.val : Int) + 1) ≤ 65536 := by decide +kernel
  exact key ⟨n, h⟩

theorem at_rise (i : Int) (h0 : 0 ≤ i) (h1 : i < 64) : at_ i ≤ at_ (i + 1) ∧ at_ (i + 1) ≤ at_ i + 1700 ∧ 0 ≤ at_ i ∧ at_ (i + 1) ≤ 65536 := by
  obtain ⟨n, rfl⟩ : ∃ n : Nat, i = n := ⟨i.toNat, by omega⟩
  exact at_nat n (by omega)

theorem at_mono_nat (i d : Nat) : i + d ≤ 64 → at_ (i : Int) ≤ at_ ((i + d : Nat) : Int) := by
  induction d with
  | zero => intro _; exact Int.le_refl _
  | succ d ih =>
    intro h
    have h1 := ih (by omega)
    have h2 := (at_nat (i + d) (by omega)).1
    have e : (((i + (d + 1) : Nat)) : Int) = ((i + d : Nat) : Int) + 1 := by omega
    rw [e]; omega

theorem at_mono (i j : Int) (h0 : 0 ≤ i) (h : i ≤ j) (h1 : j ≤ 64) : at_ i ≤ at_ j := by
  obtain ⟨n, rfl⟩ : ∃ n : Nat, i = n := ⟨i.toNat, by omega⟩
  have := at_mono_nat n (j - n).toNat (by omega)
  have e : ((n + (j - n).toNat : Nat) : Int) = j := by omega
  rw [e] at this; exact this

theorem at_bound (i : Int) (h0 : 0 ≤ i) (h1 : i < 65) : 0 ≤ at_ i ∧ at_ i ≤ 65536 := by
  have a1 := at_mono 0 i (by omega) h0 (by omega)
  have a2 := at_mono i 64 h0 (by omega) (by omega)
  have e1 : at_ 0 = 0 := by decide +kernel
  have e2 : at_ 64 = 65536 := by decide +kernel
  omega

/-- what is added lies between nothing and the step -/
theorem part_range (d f : Int) (hd : 0 ≤ d) (f0 : 0 ≤ f) (f1 : f < 256) : 0 ≤ d * f / 256 ∧ d * f / 256 ≤ d := by
  have h1 : 0 ≤ d * f := Int.mul_nonneg hd f0
  have h2 : d * f ≤ d * 256 := Int.mul_le_mul_of_nonneg_left (by omega) hd
  constructor
  · omega
  · omega

theorem core_range (r : Int) (h0 : 0 ≤ r) (h1 : r < 16384) : at_ (r / 256) ≤ core r ∧ core r ≤ at_ (r / 256 + 1) := by
  have h := at_rise (r / 256) (by omega) (by omega)
  have hp := part_range (at_ (r / 256 + 1) - at_ (r / 256)) (r % 256) (by omega) (by omega) (by omega)
  unfold core; omega

theorem core_top : core 16384 = 65536 := by decide +kernel
theorem core_zero : core 0 = 0 := by decide +kernel

theorem core_mono (x y : Int) (h0 : 0 ≤ x) (h : x ≤ y) (h1 : y ≤ 16384) : core x ≤ core y := by
  by_cases hy : y = 16384
  · subst hy; rw [core_top]
    by_cases hx : x = 16384
    · subst hx; rw [core_top]; omega
    · have := core_range x h0 (by omega)
      have := (at_rise (x / 256) (by omega) (by omega))
      omega
  · by_cases e : x / 256 = y / 256
    · unfold core
      rw [e]
      have h := at_rise (y / 256) (by omega) (by omega)
      have : (at_ (y / 256 + 1) - at_ (y / 256)) * (x % 256) ≤ (at_ (y / 256 + 1) - at_ (y / 256)) * (y % 256) :=
        Int.mul_le_mul_of_nonneg_left (by omega) (by omega)
      omega
    · have a1 := (core_range x h0 (by omega)).2
      have a2 := (core_range y (by omega) (by omega)).1
      have a3 := at_mono (x / 256 + 1) (y / 256) (by omega) (by omega) (by omega)
      omega

theorem core_bound (r : Int) (h0 : 0 ≤ r) (h1 : r ≤ 16384) : 0 ≤ core r ∧ core r ≤ 65536 := by
  have a := core_mono 0 r (by omega) h0 h1
  have b := core_mono r 16384 h0 h1 (by omega)
  rw [core_zero] at a; rw [core_top] at b
  exact ⟨a, b⟩

theorem fold_range (p : Int) (h0 : 0 ≤ p) (h1 : p < 65536) : 0 ≤ (if p / 16384 % 2 = 1 then 16384 - p % 16384 else p % 16384) ∧ (if p / 16384 % 2 = 1 then 16384 - p % 16384 else p % 16384) ≤ 16384 := by
  split <;> omega

theorem sinP_bound (p : Int) (h0 : 0 ≤ p) (h1 : p < 65536) : -65536 ≤ sinP p ∧ sinP p ≤ 65536 := by
  have hf := fold_range p h0 h1
  have hb := core_bound _ hf.1 hf.2
  unfold sinP
  split <;> omega

theorem sinA_bound (a : Int) : -65536 ≤ sinA a ∧ sinA a ≤ 65536 := sinP_bound _ (nrm_range a).1 (nrm_range a).2
theorem cosA_bound (a : Int) : -65536 ≤ cosA a ∧ cosA a ≤ 65536 := sinA_bound _

/-- quarter by quarter -/
theorem sinP_1 (p : Int) (h0 : 0 ≤ p) (h1 : p ≤ 16384) : sinP p = core p := by
  unfold sinP
  rw [if_neg (by omega)]
  by_cases e : p = 16384
  · subst e; rfl
  · rw [if_neg (by omega)]; congr 1; omega
theorem sinP_2 (p : Int) (h0 : 16384 ≤ p) (h1 : p < 32768) : sinP p = core (32768 - p) := by
  unfold sinP
  rw [if_neg (by omega), if_pos (by omega)]; congr 1; omega
theorem sinP_3 (p : Int) (h0 : 32768 ≤ p) (h1 : p < 49152) : sinP p = -core (p - 32768) := by
  unfold sinP
  rw [if_pos (by omega), if_neg (by omega)]; congr 2; omega
theorem sinP_4 (p : Int) (h0 : 49152 ≤ p) (h1 : p < 65536) : sinP p = -core (65536 - p) := by
  unfold sinP
  rw [if_pos (by omega), if_pos (by omega)]; congr 2; omega

end Go.Proofs.YtikhgdbbbingbaaDoor.Tr
