/- The plain law of roots. -/
import Derived.Below
namespace Go.Proofs.YtikhgdbbbingbaaDoor.Rt
open Go Go.RowKit
set_option linter.unusedVariables false

/-- r is the greatest whole number whose square is not above n -/
def isRoot (n r : Int) : Prop := 0 ≤ r ∧ r * r ≤ n ∧ n < (r + 1) * (r + 1)

theorem sq_mono {x y : Int} (h0 : 0 ≤ x) (h : x ≤ y) : x * x ≤ y * y := by
  have h1 : x * x ≤ y * x := Int.mul_le_mul_of_nonneg_right h h0
  have h2 : y * x ≤ y * y := Int.mul_le_mul_of_nonneg_left h (by omega)
  omega
theorem lt_of_sq {x y : Int} (h0 : 0 ≤ y) (h : x * x < y * y) : x < y := by
  by_cases hx : x < y
  · exact hx
  · have := sq_mono h0 (show y ≤ x by omega); omega
theorem isRoot_unique {n r s : Int} (h : isRoot n r) (k : isRoot n s) : r = s := by
  have h1 := lt_of_sq (show 0 ≤ s + 1 by have := k.1; omega) (show r * r < (s + 1) * (s + 1) by have := h.2.1; have := k.2.2; omega)
  have h2 := lt_of_sq (show 0 ≤ r + 1 by have := h.1; omega) (show s * s < (r + 1) * (r + 1) by have := k.2.1; have := h.2.2; omega)
  omega
theorem sq_succ (r : Int) : (r + 1) * (r + 1) = r * r + 2 * r + 1 := by rw [Int.add_mul, Int.mul_add]; omega
theorem isRoot_nat (n : Nat) : ∃ r : Int, isRoot n r := by
  induction n with
  | zero => exact ⟨0, by omega, by omega, by omega⟩
  | succ n ih =>
    obtain ⟨r, h0, h1, h2⟩ := ih
    rw [sq_succ] at h2
    by_cases h : ((n + 1 : Nat) : Int) < (r + 1) * (r + 1)
    · exact ⟨r, h0, by omega, h⟩
    · refine ⟨r + 1, by omega, by omega, ?_⟩
      have e := sq_succ r
      have e2 := sq_succ (r + 1)
      omega
theorem isRoot_ex {n : Int} (h : 0 ≤ n) : ∃ r, isRoot n r := by
  obtain ⟨m, rfl⟩ : ∃ m : Nat, n = m := ⟨n.toNat, by omega⟩
  exact isRoot_nat m

/-- the root -/
noncomputable def rt (n : Int) : Int := open Classical in if h : ∃ r, isRoot n r then Classical.choose h else 0
theorem rt_is {n : Int} (h : 0 ≤ n) : isRoot n (rt n) := by
  unfold rt
  rw [dif_pos (isRoot_ex h)]
  exact Classical.choose_spec (isRoot_ex h)
theorem rt_eq {n r : Int} (h : 0 ≤ n) (k : isRoot n r) : rt n = r := isRoot_unique (rt_is h) k

theorem rt_lt {n m : Int} (h : 0 ≤ n) (hm : 0 ≤ m) (k : n < m * m) : rt n < m := by
  obtain ⟨h0, h1, h2⟩ := rt_is h
  exact lt_of_sq hm (by omega)

/-- one step downward -/
theorem newton {n r x : Int} (hr : isRoot n r) (hx : 0 < x) (hrx : r ≤ x) : r ≤ (x + n / x) / 2 ∧ (x ≤ (x + n / x) / 2 → x = r) := by
  obtain ⟨h0, h1, h2⟩ := hr
  have a : (2 * r - x) * x ≤ n := by
    obtain ⟨d, rfl⟩ : ∃ d, x = r + d := ⟨x - r, by omega⟩
    have e : (2 * r - (r + d)) * (r + d) = r * r - d * d := by
      rw [show 2 * r - (r + d) = r - d by omega, Int.sub_mul, Int.mul_add, Int.mul_add, Int.mul_comm d r]; omega
    have := sq_mono (show (0 : Int) ≤ 0 by omega) (show 0 ≤ d by omega)
    rw [e]; omega
  have b : 2 * r - x ≤ n / x := (Int.le_ediv_iff_mul_le hx).2 a
  refine ⟨by omega, fun h => ?_⟩
  by_cases hx2 : x ≤ r
  · omega
  · have c : n < x * x := by have := sq_mono (show 0 ≤ r + 1 by omega) (show r + 1 ≤ x by omega); omega
    have d := Int.ediv_lt_of_lt_mul hx c
    omega
theorem quo_le {n r x : Int} (hr : isRoot n r) (hx : 0 < x) (hrx : r ≤ x) : 0 ≤ n / x ∧ n / x ≤ r + 2 := by
  obtain ⟨h0, h1, h2⟩ := hr
  rw [sq_succ] at h2
  have hn : 0 ≤ n := by have := sq_mono (show (0 : Int) ≤ 0 by omega) h0; omega
  refine ⟨Int.ediv_nonneg hn (by omega), ?_⟩
  have e : r * (r + 2) ≤ x * (r + 2) := Int.mul_le_mul_of_nonneg_right hrx (by omega)
  have e2 : r * (r + 2) = r * r + 2 * r := by rw [Int.mul_add]; omega
  have : n / x < r + 3 := Int.ediv_lt_of_lt_mul hx (by rw [show r + 3 = (r + 2) + 1 by omega, Int.add_mul, Int.mul_comm (r + 2)]; omega)
  omega

/-- two to the k -/
def p2 : Nat → Int
  | 0 => 1
  | k + 1 => 2 * p2 k
theorem p2_pos : ∀ k, 0 < p2 k
  | 0 => by decide
  | k + 1 => by have := p2_pos k; unfold p2; omega
theorem p2_add (a b : Nat) : p2 (a + b) = p2 a * p2 b := by
  induction b with
  | zero => simp [p2]
  | succ b ih => rw [show a + (b + 1) = (a + b) + 1 from rfl, p2, ih, p2, Int.mul_left_comm]
theorem p2_mono {a b : Nat} (h : a ≤ b) : p2 a ≤ p2 b := by
  obtain ⟨c, rfl⟩ : ∃ c, b = a + c := ⟨b - a, by omega⟩
  rw [p2_add]
  have h1 := p2_pos a
  have h2 := p2_pos c
  have : p2 a * 1 ≤ p2 a * p2 c := Int.mul_le_mul_of_nonneg_left (by omega) (by omega)
  omega
/-- bit by bit: what is known ahead of bit k -/
def upTo (n r : Int) (k : Nat) : Prop := 0 ≤ r ∧ r * r ≤ n ∧ n < (r + p2 k) * (r + p2 k) ∧ r + p2 k ≤ 4294967296
theorem upTo_take {n r : Int} {k : Nat} (h : upTo n r (k + 1)) (hx : (r + p2 k) * (r + p2 k) ≤ n) : upTo n (r + p2 k) k := by
  obtain ⟨h0, h1, h2, h3⟩ := h
  have := p2_pos k
  unfold p2 at h2 h3
  refine ⟨by omega, hx, ?_, by omega⟩
  rw [show r + p2 k + p2 k = r + 2 * p2 k by omega]; exact h2
theorem upTo_leave {n r : Int} {k : Nat} (h : upTo n r (k + 1)) (hx : ¬ (r + p2 k) * (r + p2 k) ≤ n) : upTo n r k := by
  obtain ⟨h0, h1, h2, h3⟩ := h
  have := p2_pos k
  unfold p2 at h3
  exact ⟨h0, h1, by omega, by omega⟩
theorem upTo_end {n r : Int} (h : upTo n r 0) : isRoot n r := by
  obtain ⟨h0, h1, h2, h3⟩ := h
  exact ⟨h0, h1, h2⟩
end Go.Proofs.YtikhgdbbbingbaaDoor.Rt
