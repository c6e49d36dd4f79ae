/- Floats of 64 bits, plain: what they stand for, which products, floors and differences are exact. -/
import Ieee.Arith
import GoSem.Core.Float
namespace Go.Proofs.Ytbcddiaplpbhjaa.Rl
open Ieee
set_option linter.unusedVariables false

/-- a whole number of a sign -/
def sg (s : Bool) (m : Nat) : Int := if s then -(m : Int) else (m : Int)
/-- what a datum stands for, times 2 ^ T, where its place is not below -T -/
def V (T : Nat) (s : Bool) (m : Nat) (e : Int) : Int := sg s m * ((2 ^ (e + T).toNat : Nat) : Int)
/-- a number times 2 ^ k, rounded down -/
def fl (s : Bool) (m : Nat) (k : Int) : Int := if 0 ≤ k then sg s m * ((2 ^ k.toNat : Nat) : Int) else sg s m / ((2 ^ (-k).toNat : Nat) : Int)

theorem two_pos (n : Nat) : (0 : Int) < ((2 ^ n : Nat) : Int) := by have := Nat.two_pow_pos n; omega
theorem two_add (a b : Nat) : ((2 ^ (a + b) : Nat) : Int) = ((2 ^ a : Nat) : Int) * ((2 ^ b : Nat) : Int) := by rw [Nat.pow_add, Int.natCast_mul]
theorem sg_mul (s : Bool) (m n : Nat) : sg s (m * n) = sg s m * (n : Int) := by unfold sg; cases s <;> simp [Int.natCast_mul, Int.neg_mul]
theorem sg_natAbs (s : Bool) (m : Nat) : (sg s m).natAbs = m := by unfold sg; cases s <;> simp
theorem sg_zero (s : Bool) : sg s 0 = 0 := by unfold sg; cases s <;> simp
theorem sg_sign (s : Bool) (m : Nat) (h : 0 < m) : (s = true → sg s m < 0) ∧ (s = false → 0 < sg s m) := by unfold sg; cases s <;> simp <;> omega

/-- the same number at another place -/
theorem V_shift (T : Nat) (s : Bool) (m d : Nat) (e : Int) (he : -(T : Int) ≤ e) : V T s (m * 2 ^ d) e = V T s m (e + d) := by
  unfold V
  rw [sg_mul, show (e + d + T).toNat = d + (e + T).toNat by omega, two_add, Int.mul_assoc]

theorem V_zero (T : Nat) (s : Bool) (m : Nat) : V T s m 0 = sg s m * ((2 ^ T : Nat) : Int) := by
  unfold V; rw [show ((0 : Int) + T).toNat = T by omega]
/-- rounded down it hangs on the number alone -/
theorem fl_eq (T : Nat) (s : Bool) (m : Nat) (k : Int) (hk : -(T : Int) ≤ k) : fl s m k = V T s m k / ((2 ^ T : Nat) : Int) := by
  unfold fl V
  split
  · rename_i h
    rw [show (k + T).toNat = k.toNat + T by omega, two_add, ← Int.mul_assoc, Int.mul_ediv_cancel _ (by have := two_pos T; omega)]
  · rename_i h
    have e : ((2 ^ T : Nat) : Int) = ((2 ^ (-k).toNat : Nat) : Int) * ((2 ^ (k + T).toNat : Nat) : Int) := by
      rw [← two_add]; congr 2; omega
    rw [e, Int.mul_ediv_mul_of_pos_left _ _ (two_pos _)]
theorem fl_shift (T : Nat) (s : Bool) (m d : Nat) (k : Int) (hk : -(T : Int) ≤ k) : fl s (m * 2 ^ d) k = fl s m (k + d) := by
  rw [fl_eq T _ _ _ hk, fl_eq T _ _ _ (by omega), V_shift _ _ _ _ _ hk]

theorem log2_bounds {m : Nat} (h : m ≠ 0) : 2 ^ m.log2 ≤ m ∧ m < 2 ^ (m.log2 + 1) := ⟨Nat.log2_self_le h, Nat.lt_log2_self⟩
theorem log2_unique {m a : Nat} (h1 : 2 ^ a ≤ m) (h2 : m < 2 ^ (a + 1)) : m.log2 = a := by
  have hm : m ≠ 0 := by have := Nat.two_pow_pos a; omega
  obtain ⟨b1, b2⟩ := log2_bounds hm
  have h3 : a < m.log2 + 1 := (Nat.pow_lt_pow_iff_right (by omega : 1 < 2)).1 (Nat.lt_of_le_of_lt h1 b2)
  have h4 : m.log2 < a + 1 := (Nat.pow_lt_pow_iff_right (by omega : 1 < 2)).1 (Nat.lt_of_le_of_lt b1 h2)
  omega
theorem log2_mul_two_pow {m : Nat} (h : m ≠ 0) (d : Nat) : (m * 2 ^ d).log2 = m.log2 + d := by
  obtain ⟨b1, b2⟩ := log2_bounds h
  refine log2_unique ?_ ?_
  · rw [Nat.pow_add]; exact Nat.mul_le_mul_right _ b1
  · rw [show m.log2 + d + 1 = (m.log2 + 1) + d by omega, Nat.pow_add]; exact (Nat.mul_lt_mul_right (Nat.two_pow_pos d)).2 b2

/-- what is read of a word whose rung is so many binades and a significand -/
theorem read_word (neg : Bool) (b kept : Nat) (hk : kept < 2 ^ 53) (hb : b = 0 ∨ 2 ^ 52 ≤ kept) (hr : b ≤ 2045) :
    double.read (double.word neg (b * 2 ^ 52 + kept)) = .number neg kept (-1074 + b) := by
  have hsw : double.signWeight = 2 ^ 63 := rfl
  have hbin : double.binade = 2 ^ 52 := rfl
  have hinf : double.infRung = 2047 * 2 ^ 52 := by decide
  have hlp : double.leastPlace = -1074 := by decide
  have hrlt : b * 2 ^ 52 + kept < 2047 * 2 ^ 52 := by omega
  obtain ⟨r, hre⟩ : ∃ r, b * 2 ^ 52 + kept = r := ⟨_, rfl⟩
  rw [hre] at hrlt ⊢
  have h1 : double.word neg r / double.signWeight % 2 = if neg then 1 else 0 := by
    unfold Format.word; rw [hsw]; cases neg <;> simp <;> omega
  have h2 : double.word neg r % double.signWeight = r := by
    unfold Format.word; rw [hsw]; cases neg <;> simp <;> omega
  unfold Format.read
  simp only [h1, h2, hbin, hinf, hlp]
  by_cases hc : r < 2 ^ 52
  · rw [if_pos hc]
    have : b = 0 := by omega
    subst this
    have : kept = r := by omega
    subst this
    cases neg <;> simp
  · rw [if_neg hc, if_pos hrlt]
    have e1 : 2 ^ 52 + r % 2 ^ 52 = kept := by omega
    have e2 : r / 2 ^ 52 - 1 = b := by omega
    rw [e1, e2]
    cases neg <;> simp

theorem cut_exact (way : Toward) (neg : Bool) (n drop : Nat) : way.cut neg (n * 2 ^ drop) drop = n := by
  unfold Toward.cut
  by_cases hn : n = 0
  · subst hn
    simp
    cases way <;> simp
  · have hl : min drop ((n * 2 ^ drop).log2 + 2) = drop := by rw [log2_mul_two_pow hn]; omega
    rw [hl]
    have hg : 1 <<< drop = 2 ^ drop := by rw [Nat.shiftLeft_eq, Nat.one_mul]
    have hp := Nat.two_pow_pos drop
    simp only [hg, Nat.mul_div_cancel _ hp, Nat.mul_mod_left]
    cases way <;> simp <;> omega

/-- a number that the format has is written as it is: it has at most 53 digits, and none below the least place -/
theorem nearest_exact0 (neg : Bool) (k d : Nat) (place : Int) (hk0 : k ≠ 0) (hk : k < 2 ^ 53) (hp : -1074 ≤ place + d) (hq : place + d ≤ 971) :
    ∃ m e, double.read (double.nearest neg (k * 2 ^ d) place) = .number neg m e ∧ (∃ j : Nat, m = k * 2 ^ j ∧ e = place + d - j) ∧ m < 2 ^ 53 ∧ -1074 ≤ e ∧ e ≤ 971 ∧ (e = -1074 ∨ 2 ^ 52 ≤ m) := by
  obtain ⟨b1, b2⟩ := log2_bounds hk0
  have hlk : k.log2 ≤ 52 := by
    have := (Nat.pow_lt_pow_iff_right (by omega : 1 < 2)).1 (Nat.lt_of_le_of_lt b1 hk)
    omega
  have hmag : k * 2 ^ d ≠ 0 := by have := Nat.two_pow_pos d; exact Nat.mul_ne_zero hk0 (by omega)
  have hlp : double.leastPlace = -1074 := by decide
  have hfb : double.fractionBits = 52 := rfl
  have hbin : double.binade = 2 ^ 52 := rfl
  have hinf : double.infRung = 2047 * 2 ^ 52 := by decide
  unfold Format.nearest
  rw [if_neg hmag, log2_mul_two_pow hk0, hlp, hfb, hbin, hinf]
  obtain ⟨last, hlast⟩ : ∃ l, max (place + ((k.log2 + d : Nat) : Int) - ((52 : Nat) : Int)) (-1074) = l := ⟨_, rfl⟩
  simp only [hlast]
  -- the digits that are kept: k * 2 ^ j
  have hj : last ≤ place + d := by omega
  obtain ⟨j, hje⟩ : ∃ j : Nat, place + d - last = j := ⟨(place + d - last).toNat, by omega⟩
  have hkept : Toward.even.cut neg ((k * 2 ^ d) <<< (place - last).toNat) (last - place).toNat = k * 2 ^ j := by
    by_cases hc : last ≤ place
    · rw [show (last - place).toNat = 0 by omega, Nat.shiftLeft_eq, Nat.mul_assoc, ← Nat.pow_add, show d + (place - last).toNat = j by omega]
      have := cut_exact .even neg (k * 2 ^ j) 0
      simpa using this
    · rw [show (place - last).toNat = 0 by omega, Nat.shiftLeft_eq, Nat.pow_zero, Nat.mul_one]
      have h : k * 2 ^ d = k * 2 ^ j * 2 ^ (last - place).toNat := by rw [Nat.mul_assoc, ← Nat.pow_add]; congr 2; omega
      rw [h]; exact cut_exact .even neg (k * 2 ^ j) _
  rw [hkept]
  have hlt : k * 2 ^ j < 2 ^ 53 := by
    refine Nat.lt_of_lt_of_le ((Nat.mul_lt_mul_right (Nat.two_pow_pos j)).2 b2) ?_
    rw [← Nat.pow_add]
    exact Nat.pow_le_pow_right (by omega) (by omega)
  obtain ⟨b, hb⟩ : ∃ b, (last - -1074).toNat = b := ⟨_, rfl⟩
  rw [hb]
  have hge : b = 0 ∨ 2 ^ 52 ≤ k * 2 ^ j := by
    by_cases h0 : b = 0
    · exact .inl h0
    · right
      have : k.log2 + j = 52 := by omega
      rw [← this, Nat.pow_add]
      exact Nat.mul_le_mul_right _ b1
  have hb5 : b ≤ 2045 := by omega
  rw [Nat.min_eq_left (by omega)]
  refine ⟨k * 2 ^ j, last, ?_, ⟨j, rfl, by omega⟩, hlt, by omega, by omega, ?_⟩
  · rw [read_word neg b (k * 2 ^ j) hlt hge hb5, show (-1074 + (b : Int)) = last by omega]
  · rcases hge with h | h
    · left; omega
    · right; exact h

theorem nearest_exact (neg : Bool) (k d : Nat) (place : Int) (hk : k < 2 ^ 53) (hp : -1074 ≤ place + d) (hq : place + d ≤ 971) :
    ∃ m e, double.read (double.nearest neg (k * 2 ^ d) place) = .number neg m e ∧ (∃ j : Nat, m = k * 2 ^ j ∧ e = place + d - j) ∧ m < 2 ^ 53 ∧ -1074 ≤ e ∧ e ≤ 971 := by
  by_cases h0 : k = 0
  · subst h0
    have h1 : double.nearest neg (0 * 2 ^ d) place = double.word neg (0 * 2 ^ 52 + 0) := by unfold Format.nearest; simp
    have h2 := read_word neg 0 0 (by omega) (.inl rfl) (by omega)
    exact ⟨0, -1074, by rw [h1]; simpa using h2, ⟨(place + d + 1074).toNat, by omega, by omega⟩, by omega, by omega, by omega⟩
  · obtain ⟨m, e, h1, h2, h3, h4, h5, h6⟩ := nearest_exact0 neg k d place h0 hk hp hq
    exact ⟨m, e, h1, h2, h3, h4, h5⟩

/-- what a word of 64 bits may stand for -/
theorem read_cases (b : Nat) (hb : b < 2 ^ 64) :
    (∃ s m e, double.read b = .number s m e ∧ m < 2 ^ 53 ∧ -1074 ≤ e ∧ e ≤ 971 ∧ (e = -1074 ∨ 2 ^ 52 ≤ m) ∧ b / 2 ^ 52 % 2048 ≠ 2047 ∧ s = (b / 2 ^ 63 == 1) ∧
      (b / 2 ^ 52 % 2048 = 0 → m = b % 2 ^ 52 ∧ e = -1074) ∧ (b / 2 ^ 52 % 2048 ≠ 0 → m = b % 2 ^ 52 + 2 ^ 52 ∧ e = ((b / 2 ^ 52 % 2048 : Nat) : Int) - 1075)) ∨
    (∃ s, double.read b = .infinity s ∧ b / 2 ^ 52 % 2048 = 2047 ∧ b % 2 ^ 52 = 0) ∨
    (∃ s t, double.read b = .nan s t ∧ b / 2 ^ 52 % 2048 = 2047 ∧ b % 2 ^ 52 ≠ 0) := by
  have hsw : double.signWeight = 2 ^ 63 := rfl
  have hbin : double.binade = 2 ^ 52 := rfl
  have hinf : double.infRung = 2047 * 2 ^ 52 := by decide
  have hlp : double.leastPlace = -1074 := by decide
  have hs : b / 2 ^ 63 % 2 = b / 2 ^ 63 := by omega
  unfold Format.read
  simp only [hsw, hbin, hinf, hlp, hs]
  by_cases h1 : b % 2 ^ 63 < 2 ^ 52
  · rw [if_pos h1]
    refine .inl ⟨_, _, _, rfl, by omega, by omega, by omega, .inl rfl, by omega, rfl, fun _ => ⟨by omega, rfl⟩, fun h => by omega⟩
  · rw [if_neg h1]
    by_cases h2 : b % 2 ^ 63 < 2047 * 2 ^ 52
    · rw [if_pos h2]
      refine .inl ⟨_, _, _, rfl, by omega, by omega, by omega, .inr (by omega), by omega, rfl, fun h => by omega, fun _ => ⟨by omega, by omega⟩⟩
    · rw [if_neg h2]
      by_cases h3 : b % 2 ^ 63 = 2047 * 2 ^ 52
      · rw [if_pos h3]
        exact .inr (.inl ⟨_, rfl, by omega, by omega⟩)
      · rw [if_neg h3]
        exact .inr (.inr ⟨_, _, rfl, by omega, by omega⟩)

theorem signed_eq (s : Bool) (m up : Nat) : signed s m up = sg s m * ((2 ^ up : Nat) : Int) := by
  unfold signed sg
  rw [Nat.shiftLeft_eq]
  cases s <;> simp [Int.natCast_mul, Int.neg_mul]

theorem compare_mul {a b c : Int} (hc : 0 < c) : compare (a * c) (b * c) = compare a b := by
  rcases Int.lt_trichotomy a b with h | h | h
  · rw [Int.compare_eq_lt.2 h, Int.compare_eq_lt.2 ((Int.mul_lt_mul_right hc).2 h)]
  · subst h; simp
  · rw [Int.compare_eq_gt.2 h, Int.compare_eq_gt.2 ((Int.mul_lt_mul_right hc).2 h)]

/-- how two numbers stand: as what they stand for does -/
theorem order_V (T : Nat) {x y : Nat} {s t : Bool} {m n : Nat} {i j : Int} (hx : double.read x = .number s m i) (hy : double.read y = .number t n j) (hi : -(T : Int) ≤ i) (hj : -(T : Int) ≤ j) :
    double.order x y = some (compare (V T s m i) (V T t n j)) := by
  unfold Format.order
  rw [hx, hy]
  unfold Datum.order
  simp only [signed_eq]
  congr 1
  unfold V
  rw [show (i + T).toNat = (i - min i j).toNat + (min i j + T).toNat by omega, show (j + T).toNat = (j - min i j).toNat + (min i j + T).toNat by omega, two_add, two_add,
    ← Int.mul_assoc, ← Int.mul_assoc, compare_mul (two_pos _)]

theorem toInt_exact (s : Bool) (n j : Nat) (way : Toward) : (Datum.number s (n * 2 ^ j) (-(j : Int))).toInt way = some (sg s n) := by
  unfold Datum.toInt Datum.integral
  simp only []
  rw [show (-(j : Int)).toNat = 0 by omega, show (-(-(j : Int))).toNat = j by omega, Nat.shiftLeft_eq, Nat.pow_zero, Nat.mul_one, cut_exact, signed_eq]
  simp

/-- rounded down, of a sign and a size -/
theorem cut_down (s : Bool) (m : Nat) (k : Int) : sg s (Toward.down.cut s (m <<< k.toNat) (-k).toNat) = fl s m k := by
  unfold fl
  split
  · rename_i h
    rw [show (-k).toNat = 0 by omega, Nat.shiftLeft_eq]
    have := cut_exact .down s (m * 2 ^ k.toNat) 0
    rw [Nat.pow_zero, Nat.mul_one] at this
    rw [this, sg_mul]
  · rename_i h
    rw [show k.toNat = 0 by omega, Nat.shiftLeft_eq, Nat.pow_zero, Nat.mul_one]
    obtain ⟨d, hd⟩ : ∃ d, (-k).toNat = d := ⟨_, rfl⟩
    rw [hd]
    by_cases hm : m = 0
    · subst hm
      rw [sg_zero]
      have := cut_exact .down s 0 d
      rw [Nat.zero_mul] at this
      rw [this, sg_zero, Int.zero_ediv]
    · obtain ⟨b1, b2⟩ := log2_bounds hm
      -- the quotient and what is left
      have key : ∀ g : Nat, 0 < g → sg s (m / g + (s && m % g != 0).toNat) = sg s m / (g : Int) := by
        intro g hg
        have e1 := Nat.div_add_mod m g
        have e2 := Nat.mod_lt m hg
        obtain ⟨q, hq⟩ : ∃ q, m / g = q := ⟨_, rfl⟩
        obtain ⟨r, hr⟩ : ∃ r, m % g = r := ⟨_, rfl⟩
        rw [hq, hr] at e1
        rw [hr] at e2
        rw [hq, hr]
        have e1' : (m : Int) = (g : Int) * (q : Int) + (r : Int) := by rw [← e1, Int.natCast_add, Int.natCast_mul]
        unfold sg
        cases s
        · simp
          rw [← Int.natCast_ediv, hq]
        · simp only [if_true, Bool.true_and]
          by_cases hz : r = 0
          · subst hz
            simp
            refine (Int.ediv_eq_of_eq_mul_right (by omega) ?_).symm
            rw [e1', Int.mul_neg]; simp
          · have : (r != 0) = true := by simpa using hz
            rw [this]
            refine ((Int.ediv_emod_unique (show (0 : Int) < g by omega)).2 ⟨show ((g : Int) - r) + g * -((q + 1 : Nat) : Int) = -(m : Int) from ?_, by omega, by omega⟩).1.symm
            rw [e1', Int.mul_neg, Int.natCast_add, Int.mul_add]; simp; omega
      unfold Toward.cut
      simp only []
      rw [show (1 <<< min d (m.log2 + 2)) = 2 ^ min d (m.log2 + 2) by rw [Nat.shiftLeft_eq, Nat.one_mul]]
      by_cases hdl : d ≤ m.log2 + 2
      · rw [show min d (m.log2 + 2) = d by omega]
        exact key _ (Nat.two_pow_pos d)
      · rw [show min d (m.log2 + 2) = m.log2 + 2 by omega, key _ (Nat.two_pow_pos _)]
        have l1 : m < 2 ^ (m.log2 + 2) := Nat.lt_of_lt_of_le b2 (Nat.pow_le_pow_right (by omega) (by omega))
        have l2 : m < 2 ^ d := Nat.lt_of_lt_of_le l1 (Nat.pow_le_pow_right (by omega) (by omega))
        unfold sg
        cases s
        · simp only [Bool.false_eq_true, if_false]
          rw [Int.ediv_eq_zero_of_lt (by omega) (by omega), Int.ediv_eq_zero_of_lt (by omega) (by omega)]
        · simp only [if_true]
          rw [((Int.ediv_emod_unique (show (0 : Int) < ((2 ^ (m.log2 + 2) : Nat) : Int) from two_pos _)).2 ⟨show (((2 ^ (m.log2 + 2) : Nat) : Int) - m) + ((2 ^ (m.log2 + 2) : Nat) : Int) * -1 = -(m : Int) by omega, by omega, by omega⟩).1,
            ((Int.ediv_emod_unique (show (0 : Int) < ((2 ^ d : Nat) : Int) from two_pos _)).2 ⟨show (((2 ^ d : Nat) : Int) - m) + ((2 ^ d : Nat) : Int) * -1 = -(m : Int) by omega, by omega, by omega⟩).1]

/-- a whole number below 2 ^ 53 as a float: what is read of it is that number -/
theorem whole_read (T : Nat) (hT : 1074 ≤ T) (s : Bool) (n : Nat) (hn : n < 2 ^ 53) :
    ∃ m e, double.read (double.nearest s n 0) = .number s m e ∧ (∀ way, (Datum.number s m e).toInt way = some (sg s n)) ∧ V T s m e = sg s n * ((2 ^ T : Nat) : Int) ∧ -1074 ≤ e ∧ e ≤ 971 ∧ m < 2 ^ 53 := by
  obtain ⟨m, e, hr, ⟨j, hm, he⟩, h1, h2, h3⟩ := nearest_exact s n 0 0 hn (by omega) (by omega)
  rw [Nat.pow_zero, Nat.mul_one] at hr
  have he' : e = -(j : Int) := by omega
  refine ⟨m, e, hr, fun way => ?_, ?_, h2, h3, h1⟩
  · rw [hm, he']; exact toInt_exact s n j way
  · have h5 := V_shift T s n j e (by omega)
    have h6 : e + j = 0 := by omega
    subst hm
    exact h5.trans ((congrArg (V T s n) h6).trans (V_zero T s n))

/-- however it is rounded: no lower than its highest bit's power of two, no higher than twice that -/
theorem nearest_bounds (T : Nat) (hT : 1074 ≤ T) (neg : Bool) (mag : Nat) (place : Int) (h0 : mag ≠ 0) (hp : -1022 ≤ place + mag.log2) (hq : place + mag.log2 ≤ 900) :
    ∃ m e, double.read (double.nearest neg mag place) = .number neg m e ∧ -1074 ≤ e ∧ e ≤ 971 ∧ m < 2 ^ 53 ∧
      ((2 ^ (place + mag.log2 + T).toNat : Nat) : Int) ≤ (m : Int) * ((2 ^ (e + T).toNat : Nat) : Int) ∧ (m : Int) * ((2 ^ (e + T).toNat : Nat) : Int) ≤ ((2 ^ (place + mag.log2 + 1 + T).toNat : Nat) : Int) := by
  obtain ⟨b1, b2⟩ := log2_bounds h0
  have hlp : double.leastPlace = -1074 := by decide
  have hfb : double.fractionBits = 52 := rfl
  have hbin : double.binade = 2 ^ 52 := rfl
  have hinf : double.infRung = 2047 * 2 ^ 52 := by decide
  obtain ⟨L, hL⟩ : ∃ L, mag.log2 = L := ⟨_, rfl⟩
  unfold Format.nearest
  rw [if_neg h0, hlp, hfb, hbin, hinf]
  rw [hL] at b1 b2 hp hq ⊢
  obtain ⟨last, hlast⟩ : ∃ l, max (place + ((L : Nat) : Int) - ((52 : Nat) : Int)) (-1074) = l := ⟨_, rfl⟩
  simp only [hlast]
  have hl2 : last = place + L - 52 := by omega
  have hkept : ∃ kept, Toward.even.cut neg (mag <<< (place - last).toNat) (last - place).toNat = kept ∧ 2 ^ 52 ≤ kept ∧ kept ≤ 2 ^ 53 := by
    refine ⟨_, rfl, ?_⟩
    by_cases hc : last ≤ place
    · rw [show (last - place).toNat = 0 by omega, Nat.shiftLeft_eq]
      have := cut_exact .even neg (mag * 2 ^ (place - last).toNat) 0
      rw [Nat.pow_zero, Nat.mul_one] at this
      rw [this]
      have e52 : L + (place - last).toNat = 52 := by omega
      refine ⟨?_, ?_⟩
      · rw [← e52, Nat.pow_add]; exact Nat.mul_le_mul_right _ b1
      · rw [show 53 = (L + 1) + (place - last).toNat by omega, Nat.pow_add]; exact Nat.le_of_lt ((Nat.mul_lt_mul_right (Nat.two_pow_pos _)).2 b2)
    · rw [show (place - last).toNat = 0 by omega, Nat.shiftLeft_eq, Nat.pow_zero, Nat.mul_one]
      obtain ⟨d, hd⟩ : ∃ d, (last - place).toNat = d := ⟨_, rfl⟩
      have hdL : d + 52 = L := by omega
      rw [hd]
      unfold Toward.cut
      rw [hL, show min d (L + 2) = d by omega, show (1 <<< d) = 2 ^ d by rw [Nat.shiftLeft_eq, Nat.one_mul]]
      have hd0 := Nat.two_pow_pos d
      have q1 : 2 ^ 52 ≤ mag / 2 ^ d := by
        rw [Nat.le_div_iff_mul_le hd0, ← Nat.pow_add, show 52 + d = L by omega]; exact b1
      have q2 : mag / 2 ^ d < 2 ^ 53 := by
        rw [Nat.div_lt_iff_lt_mul hd0, ← Nat.pow_add, show 53 + d = L + 1 by omega]; exact b2
      have q3 : ∀ c : Bool, c.toNat ≤ 1 := fun c => by cases c <;> simp
      have := q3 (decide (2 ^ d < 2 * (mag % 2 ^ d)) || 2 ^ d == 2 * (mag % 2 ^ d) && mag / 2 ^ d % 2 == 1)
      simp only []
      omega
  obtain ⟨kept, hk, k1, k2⟩ := hkept
  rw [hk]
  obtain ⟨b, hb⟩ : ∃ b, (last - -1074).toNat = b := ⟨_, rfl⟩
  rw [hb, Nat.min_eq_left (by omega)]
  have h52 : ((2 ^ (place + L + T).toNat : Nat) : Int) = ((2 ^ 52 : Nat) : Int) * ((2 ^ (last + T).toNat : Nat) : Int) := by rw [← two_add]; congr 2; omega
  have h53 : ((2 ^ (place + L + 1 + T).toNat : Nat) : Int) = ((2 ^ 53 : Nat) : Int) * ((2 ^ (last + T).toNat : Nat) : Int) := by rw [← two_add]; congr 2; omega
  have hpos := two_pos (last + T).toNat
  by_cases hfull : kept = 2 ^ 53
  · have := read_word neg (b + 1) (2 ^ 52) (by omega) (.inr (by omega)) (by omega)
    rw [show (b + 1) * 2 ^ 52 + 2 ^ 52 = b * 2 ^ 52 + kept by omega] at this
    refine ⟨2 ^ 52, _, this, by omega, by omega, by omega, ?_⟩
    have h6 : ((2 ^ 52 : Nat) : Int) * ((2 ^ (-1074 + ((b + 1 : Nat) : Int) + T).toNat : Nat) : Int) = ((2 ^ 53 : Nat) : Int) * ((2 ^ (last + T).toNat : Nat) : Int) := by
      rw [← two_add, ← two_add]; congr 2; omega
    rw [h6, h52, h53]
    refine ⟨Int.mul_le_mul_of_nonneg_right (by omega) (by omega), Int.le_refl _⟩
  · have := read_word neg b kept (by omega) (.inr (by omega)) (by omega)
    refine ⟨kept, _, this, by omega, by omega, by omega, ?_⟩
    rw [show (-1074 + (b : Int)) = last by omega, h52, h53]
    exact ⟨Int.mul_le_mul_of_nonneg_right (by omega) (by omega), Int.mul_le_mul_of_nonneg_right (by omega) (by omega)⟩

/-- the words of the program's constants -/
theorem read_two30 : double.read 0x41D0000000000000 = .number false (2 ^ 52) (-22) := by decide
theorem read_neg30 : double.read 0xC1D0000000000000 = .number true (2 ^ 52) (-22) := by decide
theorem read_65536 : double.read 0x40F0000000000000 = .number false (2 ^ 52) (-36) := by decide
theorem read_two46 : double.read 0x42D0000000000000 = .number false (2 ^ 52) (-6) := by decide
theorem read_half : double.read 0x3FE0000000000000 = .number false (2 ^ 52) (-53) := by decide
theorem read_one : double.read 0x3FF0000000000000 = .number false (2 ^ 52) (-52) := by decide

theorem V_pow (T : Nat) (s : Bool) (m d : Nat) (e : Int) (he : -(T : Int) ≤ e) : V T s m (e + d) = V T s m e * ((2 ^ d : Nat) : Int) := by
  unfold V
  rw [show (e + d + T).toNat = (e + T).toNat + d by omega, two_add, Int.mul_assoc]

/-- a sum's data: its sign, and its whole number at the lower place -/
theorem sum_number (s t : Bool) (m n : Nat) (i j : Int) : (Datum.number s m i).sum (.number t n j) =
    some (.number (if sg s m * ((2 ^ (i - min i j).toNat : Nat) : Int) + sg t n * ((2 ^ (j - min i j).toNat : Nat) : Int) = 0 then s && t else decide (sg s m * ((2 ^ (i - min i j).toNat : Nat) : Int) + sg t n * ((2 ^ (j - min i j).toNat : Nat) : Int) < 0))
      (sg s m * ((2 ^ (i - min i j).toNat : Nat) : Int) + sg t n * ((2 ^ (j - min i j).toNat : Nat) : Int)).natAbs (min i j)) := by
  unfold Datum.sum
  simp only [signed_eq]
theorem sum_V (T : Nat) (s t : Bool) (m n : Nat) (i j : Int) (hi : -(T : Int) ≤ i) (hj : -(T : Int) ≤ j) :
    (sg s m * ((2 ^ (i - min i j).toNat : Nat) : Int) + sg t n * ((2 ^ (j - min i j).toNat : Nat) : Int)) * ((2 ^ (min i j + T).toNat : Nat) : Int) = V T s m i + V T t n j := by
  unfold V
  rw [Int.add_mul, Int.mul_assoc, Int.mul_assoc, ← two_add, ← two_add]
  congr 3 <;> (congr 1; congr 1; omega)
theorem sg_decide (z : Int) (s : Bool) (h : z = 0 ∨ s = decide (z < 0)) : sg s z.natAbs = z := by
  unfold sg
  rcases h with rfl | rfl
  · cases s <;> simp
  · by_cases hz : z < 0
    · simp [hz]; omega
    · simp [hz]; omega

/-- a sum that the format has exactly: what is read of it -/
theorem sum_exact (T : Nat) (hT : 1074 ≤ T) {x y : Nat} {s t : Bool} {m n : Nat} {i j : Int} (hx : double.read x = .number s m i) (hy : double.read y = .number t n j) (hi : -1074 ≤ i) (hj : -1074 ≤ j)
    (z : Int) (d : Nat) (hz : sg s m * ((2 ^ (i - min i j).toNat : Nat) : Int) + sg t n * ((2 ^ (j - min i j).toNat : Nat) : Int) = z * ((2 ^ d : Nat) : Int)) (hzl : z.natAbs < 2 ^ 53) (hd : min i j + d ≤ 971) :
    ∃ r k e c, double.add x y = some r ∧ double.read r = .number k c e ∧ -1074 ≤ e ∧ e ≤ 971 ∧ (∃ a : Nat, c = z.natAbs * 2 ^ a ∧ e = min i j + d - a) ∧ sg k z.natAbs = z := by
  have hN : (sg s m * ((2 ^ (i - min i j).toNat : Nat) : Int) + sg t n * ((2 ^ (j - min i j).toNat : Nat) : Int)).natAbs = z.natAbs * 2 ^ d := by rw [hz, Int.natAbs_mul]; congr 1
  obtain ⟨k, hk⟩ : ∃ k, (if sg s m * ((2 ^ (i - min i j).toNat : Nat) : Int) + sg t n * ((2 ^ (j - min i j).toNat : Nat) : Int) = 0 then s && t else decide (sg s m * ((2 ^ (i - min i j).toNat : Nat) : Int) + sg t n * ((2 ^ (j - min i j).toNat : Nat) : Int) < 0)) = k := ⟨_, rfl⟩
  have hkz : z = 0 ∨ k = decide (z < 0) := by
    by_cases h0 : z = 0
    · exact .inl h0
    · right
      have hp := two_pos d
      rw [hz] at hk
      have hne : ¬ z * ((2 ^ d : Nat) : Int) = 0 := by
        intro h
        rcases Int.mul_eq_zero.1 h with h | h
        · exact h0 h
        · omega
      rw [if_neg hne] at hk
      rw [← hk, decide_eq_decide]
      constructor
      · intro h
        rcases Int.lt_trichotomy z 0 with h1 | h1 | h1
        · exact h1
        · exact absurd h1 h0
        · have := Int.mul_pos h1 hp; omega
      · intro h; exact Int.mul_neg_of_neg_of_pos h hp
  obtain ⟨c, e, hr, ha, h1, h2, h3⟩ := nearest_exact k z.natAbs d (min i j) hzl (by omega) hd
  refine ⟨_, k, e, c, ?_, hr, h2, h3, ha, sg_decide z k hkz⟩
  unfold Format.add
  rw [hx, hy, sum_number, hk, hN]
  rfl

/-- how a number stands to a constant that is z 65536ths -/
theorem order_int {b c : Nat} {s t : Bool} {m n : Nat} {e j : Int} (z : Int) (hb : double.read b = .number s m e) (hc : double.read c = .number t n j) (he : -1074 ≤ e) (hj : -1074 ≤ j) (hz : fl t n (j + 16) = z) (hw : 0 ≤ j + 16 ∨ ∃ d : Nat, n = (n / 2 ^ d) * 2 ^ d ∧ j + 16 + d = 0) :
    (double.order b c == some .lt) = decide (fl s m (e + 16) < z) ∧ (double.order b c == some .gt || double.order b c == some .eq) = decide (z ≤ fl s m (e + 16)) := by
  obtain ⟨T, hT⟩ : ∃ T : Nat, T = 2000 := ⟨_, rfl⟩
  have h0 := order_V T hb hc (by omega) (by omega)
  have hp := two_pos T
  have h1 : V T t n (j + 16) = z * ((2 ^ T : Nat) : Int) := by
    rcases hw with hw | ⟨d, hn, hd⟩
    · have := fl_eq T t n (j + 16) (by omega)
      rw [hz] at this
      unfold fl at hz
      rw [if_pos hw] at hz
      unfold V
      rw [← hz, Int.mul_assoc, ← two_add, show (j + 16 + T).toNat = (j + 16).toNat + T by omega]
    · have h2 : fl t n (j + 16) = sg t (n / 2 ^ d) := by
        conv => lhs; rw [hn]
        rw [fl_shift T _ _ _ _ (by omega), hd]
        unfold fl; simp
      conv => lhs; rw [hn]
      rw [V_shift T _ _ _ _ (by omega), hd, V_zero, ← hz, h2]
  have h2 : compare (V T s m e) (V T t n j) = compare (V T s m (e + 16)) (z * ((2 ^ T : Nat) : Int)) := by
    have a1 := V_pow T s m 16 e (by omega)
    have a2 := V_pow T t n 16 j (by omega)
    rw [← h1, show e + 16 = e + ((16 : Nat) : Int) from rfl, show j + 16 = j + ((16 : Nat) : Int) from rfl, a1, a2, compare_mul (two_pos 16)]
  rw [h0, h2, fl_eq T s m (e + 16) (by omega)]
  have k1 := Int.ediv_lt_iff_lt_mul (a := V T s m (e + 16)) (b := z) hp
  have k2 := Int.le_ediv_iff_mul_le (a := z) (b := V T s m (e + 16)) hp
  obtain ⟨X, hX⟩ : ∃ X, V T s m (e + 16) = X := ⟨_, rfl⟩
  obtain ⟨Y, hY⟩ : ∃ Y, z * ((2 ^ T : Nat) : Int) = Y := ⟨_, rfl⟩
  rw [hX, hY] at k1 k2
  rw [hX, hY]
  rcases Int.lt_trichotomy X Y with h | h | h
  · have hc := Int.compare_eq_lt.2 h
    rw [hc]
    refine ⟨?_, ?_⟩
    · rw [decide_eq_true (k1.2 h)]; rfl
    · rw [decide_eq_false (fun q => by have := k2.1 q; omega)]; rfl
  · subst h
    have hc : compare X X = .eq := by simp
    rw [hc]
    refine ⟨?_, ?_⟩
    · rw [decide_eq_false (fun q => by have := k1.1 q; omega)]; rfl
    · rw [decide_eq_true (k2.2 (Int.le_refl _))]; rfl
  · have hc := Int.compare_eq_gt.2 h
    rw [hc]
    refine ⟨?_, ?_⟩
    · rw [decide_eq_false (fun q => by have := k1.1 q; omega)]; rfl
    · rw [decide_eq_true (k2.2 (by omega))]; rfl

/-- a number whose 65536ths are below 2 ^ 46 has no great place -/
theorem place_small {s : Bool} {m : Nat} {e : Int} (hn : e = -1074 ∨ 2 ^ 52 ≤ m) (h0 : -70368744177664 ≤ fl s m (e + 16)) (h1 : fl s m (e + 16) < 70368744177664) : e < 0 := by
  rcases hn with h | h
  · omega
  · rcases Int.lt_or_le e 0 with he | he
    · exact he
    · exfalso
      unfold fl at h0 h1
      rw [if_pos (by omega)] at h0 h1
      have hp : (1 : Int) ≤ ((2 ^ (e + 16).toNat : Nat) : Int) := by have := two_pos (e + 16).toNat; omega
      obtain ⟨P, hP⟩ : ∃ P, ((2 ^ (e + 16).toNat : Nat) : Int) = P := ⟨_, rfl⟩
      rw [hP] at h0 h1 hp
      have hm : (m : Int) * 1 ≤ (m : Int) * P := Int.mul_le_mul_of_nonneg_left hp (by omega)
      unfold sg at h0 h1
      cases s
      · simp only [Bool.false_eq_true, if_false] at h0 h1; omega
      · simp only [if_true, Int.neg_mul] at h0 h1; omega

/-- times 65536: exact -/
theorem times_one {b : Nat} {s : Bool} {m : Nat} {e : Int} (hb : double.read b = .number s m e) (hm : m < 2 ^ 53) (he : -1074 ≤ e) (he2 : e < 0) :
    ∃ x m' e', double.mul b 0x40F0000000000000 = some x ∧ double.read x = .number s m' e' ∧ (∃ j : Nat, m' = m * 2 ^ j ∧ e' = e + 16 - j) ∧ m' < 2 ^ 53 ∧ -1074 ≤ e' ∧ e' ≤ 971 := by
  obtain ⟨m', e', hr, ⟨j, h1, h2⟩, h3, h4, h5⟩ := nearest_exact s m 52 (e + -36) hm (by omega) (by omega)
  refine ⟨_, m', e', ?_, hr, ⟨j, h1, by omega⟩, h3, h4, h5⟩
  unfold Format.mul
  rw [hb, read_65536]
  simp only [Datum.product, Option.map_some, Bool.xor_false]
  rfl

/-- rounded down to a whole number -/
theorem floor_word {x : Nat} {s : Bool} {m' : Nat} {e' : Int} (hx : double.read x = .number s m' e') :
    double.write ((double.read x).integral .down) = double.nearest s (fl s m' e').natAbs 0 ∧ sg s (fl s m' e').natAbs = fl s m' e' := by
  have h := cut_down s m' e'
  obtain ⟨c, hc⟩ : ∃ c, Toward.down.cut s (m' <<< e'.toNat) (-e').toNat = c := ⟨_, rfl⟩
  rw [hc] at h
  have hn : (fl s m' e').natAbs = c := by rw [← h, sg_natAbs]
  rw [hx, hn]
  refine ⟨?_, h⟩
  show double.nearest s (Toward.down.cut s (m' <<< e'.toNat) (-e').toNat) 0 = _
  rw [hc]

theorem half_iff {X P v F : Int} (hP : 0 < P) (hv : X / P = v) (hF : X - v * P = F) : 0 ≤ F ∧ F < P ∧ (X * 2 / P - 2 * v = 1 ↔ P ≤ 2 * F) := by
  have e := Int.mul_ediv_add_emod X P
  have h0 := Int.emod_nonneg X (show P ≠ 0 by omega)
  have h1 := Int.emod_lt_of_pos X hP
  rw [hv, Int.mul_comm] at e
  have hFe : F = X % P := by omega
  refine ⟨by omega, by omega, ?_⟩
  have e2 : X * 2 = 2 * F + 2 * v * P := by rw [← hF, Int.mul_sub, Int.mul_assoc]; omega
  rw [e2, Int.add_mul_ediv_right _ _ (by omega)]
  constructor
  · intro h
    have h3 : 1 ≤ 2 * F / P := by omega
    have := (Int.le_ediv_iff_mul_le hP).1 h3
    omega
  · intro h
    have h3 : 1 ≤ 2 * F / P := (Int.le_ediv_iff_mul_le hP).2 (by omega)
    have h4 : 2 * F / P < 2 := (Int.ediv_lt_iff_lt_mul hP).2 (by omega)
    omega

theorem opposite_number (s : Bool) (m : Nat) (e : Int) : (Datum.number s m e).opposite = .number (!s) m e := rfl
theorem sg_not (s : Bool) (m : Nat) : sg (!s) m = -sg s m := by unfold sg; cases s <;> simp

/-- whether what is beyond the whole is a half or more: as it is told of the rounded difference -/
theorem sub_half {x : Nat} {s : Bool} {m : Nat} {e : Int} (hx : double.read x = .number s m e) (hm : m < 2 ^ 53) (he : -1074 ≤ e) (he2 : e ≤ 900) (hv : (fl s m e).natAbs < 2 ^ 53) :
    ∃ r, double.sub x (double.nearest s (fl s m e).natAbs 0) = some r ∧ (double.order r 0x3FE0000000000000 == some .gt || double.order r 0x3FE0000000000000 == some .eq) = decide (fl s m (e + 1) - 2 * fl s m e = 1) := by
  obtain ⟨T, hT⟩ : ∃ T : Nat, T = 2000 := ⟨_, rfl⟩
  have hPp := two_pos T
  have hfw := (floor_word hx).2
  obtain ⟨v, hve⟩ : ∃ v, fl s m e = v := ⟨_, rfl⟩
  rw [hve] at hv hfw ⊢
  obtain ⟨n, j, hW, _, hVW, hj, hj2, hn⟩ := whole_read T (by omega) s v.natAbs hv
  rw [hfw] at hVW
  have hX1 := fl_eq T s m e (by omega)
  have hX2 := fl_eq T s m (e + 1) (by omega)
  have hX3 := V_pow T s m 1 e (by omega)
  rw [show e + ((1 : Nat) : Int) = e + 1 from rfl] at hX3
  rw [hX3] at hX2
  rw [hve] at hX1
  have hsub : double.sub x (double.nearest s v.natAbs 0) = ((Datum.number s m e).sum (.number (!s) n j)).map double.write := by
    unfold Format.sub; rw [hx, hW, opposite_number]
  have hsumV := sum_V T s (!s) m n e j (by omega) (by omega)
  rw [sum_number] at hsub
  have hVn : V T (!s) n j = -(v * ((2 ^ T : Nat) : Int)) := by
    rw [← hVW]; unfold V; rw [sg_not, Int.neg_mul]
  rw [hVn] at hsumV
  obtain ⟨N, hN⟩ : ∃ N, sg s m * ((2 ^ (e - min e j).toNat : Nat) : Int) + sg (!s) n * ((2 ^ (j - min e j).toNat : Nat) : Int) = N := ⟨_, rfl⟩
  rw [hN] at hsub hsumV
  obtain ⟨base, hbase⟩ : ∃ b, min e j = b := ⟨_, rfl⟩
  have hbe : base ≤ e ∧ -1074 ≤ base := by omega
  rw [hbase] at hsub hsumV hN
  obtain ⟨X, hXe⟩ : ∃ X, V T s m e = X := ⟨_, rfl⟩
  obtain ⟨P, hPe⟩ : ∃ P, ((2 ^ T : Nat) : Int) = P := ⟨_, rfl⟩
  rw [hXe, hPe] at hX1 hsumV
  rw [hXe, hPe] at hX2
  rw [hPe] at hPp
  have h2 : ((2 ^ 1 : Nat) : Int) = 2 := rfl
  rw [h2] at hX2
  obtain ⟨f0, f1, f2⟩ := half_iff (F := X - v * P) hPp hX1.symm rfl
  obtain ⟨F, hF⟩ : ∃ F, X - v * P = F := ⟨_, rfl⟩
  rw [hF] at f0 f1 f2
  rw [show X + -(v * P) = F by omega] at hsumV
  have hbp := two_pos (base + T).toNat
  have hN0 : 0 ≤ N := by
    rcases Int.lt_or_le N 0 with h | h
    · have := Int.mul_neg_of_neg_of_pos h hbp; omega
    · exact h
  have hsign : (if N = 0 then s && !s else decide (N < 0)) = false := by
    split
    · cases s <;> rfl
    · exact decide_eq_false (by omega)
  rw [hsign] at hsub
  refine ⟨_, hsub, ?_⟩
  rw [hX2]
  show (double.order (double.nearest false N.natAbs base) _ == some .gt || double.order (double.nearest false N.natAbs base) _ == some .eq) = _
  have hhalf : V T false (2 ^ 52) (-53) * 2 = P := by
    unfold V; rw [← hPe]
    have : sg false (2 ^ 52) = ((2 ^ 52 : Nat) : Int) := rfl
    rw [this, ← two_add, show (2 : Int) = ((2 ^ 1 : Nat) : Int) from rfl, ← two_add]
    congr 2; omega
  by_cases hh : P ≤ 2 * F
  · rw [decide_eq_true (f2.2 hh)]
    -- the highest bit of N stands for a half
    have hNne : N.natAbs ≠ 0 := by
      intro h
      have : N = 0 := by omega
      rw [this, Int.zero_mul] at hsumV; omega
    obtain ⟨b1, b2⟩ := log2_bounds hNne
    obtain ⟨L, hL⟩ : ∃ L, N.natAbs.log2 = L := ⟨_, rfl⟩
    rw [hL] at b1 b2
    have hL1 : -1 ≤ (L : Int) + base := by
      rcases Int.lt_or_le ((L : Int) + base) (-1) with h | h
      · exfalso
        have c1 : N < ((2 ^ (L + 1) : Nat) : Int) := by omega
        have c2 : N * ((2 ^ (base + T).toNat : Nat) : Int) < ((2 ^ (L + 1) : Nat) : Int) * ((2 ^ (base + T).toNat : Nat) : Int) := Int.mul_lt_mul_of_pos_right c1 hbp
        rw [← two_add] at c2
        have c3 : ((2 ^ (L + 1 + (base + T).toNat) : Nat) : Int) * 2 ≤ P := by
          rw [← hPe, show (2 : Int) = ((2 ^ 1 : Nat) : Int) from rfl, ← two_add]
          exact Int.ofNat_le.2 (Nat.pow_le_pow_right (by omega) (by omega))
        omega
      · exact h
    have hL2 : (L : Int) + base ≤ -1 := by
      rcases Int.lt_or_le (-1) ((L : Int) + base) with h | h
      · exfalso
        have c1 : ((2 ^ L : Nat) : Int) ≤ N := by omega
        have c2 : ((2 ^ L : Nat) : Int) * ((2 ^ (base + T).toNat : Nat) : Int) ≤ N * ((2 ^ (base + T).toNat : Nat) : Int) := Int.mul_le_mul_of_nonneg_right c1 (by omega)
        rw [← two_add] at c2
        have c3 : P ≤ ((2 ^ (L + (base + T).toNat) : Nat) : Int) := by
          rw [← hPe]
          exact Int.ofNat_le.2 (Nat.pow_le_pow_right (by omega) (by omega))
        omega
      · exact h
    obtain ⟨c, k, hr, k1, k2, k3, k4, k5⟩ := nearest_bounds T (by omega) false N.natAbs base hNne (by rw [hL]; omega) (by rw [hL]; omega)
    rw [hL] at k4
    have ho := order_V T hr read_half (by omega) (by omega)
    have hV : V T false c k = (c : Int) * ((2 ^ (k + T).toNat : Nat) : Int) := rfl
    have hge : V T false (2 ^ 52) (-53) ≤ V T false c k := by
      rw [hV]
      have c3 : ((2 ^ (base + L + T).toNat : Nat) : Int) * 2 = P := by
        rw [← hPe, show (2 : Int) = ((2 ^ 1 : Nat) : Int) from rfl, ← two_add]; congr 2; omega
      omega
    rw [ho]
    rcases Int.lt_trichotomy (V T false c k) (V T false (2 ^ 52) (-53)) with h | h | h
    · omega
    · rw [h]; simp
    · rw [Int.compare_eq_gt.2 h]; rfl
  · rw [decide_eq_false (fun q => hh (f2.1 q))]
    -- the difference is exact
    have hex : ∃ g d : Nat, N = (g : Int) * ((2 ^ d : Nat) : Int) ∧ g < 2 ^ 53 ∧ base + d ≤ 971 := by
      by_cases he0 : 0 ≤ e
      · -- a whole number: nothing is left
        have : F = 0 := by
          have hXP : X = sg s m * ((2 ^ e.toNat : Nat) : Int) * P := by
            rw [← hXe, ← hPe]; unfold V
            rw [show (e + T).toNat = e.toNat + T by omega, two_add, Int.mul_assoc]
          have : v = sg s m * ((2 ^ e.toNat : Nat) : Int) := by
            rw [hX1, hXP, Int.mul_ediv_cancel _ (by omega)]
          rw [← hF, hXP, this]; omega
        rw [this] at hsumV
        have : N = 0 := by
          rcases Int.mul_eq_zero.1 hsumV with h | h
          · exact h
          · omega
        exact ⟨0, 0, by rw [this]; simp, by omega, by omega⟩
      · -- N is so many units at the place e
        have hNd : ∃ g : Int, N = g * ((2 ^ (e - base).toNat : Nat) : Int) := by
          refine ⟨sg s m - v * ((2 ^ (-e).toNat : Nat) : Int), ?_⟩
          have hp3 : ((2 ^ (e - base).toNat : Nat) : Int) * ((2 ^ (base + T).toNat : Nat) : Int) = ((2 ^ (e + T).toNat : Nat) : Int) := by rw [← two_add]; congr 2; omega
          have h5 : (sg s m - v * ((2 ^ (-e).toNat : Nat) : Int)) * ((2 ^ (e - base).toNat : Nat) : Int) * ((2 ^ (base + T).toNat : Nat) : Int) = F := by
            rw [Int.mul_assoc, hp3, Int.sub_mul, Int.mul_assoc, ← two_add, show (-e).toNat + (e + T).toNat = T by omega, hPe, ← hF, ← hXe]; rfl
          exact Int.eq_of_mul_eq_mul_right (by omega) (hsumV.trans h5.symm)
        obtain ⟨g, hg⟩ := hNd
        have hpe := two_pos (e - base).toNat
        have hg0 : 0 ≤ g := by
          rcases Int.lt_or_le g 0 with h | h
          · have := Int.mul_neg_of_neg_of_pos h hpe; omega
          · exact h
        have hgF : g * ((2 ^ (e + T).toNat : Nat) : Int) = F := by
          rw [← hsumV, hg, Int.mul_assoc, ← two_add]; congr 3; omega
        refine ⟨g.toNat, (e - base).toNat, by rw [hg]; congr 1; omega, ?_, by omega⟩
        -- g is below 2 ^ 53
        have hgl : g < ((2 ^ (-e).toNat : Nat) : Int) := by
          rcases Int.lt_or_le g ((2 ^ (-e).toNat : Nat) : Int) with h | h
          · exact h
          · exfalso
            have hq := Int.mul_le_mul_of_nonneg_right h (show (0 : Int) ≤ ((2 ^ (e + T).toNat : Nat) : Int) by have := two_pos (e + T).toNat; omega)
            rw [← two_add, show (-e).toNat + (e + T).toNat = T by omega, hPe] at hq
            omega
        by_cases h53 : (-e).toNat ≤ 53
        · have : ((2 ^ (-e).toNat : Nat) : Int) ≤ ((2 ^ 53 : Nat) : Int) := Int.ofNat_le.2 (Nat.pow_le_pow_right (by omega) h53)
          omega
        · -- the number itself is below a half
          have hmP : (m : Int) * ((2 ^ (e + T).toNat : Nat) : Int) * 2 < P ∨ m = 0 := by
            by_cases hm0 : m = 0
            · exact .inr hm0
            · left
              have c1 : (m : Int) * ((2 ^ (e + T).toNat : Nat) : Int) < ((2 ^ 53 : Nat) : Int) * ((2 ^ (e + T).toNat : Nat) : Int) := Int.mul_lt_mul_of_pos_right (by omega) (two_pos _)
              rw [← two_add] at c1
              have c3 : ((2 ^ (53 + (e + T).toNat) : Nat) : Int) * 2 ≤ P := by
                rw [← hPe, show (2 : Int) = ((2 ^ 1 : Nat) : Int) from rfl, ← two_add]
                exact Int.ofNat_le.2 (Nat.pow_le_pow_right (by omega) (by omega))
              omega
          have hmn : 0 ≤ (m : Int) * ((2 ^ (e + T).toNat : Nat) : Int) := Int.mul_nonneg (by omega) (by have := two_pos (e + T).toNat; omega)
          have hXs : X = sg s m * ((2 ^ (e + T).toNat : Nat) : Int) := hXe.symm
          cases s
          · have hX5 : X = (m : Int) * ((2 ^ (e + T).toNat : Nat) : Int) := hXs
            have hXlt : X < P := by
              rcases hmP with h | h
              · omega
              · rw [hX5, h]; simp; omega
            have hv0 : v = 0 := by rw [hX1]; exact Int.ediv_eq_zero_of_lt (by omega) hXlt
            rw [hv0, Int.zero_mul, Int.sub_zero] at hF
            have : g * ((2 ^ (e + T).toNat : Nat) : Int) = (m : Int) * ((2 ^ (e + T).toNat : Nat) : Int) := by rw [hgF, ← hF, hX5]
            have := Int.eq_of_mul_eq_mul_right (by have := two_pos (e + T).toNat; omega) this
            omega
          · have hX5 : X = -((m : Int) * ((2 ^ (e + T).toNat : Nat) : Int)) := by rw [hXs]; unfold sg; simp [Int.neg_mul]
            rcases hmP with h | h
            · by_cases hm0 : m = 0
              · have hX0 : X = 0 := by rw [hX5, hm0]; simp
                have hv0 : v = 0 := by rw [hX1, hX0]; simp
                rw [hX0, hv0] at hF
                have : g * ((2 ^ (e + T).toNat : Nat) : Int) = 0 := by rw [hgF, ← hF]; simp
                rcases Int.mul_eq_zero.1 this with h' | h'
                · omega
                · have := two_pos (e + T).toNat; omega
              · exfalso
                have hmp : 0 < (m : Int) * ((2 ^ (e + T).toNat : Nat) : Int) := Int.mul_pos (by omega) (two_pos _)
                have hvm : v = -1 := by
                  rw [hX1]
                  refine ((Int.ediv_emod_unique hPp).2 ⟨show (X + P) + P * -1 = X by omega, by omega, by omega⟩).1
                rw [hvm] at hF
                omega
            · have hX0 : X = 0 := by rw [hX5, h]; simp
              have hv0 : v = 0 := by rw [hX1, hX0]; simp
              rw [hX0, hv0] at hF
              have : g * ((2 ^ (e + T).toNat : Nat) : Int) = 0 := by rw [hgF, ← hF]; simp
              rcases Int.mul_eq_zero.1 this with h' | h'
              · omega
              · have := two_pos (e + T).toNat; omega
    obtain ⟨g, d, hg, hgl, hd⟩ := hex
    have hnab : N.natAbs = g * 2 ^ d := by rw [hg, Int.natAbs_mul]; simp
    obtain ⟨c, k, hr, ⟨a, ha, hk⟩, k1, k2, k3⟩ := nearest_exact false g d base hgl (by omega) hd
    rw [← hnab] at hr
    have ho := order_V T hr read_half (by omega) (by omega)
    have hVF : V T false c k = F := by
      rw [ha, V_shift T _ _ _ _ (by omega), show k + a = base + d by omega, ← hsumV, hg]
      unfold V
      have : sg false g = (g : Int) := rfl
      rw [this, Int.mul_assoc, ← two_add]; congr 3; omega
    rw [ho, hVF, Int.compare_eq_lt.2 (by omega)]
    rfl

/-- one more than a whole number: exact -/
theorem add_one (s : Bool) (v : Int) (hs : sg s v.natAbs = v) (hv : v.natAbs < 2 ^ 52) :
    ∃ r k c e, double.add (double.nearest s v.natAbs 0) 0x3FF0000000000000 = some r ∧ double.read r = .number k c e ∧ -1074 ≤ e ∧ (∃ a : Nat, c = (v + 1).natAbs * 2 ^ a ∧ e = -(a : Int)) ∧ sg k (v + 1).natAbs = v + 1 := by
  obtain ⟨n, j, hW, ⟨a, ha, hj⟩, h1, h2, h3⟩ := nearest_exact s v.natAbs 0 0 (by omega) (by omega) (by omega)
  rw [Nat.pow_zero, Nat.mul_one] at hW
  have hj' : j = -(a : Int) := by omega
  have hz : sg s n * ((2 ^ (j - min j (-52)).toNat : Nat) : Int) + sg false (2 ^ 52) * ((2 ^ (-52 - min j (-52)).toNat : Nat) : Int) = (v + 1) * ((2 ^ (-(min j (-52))).toNat : Nat) : Int) := by
    rw [ha, sg_mul, hs, Int.mul_assoc, ← two_add, show sg false (2 ^ 52) = ((2 ^ 52 : Nat) : Int) from rfl, ← two_add, Int.add_mul, Int.one_mul]
    congr 3 <;> (congr 1; omega)
  obtain ⟨r, k, e, c, q1, q2, q3, q4, ⟨b, q5, q6⟩, q7⟩ := sum_exact 2000 (by omega) hW read_one h2 (by omega) (v + 1) _ hz (by omega) (by omega)
  exact ⟨r, k, c, e, q1, q2, q3, ⟨b, q5, by omega⟩, q7⟩

/-- what Of tells of a float's bits -/
def ofS (b : Nat) : Int × Int :=
  match double.read b with
  | .nan .. => (0, 14)
  | .infinity _ => (0, 8)
  | .number s m e => if -70368744177664 ≤ fl s m (e + 16) ∧ fl s m (e + 16) < 70368744177664 then (fl s m (e + 16), 0) else (0, 8)
/-- what Near tells -/
def up (s : Bool) (m : Nat) (e : Int) : Int := if fl s m (e + 17) - 2 * fl s m (e + 16) = 1 then fl s m (e + 16) + 1 else fl s m (e + 16)
def nearS (b : Nat) : Int × Int :=
  match double.read b with
  | .nan .. => (0, 14)
  | .infinity _ => (0, 8)
  | .number s m e => if -70368744177664 ≤ fl s m (e + 16) ∧ fl s m (e + 16) < 70368744177664 then (if up s m e < 70368744177664 then (up s m e, 0) else (0, 8)) else (0, 8)

theorem isnan_order (b : Nat) (hb : b < 2 ^ 64) : (double.order b b != some .eq) = (double.read b).isNaN := by
  rcases read_cases b hb with ⟨s, m, e, h, _⟩ | ⟨s, h, _⟩ | ⟨s, t, h, _⟩
  · unfold Format.order; rw [h]; simp [Datum.order, Datum.isNaN]
  · unfold Format.order; rw [h]; simp [Datum.order, Datum.isNaN]
  · unfold Format.order; rw [h]; simp [Datum.order, Datum.isNaN]

/-- an infinity is below the least or above the greatest -/
theorem inf_order {b : Nat} {s : Bool} (h : double.read b = .infinity s) : (double.order b 0xC1D0000000000000 == some .lt) = s ∧ (double.order b 0x41D0000000000000 == some .gt || double.order b 0x41D0000000000000 == some .eq) = !s := by
  unfold Format.order
  rw [h, read_neg30, read_two30]
  cases s <;> exact ⟨rfl, rfl⟩

/-- all that the walk asks of a float whose number goes -/
structure Goes (b x W r : Nat) (v : Int) (half : Bool) (W1 : Nat) : Prop where
  low : (double.order b 0xC1D0000000000000 == some .lt) = false
  high : (double.order b 0x41D0000000000000 == some .gt || double.order b 0x41D0000000000000 == some .eq) = false
  times : double.mul b 0x40F0000000000000 = some x
  number : ∃ s m e, double.read x = .number s m e
  floor : double.write ((double.read x).integral .down) = W
  over : (double.order W 0x42D0000000000000 == some .gt || double.order W 0x42D0000000000000 == some .eq) = false
  int : (double.read W).toInt .zero = some v
  diff : double.sub x W = some r
  half : (double.order r 0x3FE0000000000000 == some .gt || double.order r 0x3FE0000000000000 == some .eq) = half
  one : double.add W 0x3FF0000000000000 = some W1
  over1 : (double.order W1 0x42D0000000000000 == some .gt || double.order W1 0x42D0000000000000 == some .eq) = decide (70368744177664 ≤ v + 1)
  int1 : (double.read W1).toInt .zero = some (v + 1)

theorem goes {b : Nat} {s : Bool} {m : Nat} {e : Int} (hb : double.read b = .number s m e) (hm : m < 2 ^ 53) (he : -1074 ≤ e) (hn : e = -1074 ∨ 2 ^ 52 ≤ m)
    (h0 : -70368744177664 ≤ fl s m (e + 16)) (h1 : fl s m (e + 16) < 70368744177664) :
    ∃ x W r W1, Goes b x W r (fl s m (e + 16)) (decide (fl s m (e + 17) - 2 * fl s m (e + 16) = 1)) W1 := by
  have hneg := place_small hn h0 h1
  have c30 : fl false (2 ^ 52) (-22 + 16) = 70368744177664 := by decide
  have c30n : fl true (2 ^ 52) (-22 + 16) = -70368744177664 := by decide
  have c46 : fl false (2 ^ 52) (-6 + 16) = 4611686018427387904 := by decide
  obtain ⟨l1, _⟩ := order_int (-70368744177664) hb read_neg30 he (by omega) c30n (.inr ⟨6, by decide, by omega⟩)
  obtain ⟨_, l2⟩ := order_int 70368744177664 hb read_two30 he (by omega) c30 (.inr ⟨6, by decide, by omega⟩)
  obtain ⟨x, m', e', hx, hxr, ⟨j, hj1, hj2⟩, hm', he', he2'⟩ := times_one hb hm he hneg
  have hfx : fl s m' e' = fl s m (e + 16) := by rw [hj1, fl_shift 2000 _ _ _ _ (by omega), hj2]; congr 1; omega
  have hfx2 : fl s m' (e' + 1) = fl s m (e + 17) := by rw [hj1, fl_shift 2000 _ _ _ _ (by omega), hj2]; congr 1; omega
  obtain ⟨hfl, hsg⟩ := floor_word hxr
  obtain ⟨r, hr1, hr2⟩ := sub_half hxr hm' he' (by omega) (by rw [hfx]; omega)
  rw [hfx2] at hr2
  rw [hfx] at hfl hsg hr1 hr2
  obtain ⟨v, hv⟩ : ∃ v, fl s m (e + 16) = v := ⟨_, rfl⟩
  rw [hv] at h0 h1 l1 l2 hfl hsg hr1 hr2 ⊢
  obtain ⟨W1, k, c, e1, o1, o2, o3, ⟨a, o4, o5⟩, o6⟩ := add_one s v hsg (by omega)
  obtain ⟨n, i, hW, hint, _, hi, _, hnn⟩ := whole_read 2000 (by omega) s v.natAbs (by omega)
  -- the whole against 2 ^ 46, in 65536ths of it
  have hflW : fl s n (i + 16) = v * 65536 := by
    obtain ⟨n2, i2, hW2, ⟨d, hd1, hd2⟩, _⟩ := nearest_exact s v.natAbs 0 0 (by omega) (by omega) (by omega)
    rw [Nat.pow_zero, Nat.mul_one] at hW2
    rw [hW] at hW2
    injection hW2 with _ q1 q2
    rw [q1, q2, hd1, fl_shift 2000 _ _ _ _ (by omega), hd2, show ((0 : Int) + ((0 : Nat) : Int) - d + 16 + d) = 16 by omega]
    unfold fl
    rw [if_pos (by omega), hsg]; rfl
  have hflW1 : fl k c (e1 + 16) = (v + 1) * 65536 := by
    rw [o4, fl_shift 2000 _ _ _ _ (by omega), o5, show (-(a : Int) + 16 + a) = 16 by omega]
    unfold fl
    rw [if_pos (by omega), o6]; rfl
  obtain ⟨_, w1⟩ := order_int 4611686018427387904 hW read_two46 (by omega) (by omega) c46 (.inl (by omega))
  obtain ⟨_, w2⟩ := order_int 4611686018427387904 o2 read_two46 (by omega) (by omega) c46 (.inl (by omega))
  rw [hflW] at w1
  rw [hflW1] at w2
  refine ⟨x, double.nearest s v.natAbs 0, r, W1, ?_⟩
  exact {
    low := by rw [l1]; exact decide_eq_false (by omega)
    high := by rw [l2]; exact decide_eq_false (by omega)
    times := hx
    number := ⟨_, _, _, hxr⟩
    floor := hfl
    over := by rw [w1]; exact decide_eq_false (by omega)
    int := by rw [hW, hint .zero, hsg]
    diff := hr1
    half := hr2
    one := o1
    over1 := by rw [w2, decide_eq_decide]; omega
    int1 := by rw [o2, o4, o5, toInt_exact, o6] }

/-- a float whose number does not go is told so by one of both tests -/
theorem goes_not {b : Nat} {s : Bool} {m : Nat} {e : Int} (hb : double.read b = .number s m e) (he : -1074 ≤ e) (h : ¬ (-70368744177664 ≤ fl s m (e + 16) ∧ fl s m (e + 16) < 70368744177664)) :
    (double.order b 0xC1D0000000000000 == some .lt) = true ∨ (double.order b 0xC1D0000000000000 == some .lt) = false ∧ (double.order b 0x41D0000000000000 == some .gt || double.order b 0x41D0000000000000 == some .eq) = true := by
  have c30 : fl false (2 ^ 52) (-22 + 16) = 70368744177664 := by decide
  have c30n : fl true (2 ^ 52) (-22 + 16) = -70368744177664 := by decide
  obtain ⟨l1, _⟩ := order_int (-70368744177664) hb read_neg30 he (by omega) c30n (.inr ⟨6, by decide, by omega⟩)
  obtain ⟨_, l2⟩ := order_int 70368744177664 hb read_two30 he (by omega) c30 (.inr ⟨6, by decide, by omega⟩)
  rw [l1, l2]
  by_cases hl : fl s m (e + 16) < -70368744177664
  · exact .inl (decide_eq_true hl)
  · exact .inr ⟨decide_eq_false hl, decide_eq_true (by omega)⟩

theorem quotient_number (d : Nat) (s t : Bool) (m n : Nat) (i j : Int) (hn : n ≠ 0) : (Datum.number s m i).quotient d (.number t n j) =
    some (.number (s ^^ t) (2 * ((m <<< (d + n.log2 - m.log2)) / n) + ((m <<< (d + n.log2 - m.log2)) % n != 0).toNat) (i - j - ((d + n.log2 - m.log2 : Nat) : Int) - 1)) := by
  show (if n = 0 then _ else _) = _
  rw [if_neg hn]
/-- a whole number by 65536: exact -/
theorem by_one (s : Bool) (n : Nat) (hn : n < 2 ^ 53) (h0 : n ≠ 0) :
    ∃ q m e, double.div (double.nearest s n 0) 0x40F0000000000000 = some q ∧ double.read q = .number s m e ∧ (∃ j : Nat, m = n * 2 ^ j ∧ e = -16 - (j : Int)) ∧ m < 2 ^ 53 ∧ -1074 ≤ e ∧ e ≤ 971 ∧ 2 ^ 52 ≤ m := by
  obtain ⟨c, i, hr, ⟨a, hc, hi⟩, h1, h2, h3, h4⟩ := nearest_exact0 s n 0 0 h0 hn (by omega) (by omega)
  rw [Nat.pow_zero, Nat.mul_one] at hr
  have hi' : i = -(a : Int) := by omega
  have ha53 : a ≤ 53 := by
    rcases Nat.lt_or_ge 53 a with h | h
    · exfalso
      have : 2 ^ 54 ≤ 2 ^ a := Nat.pow_le_pow_right (by omega) h
      have : 1 * 2 ^ a ≤ n * 2 ^ a := Nat.mul_le_mul_right _ (by omega)
      omega
    · exact h
  have hc52 : 2 ^ 52 ≤ c := by
    rcases h4 with h | h
    · omega
    · exact h
  have hlog : c.log2 = 52 := log2_unique hc52 h1
  have hl2 : (2 ^ 52).log2 = 52 := by decide
  obtain ⟨m, e, hq, ⟨j, hm, he⟩, k1, k2, k3, k4⟩ := nearest_exact0 s c 3 (i - -36 - ((54 : Nat) : Int) - 1) (by omega) h1 (by omega) (by omega)
  refine ⟨_, m, e, ?_, hq, ⟨a + j, by rw [hm, hc, Nat.mul_assoc, ← Nat.pow_add], by omega⟩, k1, k2, k3, ?_⟩
  · unfold Format.div
    rw [hr, read_65536, quotient_number _ _ _ _ _ _ _ (by decide), hlog, hl2, show double.fractionBits + 2 + 52 - 52 = 54 from rfl]
    have e1 : c <<< 54 = c * 4 * 2 ^ 52 := by rw [Nat.shiftLeft_eq]; omega
    rw [e1, Nat.mul_div_cancel _ (by omega), Nat.mul_mod_left, Bool.xor_false]
    show some (double.nearest s (2 * (c * 4) + 0) (i - -36 - ((54 : Nat) : Int) - 1)) = some (double.nearest s (c * 2 ^ 3) _)
    rw [show 2 * (c * 4) + 0 = c * 2 ^ 3 by omega]
  · rcases k4 with h | h
    · exfalso
      have : j ≤ 1 := by
        rcases Nat.lt_or_ge 1 j with h | h
        · exfalso
          have : 2 ^ 2 ≤ 2 ^ j := Nat.pow_le_pow_right (by omega) h
          have : c * 2 ^ 2 ≤ c * 2 ^ j := Nat.mul_le_mul_left _ this
          omega
        · exact h
      omega
    · exact h
theorem by_one_zero : double.div (double.nearest false 0 0) 0x40F0000000000000 = some 0 := by decide
theorem read_zero : double.read 0 = .number false 0 (-1074) := by decide
theorem fl_scale (s : Bool) (n j : Nat) (e : Int) (he : e = -16 - (j : Int)) (hb : -1074 ≤ e) : fl s (n * 2 ^ j) (e + 16) = sg s n ∧ fl s (n * 2 ^ j) (e + 17) = 2 * sg s n := by
  refine ⟨?_, ?_⟩
  · rw [fl_shift 2000 _ _ _ _ (by omega), show e + 16 + j = 0 by omega]; unfold fl; simp
  · rw [fl_shift 2000 _ _ _ _ (by omega), show e + 17 + j = 1 by omega]; unfold fl; simp; omega

theorem fl_nought (s : Bool) (k : Int) : fl s 0 k = 0 := by unfold fl; rw [sg_zero]; split <;> simp
/-- what To tells of a number, as bits -/
def toS (v : Int) : Nat := (double.div (double.nearest (decide (v < 0)) v.natAbs 0) 0x40F0000000000000).getD 0

theorem toS_some (v : Int) (h : v.natAbs < 2 ^ 53) : double.div (double.nearest (decide (v < 0)) v.natAbs 0) 0x40F0000000000000 = some (toS v) := by
  unfold toS
  by_cases h0 : v = 0
  · subst h0; rw [show decide ((0 : Int) < 0) = false from rfl, show (0 : Int).natAbs = 0 from rfl, by_one_zero]; rfl
  · obtain ⟨q, _, _, hq, _⟩ := by_one (decide (v < 0)) v.natAbs h (by omega)
    rw [hq]; rfl
/-- it is read as the number -/
theorem toS_read (v : Int) (h : v.natAbs < 2 ^ 53) : ∃ s m e, double.read (toS v) = .number s m e ∧ fl s m (e + 16) = v ∧ fl s m (e + 17) = 2 * v ∧ m < 2 ^ 53 ∧ -1074 ≤ e ∧ e ≤ 971 ∧ (∃ j : Nat, m = v.natAbs * 2 ^ j ∧ e = -16 - (j : Int)) ∧ sg s v.natAbs = v := by
  by_cases h0 : v = 0
  · subst h0
    have : toS 0 = 0 := by
      unfold toS
      rw [show decide ((0 : Int) < 0) = false from rfl, show (0 : Int).natAbs = 0 from rfl, by_one_zero]; rfl
    rw [this, read_zero]
    obtain ⟨j, hj⟩ : ∃ j : Nat, (j : Int) = 1058 := ⟨1058, rfl⟩
    exact ⟨false, 0, -1074, rfl, fl_nought _ _, (fl_nought _ _).trans rfl, by omega, by omega, by omega, ⟨j, (Nat.zero_mul _).symm, by omega⟩, rfl⟩
  · obtain ⟨q, m, e, hq, hr, ⟨j, hj, he⟩, h1, h2, h3, h4⟩ := by_one (decide (v < 0)) v.natAbs h (by omega)
    have hs : toS v = q := by unfold toS; rw [hq]; rfl
    have hsg := sg_decide v (decide (v < 0)) (.inr rfl)
    obtain ⟨f1, f2⟩ := fl_scale (decide (v < 0)) v.natAbs j e he h2
    rw [hsg, ← hj] at f1 f2
    rw [hs]
    exact ⟨_, m, e, hr, f1, f2, h1, h2, h3, ⟨j, hj, he⟩, hsg⟩

theorem of_toS (v : Int) (h0 : -70368744177664 ≤ v) (h1 : v < 70368744177664) : ofS (toS v) = (v, 0) := by
  obtain ⟨s, m, e, hr, f1, f2, _⟩ := toS_read v (by omega)
  unfold ofS
  rw [hr]
  simp only [f1]
  rw [if_pos ⟨h0, h1⟩]
theorem near_toS (v : Int) (h0 : -70368744177664 ≤ v) (h1 : v < 70368744177664) : nearS (toS v) = (v, 0) := by
  obtain ⟨s, m, e, hr, f1, f2, _⟩ := toS_read v (by omega)
  unfold nearS
  rw [hr]
  simp only [f1, up, f2]
  rw [if_pos ⟨h0, h1⟩, if_neg (show ¬ 2 * v - 2 * v = 1 by omega), if_pos h1]

/-- the number times 65536 is the number as a float, told so by '==' -/
theorem toS_times (v : Int) (h : v.natAbs < 2 ^ 53) : ∃ x, double.mul (toS v) 0x40F0000000000000 = some x ∧ (double.order x (double.nearest (decide (v < 0)) v.natAbs 0) == some .eq) = true := by
  obtain ⟨s, m, e, hr, f1, f2, hm, he, he2, ⟨j, hj, hje⟩, hsg⟩ := toS_read v h
  obtain ⟨x, m', e', hx, hxr, ⟨k, hk, hke⟩, h3, h4, h5⟩ := times_one hr hm he (by omega)
  refine ⟨x, hx, ?_⟩
  obtain ⟨T, hT⟩ : ∃ T : Nat, T = 2000 := ⟨_, rfl⟩
  obtain ⟨c, i, hW, _, hV, hi, _, _⟩ := whole_read T (by omega) (decide (v < 0)) v.natAbs h
  rw [sg_decide v _ (.inr rfl)] at hV
  rw [order_V T hxr hW (by omega) (by omega), hV, hk, V_shift T _ _ _ _ (by omega), hj, V_shift T _ _ _ _ (by omega), show e' + k + j = 0 by omega, V_zero, hsg]
  simp

theorem cmp_le {X Y : Int} : (some (compare X Y) == some Ordering.lt || some (compare X Y) == some Ordering.eq) = decide (X ≤ Y) ∧ (some (compare X Y) == some Ordering.gt || some (compare X Y) == some Ordering.eq) = decide (Y ≤ X) := by
  rcases Int.lt_trichotomy X Y with h | h | h
  · rw [Int.compare_eq_lt.2 h, decide_eq_true (show X ≤ Y by omega), decide_eq_false (show ¬ Y ≤ X by omega)]; exact ⟨rfl, rfl⟩
  · subst h
    have hc : compare X X = .eq := by simp
    rw [hc, decide_eq_true (Int.le_refl X)]; exact ⟨rfl, rfl⟩
  · rw [Int.compare_eq_gt.2 h, decide_eq_false (show ¬ X ≤ Y by omega), decide_eq_true (show Y ≤ X by omega)]; exact ⟨rfl, rfl⟩

/-- of a greater float the number is no less -/
theorem order_fl {b c : Nat} {s t : Bool} {m n : Nat} {e j : Int} (hb : double.read b = .number s m e) (hc : double.read c = .number t n j) (he : -1074 ≤ e) (hj : -1074 ≤ j) :
    ((double.order b c == some .lt || double.order b c == some .eq) = true → fl s m (e + 16) ≤ fl t n (j + 16)) ∧ ((double.order b c == some .gt || double.order b c == some .eq) = true → fl t n (j + 16) ≤ fl s m (e + 16)) := by
  obtain ⟨T, hT⟩ : ∃ T : Nat, T = 2000 := ⟨_, rfl⟩
  rw [order_V T hb hc (by omega) (by omega), (cmp_le).1, (cmp_le).2, decide_eq_true_eq, decide_eq_true_eq]
  have a1 := V_pow T s m 16 e (by omega)
  have a2 := V_pow T t n 16 j (by omega)
  rw [show e + ((16 : Nat) : Int) = e + 16 from rfl] at a1
  rw [show j + ((16 : Nat) : Int) = j + 16 from rfl] at a2
  rw [fl_eq T _ _ _ (by omega), fl_eq T _ _ _ (by omega), a1, a2]
  have hp := two_pos T
  have h16 := two_pos 16
  exact ⟨fun h => Int.ediv_le_ediv hp (Int.mul_le_mul_of_nonneg_right h (by omega)), fun h => Int.ediv_le_ediv hp (Int.mul_le_mul_of_nonneg_right h (by omega))⟩

theorem read_32768 : double.read 0x3F00000000000000 = .number false (2 ^ 52) (-67) := by decide

/-- what a number is told to be is no more than it, and nearer than a 32768th -/
theorem near_toS_of {b : Nat} {s : Bool} {m : Nat} {e : Int} (hb : double.read b = .number s m e) (hm : m < 2 ^ 53) (he : -1074 ≤ e) (hn : e = -1074 ∨ 2 ^ 52 ≤ m)
    (h0 : -70368744177664 ≤ fl s m (e + 16)) (h1 : fl s m (e + 16) < 70368744177664) :
    (double.order (toS (fl s m (e + 16))) b == some .lt || double.order (toS (fl s m (e + 16))) b == some .eq) = true ∧
    ∃ r, double.sub b (toS (fl s m (e + 16))) = some r ∧ (double.order r 0x3F00000000000000 == some .lt) = true := by
  obtain ⟨T, hT⟩ : ∃ T : Nat, T = 2000 := ⟨_, rfl⟩
  have hneg := place_small hn h0 h1
  obtain ⟨v, hv⟩ : ∃ v, fl s m (e + 16) = v := ⟨_, rfl⟩
  rw [hv] at h0 h1 ⊢
  obtain ⟨t, n, j, hr, _, _, hn53, hj, hj2, ⟨a, ha, haj⟩, hsg⟩ := toS_read v (by omega)
  have hVx : V T t n j * ((2 ^ 16 : Nat) : Int) = v * ((2 ^ T : Nat) : Int) := by
    rw [← V_pow T t n 16 j (by omega), ha, V_shift T _ _ _ _ (by omega), show j + ((16 : Nat) : Int) + a = 0 by omega, V_zero, hsg]
  have hVf := fl_eq T s m (e + 16) (by omega)
  have a1 := V_pow T s m 16 e (by omega)
  rw [show e + ((16 : Nat) : Int) = e + 16 from rfl] at a1
  rw [hv, a1] at hVf
  obtain ⟨P, hP⟩ : ∃ P, ((2 ^ T : Nat) : Int) = P := ⟨_, rfl⟩
  have hPp := two_pos T
  rw [hP] at hVx hVf hPp
  have hPs : P = ((2 ^ (T - 16) : Nat) : Int) * ((2 ^ 16 : Nat) : Int) := by rw [← hP, ← two_add]; congr 2; omega
  obtain ⟨X, hX⟩ : ∃ X, V T s m e = X := ⟨_, rfl⟩
  obtain ⟨Y, hY⟩ : ∃ Y, V T t n j = Y := ⟨_, rfl⟩
  obtain ⟨Q, hQ⟩ : ∃ Q, ((2 ^ (T - 16) : Nat) : Int) = Q := ⟨_, rfl⟩
  have h16 : ((2 ^ 16 : Nat) : Int) = 65536 := rfl
  rw [hQ, h16] at hPs
  rw [hX, h16] at hVf
  rw [hY, h16] at hVx
  have hY2 : Y = v * Q := by
    have : Y * 65536 = v * Q * 65536 := by rw [hVx, hPs, Int.mul_assoc]
    omega
  have hX2 : v * Q ≤ X ∧ X < v * Q + Q := by
    have d1 := Int.mul_ediv_add_emod (X * 65536) P
    have d2 := Int.emod_nonneg (X * 65536) (show P ≠ 0 by omega)
    have d3 := Int.emod_lt_of_pos (X * 65536) hPp
    rw [← hVf] at d1
    have d4 : P * v = v * Q * 65536 := by rw [hPs, Int.mul_comm, Int.mul_assoc]
    rw [d4] at d1
    omega
  refine ⟨?_, ?_⟩
  · rw [order_V T hr hb (by omega) (by omega), (cmp_le).1, hX, hY]
    exact decide_eq_true (by omega)
  · have hsub : double.sub b (toS v) = ((Datum.number s m e).sum (.number (!t) n j)).map double.write := by
      unfold Format.sub; rw [hb, hr, opposite_number]
    have hsumV := sum_V T s (!t) m n e j (by omega) (by omega)
    rw [sum_number] at hsub
    have hVn : V T (!t) n j = -Y := by rw [← hY]; unfold V; rw [sg_not, Int.neg_mul]
    rw [hVn, hX] at hsumV
    obtain ⟨N, hN⟩ : ∃ N, sg s m * ((2 ^ (e - min e j).toNat : Nat) : Int) + sg (!t) n * ((2 ^ (j - min e j).toNat : Nat) : Int) = N := ⟨_, rfl⟩
    rw [hN] at hsub hsumV
    obtain ⟨base, hbase⟩ : ∃ b, min e j = b := ⟨_, rfl⟩
    have hbe : base ≤ e ∧ -1074 ≤ base := by omega
    rw [hbase] at hsub hsumV
    obtain ⟨D, hD⟩ : ∃ D, X + -Y = D := ⟨_, rfl⟩
    rw [hD] at hsumV
    have hD2 : 0 ≤ D ∧ D < Q := by omega
    have hbp := two_pos (base + T).toNat
    have hN0 : 0 ≤ N := by
      rcases Int.lt_or_le N 0 with h | h
      · have := Int.mul_neg_of_neg_of_pos h hbp; omega
      · exact h
    obtain ⟨sn, hsn⟩ : ∃ k, (if N = 0 then s && !t else decide (N < 0)) = k := ⟨_, rfl⟩
    rw [hsn] at hsub
    refine ⟨_, hsub, ?_⟩
    show (double.order (double.nearest sn N.natAbs base) _ == some .lt) = true
    have hC : V T false (2 ^ 52) (-67) = Q * 2 := by
      unfold V; rw [← hQ]
      have : sg false (2 ^ 52) = ((2 ^ 52 : Nat) : Int) := rfl
      rw [this, ← two_add, show (2 : Int) = ((2 ^ 1 : Nat) : Int) from rfl, ← two_add]
      congr 2; omega
    have hQp : 0 < Q := by rw [← hQ]; exact two_pos _
    have key : ∃ k c, ∃ q, double.read (double.nearest sn N.natAbs base) = .number q c k ∧ -1074 ≤ k ∧ V T q c k ≤ Q := by
      by_cases hz : N = 0
      · obtain ⟨c, k, hr2, ⟨x, hx, hk⟩, _, k2, _⟩ := nearest_exact sn 0 0 base (by omega) (by omega) (by omega)
        refine ⟨k, c, sn, by rw [hz]; simpa using hr2, k2, ?_⟩
        rw [hx, Nat.zero_mul]
        unfold V; rw [sg_zero, Int.zero_mul]; omega
      · have hsn0 : sn = false := by rw [← hsn, if_neg hz]; exact decide_eq_false (by omega)
        have hNne : N.natAbs ≠ 0 := by omega
        obtain ⟨b1, b2⟩ := log2_bounds hNne
        obtain ⟨L, hL⟩ : ∃ L, N.natAbs.log2 = L := ⟨_, rfl⟩
        rw [hL] at b1 b2
        have hLb : (L : Int) + base < -16 := by
          rcases Int.lt_or_le ((L : Int) + base) (-16) with h | h
          · exact h
          · exfalso
            have c1 : ((2 ^ L : Nat) : Int) ≤ N := by omega
            have c2 : ((2 ^ L : Nat) : Int) * ((2 ^ (base + T).toNat : Nat) : Int) ≤ N * ((2 ^ (base + T).toNat : Nat) : Int) := Int.mul_le_mul_of_nonneg_right c1 (by omega)
            rw [← two_add, hsumV] at c2
            have c3 : Q ≤ ((2 ^ (L + (base + T).toNat) : Nat) : Int) := by
              rw [← hQ]
              exact Int.ofNat_le.2 (Nat.pow_le_pow_right (by omega) (by omega))
            omega
        by_cases hsm : -1022 ≤ (L : Int) + base
        · obtain ⟨c, k, hr2, k1, k2, k3, k4, k5⟩ := nearest_bounds T (by omega) sn N.natAbs base hNne (by rw [hL]; omega) (by rw [hL]; omega)
          rw [hL] at k5
          refine ⟨k, c, sn, hr2, k1, ?_⟩
          rw [hsn0]
          have : V T false c k = (c : Int) * ((2 ^ (k + T).toNat : Nat) : Int) := rfl
          rw [this]
          have c3 : ((2 ^ (base + L + 1 + T).toNat : Nat) : Int) ≤ Q := by
            rw [← hQ]
            exact Int.ofNat_le.2 (Nat.pow_le_pow_right (by omega) (by omega))
          omega
        · have hl : N.natAbs < 2 ^ 53 := Nat.lt_of_lt_of_le b2 (Nat.pow_le_pow_right (by omega) (by omega))
          obtain ⟨c, k, hr2, ⟨x, hx, hk⟩, _, k2, _⟩ := nearest_exact sn N.natAbs 0 base hl (by omega) (by omega)
          rw [Nat.pow_zero, Nat.mul_one] at hr2
          refine ⟨k, c, sn, hr2, k2, ?_⟩
          rw [hx, V_shift T _ _ _ _ (by omega), show k + x = base by omega, hsn0]
          have : V T false N.natAbs base = (N.natAbs : Int) * ((2 ^ (base + T).toNat : Nat) : Int) := rfl
          rw [this, show (N.natAbs : Int) = N by omega, hsumV]
          omega
    obtain ⟨k, c, q, hr2, k1, k2⟩ := key
    rw [order_V T hr2 read_32768 (by omega) (by omega), hC, Int.compare_eq_lt.2 (by omega)]
    rfl
end Go.Proofs.Ytbcddiaplpbhjaa.Rl
