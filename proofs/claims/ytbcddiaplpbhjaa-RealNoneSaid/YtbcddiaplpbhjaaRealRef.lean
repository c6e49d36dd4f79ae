/- The document's answer on floats: it is what Of and Near tell. -/
import Derived.Test.YtbcddiaplpbhjaaPRealNearsx2
import Derived.Test.YtbcddiaplpbhjaaRealPure
import Derived.Laws.BitsAllLaws
import Derived.Laws.Bits64
namespace Go.Proofs.Ytbcddiaplpbhjaa.Rr
open Go Go.RowKit Go.Proofs.Ytbcddiaplpbhjaa.Rl Go.Proofs.Ytbcddiaplpbhjaa.PRealNears Ieee
set_option linter.unusedVariables false

theorem and_mask (x : Int) (k : Nat) (hx : 0 ≤ x) (hx2 : x < 18446744073709551616) (hk : k ≤ 63) : bits .and .u64 x ((2 ^ k - 1 : Nat) : Int) = x % ((2 ^ k : Nat) : Int) := by
  obtain ⟨n, rfl⟩ := Int.eq_ofNat_of_zero_le hx
  have h1 : 2 ^ k ≤ 2 ^ 63 := Nat.pow_le_pow_right (by omega) hk
  rw [u64_and_nat n (2 ^ k - 1) (by omega) (by omega), Nat.and_two_pow_sub_one_eq_mod, Int.natCast_emod]
theorem and_1 (x : Int) (hx : 0 ≤ x) (hx2 : x < 18446744073709551616) : bits .and .u64 x 1 = x % 2 := and_mask x 1 hx hx2 (by omega)
theorem and_2047 (x : Int) (hx : 0 ≤ x) (hx2 : x < 18446744073709551616) : bits .and .u64 x 2047 = x % 2048 := and_mask x 11 hx hx2 (by omega)
theorem and_52 (x : Int) (hx : 0 ≤ x) (hx2 : x < 18446744073709551616) : bits .and .u64 x 4503599627370495 = x % 4503599627370496 := and_mask x 52 hx hx2 (by omega)
theorem uw {x : Int} (h0 : 0 ≤ x) (h1 : x < 18446744073709551616) : IntKind.u64.wrap x = x := by rw [IntKind.wrap_u64]; omega
theorem w64 {x : Int} (h0 : -9223372036854775808 ≤ x) (h1 : x < 9223372036854775808) : wrap64 x = x := by unfold wrap64; omega

/-- what is left behind the steps downward -/
def code (r h : Bool) : Int := (if h then 2 else 0) + (if r then 1 else 0)
def fin (x : Nat) (r h : Bool) : Int × Int × Bool := if 140737488355328 ≤ x then (0, 0, false) else ((x : Int), code r h, true)

theorem j4_false (k : Nat) (x : Nat) (e : Int) (r h : Bool) : bivouacref04_Scaled.j4 (k + 1) x e r h false = some (fin x r h) := by
  simp only [bivouacref04_Scaled.j4, fin, code, Bool.false_eq_true, if_false]
  by_cases hx : 140737488355328 ≤ x
  · rw [if_pos (by omega), if_pos hx]
  · rw [if_neg (by omega), if_neg hx]
    cases r <;> cases h <;> rfl
theorem l1_zero (k : Nat) (x : Nat) (e : Int) (he : e ≤ 0) (r h : Bool) : bivouacref04_Scaled.l1 (k + 2) x e r h = some (fin x r h) := by
  rw [show k + 2 = (k + 1) + 1 from rfl]
  simp only [bivouacref04_Scaled.l1]
  rw [if_neg (by omega)]
  exact j4_false k x e r h
theorem j1_zero (k : Nat) (x : Nat) (r h : Bool) : bivouacref04_Scaled.j1 (k + 4) x 0 r h = some (fin x r h) := by
  rw [show k + 4 = (k + 3) + 1 from rfl]
  simp only [bivouacref04_Scaled.j1]
  have h0 : decide ((0 : Int) < 0) = false := rfl
  rw [h0]
  have : bivouacref04_Scaled.j2 (k + 3) x 0 r h false = some (fin x r h) := by
    rw [show k + 3 = (k + 2) + 1 from rfl]
    simp only [bivouacref04_Scaled.j2, Bool.false_eq_true, if_false]
    exact l1_zero k x 0 (by omega) r h
  split <;> exact this
/-- nothing but what fell off is left -/
theorem j1_none (k : Nat) (e : Int) (he : e ≤ 0) (r : Bool) : bivouacref04_Scaled.j1 (k + 4) 0 e r false = some (fin 0 r false) := by
  rw [show k + 4 = (k + 3) + 1 from rfl]
  simp only [bivouacref04_Scaled.j1, if_true]
  rw [show k + 3 = (k + 2) + 1 from rfl]
  simp only [bivouacref04_Scaled.j2]
  by_cases h : e < 0
  · rw [decide_eq_true h]
    simp only [if_true, bivouacref04_one.f]
    cases r <;> simp [fin, code]
  · rw [decide_eq_false h]
    simp only [Bool.false_eq_true, if_false]
    exact l1_zero k 0 e he r false

theorem j1_zero' (k : Nat) (hk : 4 ≤ k) (x : Nat) (r h : Bool) : bivouacref04_Scaled.j1 k x 0 r h = some (fin x r h) := by
  obtain ⟨m, rfl⟩ : ∃ m, k = m + 4 := ⟨k - 4, by omega⟩
  exact j1_zero m x r h
theorem j1_none' (k : Nat) (hk : 4 ≤ k) (e : Int) (he : e ≤ 0) (r : Bool) : bivouacref04_Scaled.j1 k 0 e r false = some (fin 0 r false) := by
  obtain ⟨m, rfl⟩ : ∃ m, k = m + 4 := ⟨k - 4, by omega⟩
  exact j1_none m e he r

/-- d steps downward -/
def down : Nat → Nat → Bool → Bool → Nat × Bool × Bool
  | 0, x, r, h => (x, r, h)
  | d + 1, x, r, h => down d (x / 2) (r || h) (x % 2 == 1)
theorem down_zero : ∀ d r, down d 0 r false = (0, r, false)
  | 0, r => rfl
  | d + 1, r => by
    show down d (0 / 2) (r || false) (0 % 2 == 1) = _
    rw [Bool.or_false]; exact down_zero d r

theorem l0_down (d : Nat) : ∀ (k x : Nat) (r h : Bool), d < 1200 → x < 9007199254740992 → d + 5 ≤ k →
    bivouacref04_Scaled.l0 k x (-(d : Int)) r h = some (fin (down d x r h).1 (down d x r h).2.1 (down d x r h).2.2) := by
  induction d with
  | zero =>
    intro k x r h _ hx hk
    obtain ⟨k, rfl⟩ : ∃ m, k = m + 1 := ⟨k - 1, by omega⟩
    simp only [bivouacref04_Scaled.l0, down]
    rw [if_neg (by omega)]
    exact j1_zero' k (by omega) x r h
  | succ d ih =>
    intro k x r h hd hx hk
    obtain ⟨k, rfl⟩ : ∃ m, k = m + 1 := ⟨k - 1, by omega⟩
    have hand := and_1 (x : Int) (by omega) (by omega)
    have hw : wrap64 (-((d + 1 : Nat) : Int) + 1) = -(d : Int) := by rw [w64 (by omega) (by omega)]; omega
    have hx2 : (x : Int) / 2 = ((x / 2 : Nat) : Int) := by omega
    have hb : ((x : Int) % 2 == 1) = (x % 2 == 1) := by
      rw [Bool.eq_iff_iff, beq_iff_eq, beq_iff_eq]; omega
    have ih' := fun r h => ih k (x / 2) r h (by omega) (by omega) (by omega)
    simp only [bivouacref04_Scaled.l0, down]
    rw [if_pos (by omega), hand, hw, hx2, hb]
    -- whether all is gone
    by_cases hz : x / 2 = 0
    · rw [if_pos (show (((x / 2 : Nat) : Int) = 0) by omega), if_pos (show (((x / 2 : Nat) : Int) = 0) by omega)]
      by_cases h1 : x % 2 = 1
      · rw [if_pos (show ((x : Int) % 2 = 1) by omega), if_pos (show ((x : Int) % 2 = 1) by omega), ih', ih']
        cases r <;> simp
      · rw [if_neg (show ¬ ((x : Int) % 2 = 1) by omega), if_neg (show ¬ ((x : Int) % 2 = 1) by omega), show (x % 2 == 1) = false by simpa using h1, hz]
        have q := fun r => j1_none' k (by omega) (-(d : Int)) (by omega) r
        cases r
        · simp only [Bool.false_eq_true, if_false, Bool.false_or]
          cases h
          · simp only [Bool.false_eq_true, if_false]
            rw [down_zero]; exact q false
          · simp only [if_true]
            rw [down_zero]; exact q true
        · simp only [if_true, Bool.true_or]
          rw [down_zero]; exact q true
    · rw [if_neg (show ¬ (((x / 2 : Nat) : Int) = 0) by omega), if_neg (show ¬ (((x / 2 : Nat) : Int) = 0) by omega), ih', ih']
      cases r <;> simp

/-- what d steps downward leave: the quotient, the bit that fell off last, and whether more fell off -/
theorem down_is (d : Nat) : ∀ x r h, down (d + 1) x r h = (x / 2 ^ (d + 1), (r || h || decide (x % 2 ^ d ≠ 0)), x / 2 ^ d % 2 == 1) := by
  induction d with
  | zero =>
    intro x r h
    show (x / 2, r || h, x % 2 == 1) = _
    simp [Nat.mod_one]
  | succ d ih =>
    intro x r h
    show down (d + 1) (x / 2) (r || h) (x % 2 == 1) = _
    rw [ih]
    have e1 : x / 2 / 2 ^ (d + 1) = x / 2 ^ (d + 1 + 1) := by rw [Nat.div_div_eq_div_mul, ← Nat.pow_add_one']
    have e2 : x / 2 / 2 ^ d = x / 2 ^ (d + 1) := by rw [Nat.div_div_eq_div_mul, ← Nat.pow_add_one']
    have e3 : (x % 2 ^ (d + 1) ≠ 0) ↔ (x % 2 = 1 ∨ x / 2 % 2 ^ d ≠ 0) := by
      have : x % 2 ^ (d + 1) = x % 2 + 2 * (x / 2 % 2 ^ d) := by rw [Nat.pow_add_one', Nat.mod_mul]
      omega
    rw [e1, e2]
    congr 2
    rw [Bool.eq_iff_iff]
    simp only [Bool.or_eq_true, beq_iff_eq, decide_eq_true_eq, e3]
    exact ⟨fun h => by rcases h with (h | h) | h <;> simp [h], fun h => by rcases h with h | (h | h) <;> simp [h]⟩

/-- upward -/
theorem l1_up (d : Nat) : ∀ (k x : Nat), d < 1200 → x < 9007199254740992 → 2 * d + 3 ≤ k →
    bivouacref04_Scaled.l1 k x d false false = some (fin (x * 2 ^ d) false false) := by
  induction d with
  | zero =>
    intro k x _ hx hk
    obtain ⟨k, rfl⟩ : ∃ m, k = m + 2 := ⟨k - 2, by omega⟩
    rw [l1_zero k x _ (by omega), Nat.pow_zero, Nat.mul_one]
  | succ d ih =>
    intro k x hd hx hk
    obtain ⟨k, rfl⟩ : ∃ m, k = m + 1 := ⟨k - 1, by omega⟩
    obtain ⟨q, hq⟩ : ∃ q, k = q + 1 := ⟨k - 1, by omega⟩
    have hw : wrap64 (((d + 1 : Nat) : Int) - 1) = (d : Int) := by rw [w64 (by omega) (by omega)]; omega
    simp only [bivouacref04_Scaled.l1]
    rw [if_pos (by omega)]
    by_cases hx0 : x = 0
    · subst hx0
      have : (((0 : Nat) : Int) != 0) = false := rfl
      rw [this, Nat.zero_mul, hq]
      exact j4_false q 0 _ false false
    · have : ((x : Int) != 0) = true := by simpa using hx0
      rw [this, hq]
      simp only [bivouacref04_Scaled.j4, if_true]
      rw [uw (x := (x : Int) * 2) (by omega) (by omega), hw]
      have hp := Nat.two_pow_pos d
      by_cases hg : 140737488355328 ≤ x * 2
      · rw [if_pos (by omega)]
        unfold fin
        rw [if_pos]
        have : x * 2 * 1 ≤ x * 2 * 2 ^ d := Nat.mul_le_mul_left _ (by omega)
        rw [Nat.pow_add_one', ← Nat.mul_assoc]; omega
      · rw [if_neg (by omega), show (x : Int) * 2 = ((x * 2 : Nat) : Int) by omega, ih q (x * 2) (by omega) (by omega) (by omega), Nat.pow_add_one', ← Nat.mul_assoc]

/-- Scaled, of a size and a place -/
def scS (m : Nat) (e : Int) : Int × Int × Bool :=
  if 0 ≤ e then fin (m * 2 ^ e.toNat) false false
  else fin (m / 2 ^ (-e).toNat) (decide (m % 2 ^ ((-e).toNat - 1) ≠ 0)) (m / 2 ^ ((-e).toNat - 1) % 2 == 1)
theorem scaled_eq (m : Nat) (e : Int) (k : Nat) (hm : m < 9007199254740992) (h0 : -1200 < e) (h1 : e < 1200) (hk : 3000 ≤ k) : bivouacref04_Scaled.f k m e = some (scS m e) := by
  unfold bivouacref04_Scaled.f scS
  by_cases he : 0 ≤ e
  · rw [if_pos he]
    obtain ⟨d, rfl⟩ := Int.eq_ofNat_of_zero_le he
    obtain ⟨k, rfl⟩ : ∃ m, k = m + 1 := ⟨k - 1, by omega⟩
    obtain ⟨q, hq⟩ : ∃ q, k = q + 1 := ⟨k - 1, by omega⟩
    obtain ⟨p, hp⟩ : ∃ p, q = p + 1 := ⟨q - 1, by omega⟩
    have hl3 := l1_up d p m (by omega) hm (by omega)
    simp only [bivouacref04_Scaled.l0]
    rw [if_neg (by omega), hq]
    simp only [bivouacref04_Scaled.j1]
    rw [show decide (((d : Nat) : Int) < 0) = false from decide_eq_false (by omega), hp]
    simp only [bivouacref04_Scaled.j2, Bool.false_eq_true, if_false, Int.toNat_natCast]
    split <;> assumption
  · rw [if_neg he]
    obtain ⟨d, hd⟩ : ∃ d : Nat, e = -((d + 1 : Nat) : Int) := ⟨(-e).toNat - 1, by omega⟩
    subst hd
    have := l0_down (d + 1) k m false false (by omega) hm (by omega)
    rw [this, down_is, show (- -((d + 1 : Nat) : Int)).toNat = d + 1 by omega, Nat.add_sub_cancel]
    simp

theorem neg_ediv (m P : Nat) (hP : 0 < P) : (-(m : Int)) / (P : Int) = -((m / P : Nat) : Int) - (if m % P = 0 then 0 else 1) := by
  have e1 := Nat.div_add_mod m P
  have e2 := Nat.mod_lt m hP
  obtain ⟨q, hq⟩ : ∃ q, m / P = q := ⟨_, rfl⟩
  obtain ⟨r, hr⟩ : ∃ r, m % P = r := ⟨_, rfl⟩
  rw [hq, hr] at e1
  rw [hr] at e2
  rw [hq, hr]
  have e1' : (m : Int) = (P : Int) * (q : Int) + (r : Int) := by rw [← e1, Int.natCast_add, Int.natCast_mul]
  by_cases hz : r = 0
  · rw [if_pos hz]
    refine ((Int.ediv_emod_unique (show (0 : Int) < P by omega)).2 ⟨show (0 : Int) + P * (-(q : Int) - 0) = -(m : Int) from ?_, by omega, by omega⟩).1
    rw [e1', hz, Int.mul_sub, Int.mul_neg]; simp
  · rw [if_neg hz]
    refine ((Int.ediv_emod_unique (show (0 : Int) < P by omega)).2 ⟨show ((P : Int) - r) + P * (-(q : Int) - 1) = -(m : Int) from ?_, by omega, by omega⟩).1
    rw [e1', Int.mul_sub, Int.mul_neg]; omega

/-- what Scaled's answer says of the numbers -/
theorem scS_fl (m : Nat) (e : Int) : ∃ (w : Nat) (c : Int), scS m e = (if 140737488355328 ≤ w then (0, 0, false) else ((w : Int), c, true)) ∧
    fl false m e = w ∧ fl true m e = -(w : Int) - (if 0 < c then 1 else 0) ∧ 0 ≤ c ∧ (fl false m (e + 1) - 2 * fl false m e = 1 ↔ 2 ≤ c) ∧ (fl true m (e + 1) - 2 * fl true m e = 1 ↔ 0 < c ∧ c ≤ 2) := by
  unfold scS fin
  by_cases he : 0 ≤ e
  · rw [if_pos he]
    refine ⟨m * 2 ^ e.toNat, 0, rfl, ?_, ?_, by omega, ?_, ?_⟩
    · unfold fl; rw [if_pos he]; unfold sg; simp
    · unfold fl; rw [if_pos he]; unfold sg; simp [Int.neg_mul]
    · unfold fl
      rw [if_pos he, if_pos (by omega), show (e + 1).toNat = e.toNat + 1 by omega, two_add, show ((2 ^ 1 : Nat) : Int) = 2 from rfl, ← Int.mul_assoc]
      omega
    · unfold fl
      rw [if_pos he, if_pos (by omega), show (e + 1).toNat = e.toNat + 1 by omega, two_add, show ((2 ^ 1 : Nat) : Int) = 2 from rfl, ← Int.mul_assoc]
      omega
  · rw [if_neg he]
    obtain ⟨d, hd⟩ : ∃ d : Nat, (-e).toNat = d + 1 := ⟨(-e).toNat - 1, by omega⟩
    have hp := Nat.two_pow_pos d
    have hp1 := Nat.two_pow_pos (d + 1)
    have k1 : fl false m e = ((m / 2 ^ (d + 1) : Nat) : Int) := by unfold fl; rw [if_neg he, hd]; show (m : Int) / _ = _; rw [← Int.natCast_ediv]
    have k2 : fl true m e = -((m / 2 ^ (d + 1) : Nat) : Int) - (if m % 2 ^ (d + 1) = 0 then 0 else 1) := by unfold fl; rw [if_neg he, hd]; show (-(m : Int)) / _ = _; rw [neg_ediv _ _ hp1]
    have k3 : fl false m (e + 1) = ((m / 2 ^ d : Nat) : Int) := by
      unfold fl
      by_cases h1 : 0 ≤ e + 1
      · have hd0 : d = 0 := by omega
        rw [if_pos h1, show (e + 1).toNat = 0 by omega, hd0]; show (m : Int) * _ = _; simp
      · rw [if_neg h1, show (-(e + 1)).toNat = d by omega]; show (m : Int) / _ = _; rw [← Int.natCast_ediv]
    have k4 : fl true m (e + 1) = -((m / 2 ^ d : Nat) : Int) - (if m % 2 ^ d = 0 then 0 else 1) := by
      unfold fl
      by_cases h1 : 0 ≤ e + 1
      · have hd0 : d = 0 := by omega
        rw [if_pos h1, show (e + 1).toNat = 0 by omega, hd0]; show (-(m : Int)) * _ = _; simp [Nat.mod_one]
      · rw [if_neg h1, show (-(e + 1)).toNat = d by omega]; show (-(m : Int)) / _ = _; rw [neg_ediv _ _ hp]
    have k5 : m / 2 ^ d = 2 * (m / 2 ^ (d + 1)) + m / 2 ^ d % 2 := by
      have : m / 2 ^ (d + 1) = m / 2 ^ d / 2 := by rw [Nat.div_div_eq_div_mul, ← Nat.pow_succ]
      omega
    have k6 : m % 2 ^ (d + 1) = m % 2 ^ d + 2 ^ d * (m / 2 ^ d % 2) := by rw [Nat.pow_succ, Nat.mod_mul]
    have k7 : m % 2 ^ (d + 1) = 0 ↔ m % 2 ^ d = 0 ∧ m / 2 ^ d % 2 = 0 := by
      rw [k6]
      constructor
      · intro h
        refine ⟨by omega, ?_⟩
        have : 2 ^ d * (m / 2 ^ d % 2) = 0 := by omega
        rcases Nat.mul_eq_zero.1 this with h | h <;> omega
      · rintro ⟨h1, h2⟩; rw [h1, h2]; simp
    rw [hd, Nat.add_sub_cancel]
    obtain ⟨w, hw⟩ : ∃ w, m / 2 ^ (d + 1) = w := ⟨_, rfl⟩
    obtain ⟨x, hx⟩ : ∃ w, m / 2 ^ d = w := ⟨_, rfl⟩
    obtain ⟨low, hl⟩ : ∃ w, m % 2 ^ d = w := ⟨_, rfl⟩
    obtain ⟨low1, hl1⟩ : ∃ w, m % 2 ^ (d + 1) = w := ⟨_, rfl⟩
    rw [hw, hl1] at k2
    rw [hw] at k1
    rw [hx] at k3
    rw [hx, hl] at k4
    rw [hx, hw] at k5
    rw [hx, hl, hl1] at k7
    rw [hw, hx, hl, k1, k2, k3, k4]
    clear k1 k2 k3 k4 k6 hw hx hl hl1 hp hp1
    by_cases h1 : x % 2 = 1
    · have h3 : ¬ low1 = 0 := fun z => by have := (k7.1 z).2; omega
      rw [if_neg h3]
      by_cases h2 : low = 0
      · rw [if_pos h2, h1, h2]
        refine ⟨w, 2, rfl, rfl, ?_, by omega, ?_, ?_⟩
        · rw [if_pos (by omega)]
        · omega
        · omega
      · rw [if_neg h2, h1, decide_eq_true h2]
        refine ⟨w, 3, rfl, rfl, ?_, by omega, ?_, ?_⟩
        · rw [if_pos (by omega)]
        · omega
        · omega
    · have h1' : x % 2 = 0 := by omega
      by_cases h2 : low = 0
      · have h3 : low1 = 0 := k7.2 ⟨h2, h1'⟩
        rw [if_pos h3, if_pos h2, h1', h2]
        refine ⟨w, 0, rfl, rfl, ?_, by omega, ?_, ?_⟩
        · rw [if_neg (by omega)]
        · omega
        · omega
      · have h3 : ¬ low1 = 0 := fun z => h2 (k7.1 z).1
        rw [if_neg h3, if_neg h2, h1', decide_eq_true h2]
        refine ⟨w, 1, rfl, rfl, ?_, by omega, ?_, ?_⟩
        · rw [if_pos (by omega)]
        · omega
        · omega

theorem parts_eq (b k : Nat) (hb : b < 2 ^ 64) (hk : 1 ≤ k) : bivouacref04_Parts.f k b = some (
    if b / 2 ^ 52 % 2048 = 2047 then (if b % 2 ^ 52 = 0 then (b / 2 ^ 63 == 1, 0, 0, 1) else (b / 2 ^ 63 == 1, 0, 0, 2))
    else if b / 2 ^ 52 % 2048 = 0 then (b / 2 ^ 63 == 1, ((b % 2 ^ 52 : Nat) : Int), -1074, 0) else (b / 2 ^ 63 == 1, ((b % 2 ^ 52 + 2 ^ 52 : Nat) : Int), ((b / 2 ^ 52 % 2048 : Nat) : Int) - 1075, 0)) := by
  obtain ⟨k, rfl⟩ : ∃ m, k = m + 1 := ⟨k - 1, by omega⟩
  have a1 := and_2047 ((b : Int) / 4503599627370496) (by omega) (by omega)
  have a2 := and_52 (b : Int) (by omega) (by omega)
  have e1 : (b : Int) / 4503599627370496 % 2048 = ((b / 2 ^ 52 % 2048 : Nat) : Int) := by omega
  have e2 : (b : Int) % 4503599627370496 = ((b % 2 ^ 52 : Nat) : Int) := by omega
  have e3 : ((b : Int) / 9223372036854775808 == 1) = (b / 2 ^ 63 == 1) := by rw [Bool.eq_iff_iff, beq_iff_eq, beq_iff_eq]; omega
  unfold bivouacref04_Parts.f
  rw [a1, a2, e1, e2, e3]
  obtain ⟨E, hE⟩ : ∃ E, b / 2 ^ 52 % 2048 = E := ⟨_, rfl⟩
  obtain ⟨M, hM⟩ : ∃ M, b % 2 ^ 52 = M := ⟨_, rfl⟩
  have hEl : E < 2048 := by omega
  have hMl : M < 2 ^ 52 := by omega
  rw [hE, hM, w64 (x := (E : Int)) (by omega) (by omega)]
  by_cases h1 : E = 2047
  · rw [if_pos (show (E : Int) = 2047 by omega), if_pos h1]
    simp only [bivouacref04_Parts.j0]
    by_cases h2 : M = 0
    · rw [if_pos h2, show ((M : Int) != 0) = false by simpa using h2, if_neg (by simp), if_pos (by omega)]
    · rw [if_neg h2, show ((M : Int) != 0) = true by simpa using h2, if_pos rfl]
  · rw [if_neg (show ¬ (E : Int) = 2047 by omega), if_neg h1]
    simp only [bivouacref04_Parts.j0]
    rw [if_neg (by simp), if_neg (by omega)]
    by_cases h2 : E = 0
    · rw [if_pos (by omega), if_pos h2]
    · rw [if_neg (by omega), if_neg h2, uw (by omega) (by omega), w64 (by omega) (by omega)]
      congr 3

theorem refOf_eq (b : Nat) (hb : b < 2 ^ 64) (k : Nat) (hk : 3000 ≤ k) : bivouacref04_Of.f k b = some (ofS b) := by
  unfold bivouacref04_Of.f
  rw [parts_eq b k hb (by omega)]
  simp only [Option.bind_some]
  rcases read_cases b hb with ⟨s, m, e, h, h1, h2, h3, h4, h5, h6, h7, h8⟩ | ⟨s, h, h5, h6⟩ | ⟨s, t, h, h5, h6⟩
  · unfold ofS
    rw [h]
    obtain ⟨w, c, q1, q2, q3, q4, q5, q6⟩ := scS_fl m (e + 16)
    have hsc := scaled_eq m (e + 16) k (by omega) (by omega) (by omega) hk
    have hparts : (if b / 2 ^ 52 % 2048 = 2047 then (if b % 2 ^ 52 = 0 then (b / 2 ^ 63 == 1, (0 : Int), (0 : Int), (1 : Int)) else (b / 2 ^ 63 == 1, 0, 0, 2))
        else if b / 2 ^ 52 % 2048 = 0 then (b / 2 ^ 63 == 1, ((b % 2 ^ 52 : Nat) : Int), -1074, 0) else (b / 2 ^ 63 == 1, ((b % 2 ^ 52 + 2 ^ 52 : Nat) : Int), ((b / 2 ^ 52 % 2048 : Nat) : Int) - 1075, 0)) = (s, (m : Int), e, 0) := by
      rw [if_neg h5]
      by_cases hz : b / 2 ^ 52 % 2048 = 0
      · rw [if_pos hz, (h7 hz).1, (h7 hz).2, h6]
      · rw [if_neg hz, (h8 hz).1, (h8 hz).2, h6]
    rw [hparts]
    simp only []
    rw [if_neg (by omega), if_neg (by omega), w64 (x := e + 16) (by omega) (by omega), hsc, q1]
    simp only [Option.bind_some]
    by_cases hw : 140737488355328 ≤ w
    · rw [if_pos hw]
      simp only [Bool.false_eq_true, if_false]
      rw [if_neg]
      cases s
      · rw [q2]; omega
      · rw [q3]; split <;> omega
    · rw [if_neg hw]
      simp only [if_true]
      rw [w64 (x := (w : Int)) (by omega) (by omega), w64 (x := -(w : Int)) (by omega) (by omega), w64 (x := -(w : Int) - 1) (by omega) (by omega)]
      cases s
      · rw [q2]
        simp only [Bool.false_eq_true, if_false]
        by_cases hr : 70368744177664 ≤ w
        · rw [if_neg (by omega), if_pos (by omega), if_neg (by omega)]
        · rw [if_neg (by omega), if_neg (by omega), if_pos (by omega)]
      · rw [q3]
        simp only [if_true]
        by_cases hc : 0 < c
        · rw [if_pos hc, if_pos hc]
          by_cases hr : -70368744177664 ≤ -(w : Int) - 1
          · rw [if_neg (by omega), if_neg (by omega), if_pos (by omega)]
          · rw [if_pos (by omega), if_neg (by omega)]
        · rw [if_neg hc, if_neg hc]
          by_cases hr : -70368744177664 ≤ -(w : Int)
          · rw [if_neg (by omega), if_neg (by omega), if_pos (by omega)]; simp
          · rw [if_pos (by omega), if_neg (by omega)]
  · unfold ofS
    rw [h, if_pos h5, if_pos h6]
    simp
  · unfold ofS
    rw [h, if_pos h5, if_neg h6]
    simp

theorem refNear_eq (b : Nat) (hb : b < 2 ^ 64) (k : Nat) (hk : 3000 ≤ k) : bivouacref04_Near.f k b = some (nearS b) := by
  obtain ⟨q, hq⟩ : ∃ q, k = q + 1 := ⟨k - 1, by omega⟩
  unfold bivouacref04_Near.f
  rw [refOf_eq b hb k hk, parts_eq b k hb (by omega)]
  simp only [Option.bind_some]
  rcases read_cases b hb with ⟨s, m, e, h, h1, h2, h3, h4, h5, h6, h7, h8⟩ | ⟨s, h, h5, h6⟩ | ⟨s, t, h, h5, h6⟩
  · unfold ofS nearS
    rw [h]
    obtain ⟨w, c, q1, q2, q3, q4, q5, q6⟩ := scS_fl m (e + 16)
    have hsc := scaled_eq m (e + 16) k (by omega) (by omega) (by omega) hk
    have hparts : (if b / 2 ^ 52 % 2048 = 2047 then (if b % 2 ^ 52 = 0 then (b / 2 ^ 63 == 1, (0 : Int), (0 : Int), (1 : Int)) else (b / 2 ^ 63 == 1, 0, 0, 2))
        else if b / 2 ^ 52 % 2048 = 0 then (b / 2 ^ 63 == 1, ((b % 2 ^ 52 : Nat) : Int), -1074, 0) else (b / 2 ^ 63 == 1, ((b % 2 ^ 52 + 2 ^ 52 : Nat) : Int), ((b / 2 ^ 52 % 2048 : Nat) : Int) - 1075, 0)) = (s, (m : Int), e, 0) := by
      rw [if_neg h5]
      by_cases hz : b / 2 ^ 52 % 2048 = 0
      · rw [if_pos hz, (h7 hz).1, (h7 hz).2, h6]
      · rw [if_neg hz, (h8 hz).1, (h8 hz).2, h6]
    by_cases hr : -70368744177664 ≤ fl s m (e + 16) ∧ fl s m (e + 16) < 70368744177664
    · simp only [hr, and_self, if_true]
      rw [hparts]
      simp only []
      rw [w64 (x := e + 16) (by omega) (by omega), hsc, q1]
      have hw : ¬ 140737488355328 ≤ w := by
        cases s
        · rw [q2] at hr; omega
        · rw [q3] at hr; split at hr <;> omega
      rw [if_neg hw]
      simp only [Option.bind_some]
      unfold up
      rw [show e + 16 + 1 = e + 17 by omega] at q5 q6
      obtain ⟨v, hv⟩ : ∃ v, fl s m (e + 16) = v := ⟨_, rfl⟩
      have hj : ∀ u : Bool, bivouacref04_Near.j0 k v u = some (if u = true then (if v + 1 < 70368744177664 then (v + 1, 0) else (0, 8)) else (v, 0)) := by
        intro u
        have hr' := hr
        rw [hv] at hr'
        rw [hq]
        simp only [bivouacref04_Near.j0]
        rw [w64 (x := v + 1) (by omega) (by omega)]
        cases u
        · simp only [Bool.false_eq_true, if_false]
          rw [if_neg (by omega)]
        · simp only [if_true]
          by_cases ho : v + 1 < 70368744177664
          · rw [if_neg (by omega), if_pos ho]
          · rw [if_pos (by omega), if_neg ho]
      rw [hv]
      simp only [hj]
      cases s
      · rw [hv] at q5
        simp only [Bool.false_eq_true, if_false]
        by_cases hc : 2 ≤ c
        · rw [if_pos hc, if_pos (q5.2 hc)]; simp
        · rw [if_neg hc, if_neg (fun z => hc (q5.1 z))]; simp; omega
      · rw [hv] at q6
        simp only [if_true]
        by_cases hc : 0 < c
        · rw [if_pos hc]
          by_cases hc2 : c ≤ 2
          · rw [if_pos (q6.2 ⟨hc, hc2⟩), decide_eq_true hc2]; simp
          · rw [if_neg (fun z => hc2 (q6.1 z).2), decide_eq_false hc2]; simp; omega
        · rw [if_neg hc, if_neg (fun z => hc (q6.1 z).1)]; simp; omega
    · simp only [hr, if_false]
      rw [if_neg (by omega)]
  · unfold ofS nearS
    rw [h]
    simp
  · unfold ofS nearS
    rw [h]
    simp
end Go.Proofs.Ytbcddiaplpbhjaa.Rr
