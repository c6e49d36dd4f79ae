/- The plain law of numbers without end: digits to the base 1000, the lowest one first. -/
import Derived.Below
namespace Go.Proofs.YtikhgdbbbingbaaDoor.Dg
open Go Go.RowKit
set_option linter.unusedVariables false

def val : List Int → Int
  | [] => 0
  | d :: ds => d + 1000 * val ds

def ok (ds : List Int) : Prop := ∀ d ∈ ds, 0 ≤ d ∧ d ≤ 999

theorem ok_nil : ok [] := fun d h => by cases h
theorem ok_cons {d : Int} {ds : List Int} : ok (d :: ds) ↔ (0 ≤ d ∧ d ≤ 999) ∧ ok ds :=
  ⟨fun h => ⟨h d (List.mem_cons_self), fun x hx => h x (List.mem_cons_of_mem _ hx)⟩, fun h x hx => by
    rcases List.mem_cons.1 hx with rfl | hx
    · exact h.1
    · exact h.2 x hx⟩
theorem ok_append {a b : List Int} : ok (a ++ b) ↔ ok a ∧ ok b :=
  ⟨fun h => ⟨fun x hx => h x (List.mem_append_left _ hx), fun x hx => h x (List.mem_append_right _ hx)⟩, fun h x hx => (List.mem_append.1 hx).elim (h.1 x) (h.2 x)⟩
theorem ok_drop {a : List Int} (h : ok a) (k : Nat) : ok (a.drop k) := fun x hx => h x (List.mem_of_mem_drop hx)
theorem ok_take {a : List Int} (h : ok a) (k : Nat) : ok (a.take k) := fun x hx => h x (List.mem_of_mem_take hx)
theorem ok_getD {a : List Int} (h : ok a) (i : Nat) : 0 ≤ a.getD i 0 ∧ a.getD i 0 ≤ 999 := by
  rw [List.getD_eq_getElem?_getD]
  by_cases hi : i < a.length
  · rw [List.getElem?_eq_getElem hi]; exact h _ (List.getElem_mem hi)
  · rw [List.getElem?_eq_none (by omega)]; simp

theorem val_nonneg : ∀ {ds : List Int}, ok ds → 0 ≤ val ds
  | [], _ => Int.le_refl _
  | d :: ds, h => by
    have h1 := ok_cons.1 h
    have h2 := val_nonneg h1.2
    unfold val; omega

/-- 1000 to the k -/
def pw : Nat → Int
  | 0 => 1
  | k + 1 => pw k * 1000
theorem pw_pos : ∀ k, 0 < pw k
  | 0 => by decide
  | k + 1 => by have := pw_pos k; unfold pw; omega
theorem pw_add (a b : Nat) : pw (a + b) = pw a * pw b := by
  induction b with
  | zero => simp [pw]
  | succ b ih => rw [show a + (b + 1) = (a + b) + 1 from rfl, pw, ih, pw, Int.mul_assoc]

theorem val_append (a b : List Int) : val (a ++ b) = val a + pw a.length * val b := by
  induction a with
  | nil => simp [val, pw]
  | cons d a ih =>
    simp only [List.cons_append, val, List.length_cons, ih, pw]
    rw [Int.mul_add, Int.mul_comm (pw a.length) 1000, Int.mul_assoc]; omega

theorem val_snoc (a : List Int) (x : Int) : val (a ++ [x]) = val a + pw a.length * x := by
  rw [val_append]; simp [val]

theorem val_lt : ∀ {ds : List Int}, ok ds → val ds < pw ds.length
  | [], _ => by decide
  | d :: ds, h => by
    have h1 := ok_cons.1 h
    have h2 := val_lt h1.2
    simp only [val, List.length_cons, pw]; omega

theorem val_drop (ds : List Int) (i : Nat) : val (ds.drop i) = ds.getD i 0 + 1000 * val (ds.drop (i + 1)) := by
  by_cases h : i < ds.length
  · rw [List.drop_eq_getElem_cons h]
    simp only [val]
    rw [List.getD_eq_getElem?_getD, List.getElem?_eq_getElem h]; rfl
  · rw [List.drop_eq_nil_of_le (by omega), List.drop_eq_nil_of_le (by omega), List.getD_eq_getElem?_getD, List.getElem?_eq_none (by omega)]; rfl
theorem val_drop_end (ds : List Int) (i : Nat) (h : ds.length ≤ i) : val (ds.drop i) = 0 := by rw [List.drop_eq_nil_of_le h]; rfl

/-- one step of an addition: what is to come, in all -/
theorem add_step (P c x y x' y' : Int) (s : Int) (hs : s = x + y + c) : P * (c + (x + 1000 * x') + (y + 1000 * y')) = P * (s % 1000) + P * 1000 * (s / 1000 + x' + y') := by
  have e : c + (x + 1000 * x') + (y + 1000 * y') = s % 1000 + 1000 * (s / 1000 + x' + y') := by omega
  rw [e, Int.mul_add, Int.mul_assoc]

/-- digits without noughts at the end are those of the number -/
def digs : Nat → Nat → List Int
  | 0, _ => []
  | f + 1, n => if n = 0 then [] else ((n % 1000 : Nat) : Int) :: digs f (n / 1000)

/-- the digits of a number, as many as it takes -/
def canon (n : Nat) : List Int := digs n n

theorem digs_fuel : ∀ (f g n : Nat), n ≤ f → n ≤ g → digs f n = digs g n
  | 0, g, n, h1, h2 => by
    obtain rfl : n = 0 := by omega
    cases g <;> simp [digs]
  | f + 1, 0, n, h1, h2 => by
    obtain rfl : n = 0 := by omega
    simp [digs]
  | f + 1, g + 1, n, h1, h2 => by
    simp only [digs]
    by_cases h : n = 0
    · rw [if_pos h, if_pos h]
    · rw [if_neg h, if_neg h, digs_fuel f g (n / 1000) (by omega) (by omega)]

theorem canon_zero : canon 0 = [] := rfl
theorem canon_pos (n : Nat) (h : 0 < n) : canon n = ((n % 1000 : Nat) : Int) :: canon (n / 1000) := by
  unfold canon
  obtain ⟨m, rfl⟩ : ∃ m, n = m + 1 := ⟨n - 1, by omega⟩
  rw [show digs (m + 1) (m + 1) = ((((m + 1) % 1000 : Nat)) : Int) :: digs m ((m + 1) / 1000) from by rw [digs, if_neg (by omega)]]
  rw [digs_fuel m ((m + 1) / 1000) _ (by omega) (Nat.le_refl _)]

theorem canon_ok (n : Nat) : ok (canon n) := by
  induction n using Nat.strongRecOn with
  | ind n ih =>
    by_cases h : n = 0
    · subst h; exact ok_nil
    · rw [canon_pos n (by omega)]
      exact ok_cons.2 ⟨by omega, ih (n / 1000) (by omega)⟩
theorem val_canon (n : Nat) : val (canon n) = n := by
  induction n using Nat.strongRecOn with
  | ind n ih =>
    by_cases h : n = 0
    · subst h; rfl
    · rw [canon_pos n (by omega)]
      simp only [val]
      rw [ih (n / 1000) (by omega)]; omega

/-- digits that may be, the last one no nought -/
def trimmed (ds : List Int) : Prop := ds = [] ∨ ds.getD (ds.length - 1) 0 ≠ 0

theorem trimmed_canon : ∀ {ds : List Int}, ok ds → trimmed ds → ds = canon (val ds).toNat
  | [], _, _ => rfl
  | d :: ds, h, ht => by
    have h1 := ok_cons.1 h
    have hv := val_nonneg h1.2
    have hts : trimmed ds := by
      cases ds with
      | nil => exact Or.inl rfl
      | cons e es =>
        right
        rcases ht with ht | ht
        · cases ht
        · simpa [List.length_cons] using ht
    have ih := trimmed_canon h1.2 hts
    have hpos : 0 < val (d :: ds) := by
      simp only [val]
      rcases Int.lt_or_le 0 (val ds) with h2 | h2
      · omega
      · have h3 : val ds = 0 := by omega
        have h4 : ds = [] := by rw [ih, h3]; rfl
        subst h4
        rcases ht with ht | ht
        · cases ht
        · simp at ht; omega
    rw [canon_pos _ (by omega)]
    have e1 : (((val (d :: ds)).toNat % 1000 : Nat) : Int) = d := by simp only [val] at hpos ⊢; omega
    have e2 : (val (d :: ds)).toNat / 1000 = (val ds).toNat := by simp only [val] at hpos ⊢; omega
    rw [e1, e2, ← ih]

/-- noughts at the end count nothing -/
theorem val_take_zero (ds : List Int) (n : Nat) (hn : n < ds.length) (hz : ds.getD n 0 = 0) : val (ds.take (n + 1)) = val (ds.take n) := by
  rw [List.take_succ_eq_append_getElem hn, val_snoc]
  rw [List.getD_eq_getElem?_getD, List.getElem?_eq_getElem hn] at hz
  simp only [Option.getD_some] at hz
  rw [hz, Int.mul_zero, Int.add_zero]

theorem canon_len (n k : Nat) (h : (n : Int) < pw k) : (canon n).length ≤ k := by
  induction k generalizing n with
  | zero =>
    have : n = 0 := by simp only [pw] at h; omega
    subst this; simp [canon_zero]
  | succ k ih =>
    by_cases h0 : n = 0
    · subst h0; simp [canon_zero]
    · rw [canon_pos n (by omega), List.length_cons]
      have := ih (n / 1000) (by simp only [pw] at h; omega)
      omega
end Go.Proofs.YtikhgdbbbingbaaDoor.Dg
