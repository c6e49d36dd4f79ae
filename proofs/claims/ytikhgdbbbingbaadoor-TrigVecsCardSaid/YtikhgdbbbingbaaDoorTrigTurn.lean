/- The plain law of the turns. -/
import Derived.Test.YtikhgdbbbingbaaDoorTrigPure
namespace Go.Proofs.YtikhgdbbbingbaaDoor.Tr
open Go Go.RowKit
set_option linter.unusedVariables false

/-- the shorter way from one angle to another one, with its sign; its size; its sign -/
def way (a b : Int) : Int := if nrm (b - a) > 32768 then nrm (b - a) - 65536 else nrm (b - a)
def dist (a b : Int) : Int := if nrm (b - a) > 32768 then 65536 - nrm (b - a) else nrm (b - a)
/-- so much of it -/
def part (a b k : Int) : Int := if nrm (b - a) > 32768 then nrm (a - k) else nrm (a + k)
def most0 (m : Int) : Int := if m < 0 then 0 else m
def lesser (a b : Int) : Int := if a < b then a else b

/-- an angle, turned to another one by so much at most -/
def toward (f t m : Int) : Int := part (nrm f) (nrm t) (lesser (dist (nrm f) (nrm t)) (most0 m))

theorem dist_range (a b : Int) : 0 ≤ dist a b ∧ dist a b ≤ 32768 := by
  have := nrm_range (b - a); unfold dist; split <;> omega
theorem nrm_nrm (a : Int) : nrm (nrm a) = nrm a := by unfold nrm; omega
theorem nrm_of (a : Int) (h0 : 0 ≤ a) (h1 : a < 65536) : nrm a = a := by unfold nrm; omega
theorem part_range' (a b k : Int) : 0 ≤ part a b k ∧ part a b k < 65536 := by
  unfold part; split <;> exact nrm_range _
theorem part_zero (a b : Int) (h0 : 0 ≤ a) (h1 : a < 65536) : part a b 0 = a := by
  unfold part nrm; split <;> omega
theorem part_ne (a b k : Int) (hb0 : 0 ≤ b) (hb1 : b < 65536) (h0 : 0 ≤ k) (h1 : k < dist a b) : part a b k ≠ b := by
  unfold part dist nrm at *
  split at h1 <;> rename_i h <;> simp only [h, if_true, if_false] <;> omega
theorem part_end (a b : Int) (hb0 : 0 ≤ b) (hb1 : b < 65536) : part a b (dist a b) = b := by
  unfold part dist nrm
  by_cases h : (b - a) % 65536 > 32768 <;> simp only [h, if_true, if_false] <;> omega
theorem part_step (a b k : Int) : part a b (k + 1) = if nrm (b - a) > 32768 then nrm (part a b k - 1) else nrm (part a b k + 1) := by
  unfold part nrm; split <;> omega

/-- the program's turn -/
theorem toward_prog (a b m : Int) (ha0 : 0 ≤ a) (ha1 : a < 65536) (hb0 : 0 ≤ b) (hb1 : b < 65536) (d j : Int)
    (hd : d = if (b - a + 65536) % 65536 > 32768 then (b - a + 65536) % 65536 - 65536 else (b - a + 65536) % 65536) (hj : 0 ≤ j)
    (hm : j = if m < 0 then 0 else if 65536 < m then 65536 else m) :
    nrm (a + (if -j < (if d < j then d else j) then (if d < j then d else j) else -j)) = part a b (lesser (dist a b) (most0 m)) := by
  unfold part lesser dist most0 nrm at *
  by_cases h : (b - a) % 65536 > 32768
  · simp only [h, if_true]
    rw [if_pos (by omega)] at hd
    by_cases h2 : m < 0
    · rw [if_pos h2] at hm; rw [if_pos h2]; subst hm
      rw [if_neg (by omega)]; (repeat' split) <;> omega
    · rw [if_neg h2] at hm; rw [if_neg h2]
      (repeat' split) <;> omega
  · simp only [h, if_false]
    rw [if_neg (by omega)] at hd
    by_cases h2 : m < 0
    · rw [if_pos h2] at hm; rw [if_pos h2]; subst hm
      rw [if_neg (by omega)]; (repeat' split) <;> omega
    · rw [if_neg h2] at hm; rw [if_neg h2]
      (repeat' split) <;> omega

end Go.Proofs.YtikhgdbbbingbaaDoor.Tr
