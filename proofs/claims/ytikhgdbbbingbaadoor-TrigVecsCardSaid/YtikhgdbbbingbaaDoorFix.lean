/- What the fixed numbers do. -/
import Derived.Test.YtikhgdbbbingbaaDoorNumRow
import Derived.Test.YtikhgdbbbingbaaDoorRoot
import Derived.Laws.BitsLemmas
namespace Go.Proofs.YtikhgdbbbingbaaDoor
open Go Go.RowKit Go.Proofs.YtikhgdbbbingbaaDoor.Rt
set_option linter.unusedVariables false

theorem and_part (x : Int) : bits .and .i64 x 65535 = x % 65536 := by
  have h0 : (0:Int) ≤ x % 65536 := by omega
  have e : ((BitVec.ofInt 64 x).toNat &&& 65535 : Nat) = (x % 65536).toNat := by
    rw [show (65535 : Nat) = 2 ^ 16 - 1 from rfl, Nat.and_two_pow_sub_one_eq_mod, BitVec.toNat_ofInt]
    omega
  have e2 : (BitVec.ofInt 64 65535).toNat = 65535 := by decide
  have e3 : (BitVec.ofInt 64 x &&& BitVec.ofInt 64 65535).toNat = (x % 65536).toNat := by rw [BitVec.toNat_and, e2, e]
  show IntKind.i64.wrap (((BitVec.ofInt 64 x &&& BitVec.ofInt 64 65535).toNat : Nat) : Int) = _
  rw [e3, IntKind.wrap_i64]; omega
theorem fits_One : fits 65536 := by decide

theorem fmul_any (a b : Int) (w : World) (ha : fits a) (hb : fits b) : Calls Tryd.prog 29 #[.int .i64 a, .int .i64 b] w fun e w' => e = .returned (.tuple #[.int .i64 (mulDiv a b 65536).1, .int .i64 (mulDiv a b 65536).2]) ∧ Below w.heap.size w w' := by
  have H := Lib.hid (mulDiv_any a b 65536 w ha hb fits_One)
  obtain ⟨r, hr⟩ : ∃ r, mulDiv a b 65536 = r := ⟨_, rfl⟩
  rw [hr] at H ⊢
  clear hr
  go_enter Tryd.func29, Tryd.ntmps29
  go_wp2_with (first | (go_at_call 36; refine H.out.mono ?_; rintro e w' ⟨rfl, hb⟩; have HB := Lib.hid hb; clear hb))
  go_ret2
  exact ⟨rfl, HB.out⟩
/-- what Lerp tells -/
def lerp (a b t : Int) : Int × Int := if fits (b - a) then (if fits ((b - a) * t / 65536) then fitted (a + (b - a) * t / 65536) else (0, 8)) else (0, 8)

/-- what Sqrt tells -/
noncomputable def sqrtS (a : Int) : Int × Int := if a < 0 then (0, 1) else if 70368744177664 ≤ a then (0, 8) else (rt (a * 65536), 0)
theorem rt_bound {n m : Int} (h : 0 ≤ n) (hm : 0 ≤ m) (k : n < m * m) : 0 ≤ rt n ∧ rt n < m := ⟨(rt_is h).1, rt_lt h hm k⟩

/-- what Length tells -/
noncomputable def lengthS (x y : Int) : Int × Int := if x < -1073741824 ∨ 1073741824 < x ∨ y < -1073741824 ∨ 1073741824 < y then (0, 8) else (rt (x * x + y * y), 0)

theorem sq_bound {x : Int} (h0 : -1073741824 ≤ x) (h1 : x ≤ 1073741824) : 0 ≤ x * x ∧ x * x ≤ 1152921504606846976 := by
  by_cases h : 0 ≤ x
  · have := sq_mono (show (0 : Int) ≤ 0 by omega) h
    have := sq_mono h h1
    omega
  · have := sq_mono (show (0 : Int) ≤ 0 by omega) (show 0 ≤ -x by omega)
    have := sq_mono (show 0 ≤ -x by omega) (show -x ≤ 1073741824 by omega)
    rw [Int.neg_mul_neg] at *; omega

end Go.Proofs.YtikhgdbbbingbaaDoor
