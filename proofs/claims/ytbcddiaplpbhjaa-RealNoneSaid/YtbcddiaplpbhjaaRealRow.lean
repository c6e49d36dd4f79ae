/- What the rows of the laws on floats share. -/
import Derived.Test.YtbcddiaplpbhjaaReal
import Derived.Test.YtbcddiaplpbhjaaRealRef
import Derived.ProofKit
import Derived.OpenShut
namespace Go.Proofs.Ytbcddiaplpbhjaa
open Go Go.RowKit Go.ChangeShapes Go.WideShapes Go.ChangeAt Go.Proofs.Ytbcddiaplpbhjaa.Rl
set_option linter.unusedVariables false

theorem own : ownKnob Try.prog.godebug = none := by kernel_rfl
theorem i64_of {a : Int} (w : (Lit.int .i64 a).wf = true) : -9223372036854775808 ≤ a ∧ a ≤ 9223372036854775807 := by
  have := bounds_i64 w
  omega
theorem u64_of {a : Int} (w : (Lit.int .u64 a).wf = true) : 0 ≤ a ∧ a ≤ 18446744073709551615 := by
  have := bounds_u64 w
  omega
theorem refOf_any (n : Int) (h0 : 0 ≤ n) (h1 : n ≤ 18446744073709551615) (w : World) : Calls Try.prog 17 #[.int .u64 n] w (Tells w (ofS n.toNat)) := by
  obtain ⟨b, rfl⟩ := Int.eq_ofNat_of_zero_le h0
  have h := Rr.refOf_eq b (by omega) 3000 (by omega)
  obtain ⟨x, y, hxy⟩ : ∃ x y, ofS b = (x, y) := ⟨_, _, rfl⟩
  rw [hxy] at h
  rw [Int.toNat_natCast, hxy]
  exact (PRealNears.bivouacref04_Of.calls 3000 _ _ _ w h).mono fun _ _ q => ⟨q.1, q.2.below⟩
theorem refNear_any (n : Int) (h0 : 0 ≤ n) (h1 : n ≤ 18446744073709551615) (w : World) : Calls Try.prog 20 #[.int .u64 n] w (Tells w (nearS n.toNat)) := by
  obtain ⟨b, rfl⟩ := Int.eq_ofNat_of_zero_le h0
  have h := Rr.refNear_eq b (by omega) 3000 (by omega)
  obtain ⟨x, y, hxy⟩ : ∃ x y, nearS b = (x, y) := ⟨_, _, rfl⟩
  rw [hxy] at h
  rw [Int.toNat_natCast, hxy]
  exact (PRealNears.bivouacref04_Near.calls 3000 _ _ _ w h).mono fun _ _ q => ⟨q.1, q.2.below⟩
end Go.Proofs.Ytbcddiaplpbhjaa
