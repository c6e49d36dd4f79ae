/- What the rows of the laws on numbers share. -/
import Derived.Test.YtikhgdbbbingbaaDoorNum
import Derived.ProofKit
import Derived.OpenShut
namespace Go.Proofs.YtikhgdbbbingbaaDoor
open Go Go.RowKit Go.ChangeShapes Go.WideShapes Go.ChangeAt
set_option linter.unusedVariables false

theorem own : ownKnob Tryd.prog.godebug = none := by kernel_rfl
theorem fits_of {a : Int} (w : (Lit.int .i64 a).wf = true) : fits a := by
  have := bounds_i64 w
  unfold fits; omega
theorem ufits_of {a : Int} (w : (Lit.int .u64 a).wf = true) : 0 ≤ a ∧ a ≤ 18446744073709551615 := by
  have := bounds_u64 w
  omega
end Go.Proofs.YtikhgdbbbingbaaDoor
