/- What the laws' is and quotient do. -/
import Derived.Test.YtikhgdbbbingbaaDoorNumRow
import Derived.Test.YtikhgdbbbingbaaDoorBigB
namespace Go.Proofs.YtikhgdbbbingbaaDoor
open Go Go.RowKit Go.Proofs.YtikhgdbbbingbaaDoor.Dg Go.Proofs.YtikhgdbbbingbaaDoor.Bg
set_option linter.unusedVariables false

theorem cmp_self (z : Int) : cmpI z z = 0 := by unfold cmpI; rw [if_neg (by omega), if_neg (by omega)]

end Go.Proofs.YtikhgdbbbingbaaDoor
