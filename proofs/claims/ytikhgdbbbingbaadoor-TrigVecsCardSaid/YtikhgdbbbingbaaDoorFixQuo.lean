/- What the second chapter's laws share: the quotient that is rounded down, the product of big numbers. -/
import Derived.Test.YtikhgdbbbingbaaDoorNumQuo
import Derived.Test.YtikhgdbbbingbaaDoorFix
namespace Go.Proofs.YtikhgdbbbingbaaDoor
open Go Go.RowKit Go.Proofs.YtikhgdbbbingbaaDoor.Dg Go.Proofs.YtikhgdbbbingbaaDoor.Bg
set_option linter.unusedVariables false

theorem zero_free (w : World) (B : Nat) (h : B = w.heap.size) : (w.alloc (.cells #[.bool false, .slice none 0 0] 38)).frozen? ⟨B, 0, none⟩ = false ∧ (w.alloc (.cells #[.bool false, .slice none 0 0] 38)).frozen? ⟨B, 1, none⟩ = false := by
  subst h
  exact ⟨World.frozen?_alloc_at _ _ _ _ rfl, World.frozen?_alloc_at _ _ _ _ rfl⟩

end Go.Proofs.YtikhgdbbbingbaaDoor
