/-
  No cell of these rows narrows 'for every input' (looked for: loops, veiled, ifaces, maps, wideKeys, modest, calm, conditions, laid).
  DERIVED. THE GIVEN ROWS OF THIS SEAT. 5 by the template 'for every input the law returns true; each argument reads behind the call as it read before'; 0 by the template 'total and deterministic' (their statements: YtfhdibankkokoaaTotals.lean).
  GIVEN WITH THE SEED: the statements are not yours to turn. If you find one false, say at which input.
  Laid BY PROGRAM, IN A SANDBOX (cutbox-rows.mjs): the forced cells as the released guide's own fill.sh prints them over the translation ed1f783675808c02… (all of the seat's roots in one cut). By AI agents, Wed Nov 11 2026. No macro, syntax, notation, axiom, sorry.
-/
import Derived.Test.YtfhdibankkokoaaChecked
import GoSem.Claim
import GoSem.ClaimJoined
import GoSem.ClaimMapViews
import Derived.JoinedTies
import Derived.KernelRfl
namespace Go.Proofs.Ytfhdibankkokoaa
/- THE CELL 'sum', in the pinned program and in every row, IS THE sha256 OF THE DUMP (.gsa) THAT YtfhdibankkokoaaProg.lean LOADS. Nothing in Lean hashes anything: it is a label: what it is worth is what the hold of that sum in a sandbox is worth. -/
noncomputable def Try.pinned : Pinned := { name := "ytfhdibankkokoaa", sum := "ed1f783675808c02a8c789b9fe17277e5a8b65c31c32108eeb59b76b42e1cf7b", checked := Try.checked }
namespace Rows
def none {H : Type} : Left H := { results := [], args := [] }

/-- 'bivouaclaw19.PurseScales': WHATEVER THE INPUT: true; the input reads as it did. -/
def purseScalesSpec : ChangeSpec := { name := "purseScales", fn := fun _ => fun
  | [d] => { results := [.lit (.bool true)], args := [d] }
  | _ => none }
def purseScalesRow : OpenClaim := { program := "ytfhdibankkokoaa", sum := "ed1f783675808c02a8c789b9fe17277e5a8b65c31c32108eeb59b76b42e1cf7b", func := "bivouac/bivouaclaw19.PurseScales", spec := "purseScales", unfollowed := true, recurses := true, named := ["math/bits.divideError", "math/bits.overflowError"], apart := false }
def PurseScalesSaid : Prop := purseScalesRow.holds Try.pinned (OpenSpec.ofChange purseScalesSpec)

/-- ITS FALSE NEIGHBOUR: 'it returns false'. Refute it at one input. -/
def purseScalesWrong : ChangeSpec := { name := "purseScales", fn := fun _ => fun
  | [d] => { results := [.lit (.bool false)], args := [d] }
  | _ => none }
def PurseScalesWrongFalsely : Prop := purseScalesRow.holds Try.pinned (OpenSpec.ofChange purseScalesWrong)

/-- 'bivouaclaw19.PurseServes': WHATEVER THE INPUT: true; the input reads as it did. -/
def purseServesSpec : ChangeSpec := { name := "purseServes", fn := fun _ => fun
  | [d1, d2, d3] => { results := [.lit (.bool true)], args := [d1, d2, d3] }
  | _ => none }
def purseServesRow : OpenClaim := { program := "ytfhdibankkokoaa", sum := "ed1f783675808c02a8c789b9fe17277e5a8b65c31c32108eeb59b76b42e1cf7b", func := "bivouac/bivouaclaw19.PurseServes", spec := "purseServes", unfollowed := true, recurses := true, named := ["math/bits.divideError", "math/bits.overflowError"], apart := false }
def PurseServesSaid : Prop := purseServesRow.holds Try.pinned (OpenSpec.ofChange purseServesSpec)

/-- ITS FALSE NEIGHBOUR: 'it returns false'. Refute it at one input. -/
def purseServesWrong : ChangeSpec := { name := "purseServes", fn := fun _ => fun
  | [d1, d2, d3] => { results := [.lit (.bool false)], args := [d1, d2, d3] }
  | _ => none }
def PurseServesWrongFalsely : Prop := purseServesRow.holds Try.pinned (OpenSpec.ofChange purseServesWrong)

/-- 'bivouaclaw19.PurseFair': WHATEVER THE INPUT: true; the input reads as it did. -/
def purseFairSpec : ChangeSpec := { name := "purseFair", fn := fun _ => fun
  | [d1, d2, d3] => { results := [.lit (.bool true)], args := [d1, d2, d3] }
  | _ => none }
def purseFairRow : OpenClaim := { program := "ytfhdibankkokoaa", sum := "ed1f783675808c02a8c789b9fe17277e5a8b65c31c32108eeb59b76b42e1cf7b", func := "bivouac/bivouaclaw19.PurseFair", spec := "purseFair", unfollowed := true, recurses := true, named := ["math/bits.divideError", "math/bits.overflowError"], apart := false }
def PurseFairSaid : Prop := purseFairRow.holds Try.pinned (OpenSpec.ofChange purseFairSpec)

/-- ITS FALSE NEIGHBOUR: 'it returns false'. Refute it at one input. -/
def purseFairWrong : ChangeSpec := { name := "purseFair", fn := fun _ => fun
  | [d1, d2, d3] => { results := [.lit (.bool false)], args := [d1, d2, d3] }
  | _ => none }
def PurseFairWrongFalsely : Prop := purseFairRow.holds Try.pinned (OpenSpec.ofChange purseFairWrong)

/-- 'bivouaclaw19.PurseEqual': WHATEVER THE INPUT: true; the input reads as it did. -/
def purseEqualSpec : ChangeSpec := { name := "purseEqual", fn := fun _ => fun
  | [d1, d2, d3] => { results := [.lit (.bool true)], args := [d1, d2, d3] }
  | _ => none }
def purseEqualRow : OpenClaim := { program := "ytfhdibankkokoaa", sum := "ed1f783675808c02a8c789b9fe17277e5a8b65c31c32108eeb59b76b42e1cf7b", func := "bivouac/bivouaclaw19.PurseEqual", spec := "purseEqual", unfollowed := true, recurses := true, named := ["math/bits.divideError", "math/bits.overflowError"], apart := false }
def PurseEqualSaid : Prop := purseEqualRow.holds Try.pinned (OpenSpec.ofChange purseEqualSpec)

/-- ITS FALSE NEIGHBOUR: 'it returns false'. Refute it at one input. -/
def purseEqualWrong : ChangeSpec := { name := "purseEqual", fn := fun _ => fun
  | [d1, d2, d3] => { results := [.lit (.bool false)], args := [d1, d2, d3] }
  | _ => none }
def PurseEqualWrongFalsely : Prop := purseEqualRow.holds Try.pinned (OpenSpec.ofChange purseEqualWrong)

/-- 'bivouaclaw19.PurseSends': WHATEVER THE INPUT: true; the input reads as it did. -/
def purseSendsSpec : ChangeSpec := { name := "purseSends", fn := fun _ => fun
  | [d1, d2, d3] => { results := [.lit (.bool true)], args := [d1, d2, d3] }
  | _ => none }
def purseSendsRow : OpenClaim := { program := "ytfhdibankkokoaa", sum := "ed1f783675808c02a8c789b9fe17277e5a8b65c31c32108eeb59b76b42e1cf7b", func := "bivouac/bivouaclaw19.PurseSends", spec := "purseSends", unfollowed := true, recurses := true, named := ["math/bits.divideError", "math/bits.overflowError"], apart := false }
def PurseSendsSaid : Prop := purseSendsRow.holds Try.pinned (OpenSpec.ofChange purseSendsSpec)

/-- ITS FALSE NEIGHBOUR: 'it returns false'. Refute it at one input. -/
def purseSendsWrong : ChangeSpec := { name := "purseSends", fn := fun _ => fun
  | [d1, d2, d3] => { results := [.lit (.bool false)], args := [d1, d2, d3] }
  | _ => none }
def PurseSendsWrongFalsely : Prop := purseSendsRow.holds Try.pinned (OpenSpec.ofChange purseSendsWrong)

/- THE SECOND FORM. 'bulk': how many values and letters a reading holds, each counted each time it is reached (what is shared counts as often as it is met; a slice's spare places count too). A statement '..UptoSaid' is the law's where the arguments, and the package variables that the reading takes, are together of bulk at most 1048576: NARROWER than '..Said'. Prove '..Said' where nothing that the law and all that it calls make is longer than what came in: it says more and counts as full. Else prove '..UptoSaid'. A law counts once. -/
mutual
def uptoBulk {H : Type} : DataW H → Nat
  | .lit (.string bytes) => bytes.length + 1
  | .lit _ => 1
  | .nil => 1
  | .ptr d => uptoBulk d + 1
  | .slice elems spare => uptoBulkAll elems + uptoBulkAll spare + 1
  | .agg parts => uptoBulkAll parts + 1
  | .iface _ d => uptoBulk d + 1
  | .map entries => uptoBulkEntries entries + 1
  | .held _ => 1
def uptoBulkAll {H : Type} : List (DataW H) → Nat
  | [] => 0
  | d :: r => uptoBulk d + uptoBulkAll r
def uptoBulkEntries {H : Type} : List (Lit × DataW H) → Nat
  | [] => 0
  | x :: r => uptoBulkEntry x + uptoBulkEntries r
def uptoBulkEntry {H : Type} : Lit × DataW H → Nat
  | (.string bytes, d) => bytes.length + uptoBulk d + 1
  | (_, d) => uptoBulk d + 1
 end
def uptoSmall : (H : Type) → List (DataW H) → Bool := fun _ ds => decide (uptoBulkAll ds ≤ 1048576)
def OpenSpec.upto (s : _root_.Go.ChangeSpec) : _root_.Go.OpenSpec := { _root_.Go.OpenSpec.ofChange s with cond := some uptoSmall }

/-- 'bivouaclaw19.PurseScales', WHERE WHAT IT READS IS OF BULK AT MOST 1048576: true; the input reads as it did. -/
def purseScalesUptoRow : OpenClaim := { program := "ytfhdibankkokoaa", sum := "ed1f783675808c02a8c789b9fe17277e5a8b65c31c32108eeb59b76b42e1cf7b", func := "bivouac/bivouaclaw19.PurseScales", spec := "purseScales", unfollowed := true, recurses := true, named := ["math/bits.divideError", "math/bits.overflowError"], apart := false, narrowed := true }
def PurseScalesUptoSaid : Prop := purseScalesUptoRow.holds Try.pinned (OpenSpec.upto purseScalesSpec)

/-- 'bivouaclaw19.PurseServes', WHERE WHAT IT READS IS OF BULK AT MOST 1048576: true; the input reads as it did. -/
def purseServesUptoRow : OpenClaim := { program := "ytfhdibankkokoaa", sum := "ed1f783675808c02a8c789b9fe17277e5a8b65c31c32108eeb59b76b42e1cf7b", func := "bivouac/bivouaclaw19.PurseServes", spec := "purseServes", unfollowed := true, recurses := true, named := ["math/bits.divideError", "math/bits.overflowError"], apart := false, narrowed := true }
def PurseServesUptoSaid : Prop := purseServesUptoRow.holds Try.pinned (OpenSpec.upto purseServesSpec)

/-- 'bivouaclaw19.PurseFair', WHERE WHAT IT READS IS OF BULK AT MOST 1048576: true; the input reads as it did. -/
def purseFairUptoRow : OpenClaim := { program := "ytfhdibankkokoaa", sum := "ed1f783675808c02a8c789b9fe17277e5a8b65c31c32108eeb59b76b42e1cf7b", func := "bivouac/bivouaclaw19.PurseFair", spec := "purseFair", unfollowed := true, recurses := true, named := ["math/bits.divideError", "math/bits.overflowError"], apart := false, narrowed := true }
def PurseFairUptoSaid : Prop := purseFairUptoRow.holds Try.pinned (OpenSpec.upto purseFairSpec)

/-- 'bivouaclaw19.PurseEqual', WHERE WHAT IT READS IS OF BULK AT MOST 1048576: true; the input reads as it did. -/
def purseEqualUptoRow : OpenClaim := { program := "ytfhdibankkokoaa", sum := "ed1f783675808c02a8c789b9fe17277e5a8b65c31c32108eeb59b76b42e1cf7b", func := "bivouac/bivouaclaw19.PurseEqual", spec := "purseEqual", unfollowed := true, recurses := true, named := ["math/bits.divideError", "math/bits.overflowError"], apart := false, narrowed := true }
def PurseEqualUptoSaid : Prop := purseEqualUptoRow.holds Try.pinned (OpenSpec.upto purseEqualSpec)

/-- 'bivouaclaw19.PurseSends', WHERE WHAT IT READS IS OF BULK AT MOST 1048576: true; the input reads as it did. -/
def purseSendsUptoRow : OpenClaim := { program := "ytfhdibankkokoaa", sum := "ed1f783675808c02a8c789b9fe17277e5a8b65c31c32108eeb59b76b42e1cf7b", func := "bivouac/bivouaclaw19.PurseSends", spec := "purseSends", unfollowed := true, recurses := true, named := ["math/bits.divideError", "math/bits.overflowError"], apart := false, narrowed := true }
def PurseSendsUptoSaid : Prop := purseSendsUptoRow.holds Try.pinned (OpenSpec.upto purseSendsSpec)

end Rows
end Go.Proofs.Ytfhdibankkokoaa
