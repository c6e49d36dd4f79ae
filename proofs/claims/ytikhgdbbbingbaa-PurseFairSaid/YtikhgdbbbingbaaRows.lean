/-
  No cell of these rows narrows 'for every input' (looked for: loops, veiled, ifaces, maps, wideKeys, modest, calm, conditions, laid).
  DERIVED. THE GIVEN ROWS OF THIS SEAT. 19 by the template 'for every input the law returns true; each argument reads behind the call as it read before'; 0 by the template 'total and deterministic' (their statements: YtikhgdbbbingbaaTotals.lean).
  GIVEN WITH THE SEED: the statements are not yours to turn. If you find one false, say at which input.
  Laid BY PROGRAM, IN A SANDBOX (cutbox-rows.mjs): the forced cells as the released guide's own fill.sh prints them over the translation ebae5b4affd6850f… (all of the seat's roots in one cut). By AI agents, Wed Nov 11 2026. No macro, syntax, notation, axiom, sorry.
-/
import Derived.Test.YtikhgdbbbingbaaChecked
import GoSem.Claim
import GoSem.ClaimJoined
import GoSem.ClaimMapViews
import Derived.JoinedTies
import Derived.KernelRfl
namespace Go.Proofs.Ytikhgdbbbingbaa
/- THE CELL 'sum', in the pinned program and in every row, IS THE sha256 OF THE DUMP (.gsa) THAT YtikhgdbbbingbaaProg.lean LOADS. Nothing in Lean hashes anything: it is a label: what it is worth is what the hold of that sum in a sandbox is worth. -/
noncomputable def Try.pinned : Pinned := { name := "ytikhgdbbbingbaa", sum := "ebae5b4affd6850f5186abd675cc2cf121c45d5fe2ed4f4ae7653dbbc94df831", checked := Try.checked }
namespace Rows
def none {H : Type} : Left H := { results := [], args := [] }

/-- 'bivouaclaw01.NumNumbers': WHATEVER THE INPUT: true; the input reads as it did. -/
def numNumbersSpec : ChangeSpec := { name := "numNumbers", fn := fun _ => fun
  | [] => { results := [.lit (.bool true)], args := [] }
  | _ => none }
def numNumbersRow : OpenClaim := { program := "ytikhgdbbbingbaa", sum := "ebae5b4affd6850f5186abd675cc2cf121c45d5fe2ed4f4ae7653dbbc94df831", func := "bivouac/bivouaclaw01.NumNumbers", spec := "numNumbers", unfollowed := true, recurses := true, named := ["math/bits.divideError", "math/bits.overflowError"], apart := false }
def NumNumbersSaid : Prop := numNumbersRow.holds Try.pinned (OpenSpec.ofChange numNumbersSpec)

/-- ITS FALSE NEIGHBOUR: 'it returns false'. Refute it at one input. -/
def numNumbersWrong : ChangeSpec := { name := "numNumbers", fn := fun _ => fun
  | [] => { results := [.lit (.bool false)], args := [] }
  | _ => none }
def NumNumbersWrongFalsely : Prop := numNumbersRow.holds Try.pinned (OpenSpec.ofChange numNumbersWrong)

/-- 'bivouaclaw01.NumDivides': WHATEVER THE INPUT: true; the input reads as it did. -/
def numDividesSpec : ChangeSpec := { name := "numDivides", fn := fun _ => fun
  | [d1, d2] => { results := [.lit (.bool true)], args := [d1, d2] }
  | _ => none }
def numDividesRow : OpenClaim := { program := "ytikhgdbbbingbaa", sum := "ebae5b4affd6850f5186abd675cc2cf121c45d5fe2ed4f4ae7653dbbc94df831", func := "bivouac/bivouaclaw01.NumDivides", spec := "numDivides", unfollowed := true, recurses := true, named := ["math/bits.divideError", "math/bits.overflowError"], apart := false }
def NumDividesSaid : Prop := numDividesRow.holds Try.pinned (OpenSpec.ofChange numDividesSpec)

/-- ITS FALSE NEIGHBOUR: 'it returns false'. Refute it at one input. -/
def numDividesWrong : ChangeSpec := { name := "numDivides", fn := fun _ => fun
  | [d1, d2] => { results := [.lit (.bool false)], args := [d1, d2] }
  | _ => none }
def NumDividesWrongFalsely : Prop := numDividesRow.holds Try.pinned (OpenSpec.ofChange numDividesWrong)

/-- 'bivouaclaw01.NumScales': WHATEVER THE INPUT: true; the input reads as it did. -/
def numScalesSpec : ChangeSpec := { name := "numScales", fn := fun _ => fun
  | [d1, d2, d3] => { results := [.lit (.bool true)], args := [d1, d2, d3] }
  | _ => none }
def numScalesRow : OpenClaim := { program := "ytikhgdbbbingbaa", sum := "ebae5b4affd6850f5186abd675cc2cf121c45d5fe2ed4f4ae7653dbbc94df831", func := "bivouac/bivouaclaw01.NumScales", spec := "numScales", unfollowed := true, recurses := true, named := ["math/bits.divideError", "math/bits.overflowError"], apart := false }
def NumScalesSaid : Prop := numScalesRow.holds Try.pinned (OpenSpec.ofChange numScalesSpec)

/-- ITS FALSE NEIGHBOUR: 'it returns false'. Refute it at one input. -/
def numScalesWrong : ChangeSpec := { name := "numScales", fn := fun _ => fun
  | [d1, d2, d3] => { results := [.lit (.bool false)], args := [d1, d2, d3] }
  | _ => none }
def NumScalesWrongFalsely : Prop := numScalesRow.holds Try.pinned (OpenSpec.ofChange numScalesWrong)

/-- 'bivouaclaw01.NumMuls': WHATEVER THE INPUT: true; the input reads as it did. -/
def numMulsSpec : ChangeSpec := { name := "numMuls", fn := fun _ => fun
  | [d1, d2] => { results := [.lit (.bool true)], args := [d1, d2] }
  | _ => none }
def numMulsRow : OpenClaim := { program := "ytikhgdbbbingbaa", sum := "ebae5b4affd6850f5186abd675cc2cf121c45d5fe2ed4f4ae7653dbbc94df831", func := "bivouac/bivouaclaw01.NumMuls", spec := "numMuls", unfollowed := true, recurses := true, named := ["math/bits.divideError", "math/bits.overflowError"], apart := false }
def NumMulsSaid : Prop := numMulsRow.holds Try.pinned (OpenSpec.ofChange numMulsSpec)

/-- ITS FALSE NEIGHBOUR: 'it returns false'. Refute it at one input. -/
def numMulsWrong : ChangeSpec := { name := "numMuls", fn := fun _ => fun
  | [d1, d2] => { results := [.lit (.bool false)], args := [d1, d2] }
  | _ => none }
def NumMulsWrongFalsely : Prop := numMulsRow.holds Try.pinned (OpenSpec.ofChange numMulsWrong)

/-- 'bivouaclaw01.NumClamps': WHATEVER THE INPUT: true; the input reads as it did. -/
def numClampsSpec : ChangeSpec := { name := "numClamps", fn := fun _ => fun
  | [d1, d2, d3] => { results := [.lit (.bool true)], args := [d1, d2, d3] }
  | _ => none }
def numClampsRow : OpenClaim := { program := "ytikhgdbbbingbaa", sum := "ebae5b4affd6850f5186abd675cc2cf121c45d5fe2ed4f4ae7653dbbc94df831", func := "bivouac/bivouaclaw01.NumClamps", spec := "numClamps", unfollowed := true, recurses := true, named := ["math/bits.divideError", "math/bits.overflowError"], apart := false }
def NumClampsSaid : Prop := numClampsRow.holds Try.pinned (OpenSpec.ofChange numClampsSpec)

/-- ITS FALSE NEIGHBOUR: 'it returns false'. Refute it at one input. -/
def numClampsWrong : ChangeSpec := { name := "numClamps", fn := fun _ => fun
  | [d1, d2, d3] => { results := [.lit (.bool false)], args := [d1, d2, d3] }
  | _ => none }
def NumClampsWrongFalsely : Prop := numClampsRow.holds Try.pinned (OpenSpec.ofChange numClampsWrong)

/-- 'bivouaclaw01.NumAdds': WHATEVER THE INPUT: true; the input reads as it did. -/
def numAddsSpec : ChangeSpec := { name := "numAdds", fn := fun _ => fun
  | [d1, d2] => { results := [.lit (.bool true)], args := [d1, d2] }
  | _ => none }
def numAddsRow : OpenClaim := { program := "ytikhgdbbbingbaa", sum := "ebae5b4affd6850f5186abd675cc2cf121c45d5fe2ed4f4ae7653dbbc94df831", func := "bivouac/bivouaclaw01.NumAdds", spec := "numAdds", unfollowed := true, recurses := true, named := ["math/bits.divideError", "math/bits.overflowError"], apart := false }
def NumAddsSaid : Prop := numAddsRow.holds Try.pinned (OpenSpec.ofChange numAddsSpec)

/-- ITS FALSE NEIGHBOUR: 'it returns false'. Refute it at one input. -/
def numAddsWrong : ChangeSpec := { name := "numAdds", fn := fun _ => fun
  | [d1, d2] => { results := [.lit (.bool false)], args := [d1, d2] }
  | _ => none }
def NumAddsWrongFalsely : Prop := numAddsRow.holds Try.pinned (OpenSpec.ofChange numAddsWrong)

/-- 'bivouaclaw01.NumBack': WHATEVER THE INPUT: true; the input reads as it did. -/
def numBackSpec : ChangeSpec := { name := "numBack", fn := fun _ => fun
  | [d1, d2] => { results := [.lit (.bool true)], args := [d1, d2] }
  | _ => none }
def numBackRow : OpenClaim := { program := "ytikhgdbbbingbaa", sum := "ebae5b4affd6850f5186abd675cc2cf121c45d5fe2ed4f4ae7653dbbc94df831", func := "bivouac/bivouaclaw01.NumBack", spec := "numBack", unfollowed := true, recurses := true, named := ["math/bits.divideError", "math/bits.overflowError"], apart := false }
def NumBackSaid : Prop := numBackRow.holds Try.pinned (OpenSpec.ofChange numBackSpec)

/-- ITS FALSE NEIGHBOUR: 'it returns false'. Refute it at one input. -/
def numBackWrong : ChangeSpec := { name := "numBack", fn := fun _ => fun
  | [d1, d2] => { results := [.lit (.bool false)], args := [d1, d2] }
  | _ => none }
def NumBackWrongFalsely : Prop := numBackRow.holds Try.pinned (OpenSpec.ofChange numBackWrong)

/-- 'bivouaclaw02.FixMuls': WHATEVER THE INPUT: true; the input reads as it did. -/
def fixMulsSpec : ChangeSpec := { name := "fixMuls", fn := fun _ => fun
  | [d1, d2] => { results := [.lit (.bool true)], args := [d1, d2] }
  | _ => none }
def fixMulsRow : OpenClaim := { program := "ytikhgdbbbingbaa", sum := "ebae5b4affd6850f5186abd675cc2cf121c45d5fe2ed4f4ae7653dbbc94df831", func := "bivouac/bivouaclaw02.FixMuls", spec := "fixMuls", unfollowed := true, recurses := true, named := ["math/bits.divideError", "math/bits.overflowError"], apart := false }
def FixMulsSaid : Prop := fixMulsRow.holds Try.pinned (OpenSpec.ofChange fixMulsSpec)

/-- ITS FALSE NEIGHBOUR: 'it returns false'. Refute it at one input. -/
def fixMulsWrong : ChangeSpec := { name := "fixMuls", fn := fun _ => fun
  | [d1, d2] => { results := [.lit (.bool false)], args := [d1, d2] }
  | _ => none }
def FixMulsWrongFalsely : Prop := fixMulsRow.holds Try.pinned (OpenSpec.ofChange fixMulsWrong)

/-- 'bivouaclaw02.FixDivs': WHATEVER THE INPUT: true; the input reads as it did. -/
def fixDivsSpec : ChangeSpec := { name := "fixDivs", fn := fun _ => fun
  | [d1, d2] => { results := [.lit (.bool true)], args := [d1, d2] }
  | _ => none }
def fixDivsRow : OpenClaim := { program := "ytikhgdbbbingbaa", sum := "ebae5b4affd6850f5186abd675cc2cf121c45d5fe2ed4f4ae7653dbbc94df831", func := "bivouac/bivouaclaw02.FixDivs", spec := "fixDivs", unfollowed := true, recurses := true, named := ["math/bits.divideError", "math/bits.overflowError"], apart := false }
def FixDivsSaid : Prop := fixDivsRow.holds Try.pinned (OpenSpec.ofChange fixDivsSpec)

/-- ITS FALSE NEIGHBOUR: 'it returns false'. Refute it at one input. -/
def fixDivsWrong : ChangeSpec := { name := "fixDivs", fn := fun _ => fun
  | [d1, d2] => { results := [.lit (.bool false)], args := [d1, d2] }
  | _ => none }
def FixDivsWrongFalsely : Prop := fixDivsRow.holds Try.pinned (OpenSpec.ofChange fixDivsWrong)

/-- 'bivouaclaw02.FixParts': WHATEVER THE INPUT: true; the input reads as it did. -/
def fixPartsSpec : ChangeSpec := { name := "fixParts", fn := fun _ => fun
  | [d] => { results := [.lit (.bool true)], args := [d] }
  | _ => none }
def fixPartsRow : OpenClaim := { program := "ytikhgdbbbingbaa", sum := "ebae5b4affd6850f5186abd675cc2cf121c45d5fe2ed4f4ae7653dbbc94df831", func := "bivouac/bivouaclaw02.FixParts", spec := "fixParts", unfollowed := true, recurses := true, named := ["math/bits.divideError", "math/bits.overflowError"], apart := false }
def FixPartsSaid : Prop := fixPartsRow.holds Try.pinned (OpenSpec.ofChange fixPartsSpec)

/-- ITS FALSE NEIGHBOUR: 'it returns false'. Refute it at one input. -/
def fixPartsWrong : ChangeSpec := { name := "fixParts", fn := fun _ => fun
  | [d] => { results := [.lit (.bool false)], args := [d] }
  | _ => none }
def FixPartsWrongFalsely : Prop := fixPartsRow.holds Try.pinned (OpenSpec.ofChange fixPartsWrong)

/-- 'bivouaclaw02.FixRoots': WHATEVER THE INPUT: true; the input reads as it did. -/
def fixRootsSpec : ChangeSpec := { name := "fixRoots", fn := fun _ => fun
  | [d1, d2] => { results := [.lit (.bool true)], args := [d1, d2] }
  | _ => none }
def fixRootsRow : OpenClaim := { program := "ytikhgdbbbingbaa", sum := "ebae5b4affd6850f5186abd675cc2cf121c45d5fe2ed4f4ae7653dbbc94df831", func := "bivouac/bivouaclaw02.FixRoots", spec := "fixRoots", unfollowed := true, recurses := true, named := ["math/bits.divideError", "math/bits.overflowError"], apart := false }
def FixRootsSaid : Prop := fixRootsRow.holds Try.pinned (OpenSpec.ofChange fixRootsSpec)

/-- ITS FALSE NEIGHBOUR: 'it returns false'. Refute it at one input. -/
def fixRootsWrong : ChangeSpec := { name := "fixRoots", fn := fun _ => fun
  | [d1, d2] => { results := [.lit (.bool false)], args := [d1, d2] }
  | _ => none }
def FixRootsWrongFalsely : Prop := fixRootsRow.holds Try.pinned (OpenSpec.ofChange fixRootsWrong)

/-- 'bivouaclaw02.FixLengths': WHATEVER THE INPUT: true; the input reads as it did. -/
def fixLengthsSpec : ChangeSpec := { name := "fixLengths", fn := fun _ => fun
  | [d1, d2] => { results := [.lit (.bool true)], args := [d1, d2] }
  | _ => none }
def fixLengthsRow : OpenClaim := { program := "ytikhgdbbbingbaa", sum := "ebae5b4affd6850f5186abd675cc2cf121c45d5fe2ed4f4ae7653dbbc94df831", func := "bivouac/bivouaclaw02.FixLengths", spec := "fixLengths", unfollowed := true, recurses := true, named := ["math/bits.divideError", "math/bits.overflowError"], apart := false }
def FixLengthsSaid : Prop := fixLengthsRow.holds Try.pinned (OpenSpec.ofChange fixLengthsSpec)

/-- ITS FALSE NEIGHBOUR: 'it returns false'. Refute it at one input. -/
def fixLengthsWrong : ChangeSpec := { name := "fixLengths", fn := fun _ => fun
  | [d1, d2] => { results := [.lit (.bool false)], args := [d1, d2] }
  | _ => none }
def FixLengthsWrongFalsely : Prop := fixLengthsRow.holds Try.pinned (OpenSpec.ofChange fixLengthsWrong)

/-- 'bivouaclaw02.FixLerps': WHATEVER THE INPUT: true; the input reads as it did. -/
def fixLerpsSpec : ChangeSpec := { name := "fixLerps", fn := fun _ => fun
  | [d1, d2, d3] => { results := [.lit (.bool true)], args := [d1, d2, d3] }
  | _ => none }
def fixLerpsRow : OpenClaim := { program := "ytikhgdbbbingbaa", sum := "ebae5b4affd6850f5186abd675cc2cf121c45d5fe2ed4f4ae7653dbbc94df831", func := "bivouac/bivouaclaw02.FixLerps", spec := "fixLerps", unfollowed := true, recurses := true, named := ["math/bits.divideError", "math/bits.overflowError"], apart := false }
def FixLerpsSaid : Prop := fixLerpsRow.holds Try.pinned (OpenSpec.ofChange fixLerpsSpec)

/-- ITS FALSE NEIGHBOUR: 'it returns false'. Refute it at one input. -/
def fixLerpsWrong : ChangeSpec := { name := "fixLerps", fn := fun _ => fun
  | [d1, d2, d3] => { results := [.lit (.bool false)], args := [d1, d2, d3] }
  | _ => none }
def FixLerpsWrongFalsely : Prop := fixLerpsRow.holds Try.pinned (OpenSpec.ofChange fixLerpsWrong)

/-- 'bivouaclaw02.FixEnds': WHATEVER THE INPUT: true; the input reads as it did. -/
def fixEndsSpec : ChangeSpec := { name := "fixEnds", fn := fun _ => fun
  | [d1, d2] => { results := [.lit (.bool true)], args := [d1, d2] }
  | _ => none }
def fixEndsRow : OpenClaim := { program := "ytikhgdbbbingbaa", sum := "ebae5b4affd6850f5186abd675cc2cf121c45d5fe2ed4f4ae7653dbbc94df831", func := "bivouac/bivouaclaw02.FixEnds", spec := "fixEnds", unfollowed := true, recurses := true, named := ["math/bits.divideError", "math/bits.overflowError"], apart := false }
def FixEndsSaid : Prop := fixEndsRow.holds Try.pinned (OpenSpec.ofChange fixEndsSpec)

/-- ITS FALSE NEIGHBOUR: 'it returns false'. Refute it at one input. -/
def fixEndsWrong : ChangeSpec := { name := "fixEnds", fn := fun _ => fun
  | [d1, d2] => { results := [.lit (.bool false)], args := [d1, d2] }
  | _ => none }
def FixEndsWrongFalsely : Prop := fixEndsRow.holds Try.pinned (OpenSpec.ofChange fixEndsWrong)

/-- 'bivouaclaw19.PurseScales': WHATEVER THE INPUT: true; the input reads as it did. -/
def purseScalesSpec : ChangeSpec := { name := "purseScales", fn := fun _ => fun
  | [d] => { results := [.lit (.bool true)], args := [d] }
  | _ => none }
def purseScalesRow : OpenClaim := { program := "ytikhgdbbbingbaa", sum := "ebae5b4affd6850f5186abd675cc2cf121c45d5fe2ed4f4ae7653dbbc94df831", func := "bivouac/bivouaclaw19.PurseScales", spec := "purseScales", unfollowed := true, recurses := true, named := ["math/bits.divideError", "math/bits.overflowError"], apart := false }
def PurseScalesSaid : Prop := purseScalesRow.holds Try.pinned (OpenSpec.ofChange purseScalesSpec)

/-- ITS FALSE NEIGHBOUR: 'it returns false'. Refute it at one input. -/
def purseScalesWrong : ChangeSpec := { name := "purseScales", fn := fun _ => fun
  | [d] => { results := [.lit (.bool false)], args := [d] }
  | _ => none }
def PurseScalesWrongFalsely : Prop := purseScalesRow.holds Try.pinned (OpenSpec.ofChange purseScalesWrong)

/-- 'bivouaclaw19.PurseServes': WHATEVER THE INPUT: true; the input reads as it did. -/
def purseServesSpec : ChangeSpec := { name := "purseServes", fn := fun _ => fun
  | [d1, d2, d3] => { results := [.lit (.bool true)], args := [d1, d2, d3] }
  | _ => none }
def purseServesRow : OpenClaim := { program := "ytikhgdbbbingbaa", sum := "ebae5b4affd6850f5186abd675cc2cf121c45d5fe2ed4f4ae7653dbbc94df831", func := "bivouac/bivouaclaw19.PurseServes", spec := "purseServes", unfollowed := true, recurses := true, named := ["math/bits.divideError", "math/bits.overflowError"], apart := false }
def PurseServesSaid : Prop := purseServesRow.holds Try.pinned (OpenSpec.ofChange purseServesSpec)

/-- ITS FALSE NEIGHBOUR: 'it returns false'. Refute it at one input. -/
def purseServesWrong : ChangeSpec := { name := "purseServes", fn := fun _ => fun
  | [d1, d2, d3] => { results := [.lit (.bool false)], args := [d1, d2, d3] }
  | _ => none }
def PurseServesWrongFalsely : Prop := purseServesRow.holds Try.pinned (OpenSpec.ofChange purseServesWrong)

/-- 'bivouaclaw19.PurseFair': WHATEVER THE INPUT: true; the input reads as it did. -/
def purseFairSpec : ChangeSpec := { name := "purseFair", fn := fun _ => fun
  | [d1, d2, d3] => { results := [.lit (.bool true)], args := [d1, d2, d3] }
  | _ => none }
def purseFairRow : OpenClaim := { program := "ytikhgdbbbingbaa", sum := "ebae5b4affd6850f5186abd675cc2cf121c45d5fe2ed4f4ae7653dbbc94df831", func := "bivouac/bivouaclaw19.PurseFair", spec := "purseFair", unfollowed := true, recurses := true, named := ["math/bits.divideError", "math/bits.overflowError"], apart := false }
def PurseFairSaid : Prop := purseFairRow.holds Try.pinned (OpenSpec.ofChange purseFairSpec)

/-- ITS FALSE NEIGHBOUR: 'it returns false'. Refute it at one input. -/
def purseFairWrong : ChangeSpec := { name := "purseFair", fn := fun _ => fun
  | [d1, d2, d3] => { results := [.lit (.bool false)], args := [d1, d2, d3] }
  | _ => none }
def PurseFairWrongFalsely : Prop := purseFairRow.holds Try.pinned (OpenSpec.ofChange purseFairWrong)

/-- 'bivouaclaw19.PurseEqual': WHATEVER THE INPUT: true; the input reads as it did. -/
def purseEqualSpec : ChangeSpec := { name := "purseEqual", fn := fun _ => fun
  | [d1, d2, d3] => { results := [.lit (.bool true)], args := [d1, d2, d3] }
  | _ => none }
def purseEqualRow : OpenClaim := { program := "ytikhgdbbbingbaa", sum := "ebae5b4affd6850f5186abd675cc2cf121c45d5fe2ed4f4ae7653dbbc94df831", func := "bivouac/bivouaclaw19.PurseEqual", spec := "purseEqual", unfollowed := true, recurses := true, named := ["math/bits.divideError", "math/bits.overflowError"], apart := false }
def PurseEqualSaid : Prop := purseEqualRow.holds Try.pinned (OpenSpec.ofChange purseEqualSpec)

/-- ITS FALSE NEIGHBOUR: 'it returns false'. Refute it at one input. -/
def purseEqualWrong : ChangeSpec := { name := "purseEqual", fn := fun _ => fun
  | [d1, d2, d3] => { results := [.lit (.bool false)], args := [d1, d2, d3] }
  | _ => none }
def PurseEqualWrongFalsely : Prop := purseEqualRow.holds Try.pinned (OpenSpec.ofChange purseEqualWrong)

/-- 'bivouaclaw19.PurseSends': WHATEVER THE INPUT: true; the input reads as it did. -/
def purseSendsSpec : ChangeSpec := { name := "purseSends", fn := fun _ => fun
  | [d1, d2, d3] => { results := [.lit (.bool true)], args := [d1, d2, d3] }
  | _ => none }
def purseSendsRow : OpenClaim := { program := "ytikhgdbbbingbaa", sum := "ebae5b4affd6850f5186abd675cc2cf121c45d5fe2ed4f4ae7653dbbc94df831", func := "bivouac/bivouaclaw19.PurseSends", spec := "purseSends", unfollowed := true, recurses := true, named := ["math/bits.divideError", "math/bits.overflowError"], apart := false }
def PurseSendsSaid : Prop := purseSendsRow.holds Try.pinned (OpenSpec.ofChange purseSendsSpec)

/-- ITS FALSE NEIGHBOUR: 'it returns false'. Refute it at one input. -/
def purseSendsWrong : ChangeSpec := { name := "purseSends", fn := fun _ => fun
  | [d1, d2, d3] => { results := [.lit (.bool false)], args := [d1, d2, d3] }
  | _ => none }
def PurseSendsWrongFalsely : Prop := purseSendsRow.holds Try.pinned (OpenSpec.ofChange purseSendsWrong)

/- THE SECOND FORM. 'bulk': how many values and letters a reading holds, each counted each time it is reached (what is shared counts as often as it is met; a slice's spare places count too). A statement '..UptoSaid' is the law's where the arguments, and the package variables that the reading takes, are together of bulk at most 1048576: NARROWER than '..Said'. Prove '..Said' where nothing that the law and all that it calls make is longer than what came in: it says more and counts as full. Else prove '..UptoSaid'. A law counts once. -/
mutual
def uptoBulk {H : Type} : DataW H → Nat
  | .lit (.string bytes) => bytes.length + 1
  | .lit _ => 1
  | .nil => 1
  | .ptr d => uptoBulk d + 1
  | .slice elems spare => uptoBulkAll elems + uptoBulkAll spare + 1
  | .agg parts => uptoBulkAll parts + 1
  | .iface _ d => uptoBulk d + 1
  | .map entries => uptoBulkEntries entries + 1
  | .held _ => 1
def uptoBulkAll {H : Type} : List (DataW H) → Nat
  | [] => 0
  | d :: r => uptoBulk d + uptoBulkAll r
def uptoBulkEntries {H : Type} : List (Lit × DataW H) → Nat
  | [] => 0
  | x :: r => uptoBulkEntry x + uptoBulkEntries r
def uptoBulkEntry {H : Type} : Lit × DataW H → Nat
  | (.string bytes, d) => bytes.length + uptoBulk d + 1
  | (_, d) => uptoBulk d + 1
 end
def uptoSmall : (H : Type) → List (DataW H) → Bool := fun _ ds => decide (uptoBulkAll ds ≤ 1048576)
def OpenSpec.upto (s : _root_.Go.ChangeSpec) : _root_.Go.OpenSpec := { _root_.Go.OpenSpec.ofChange s with cond := some uptoSmall }

/-- 'bivouaclaw01.NumNumbers', WHERE WHAT IT READS IS OF BULK AT MOST 1048576: true; the input reads as it did. -/
def numNumbersUptoRow : OpenClaim := { program := "ytikhgdbbbingbaa", sum := "ebae5b4affd6850f5186abd675cc2cf121c45d5fe2ed4f4ae7653dbbc94df831", func := "bivouac/bivouaclaw01.NumNumbers", spec := "numNumbers", unfollowed := true, recurses := true, named := ["math/bits.divideError", "math/bits.overflowError"], apart := false, narrowed := true }
def NumNumbersUptoSaid : Prop := numNumbersUptoRow.holds Try.pinned (OpenSpec.upto numNumbersSpec)

/-- 'bivouaclaw01.NumDivides', WHERE WHAT IT READS IS OF BULK AT MOST 1048576: true; the input reads as it did. -/
def numDividesUptoRow : OpenClaim := { program := "ytikhgdbbbingbaa", sum := "ebae5b4affd6850f5186abd675cc2cf121c45d5fe2ed4f4ae7653dbbc94df831", func := "bivouac/bivouaclaw01.NumDivides", spec := "numDivides", unfollowed := true, recurses := true, named := ["math/bits.divideError", "math/bits.overflowError"], apart := false, narrowed := true }
def NumDividesUptoSaid : Prop := numDividesUptoRow.holds Try.pinned (OpenSpec.upto numDividesSpec)

/-- 'bivouaclaw01.NumScales', WHERE WHAT IT READS IS OF BULK AT MOST 1048576: true; the input reads as it did. -/
def numScalesUptoRow : OpenClaim := { program := "ytikhgdbbbingbaa", sum := "ebae5b4affd6850f5186abd675cc2cf121c45d5fe2ed4f4ae7653dbbc94df831", func := "bivouac/bivouaclaw01.NumScales", spec := "numScales", unfollowed := true, recurses := true, named := ["math/bits.divideError", "math/bits.overflowError"], apart := false, narrowed := true }
def NumScalesUptoSaid : Prop := numScalesUptoRow.holds Try.pinned (OpenSpec.upto numScalesSpec)

/-- 'bivouaclaw01.NumMuls', WHERE WHAT IT READS IS OF BULK AT MOST 1048576: true; the input reads as it did. -/
def numMulsUptoRow : OpenClaim := { program := "ytikhgdbbbingbaa", sum := "ebae5b4affd6850f5186abd675cc2cf121c45d5fe2ed4f4ae7653dbbc94df831", func := "bivouac/bivouaclaw01.NumMuls", spec := "numMuls", unfollowed := true, recurses := true, named := ["math/bits.divideError", "math/bits.overflowError"], apart := false, narrowed := true }
def NumMulsUptoSaid : Prop := numMulsUptoRow.holds Try.pinned (OpenSpec.upto numMulsSpec)

/-- 'bivouaclaw01.NumClamps', WHERE WHAT IT READS IS OF BULK AT MOST 1048576: true; the input reads as it did. -/
def numClampsUptoRow : OpenClaim := { program := "ytikhgdbbbingbaa", sum := "ebae5b4affd6850f5186abd675cc2cf121c45d5fe2ed4f4ae7653dbbc94df831", func := "bivouac/bivouaclaw01.NumClamps", spec := "numClamps", unfollowed := true, recurses := true, named := ["math/bits.divideError", "math/bits.overflowError"], apart := false, narrowed := true }
def NumClampsUptoSaid : Prop := numClampsUptoRow.holds Try.pinned (OpenSpec.upto numClampsSpec)

/-- 'bivouaclaw01.NumAdds', WHERE WHAT IT READS IS OF BULK AT MOST 1048576: true; the input reads as it did. -/
def numAddsUptoRow : OpenClaim := { program := "ytikhgdbbbingbaa", sum := "ebae5b4affd6850f5186abd675cc2cf121c45d5fe2ed4f4ae7653dbbc94df831", func := "bivouac/bivouaclaw01.NumAdds", spec := "numAdds", unfollowed := true, recurses := true, named := ["math/bits.divideError", "math/bits.overflowError"], apart := false, narrowed := true }
def NumAddsUptoSaid : Prop := numAddsUptoRow.holds Try.pinned (OpenSpec.upto numAddsSpec)

/-- 'bivouaclaw01.NumBack', WHERE WHAT IT READS IS OF BULK AT MOST 1048576: true; the input reads as it did. -/
def numBackUptoRow : OpenClaim := { program := "ytikhgdbbbingbaa", sum := "ebae5b4affd6850f5186abd675cc2cf121c45d5fe2ed4f4ae7653dbbc94df831", func := "bivouac/bivouaclaw01.NumBack", spec := "numBack", unfollowed := true, recurses := true, named := ["math/bits.divideError", "math/bits.overflowError"], apart := false, narrowed := true }
def NumBackUptoSaid : Prop := numBackUptoRow.holds Try.pinned (OpenSpec.upto numBackSpec)

/-- 'bivouaclaw02.FixMuls', WHERE WHAT IT READS IS OF BULK AT MOST 1048576: true; the input reads as it did. -/
def fixMulsUptoRow : OpenClaim := { program := "ytikhgdbbbingbaa", sum := "ebae5b4affd6850f5186abd675cc2cf121c45d5fe2ed4f4ae7653dbbc94df831", func := "bivouac/bivouaclaw02.FixMuls", spec := "fixMuls", unfollowed := true, recurses := true, named := ["math/bits.divideError", "math/bits.overflowError"], apart := false, narrowed := true }
def FixMulsUptoSaid : Prop := fixMulsUptoRow.holds Try.pinned (OpenSpec.upto fixMulsSpec)

/-- 'bivouaclaw02.FixDivs', WHERE WHAT IT READS IS OF BULK AT MOST 1048576: true; the input reads as it did. -/
def fixDivsUptoRow : OpenClaim := { program := "ytikhgdbbbingbaa", sum := "ebae5b4affd6850f5186abd675cc2cf121c45d5fe2ed4f4ae7653dbbc94df831", func := "bivouac/bivouaclaw02.FixDivs", spec := "fixDivs", unfollowed := true, recurses := true, named := ["math/bits.divideError", "math/bits.overflowError"], apart := false, narrowed := true }
def FixDivsUptoSaid : Prop := fixDivsUptoRow.holds Try.pinned (OpenSpec.upto fixDivsSpec)

/-- 'bivouaclaw02.FixParts', WHERE WHAT IT READS IS OF BULK AT MOST 1048576: true; the input reads as it did. -/
def fixPartsUptoRow : OpenClaim := { program := "ytikhgdbbbingbaa", sum := "ebae5b4affd6850f5186abd675cc2cf121c45d5fe2ed4f4ae7653dbbc94df831", func := "bivouac/bivouaclaw02.FixParts", spec := "fixParts", unfollowed := true, recurses := true, named := ["math/bits.divideError", "math/bits.overflowError"], apart := false, narrowed := true }
def FixPartsUptoSaid : Prop := fixPartsUptoRow.holds Try.pinned (OpenSpec.upto fixPartsSpec)

/-- 'bivouaclaw02.FixRoots', WHERE WHAT IT READS IS OF BULK AT MOST 1048576: true; the input reads as it did. -/
def fixRootsUptoRow : OpenClaim := { program := "ytikhgdbbbingbaa", sum := "ebae5b4affd6850f5186abd675cc2cf121c45d5fe2ed4f4ae7653dbbc94df831", func := "bivouac/bivouaclaw02.FixRoots", spec := "fixRoots", unfollowed := true, recurses := true, named := ["math/bits.divideError", "math/bits.overflowError"], apart := false, narrowed := true }
def FixRootsUptoSaid : Prop := fixRootsUptoRow.holds Try.pinned (OpenSpec.upto fixRootsSpec)

/-- 'bivouaclaw02.FixLengths', WHERE WHAT IT READS IS OF BULK AT MOST 1048576: true; the input reads as it did. -/
def fixLengthsUptoRow : OpenClaim := { program := "ytikhgdbbbingbaa", sum := "ebae5b4affd6850f5186abd675cc2cf121c45d5fe2ed4f4ae7653dbbc94df831", func := "bivouac/bivouaclaw02.FixLengths", spec := "fixLengths", unfollowed := true, recurses := true, named := ["math/bits.divideError", "math/bits.overflowError"], apart := false, narrowed := true }
def FixLengthsUptoSaid : Prop := fixLengthsUptoRow.holds Try.pinned (OpenSpec.upto fixLengthsSpec)

/-- 'bivouaclaw02.FixLerps', WHERE WHAT IT READS IS OF BULK AT MOST 1048576: true; the input reads as it did. -/
def fixLerpsUptoRow : OpenClaim := { program := "ytikhgdbbbingbaa", sum := "ebae5b4affd6850f5186abd675cc2cf121c45d5fe2ed4f4ae7653dbbc94df831", func := "bivouac/bivouaclaw02.FixLerps", spec := "fixLerps", unfollowed := true, recurses := true, named := ["math/bits.divideError", "math/bits.overflowError"], apart := false, narrowed := true }
def FixLerpsUptoSaid : Prop := fixLerpsUptoRow.holds Try.pinned (OpenSpec.upto fixLerpsSpec)

/-- 'bivouaclaw02.FixEnds', WHERE WHAT IT READS IS OF BULK AT MOST 1048576: true; the input reads as it did. -/
def fixEndsUptoRow : OpenClaim := { program := "ytikhgdbbbingbaa", sum := "ebae5b4affd6850f5186abd675cc2cf121c45d5fe2ed4f4ae7653dbbc94df831", func := "bivouac/bivouaclaw02.FixEnds", spec := "fixEnds", unfollowed := true, recurses := true, named := ["math/bits.divideError", "math/bits.overflowError"], apart := false, narrowed := true }
def FixEndsUptoSaid : Prop := fixEndsUptoRow.holds Try.pinned (OpenSpec.upto fixEndsSpec)

/-- 'bivouaclaw19.PurseScales', WHERE WHAT IT READS IS OF BULK AT MOST 1048576: true; the input reads as it did. -/
def purseScalesUptoRow : OpenClaim := { program := "ytikhgdbbbingbaa", sum := "ebae5b4affd6850f5186abd675cc2cf121c45d5fe2ed4f4ae7653dbbc94df831", func := "bivouac/bivouaclaw19.PurseScales", spec := "purseScales", unfollowed := true, recurses := true, named := ["math/bits.divideError", "math/bits.overflowError"], apart := false, narrowed := true }
def PurseScalesUptoSaid : Prop := purseScalesUptoRow.holds Try.pinned (OpenSpec.upto purseScalesSpec)

/-- 'bivouaclaw19.PurseServes', WHERE WHAT IT READS IS OF BULK AT MOST 1048576: true; the input reads as it did. -/
def purseServesUptoRow : OpenClaim := { program := "ytikhgdbbbingbaa", sum := "ebae5b4affd6850f5186abd675cc2cf121c45d5fe2ed4f4ae7653dbbc94df831", func := "bivouac/bivouaclaw19.PurseServes", spec := "purseServes", unfollowed := true, recurses := true, named := ["math/bits.divideError", "math/bits.overflowError"], apart := false, narrowed := true }
def PurseServesUptoSaid : Prop := purseServesUptoRow.holds Try.pinned (OpenSpec.upto purseServesSpec)

/-- 'bivouaclaw19.PurseFair', WHERE WHAT IT READS IS OF BULK AT MOST 1048576: true; the input reads as it did. -/
def purseFairUptoRow : OpenClaim := { program := "ytikhgdbbbingbaa", sum := "ebae5b4affd6850f5186abd675cc2cf121c45d5fe2ed4f4ae7653dbbc94df831", func := "bivouac/bivouaclaw19.PurseFair", spec := "purseFair", unfollowed := true, recurses := true, named := ["math/bits.divideError", "math/bits.overflowError"], apart := false, narrowed := true }
def PurseFairUptoSaid : Prop := purseFairUptoRow.holds Try.pinned (OpenSpec.upto purseFairSpec)

/-- 'bivouaclaw19.PurseEqual', WHERE WHAT IT READS IS OF BULK AT MOST 1048576: true; the input reads as it did. -/
def purseEqualUptoRow : OpenClaim := { program := "ytikhgdbbbingbaa", sum := "ebae5b4affd6850f5186abd675cc2cf121c45d5fe2ed4f4ae7653dbbc94df831", func := "bivouac/bivouaclaw19.PurseEqual", spec := "purseEqual", unfollowed := true, recurses := true, named := ["math/bits.divideError", "math/bits.overflowError"], apart := false, narrowed := true }
def PurseEqualUptoSaid : Prop := purseEqualUptoRow.holds Try.pinned (OpenSpec.upto purseEqualSpec)

/-- 'bivouaclaw19.PurseSends', WHERE WHAT IT READS IS OF BULK AT MOST 1048576: true; the input reads as it did. -/
def purseSendsUptoRow : OpenClaim := { program := "ytikhgdbbbingbaa", sum := "ebae5b4affd6850f5186abd675cc2cf121c45d5fe2ed4f4ae7653dbbc94df831", func := "bivouac/bivouaclaw19.PurseSends", spec := "purseSends", unfollowed := true, recurses := true, named := ["math/bits.divideError", "math/bits.overflowError"], apart := false, narrowed := true }
def PurseSendsUptoSaid : Prop := purseSendsUptoRow.holds Try.pinned (OpenSpec.upto purseSendsSpec)

end Rows
end Go.Proofs.Ytikhgdbbbingbaa
