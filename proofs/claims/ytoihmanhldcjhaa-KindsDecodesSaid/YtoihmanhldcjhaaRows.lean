/-
  No cell of these rows narrows 'for every input' (looked for: loops, veiled, ifaces, maps, wideKeys, modest, calm, conditions, laid).
  DERIVED. THE GIVEN ROWS OF THIS SEAT. 6 by the template 'for every input the law returns true; each argument reads behind the call as it read before'; 0 by the template 'total and deterministic' (their statements: YtoihmanhldcjhaaTotals.lean).
  GIVEN WITH THE SEED: the statements are not yours to turn. If you find one false, say at which input.
  Laid BY PROGRAM, IN A SANDBOX (cutbox-rows.mjs): the forced cells as the released guide's own fill.sh prints them over the translation beeeb15280ba3077… (all of the seat's roots in one cut). By AI agents, Wed Nov 11 2026. No macro, syntax, notation, axiom, sorry.
-/
import Derived.Test.YtoihmanhldcjhaaChecked
import GoSem.Claim
import GoSem.ClaimJoined
import GoSem.ClaimMapViews
import Derived.JoinedTies
import Derived.KernelRfl
namespace Go.Proofs.Ytoihmanhldcjhaa
/- THE CELL 'sum', in the pinned program and in every row, IS THE sha256 OF THE DUMP (.gsa) THAT YtoihmanhldcjhaaProg.lean LOADS. Nothing in Lean hashes anything: it is a label: what it is worth is what the hold of that sum in a sandbox is worth. -/
noncomputable def Try.pinned : Pinned := { name := "ytoihmanhldcjhaa", sum := "beeeb15280ba30778a1f4052aeea22d72cb432a3d14506fd29bb867a3c873416", checked := Try.checked }
namespace Rows
def none {H : Type} : Left H := { results := [], args := [] }

/-- 'bivouaclaw10.KindsNumbers': WHATEVER THE INPUT: true; the input reads as it did. -/
def kindsNumbersSpec : ChangeSpec := { name := "kindsNumbers", fn := fun _ => fun
  | [] => { results := [.lit (.bool true)], args := [] }
  | _ => none }
def kindsNumbersRow : OpenClaim := { program := "ytoihmanhldcjhaa", sum := "beeeb15280ba30778a1f4052aeea22d72cb432a3d14506fd29bb867a3c873416", func := "bivouac/bivouaclaw10.KindsNumbers", spec := "kindsNumbers", inPlace := ["math.Float64bits", "math.Float64frombits", "math.archFloor", "math.archTrunc"], unfollowed := true, recurses := true, apart := false }
def KindsNumbersSaid : Prop := kindsNumbersRow.holds Try.pinned (OpenSpec.ofChange kindsNumbersSpec)

/-- ITS FALSE NEIGHBOUR: 'it returns false'. Refute it at one input. -/
def kindsNumbersWrong : ChangeSpec := { name := "kindsNumbers", fn := fun _ => fun
  | [] => { results := [.lit (.bool false)], args := [] }
  | _ => none }
def KindsNumbersWrongFalsely : Prop := kindsNumbersRow.holds Try.pinned (OpenSpec.ofChange kindsNumbersWrong)

/-- 'bivouaclaw10.KindsChecks': WHATEVER THE INPUT: true; the input reads as it did. -/
def kindsChecksSpec : ChangeSpec := { name := "kindsChecks", fn := fun _ => fun
  | [d] => { results := [.lit (.bool true)], args := [d] }
  | _ => none }
def kindsChecksRow : OpenClaim := { program := "ytoihmanhldcjhaa", sum := "beeeb15280ba30778a1f4052aeea22d72cb432a3d14506fd29bb867a3c873416", func := "bivouac/bivouaclaw10.KindsChecks", spec := "kindsChecks", inPlace := ["math.Float64bits", "math.Float64frombits", "math.archFloor", "math.archTrunc"], unfollowed := true, recurses := true, apart := false }
def KindsChecksSaid : Prop := kindsChecksRow.holds Try.pinned (OpenSpec.ofChange kindsChecksSpec)

/-- ITS FALSE NEIGHBOUR: 'it returns false'. Refute it at one input. -/
def kindsChecksWrong : ChangeSpec := { name := "kindsChecks", fn := fun _ => fun
  | [d] => { results := [.lit (.bool false)], args := [d] }
  | _ => none }
def KindsChecksWrongFalsely : Prop := kindsChecksRow.holds Try.pinned (OpenSpec.ofChange kindsChecksWrong)

/-- 'bivouaclaw10.KindsEncodes': WHATEVER THE INPUT: true; the input reads as it did. -/
def kindsEncodesSpec : ChangeSpec := { name := "kindsEncodes", fn := fun _ => fun
  | [d] => { results := [.lit (.bool true)], args := [d] }
  | _ => none }
def kindsEncodesRow : OpenClaim := { program := "ytoihmanhldcjhaa", sum := "beeeb15280ba30778a1f4052aeea22d72cb432a3d14506fd29bb867a3c873416", func := "bivouac/bivouaclaw10.KindsEncodes", spec := "kindsEncodes", inPlace := ["math.Float64bits", "math.Float64frombits", "math.archFloor", "math.archTrunc"], unfollowed := true, recurses := true, apart := false }
def KindsEncodesSaid : Prop := kindsEncodesRow.holds Try.pinned (OpenSpec.ofChange kindsEncodesSpec)

/-- ITS FALSE NEIGHBOUR: 'it returns false'. Refute it at one input. -/
def kindsEncodesWrong : ChangeSpec := { name := "kindsEncodes", fn := fun _ => fun
  | [d] => { results := [.lit (.bool false)], args := [d] }
  | _ => none }
def KindsEncodesWrongFalsely : Prop := kindsEncodesRow.holds Try.pinned (OpenSpec.ofChange kindsEncodesWrong)

/-- 'bivouaclaw10.KindsDecodes': WHATEVER THE INPUT: true; the input reads as it did. -/
def kindsDecodesSpec : ChangeSpec := { name := "kindsDecodes", fn := fun _ => fun
  | [d] => { results := [.lit (.bool true)], args := [d] }
  | _ => none }
def kindsDecodesRow : OpenClaim := { program := "ytoihmanhldcjhaa", sum := "beeeb15280ba30778a1f4052aeea22d72cb432a3d14506fd29bb867a3c873416", func := "bivouac/bivouaclaw10.KindsDecodes", spec := "kindsDecodes", inPlace := ["math.Float64frombits", "math.archFloor", "math.Float64bits", "math.archTrunc"], unfollowed := true, recurses := true, apart := false }
def KindsDecodesSaid : Prop := kindsDecodesRow.holds Try.pinned (OpenSpec.ofChange kindsDecodesSpec)

/-- ITS FALSE NEIGHBOUR: 'it returns false'. Refute it at one input. -/
def kindsDecodesWrong : ChangeSpec := { name := "kindsDecodes", fn := fun _ => fun
  | [d] => { results := [.lit (.bool false)], args := [d] }
  | _ => none }
def KindsDecodesWrongFalsely : Prop := kindsDecodesRow.holds Try.pinned (OpenSpec.ofChange kindsDecodesWrong)

/-- 'bivouaclaw10.KindsBack': WHATEVER THE INPUT: true; the input reads as it did. -/
def kindsBackSpec : ChangeSpec := { name := "kindsBack", fn := fun _ => fun
  | [d1, d2] => { results := [.lit (.bool true)], args := [d1, d2] }
  | _ => none }
def kindsBackRow : OpenClaim := { program := "ytoihmanhldcjhaa", sum := "beeeb15280ba30778a1f4052aeea22d72cb432a3d14506fd29bb867a3c873416", func := "bivouac/bivouaclaw10.KindsBack", spec := "kindsBack", inPlace := ["math.Float64bits", "math.Float64frombits", "math.archFloor", "math.archTrunc"], unfollowed := true, recurses := true, apart := false }
def KindsBackSaid : Prop := kindsBackRow.holds Try.pinned (OpenSpec.ofChange kindsBackSpec)

/-- ITS FALSE NEIGHBOUR: 'it returns false'. Refute it at one input. -/
def kindsBackWrong : ChangeSpec := { name := "kindsBack", fn := fun _ => fun
  | [d1, d2] => { results := [.lit (.bool false)], args := [d1, d2] }
  | _ => none }
def KindsBackWrongFalsely : Prop := kindsBackRow.holds Try.pinned (OpenSpec.ofChange kindsBackWrong)

/-- 'bivouaclaw10.KindsSpeeds': WHATEVER THE INPUT: true; the input reads as it did. -/
def kindsSpeedsSpec : ChangeSpec := { name := "kindsSpeeds", fn := fun _ => fun
  | [d] => { results := [.lit (.bool true)], args := [d] }
  | _ => none }
def kindsSpeedsRow : OpenClaim := { program := "ytoihmanhldcjhaa", sum := "beeeb15280ba30778a1f4052aeea22d72cb432a3d14506fd29bb867a3c873416", func := "bivouac/bivouaclaw10.KindsSpeeds", spec := "kindsSpeeds", inPlace := ["math.Float64bits", "math.Float64frombits", "math.archFloor", "math.archTrunc"], unfollowed := true, recurses := true, apart := false }
def KindsSpeedsSaid : Prop := kindsSpeedsRow.holds Try.pinned (OpenSpec.ofChange kindsSpeedsSpec)

/-- ITS FALSE NEIGHBOUR: 'it returns false'. Refute it at one input. -/
def kindsSpeedsWrong : ChangeSpec := { name := "kindsSpeeds", fn := fun _ => fun
  | [d] => { results := [.lit (.bool false)], args := [d] }
  | _ => none }
def KindsSpeedsWrongFalsely : Prop := kindsSpeedsRow.holds Try.pinned (OpenSpec.ofChange kindsSpeedsWrong)

/- THE SECOND FORM. 'bulk': how many values and letters a reading holds, each counted each time it is reached (what is shared counts as often as it is met; a slice's spare places count too). A statement '..UptoSaid' is the law's where the arguments, and the package variables that the reading takes, are together of bulk at most 1048576: NARROWER than '..Said'. Prove '..Said' where nothing that the law and all that it calls make is longer than what came in: it says more and counts as full. Else prove '..UptoSaid'. A law counts once. -/
mutual
def uptoBulk {H : Type} : DataW H → Nat
  | .lit (.string bytes) => bytes.length + 1
  | .lit _ => 1
  | .nil => 1
  | .ptr d => uptoBulk d + 1
  | .slice elems spare => uptoBulkAll elems + uptoBulkAll spare + 1
  | .agg parts => uptoBulkAll parts + 1
  | .iface _ d => uptoBulk d + 1
  | .map entries => uptoBulkEntries entries + 1
  | .held _ => 1
def uptoBulkAll {H : Type} : List (DataW H) → Nat
  | [] => 0
  | d :: r => uptoBulk d + uptoBulkAll r
def uptoBulkEntries {H : Type} : List (Lit × DataW H) → Nat
  | [] => 0
  | x :: r => uptoBulkEntry x + uptoBulkEntries r
def uptoBulkEntry {H : Type} : Lit × DataW H → Nat
  | (.string bytes, d) => bytes.length + uptoBulk d + 1
  | (_, d) => uptoBulk d + 1
 end
def uptoSmall : (H : Type) → List (DataW H) → Bool := fun _ ds => decide (uptoBulkAll ds ≤ 1048576)
def OpenSpec.upto (s : _root_.Go.ChangeSpec) : _root_.Go.OpenSpec := { _root_.Go.OpenSpec.ofChange s with cond := some uptoSmall }

/-- 'bivouaclaw10.KindsNumbers', WHERE WHAT IT READS IS OF BULK AT MOST 1048576: true; the input reads as it did. -/
def kindsNumbersUptoRow : OpenClaim := { program := "ytoihmanhldcjhaa", sum := "beeeb15280ba30778a1f4052aeea22d72cb432a3d14506fd29bb867a3c873416", func := "bivouac/bivouaclaw10.KindsNumbers", spec := "kindsNumbers", inPlace := ["math.Float64bits", "math.Float64frombits", "math.archFloor", "math.archTrunc"], unfollowed := true, recurses := true, apart := false, narrowed := true }
def KindsNumbersUptoSaid : Prop := kindsNumbersUptoRow.holds Try.pinned (OpenSpec.upto kindsNumbersSpec)

/-- 'bivouaclaw10.KindsChecks', WHERE WHAT IT READS IS OF BULK AT MOST 1048576: true; the input reads as it did. -/
def kindsChecksUptoRow : OpenClaim := { program := "ytoihmanhldcjhaa", sum := "beeeb15280ba30778a1f4052aeea22d72cb432a3d14506fd29bb867a3c873416", func := "bivouac/bivouaclaw10.KindsChecks", spec := "kindsChecks", inPlace := ["math.Float64bits", "math.Float64frombits", "math.archFloor", "math.archTrunc"], unfollowed := true, recurses := true, apart := false, narrowed := true }
def KindsChecksUptoSaid : Prop := kindsChecksUptoRow.holds Try.pinned (OpenSpec.upto kindsChecksSpec)

/-- 'bivouaclaw10.KindsEncodes', WHERE WHAT IT READS IS OF BULK AT MOST 1048576: true; the input reads as it did. -/
def kindsEncodesUptoRow : OpenClaim := { program := "ytoihmanhldcjhaa", sum := "beeeb15280ba30778a1f4052aeea22d72cb432a3d14506fd29bb867a3c873416", func := "bivouac/bivouaclaw10.KindsEncodes", spec := "kindsEncodes", inPlace := ["math.Float64bits", "math.Float64frombits", "math.archFloor", "math.archTrunc"], unfollowed := true, recurses := true, apart := false, narrowed := true }
def KindsEncodesUptoSaid : Prop := kindsEncodesUptoRow.holds Try.pinned (OpenSpec.upto kindsEncodesSpec)

/-- 'bivouaclaw10.KindsDecodes', WHERE WHAT IT READS IS OF BULK AT MOST 1048576: true; the input reads as it did. -/
def kindsDecodesUptoRow : OpenClaim := { program := "ytoihmanhldcjhaa", sum := "beeeb15280ba30778a1f4052aeea22d72cb432a3d14506fd29bb867a3c873416", func := "bivouac/bivouaclaw10.KindsDecodes", spec := "kindsDecodes", inPlace := ["math.Float64frombits", "math.archFloor", "math.Float64bits", "math.archTrunc"], unfollowed := true, recurses := true, apart := false, narrowed := true }
def KindsDecodesUptoSaid : Prop := kindsDecodesUptoRow.holds Try.pinned (OpenSpec.upto kindsDecodesSpec)

/-- 'bivouaclaw10.KindsBack', WHERE WHAT IT READS IS OF BULK AT MOST 1048576: true; the input reads as it did. -/
def kindsBackUptoRow : OpenClaim := { program := "ytoihmanhldcjhaa", sum := "beeeb15280ba30778a1f4052aeea22d72cb432a3d14506fd29bb867a3c873416", func := "bivouac/bivouaclaw10.KindsBack", spec := "kindsBack", inPlace := ["math.Float64bits", "math.Float64frombits", "math.archFloor", "math.archTrunc"], unfollowed := true, recurses := true, apart := false, narrowed := true }
def KindsBackUptoSaid : Prop := kindsBackUptoRow.holds Try.pinned (OpenSpec.upto kindsBackSpec)

/-- 'bivouaclaw10.KindsSpeeds', WHERE WHAT IT READS IS OF BULK AT MOST 1048576: true; the input reads as it did. -/
def kindsSpeedsUptoRow : OpenClaim := { program := "ytoihmanhldcjhaa", sum := "beeeb15280ba30778a1f4052aeea22d72cb432a3d14506fd29bb867a3c873416", func := "bivouac/bivouaclaw10.KindsSpeeds", spec := "kindsSpeeds", inPlace := ["math.Float64bits", "math.Float64frombits", "math.archFloor", "math.archTrunc"], unfollowed := true, recurses := true, apart := false, narrowed := true }
def KindsSpeedsUptoSaid : Prop := kindsSpeedsUptoRow.holds Try.pinned (OpenSpec.upto kindsSpeedsSpec)

end Rows
end Go.Proofs.Ytoihmanhldcjhaa
