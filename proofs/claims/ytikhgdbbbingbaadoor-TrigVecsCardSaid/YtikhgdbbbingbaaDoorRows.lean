/-
  NARROWER THAN 'FOR EVERY INPUT', by the rows' own cells (each row's printed sentence says how): TrigSines: laid · TrigMirrors: laid · TrigRises: laid · TrigHeads: laid · TrigTurns: laid · TrigCloses: laid · TrigVecs: laid.
  DERIVED. THE GIVEN ROWS OF THIS SEAT. 7 by the template 'for every input the law returns true; each argument reads behind the call as it read before'; 0 by the template 'total and deterministic' (their statements: YtikhgdbbbingbaaDoorTotals.lean).
  GIVEN WITH THE SEED: the statements are not yours to turn. If you find one false, say at which input.
  Laid BY PROGRAM, IN A SANDBOX (cutbox-rows.mjs): the forced cells as the released guide's own fill.sh prints them over the translation 7a22ef4176d7fd81… (all of the seat's roots in one cut). By AI agents, Wed Nov 11 2026. No macro, syntax, notation, axiom, sorry.
-/
import Derived.Test.YtikhgdbbbingbaaDoorChecked
import GoSem.Claim
import GoSem.ClaimJoined
import GoSem.ClaimMapViews
import Derived.JoinedTies
import Derived.KernelRfl
namespace Go.Proofs.YtikhgdbbbingbaaDoor
/- THE CELL 'sum', in the pinned program and in every row, IS THE sha256 OF THE DUMP (.gsa) THAT YtikhgdbbbingbaaDoorProg.lean LOADS. Nothing in Lean hashes anything: it is a label: what it is worth is what the hold of that sum in a sandbox is worth. -/
noncomputable def Tryd.pinned : Pinned := { name := "ytikhgdbbbingbaadoor", sum := "7a22ef4176d7fd8147aa140ff1d7cc210c208a52c4fbee4b976a44d6cdd316a6", checked := Tryd.checked }
namespace Rows
def none {H : Type} : Left H := { results := [], args := [] }

/- WHAT THE LISTED PACKAGE-LEVEL VARIABLES READ AS WHEN THE CALL BEGINS. Each datum BY PROGRAM (the guide's laid-datum.mjs) off the statement by which the dump's own 'gosem.cut.vars' lays the variable. In a bare row this is a premise. The card (YtikhgdbbbingbaaDoorCards.lean) ties it to the program's text. -/
def laid_bivouac_bivouacref03_quarter {H : Type} : DataW H := .agg [.lit (.int .i64 0), .lit (.int .i64 1608), .lit (.int .i64 3216), .lit (.int .i64 4821), .lit (.int .i64 6424), .lit (.int .i64 8022), .lit (.int .i64 9616), .lit (.int .i64 11204), .lit (.int .i64 12785), .lit (.int .i64 14359), .lit (.int .i64 15924), .lit (.int .i64 17479), .lit (.int .i64 19024), .lit (.int .i64 20557), .lit (.int .i64 22078), .lit (.int .i64 23586), .lit (.int .i64 25080), .lit (.int .i64 26558), .lit (.int .i64 28020), .lit (.int .i64 29466), .lit (.int .i64 30893), .lit (.int .i64 32303), .lit (.int .i64 33692), .lit (.int .i64 35062), .lit (.int .i64 36410), .lit (.int .i64 37736), .lit (.int .i64 39040), .lit (.int .i64 40320), .lit (.int .i64 41576), .lit (.int .i64 42806), .lit (.int .i64 44011), .lit (.int .i64 45190), .lit (.int .i64 46341), .lit (.int .i64 47464), .lit (.int .i64 48559), .lit (.int .i64 49624), .lit (.int .i64 50660), .lit (.int .i64 51665), .lit (.int .i64 52639), .lit (.int .i64 53581), .lit (.int .i64 54491), .lit (.int .i64 55368), .lit (.int .i64 56212), .lit (.int .i64 57022), .lit (.int .i64 57798), .lit (.int .i64 58538), .lit (.int .i64 59244), .lit (.int .i64 59914), .lit (.int .i64 60547), .lit (.int .i64 61145), .lit (.int .i64 61705), .lit (.int .i64 62228), .lit (.int .i64 62714), .lit (.int .i64 63162), .lit (.int .i64 63572), .lit (.int .i64 63944), .lit (.int .i64 64277), .lit (.int .i64 64571), .lit (.int .i64 64827), .lit (.int .i64 65043), .lit (.int .i64 65220), .lit (.int .i64 65358), .lit (.int .i64 65457), .lit (.int .i64 65516), .lit (.int .i64 65536)]
def laid_bivouac_trig_sines {H : Type} : DataW H := .agg [.lit (.int .i32 0), .lit (.int .i32 1608), .lit (.int .i32 3216), .lit (.int .i32 4821), .lit (.int .i32 6424), .lit (.int .i32 8022), .lit (.int .i32 9616), .lit (.int .i32 11204), .lit (.int .i32 12785), .lit (.int .i32 14359), .lit (.int .i32 15924), .lit (.int .i32 17479), .lit (.int .i32 19024), .lit (.int .i32 20557), .lit (.int .i32 22078), .lit (.int .i32 23586), .lit (.int .i32 25080), .lit (.int .i32 26558), .lit (.int .i32 28020), .lit (.int .i32 29466), .lit (.int .i32 30893), .lit (.int .i32 32303), .lit (.int .i32 33692), .lit (.int .i32 35062), .lit (.int .i32 36410), .lit (.int .i32 37736), .lit (.int .i32 39040), .lit (.int .i32 40320), .lit (.int .i32 41576), .lit (.int .i32 42806), .lit (.int .i32 44011), .lit (.int .i32 45190), .lit (.int .i32 46341), .lit (.int .i32 47464), .lit (.int .i32 48559), .lit (.int .i32 49624), .lit (.int .i32 50660), .lit (.int .i32 51665), .lit (.int .i32 52639), .lit (.int .i32 53581), .lit (.int .i32 54491), .lit (.int .i32 55368), .lit (.int .i32 56212), .lit (.int .i32 57022), .lit (.int .i32 57798), .lit (.int .i32 58538), .lit (.int .i32 59244), .lit (.int .i32 59914), .lit (.int .i32 60547), .lit (.int .i32 61145), .lit (.int .i32 61705), .lit (.int .i32 62228), .lit (.int .i32 62714), .lit (.int .i32 63162), .lit (.int .i32 63572), .lit (.int .i32 63944), .lit (.int .i32 64277), .lit (.int .i32 64571), .lit (.int .i32 64827), .lit (.int .i32 65043), .lit (.int .i32 65220), .lit (.int .i32 65358), .lit (.int .i32 65457), .lit (.int .i32 65516), .lit (.int .i32 65536)]

/-- 'bivouaclaw03.TrigSines': WHATEVER THE INPUT: true; the input reads as it did. -/
def trigSinesSpec : ChangeSpec := { name := "trigSines", fn := fun _ => fun
  | [d] => { results := [.lit (.bool true)], args := [d] }
  | _ => none }
def trigSinesRow : OpenClaim := { program := "ytikhgdbbbingbaadoor", sum := "7a22ef4176d7fd8147aa140ff1d7cc210c208a52c4fbee4b976a44d6cdd316a6", func := "bivouac/bivouaclaw03.TrigSines", spec := "trigSines", unfollowed := true, recurses := true, named := ["bivouac/trig.sines", "bivouac/bivouacref03.quarter"], apart := false, laid := [("bivouac/bivouacref03.quarter", laid_bivouac_bivouacref03_quarter), ("bivouac/trig.sines", laid_bivouac_trig_sines)] }
def TrigSinesSaid : Prop := trigSinesRow.holds Tryd.pinned (OpenSpec.ofChange trigSinesSpec)

/-- ITS FALSE NEIGHBOUR: 'it returns false'. Refute it at one input. -/
def trigSinesWrong : ChangeSpec := { name := "trigSines", fn := fun _ => fun
  | [d] => { results := [.lit (.bool false)], args := [d] }
  | _ => none }
def TrigSinesWrongFalsely : Prop := trigSinesRow.holds Tryd.pinned (OpenSpec.ofChange trigSinesWrong)

/-- 'bivouaclaw03.TrigMirrors': WHATEVER THE INPUT: true; the input reads as it did. -/
def trigMirrorsSpec : ChangeSpec := { name := "trigMirrors", fn := fun _ => fun
  | [d] => { results := [.lit (.bool true)], args := [d] }
  | _ => none }
def trigMirrorsRow : OpenClaim := { program := "ytikhgdbbbingbaadoor", sum := "7a22ef4176d7fd8147aa140ff1d7cc210c208a52c4fbee4b976a44d6cdd316a6", func := "bivouac/bivouaclaw03.TrigMirrors", spec := "trigMirrors", unfollowed := true, recurses := true, named := ["bivouac/trig.sines"], apart := false, laid := [("bivouac/trig.sines", laid_bivouac_trig_sines)] }
def TrigMirrorsSaid : Prop := trigMirrorsRow.holds Tryd.pinned (OpenSpec.ofChange trigMirrorsSpec)

/-- ITS FALSE NEIGHBOUR: 'it returns false'. Refute it at one input. -/
def trigMirrorsWrong : ChangeSpec := { name := "trigMirrors", fn := fun _ => fun
  | [d] => { results := [.lit (.bool false)], args := [d] }
  | _ => none }
def TrigMirrorsWrongFalsely : Prop := trigMirrorsRow.holds Tryd.pinned (OpenSpec.ofChange trigMirrorsWrong)

/-- 'bivouaclaw03.TrigRises': WHATEVER THE INPUT: true; the input reads as it did. -/
def trigRisesSpec : ChangeSpec := { name := "trigRises", fn := fun _ => fun
  | [d1, d2] => { results := [.lit (.bool true)], args := [d1, d2] }
  | _ => none }
def trigRisesRow : OpenClaim := { program := "ytikhgdbbbingbaadoor", sum := "7a22ef4176d7fd8147aa140ff1d7cc210c208a52c4fbee4b976a44d6cdd316a6", func := "bivouac/bivouaclaw03.TrigRises", spec := "trigRises", unfollowed := true, recurses := true, named := ["bivouac/trig.sines"], apart := false, laid := [("bivouac/trig.sines", laid_bivouac_trig_sines)] }
def TrigRisesSaid : Prop := trigRisesRow.holds Tryd.pinned (OpenSpec.ofChange trigRisesSpec)

/-- ITS FALSE NEIGHBOUR: 'it returns false'. Refute it at one input. -/
def trigRisesWrong : ChangeSpec := { name := "trigRises", fn := fun _ => fun
  | [d1, d2] => { results := [.lit (.bool false)], args := [d1, d2] }
  | _ => none }
def TrigRisesWrongFalsely : Prop := trigRisesRow.holds Tryd.pinned (OpenSpec.ofChange trigRisesWrong)

/-- 'bivouaclaw03.TrigHeads': WHATEVER THE INPUT: true; the input reads as it did. -/
def trigHeadsSpec : ChangeSpec := { name := "trigHeads", fn := fun _ => fun
  | [d1, d2] => { results := [.lit (.bool true)], args := [d1, d2] }
  | _ => none }
def trigHeadsRow : OpenClaim := { program := "ytikhgdbbbingbaadoor", sum := "7a22ef4176d7fd8147aa140ff1d7cc210c208a52c4fbee4b976a44d6cdd316a6", func := "bivouac/bivouaclaw03.TrigHeads", spec := "trigHeads", unfollowed := true, recurses := true, named := ["bivouac/trig.sines", "bivouac/bivouacref03.quarter"], apart := false, laid := [("bivouac/bivouacref03.quarter", laid_bivouac_bivouacref03_quarter), ("bivouac/trig.sines", laid_bivouac_trig_sines)] }
def TrigHeadsSaid : Prop := trigHeadsRow.holds Tryd.pinned (OpenSpec.ofChange trigHeadsSpec)

/-- ITS FALSE NEIGHBOUR: 'it returns false'. Refute it at one input. -/
def trigHeadsWrong : ChangeSpec := { name := "trigHeads", fn := fun _ => fun
  | [d1, d2] => { results := [.lit (.bool false)], args := [d1, d2] }
  | _ => none }
def TrigHeadsWrongFalsely : Prop := trigHeadsRow.holds Tryd.pinned (OpenSpec.ofChange trigHeadsWrong)

/-- 'bivouaclaw03.TrigTurns': WHATEVER THE INPUT: true; the input reads as it did. -/
def trigTurnsSpec : ChangeSpec := { name := "trigTurns", fn := fun _ => fun
  | [d1, d2, d3] => { results := [.lit (.bool true)], args := [d1, d2, d3] }
  | _ => none }
def trigTurnsRow : OpenClaim := { program := "ytikhgdbbbingbaadoor", sum := "7a22ef4176d7fd8147aa140ff1d7cc210c208a52c4fbee4b976a44d6cdd316a6", func := "bivouac/bivouaclaw03.TrigTurns", spec := "trigTurns", unfollowed := true, recurses := true, named := ["bivouac/trig.sines"], apart := false, laid := [("bivouac/trig.sines", laid_bivouac_trig_sines)] }
def TrigTurnsSaid : Prop := trigTurnsRow.holds Tryd.pinned (OpenSpec.ofChange trigTurnsSpec)

/-- ITS FALSE NEIGHBOUR: 'it returns false'. Refute it at one input. -/
def trigTurnsWrong : ChangeSpec := { name := "trigTurns", fn := fun _ => fun
  | [d1, d2, d3] => { results := [.lit (.bool false)], args := [d1, d2, d3] }
  | _ => none }
def TrigTurnsWrongFalsely : Prop := trigTurnsRow.holds Tryd.pinned (OpenSpec.ofChange trigTurnsWrong)

/-- 'bivouaclaw03.TrigCloses': WHATEVER THE INPUT: true; the input reads as it did. -/
def trigClosesSpec : ChangeSpec := { name := "trigCloses", fn := fun _ => fun
  | [d1, d2, d3] => { results := [.lit (.bool true)], args := [d1, d2, d3] }
  | _ => none }
def trigClosesRow : OpenClaim := { program := "ytikhgdbbbingbaadoor", sum := "7a22ef4176d7fd8147aa140ff1d7cc210c208a52c4fbee4b976a44d6cdd316a6", func := "bivouac/bivouaclaw03.TrigCloses", spec := "trigCloses", unfollowed := true, recurses := true, named := ["bivouac/trig.sines"], apart := false, laid := [("bivouac/trig.sines", laid_bivouac_trig_sines)] }
def TrigClosesSaid : Prop := trigClosesRow.holds Tryd.pinned (OpenSpec.ofChange trigClosesSpec)

/-- ITS FALSE NEIGHBOUR: 'it returns false'. Refute it at one input. -/
def trigClosesWrong : ChangeSpec := { name := "trigCloses", fn := fun _ => fun
  | [d1, d2, d3] => { results := [.lit (.bool false)], args := [d1, d2, d3] }
  | _ => none }
def TrigClosesWrongFalsely : Prop := trigClosesRow.holds Tryd.pinned (OpenSpec.ofChange trigClosesWrong)

/-- 'bivouaclaw03.TrigVecs': WHATEVER THE INPUT: true; the input reads as it did. -/
def trigVecsSpec : ChangeSpec := { name := "trigVecs", fn := fun _ => fun
  | [d1, d2] => { results := [.lit (.bool true)], args := [d1, d2] }
  | _ => none }
def trigVecsRow : OpenClaim := { program := "ytikhgdbbbingbaadoor", sum := "7a22ef4176d7fd8147aa140ff1d7cc210c208a52c4fbee4b976a44d6cdd316a6", func := "bivouac/bivouaclaw03.TrigVecs", spec := "trigVecs", unfollowed := true, recurses := true, named := ["bivouac/trig.sines", "math/bits.divideError", "math/bits.overflowError", "bivouac/bivouacref03.quarter"], apart := false, laid := [("bivouac/bivouacref03.quarter", laid_bivouac_bivouacref03_quarter), ("bivouac/trig.sines", laid_bivouac_trig_sines)] }
def TrigVecsSaid : Prop := trigVecsRow.holds Tryd.pinned (OpenSpec.ofChange trigVecsSpec)

/-- ITS FALSE NEIGHBOUR: 'it returns false'. Refute it at one input. -/
def trigVecsWrong : ChangeSpec := { name := "trigVecs", fn := fun _ => fun
  | [d1, d2] => { results := [.lit (.bool false)], args := [d1, d2] }
  | _ => none }
def TrigVecsWrongFalsely : Prop := trigVecsRow.holds Tryd.pinned (OpenSpec.ofChange trigVecsWrong)

/- THE SECOND FORM. 'bulk': how many values and letters a reading holds, each counted each time it is reached (what is shared counts as often as it is met; a slice's spare places count too). A statement '..UptoSaid' is the law's where the arguments, and the package variables that the reading takes, are together of bulk at most 1048576: NARROWER than '..Said'. Prove '..Said' where nothing that the law and all that it calls make is longer than what came in: it says more and counts as full. Else prove '..UptoSaid'. A law counts once. -/
mutual
def uptoBulk {H : Type} : DataW H → Nat
  | .lit (.string bytes) => bytes.length + 1
  | .lit _ => 1
  | .nil => 1
  | .ptr d => uptoBulk d + 1
  | .slice elems spare => uptoBulkAll elems + uptoBulkAll spare + 1
  | .agg parts => uptoBulkAll parts + 1
  | .iface _ d => uptoBulk d + 1
  | .map entries => uptoBulkEntries entries + 1
  | .held _ => 1
def uptoBulkAll {H : Type} : List (DataW H) → Nat
  | [] => 0
  | d :: r => uptoBulk d + uptoBulkAll r
def uptoBulkEntries {H : Type} : List (Lit × DataW H) → Nat
  | [] => 0
  | x :: r => uptoBulkEntry x + uptoBulkEntries r
def uptoBulkEntry {H : Type} : Lit × DataW H → Nat
  | (.string bytes, d) => bytes.length + uptoBulk d + 1
  | (_, d) => uptoBulk d + 1
 end
def uptoSmall : (H : Type) → List (DataW H) → Bool := fun _ ds => decide (uptoBulkAll ds ≤ 1048576)
def OpenSpec.upto (s : _root_.Go.ChangeSpec) : _root_.Go.OpenSpec := { _root_.Go.OpenSpec.ofChange s with cond := some uptoSmall }

/-- 'bivouaclaw03.TrigSines', WHERE WHAT IT READS IS OF BULK AT MOST 1048576: true; the input reads as it did. -/
def trigSinesUptoRow : OpenClaim := { program := "ytikhgdbbbingbaadoor", sum := "7a22ef4176d7fd8147aa140ff1d7cc210c208a52c4fbee4b976a44d6cdd316a6", func := "bivouac/bivouaclaw03.TrigSines", spec := "trigSines", unfollowed := true, recurses := true, named := ["bivouac/trig.sines", "bivouac/bivouacref03.quarter"], apart := false, laid := [("bivouac/bivouacref03.quarter", laid_bivouac_bivouacref03_quarter), ("bivouac/trig.sines", laid_bivouac_trig_sines)], narrowed := true }
def TrigSinesUptoSaid : Prop := trigSinesUptoRow.holds Tryd.pinned (OpenSpec.upto trigSinesSpec)

/-- 'bivouaclaw03.TrigMirrors', WHERE WHAT IT READS IS OF BULK AT MOST 1048576: true; the input reads as it did. -/
def trigMirrorsUptoRow : OpenClaim := { program := "ytikhgdbbbingbaadoor", sum := "7a22ef4176d7fd8147aa140ff1d7cc210c208a52c4fbee4b976a44d6cdd316a6", func := "bivouac/bivouaclaw03.TrigMirrors", spec := "trigMirrors", unfollowed := true, recurses := true, named := ["bivouac/trig.sines"], apart := false, laid := [("bivouac/trig.sines", laid_bivouac_trig_sines)], narrowed := true }
def TrigMirrorsUptoSaid : Prop := trigMirrorsUptoRow.holds Tryd.pinned (OpenSpec.upto trigMirrorsSpec)

/-- 'bivouaclaw03.TrigRises', WHERE WHAT IT READS IS OF BULK AT MOST 1048576: true; the input reads as it did. -/
def trigRisesUptoRow : OpenClaim := { program := "ytikhgdbbbingbaadoor", sum := "7a22ef4176d7fd8147aa140ff1d7cc210c208a52c4fbee4b976a44d6cdd316a6", func := "bivouac/bivouaclaw03.TrigRises", spec := "trigRises", unfollowed := true, recurses := true, named := ["bivouac/trig.sines"], apart := false, laid := [("bivouac/trig.sines", laid_bivouac_trig_sines)], narrowed := true }
def TrigRisesUptoSaid : Prop := trigRisesUptoRow.holds Tryd.pinned (OpenSpec.upto trigRisesSpec)

/-- 'bivouaclaw03.TrigHeads', WHERE WHAT IT READS IS OF BULK AT MOST 1048576: true; the input reads as it did. -/
def trigHeadsUptoRow : OpenClaim := { program := "ytikhgdbbbingbaadoor", sum := "7a22ef4176d7fd8147aa140ff1d7cc210c208a52c4fbee4b976a44d6cdd316a6", func := "bivouac/bivouaclaw03.TrigHeads", spec := "trigHeads", unfollowed := true, recurses := true, named := ["bivouac/trig.sines", "bivouac/bivouacref03.quarter"], apart := false, laid := [("bivouac/bivouacref03.quarter", laid_bivouac_bivouacref03_quarter), ("bivouac/trig.sines", laid_bivouac_trig_sines)], narrowed := true }
def TrigHeadsUptoSaid : Prop := trigHeadsUptoRow.holds Tryd.pinned (OpenSpec.upto trigHeadsSpec)

/-- 'bivouaclaw03.TrigTurns', WHERE WHAT IT READS IS OF BULK AT MOST 1048576: true; the input reads as it did. -/
def trigTurnsUptoRow : OpenClaim := { program := "ytikhgdbbbingbaadoor", sum := "7a22ef4176d7fd8147aa140ff1d7cc210c208a52c4fbee4b976a44d6cdd316a6", func := "bivouac/bivouaclaw03.TrigTurns", spec := "trigTurns", unfollowed := true, recurses := true, named := ["bivouac/trig.sines"], apart := false, laid := [("bivouac/trig.sines", laid_bivouac_trig_sines)], narrowed := true }
def TrigTurnsUptoSaid : Prop := trigTurnsUptoRow.holds Tryd.pinned (OpenSpec.upto trigTurnsSpec)

/-- 'bivouaclaw03.TrigCloses', WHERE WHAT IT READS IS OF BULK AT MOST 1048576: true; the input reads as it did. -/
def trigClosesUptoRow : OpenClaim := { program := "ytikhgdbbbingbaadoor", sum := "7a22ef4176d7fd8147aa140ff1d7cc210c208a52c4fbee4b976a44d6cdd316a6", func := "bivouac/bivouaclaw03.TrigCloses", spec := "trigCloses", unfollowed := true, recurses := true, named := ["bivouac/trig.sines"], apart := false, laid := [("bivouac/trig.sines", laid_bivouac_trig_sines)], narrowed := true }
def TrigClosesUptoSaid : Prop := trigClosesUptoRow.holds Tryd.pinned (OpenSpec.upto trigClosesSpec)

/-- 'bivouaclaw03.TrigVecs', WHERE WHAT IT READS IS OF BULK AT MOST 1048576: true; the input reads as it did. -/
def trigVecsUptoRow : OpenClaim := { program := "ytikhgdbbbingbaadoor", sum := "7a22ef4176d7fd8147aa140ff1d7cc210c208a52c4fbee4b976a44d6cdd316a6", func := "bivouac/bivouaclaw03.TrigVecs", spec := "trigVecs", unfollowed := true, recurses := true, named := ["bivouac/trig.sines", "math/bits.divideError", "math/bits.overflowError", "bivouac/bivouacref03.quarter"], apart := false, laid := [("bivouac/bivouacref03.quarter", laid_bivouac_bivouacref03_quarter), ("bivouac/trig.sines", laid_bivouac_trig_sines)], narrowed := true }
def TrigVecsUptoSaid : Prop := trigVecsUptoRow.holds Tryd.pinned (OpenSpec.upto trigVecsSpec)

end Rows
end Go.Proofs.YtikhgdbbbingbaaDoor
