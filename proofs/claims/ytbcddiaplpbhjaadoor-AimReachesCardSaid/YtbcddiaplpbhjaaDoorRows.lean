/-
  NARROWER THAN 'FOR EVERY INPUT', by the rows' own cells (each row's printed sentence says how): DriveOff: laid · DriveSteps: laid · DriveGoes: laid · DriveStays: laid · DriveParts: laid · AimShots: laid · AimSolves: laid · AimReaches: laid · AimHits: laid.
  DERIVED. THE GIVEN ROWS OF THIS SEAT. 9 by the template 'for every input the law returns true; each argument reads behind the call as it read before'; 0 by the template 'total and deterministic' (their statements: YtbcddiaplpbhjaaDoorTotals.lean).
  GIVEN WITH THE SEED: the statements are not yours to turn. If you find one false, say at which input.
  Laid BY PROGRAM, IN A SANDBOX (cutbox-rows.mjs): the forced cells as the released guide's own fill.sh prints them over the translation 5c02b311523e6ffe… (all of the seat's roots in one cut). By AI agents, Wed Nov 11 2026. No macro, syntax, notation, axiom, sorry.
-/
import Derived.Test.YtbcddiaplpbhjaaDoorChecked
import GoSem.Claim
import GoSem.ClaimJoined
import GoSem.ClaimMapViews
import Derived.JoinedTies
import Derived.KernelRfl
namespace Go.Proofs.YtbcddiaplpbhjaaDoor
/- THE CELL 'sum', in the pinned program and in every row, IS THE sha256 OF THE DUMP (.gsa) THAT YtbcddiaplpbhjaaDoorProg.lean LOADS. Nothing in Lean hashes anything: it is a label: what it is worth is what the hold of that sum in a sandbox is worth. -/
noncomputable def Tryd.pinned : Pinned := { name := "ytbcddiaplpbhjaadoor", sum := "5c02b311523e6ffe2de01f1736b207f6d0eae47204c6ac0660196f8dd25c621b", checked := Tryd.checked }
namespace Rows
def none {H : Type} : Left H := { results := [], args := [] }

/- WHAT THE LISTED PACKAGE-LEVEL VARIABLES READ AS WHEN THE CALL BEGINS. Each datum BY PROGRAM (the guide's laid-datum.mjs) off the statement by which the dump's own 'gosem.cut.vars' lays the variable. In a bare row this is a premise. The card (YtbcddiaplpbhjaaDoorCards.lean) ties it to the program's text. -/
def laid_bivouac_trig_sines {H : Type} : DataW H := .agg [.lit (.int .i32 0), .lit (.int .i32 1608), .lit (.int .i32 3216), .lit (.int .i32 4821), .lit (.int .i32 6424), .lit (.int .i32 8022), .lit (.int .i32 9616), .lit (.int .i32 11204), .lit (.int .i32 12785), .lit (.int .i32 14359), .lit (.int .i32 15924), .lit (.int .i32 17479), .lit (.int .i32 19024), .lit (.int .i32 20557), .lit (.int .i32 22078), .lit (.int .i32 23586), .lit (.int .i32 25080), .lit (.int .i32 26558), .lit (.int .i32 28020), .lit (.int .i32 29466), .lit (.int .i32 30893), .lit (.int .i32 32303), .lit (.int .i32 33692), .lit (.int .i32 35062), .lit (.int .i32 36410), .lit (.int .i32 37736), .lit (.int .i32 39040), .lit (.int .i32 40320), .lit (.int .i32 41576), .lit (.int .i32 42806), .lit (.int .i32 44011), .lit (.int .i32 45190), .lit (.int .i32 46341), .lit (.int .i32 47464), .lit (.int .i32 48559), .lit (.int .i32 49624), .lit (.int .i32 50660), .lit (.int .i32 51665), .lit (.int .i32 52639), .lit (.int .i32 53581), .lit (.int .i32 54491), .lit (.int .i32 55368), .lit (.int .i32 56212), .lit (.int .i32 57022), .lit (.int .i32 57798), .lit (.int .i32 58538), .lit (.int .i32 59244), .lit (.int .i32 59914), .lit (.int .i32 60547), .lit (.int .i32 61145), .lit (.int .i32 61705), .lit (.int .i32 62228), .lit (.int .i32 62714), .lit (.int .i32 63162), .lit (.int .i32 63572), .lit (.int .i32 63944), .lit (.int .i32 64277), .lit (.int .i32 64571), .lit (.int .i32 64827), .lit (.int .i32 65043), .lit (.int .i32 65220), .lit (.int .i32 65358), .lit (.int .i32 65457), .lit (.int .i32 65516), .lit (.int .i32 65536)]
def laid_bivouac_bivouacref03_quarter {H : Type} : DataW H := .agg [.lit (.int .i64 0), .lit (.int .i64 1608), .lit (.int .i64 3216), .lit (.int .i64 4821), .lit (.int .i64 6424), .lit (.int .i64 8022), .lit (.int .i64 9616), .lit (.int .i64 11204), .lit (.int .i64 12785), .lit (.int .i64 14359), .lit (.int .i64 15924), .lit (.int .i64 17479), .lit (.int .i64 19024), .lit (.int .i64 20557), .lit (.int .i64 22078), .lit (.int .i64 23586), .lit (.int .i64 25080), .lit (.int .i64 26558), .lit (.int .i64 28020), .lit (.int .i64 29466), .lit (.int .i64 30893), .lit (.int .i64 32303), .lit (.int .i64 33692), .lit (.int .i64 35062), .lit (.int .i64 36410), .lit (.int .i64 37736), .lit (.int .i64 39040), .lit (.int .i64 40320), .lit (.int .i64 41576), .lit (.int .i64 42806), .lit (.int .i64 44011), .lit (.int .i64 45190), .lit (.int .i64 46341), .lit (.int .i64 47464), .lit (.int .i64 48559), .lit (.int .i64 49624), .lit (.int .i64 50660), .lit (.int .i64 51665), .lit (.int .i64 52639), .lit (.int .i64 53581), .lit (.int .i64 54491), .lit (.int .i64 55368), .lit (.int .i64 56212), .lit (.int .i64 57022), .lit (.int .i64 57798), .lit (.int .i64 58538), .lit (.int .i64 59244), .lit (.int .i64 59914), .lit (.int .i64 60547), .lit (.int .i64 61145), .lit (.int .i64 61705), .lit (.int .i64 62228), .lit (.int .i64 62714), .lit (.int .i64 63162), .lit (.int .i64 63572), .lit (.int .i64 63944), .lit (.int .i64 64277), .lit (.int .i64 64571), .lit (.int .i64 64827), .lit (.int .i64 65043), .lit (.int .i64 65220), .lit (.int .i64 65358), .lit (.int .i64 65457), .lit (.int .i64 65516), .lit (.int .i64 65536)]

/-- 'bivouaclaw14.DriveOff': WHATEVER THE INPUT: true; the input reads as it did. -/
def driveOffSpec : ChangeSpec := { name := "driveOff", fn := fun _ => fun
  | [d1, d2] => { results := [.lit (.bool true)], args := [d1, d2] }
  | _ => none }
def driveOffRow : OpenClaim := { program := "ytbcddiaplpbhjaadoor", sum := "5c02b311523e6ffe2de01f1736b207f6d0eae47204c6ac0660196f8dd25c621b", func := "bivouac/bivouaclaw14.DriveOff", spec := "driveOff", unfollowed := true, recurses := true, named := ["bivouac/trig.sines", "math/bits.divideError", "math/bits.overflowError"], apart := false, laid := [("bivouac/trig.sines", laid_bivouac_trig_sines)] }
def DriveOffSaid : Prop := driveOffRow.holds Tryd.pinned (OpenSpec.ofChange driveOffSpec)

/-- ITS FALSE NEIGHBOUR: 'it returns false'. Refute it at one input. -/
def driveOffWrong : ChangeSpec := { name := "driveOff", fn := fun _ => fun
  | [d1, d2] => { results := [.lit (.bool false)], args := [d1, d2] }
  | _ => none }
def DriveOffWrongFalsely : Prop := driveOffRow.holds Tryd.pinned (OpenSpec.ofChange driveOffWrong)

/-- 'bivouaclaw14.DriveSteps': WHATEVER THE INPUT: true; the input reads as it did. -/
def driveStepsSpec : ChangeSpec := { name := "driveSteps", fn := fun _ => fun
  | [d] => { results := [.lit (.bool true)], args := [d] }
  | _ => none }
def driveStepsRow : OpenClaim := { program := "ytbcddiaplpbhjaadoor", sum := "5c02b311523e6ffe2de01f1736b207f6d0eae47204c6ac0660196f8dd25c621b", func := "bivouac/bivouaclaw14.DriveSteps", spec := "driveSteps", unfollowed := true, recurses := true, named := ["bivouac/trig.sines", "math/bits.divideError", "math/bits.overflowError", "bivouac/bivouacref03.quarter"], apart := false, laid := [("bivouac/bivouacref03.quarter", laid_bivouac_bivouacref03_quarter), ("bivouac/trig.sines", laid_bivouac_trig_sines)] }
def DriveStepsSaid : Prop := driveStepsRow.holds Tryd.pinned (OpenSpec.ofChange driveStepsSpec)

/-- ITS FALSE NEIGHBOUR: 'it returns false'. Refute it at one input. -/
def driveStepsWrong : ChangeSpec := { name := "driveSteps", fn := fun _ => fun
  | [d] => { results := [.lit (.bool false)], args := [d] }
  | _ => none }
def DriveStepsWrongFalsely : Prop := driveStepsRow.holds Tryd.pinned (OpenSpec.ofChange driveStepsWrong)

/-- 'bivouaclaw14.DriveGoes': WHATEVER THE INPUT: true; the input reads as it did. -/
def driveGoesSpec : ChangeSpec := { name := "driveGoes", fn := fun _ => fun
  | [d] => { results := [.lit (.bool true)], args := [d] }
  | _ => none }
def driveGoesRow : OpenClaim := { program := "ytbcddiaplpbhjaadoor", sum := "5c02b311523e6ffe2de01f1736b207f6d0eae47204c6ac0660196f8dd25c621b", func := "bivouac/bivouaclaw14.DriveGoes", spec := "driveGoes", unfollowed := true, recurses := true, named := ["bivouac/trig.sines", "math/bits.divideError", "math/bits.overflowError", "bivouac/bivouacref03.quarter"], apart := false, laid := [("bivouac/bivouacref03.quarter", laid_bivouac_bivouacref03_quarter), ("bivouac/trig.sines", laid_bivouac_trig_sines)] }
def DriveGoesSaid : Prop := driveGoesRow.holds Tryd.pinned (OpenSpec.ofChange driveGoesSpec)

/-- ITS FALSE NEIGHBOUR: 'it returns false'. Refute it at one input. -/
def driveGoesWrong : ChangeSpec := { name := "driveGoes", fn := fun _ => fun
  | [d] => { results := [.lit (.bool false)], args := [d] }
  | _ => none }
def DriveGoesWrongFalsely : Prop := driveGoesRow.holds Tryd.pinned (OpenSpec.ofChange driveGoesWrong)

/-- 'bivouaclaw14.DriveStays': WHATEVER THE INPUT: true; the input reads as it did. -/
def driveStaysSpec : ChangeSpec := { name := "driveStays", fn := fun _ => fun
  | [d] => { results := [.lit (.bool true)], args := [d] }
  | _ => none }
def driveStaysRow : OpenClaim := { program := "ytbcddiaplpbhjaadoor", sum := "5c02b311523e6ffe2de01f1736b207f6d0eae47204c6ac0660196f8dd25c621b", func := "bivouac/bivouaclaw14.DriveStays", spec := "driveStays", unfollowed := true, recurses := true, named := ["bivouac/trig.sines", "math/bits.divideError", "math/bits.overflowError"], apart := false, laid := [("bivouac/trig.sines", laid_bivouac_trig_sines)] }
def DriveStaysSaid : Prop := driveStaysRow.holds Tryd.pinned (OpenSpec.ofChange driveStaysSpec)

/-- ITS FALSE NEIGHBOUR: 'it returns false'. Refute it at one input. -/
def driveStaysWrong : ChangeSpec := { name := "driveStays", fn := fun _ => fun
  | [d] => { results := [.lit (.bool false)], args := [d] }
  | _ => none }
def DriveStaysWrongFalsely : Prop := driveStaysRow.holds Tryd.pinned (OpenSpec.ofChange driveStaysWrong)

/-- 'bivouaclaw14.DriveParts': WHATEVER THE INPUT: true; the input reads as it did. -/
def drivePartsSpec : ChangeSpec := { name := "driveParts", fn := fun _ => fun
  | [d1, d2] => { results := [.lit (.bool true)], args := [d1, d2] }
  | _ => none }
def drivePartsRow : OpenClaim := { program := "ytbcddiaplpbhjaadoor", sum := "5c02b311523e6ffe2de01f1736b207f6d0eae47204c6ac0660196f8dd25c621b", func := "bivouac/bivouaclaw14.DriveParts", spec := "driveParts", unfollowed := true, recurses := true, named := ["bivouac/trig.sines", "math/bits.divideError", "math/bits.overflowError"], apart := false, laid := [("bivouac/trig.sines", laid_bivouac_trig_sines)] }
def DrivePartsSaid : Prop := drivePartsRow.holds Tryd.pinned (OpenSpec.ofChange drivePartsSpec)

/-- ITS FALSE NEIGHBOUR: 'it returns false'. Refute it at one input. -/
def drivePartsWrong : ChangeSpec := { name := "driveParts", fn := fun _ => fun
  | [d1, d2] => { results := [.lit (.bool false)], args := [d1, d2] }
  | _ => none }
def DrivePartsWrongFalsely : Prop := drivePartsRow.holds Tryd.pinned (OpenSpec.ofChange drivePartsWrong)

/-- 'bivouaclaw17.AimShots': WHATEVER THE INPUT: true; the input reads as it did. -/
def aimShotsSpec : ChangeSpec := { name := "aimShots", fn := fun _ => fun
  | [d] => { results := [.lit (.bool true)], args := [d] }
  | _ => none }
def aimShotsRow : OpenClaim := { program := "ytbcddiaplpbhjaadoor", sum := "5c02b311523e6ffe2de01f1736b207f6d0eae47204c6ac0660196f8dd25c621b", func := "bivouac/bivouaclaw17.AimShots", spec := "aimShots", unfollowed := true, recurses := true, named := ["bivouac/trig.sines", "math/bits.divideError", "math/bits.overflowError", "bivouac/bivouacref03.quarter"], apart := false, laid := [("bivouac/bivouacref03.quarter", laid_bivouac_bivouacref03_quarter), ("bivouac/trig.sines", laid_bivouac_trig_sines)] }
def AimShotsSaid : Prop := aimShotsRow.holds Tryd.pinned (OpenSpec.ofChange aimShotsSpec)

/-- ITS FALSE NEIGHBOUR: 'it returns false'. Refute it at one input. -/
def aimShotsWrong : ChangeSpec := { name := "aimShots", fn := fun _ => fun
  | [d] => { results := [.lit (.bool false)], args := [d] }
  | _ => none }
def AimShotsWrongFalsely : Prop := aimShotsRow.holds Tryd.pinned (OpenSpec.ofChange aimShotsWrong)

/-- 'bivouaclaw17.AimSolves': WHATEVER THE INPUT: true; the input reads as it did. -/
def aimSolvesSpec : ChangeSpec := { name := "aimSolves", fn := fun _ => fun
  | [d] => { results := [.lit (.bool true)], args := [d] }
  | _ => none }
def aimSolvesRow : OpenClaim := { program := "ytbcddiaplpbhjaadoor", sum := "5c02b311523e6ffe2de01f1736b207f6d0eae47204c6ac0660196f8dd25c621b", func := "bivouac/bivouaclaw17.AimSolves", spec := "aimSolves", unfollowed := true, recurses := true, named := ["bivouac/trig.sines", "math/bits.divideError", "math/bits.overflowError", "bivouac/bivouacref03.quarter"], apart := false, laid := [("bivouac/bivouacref03.quarter", laid_bivouac_bivouacref03_quarter), ("bivouac/trig.sines", laid_bivouac_trig_sines)] }
def AimSolvesSaid : Prop := aimSolvesRow.holds Tryd.pinned (OpenSpec.ofChange aimSolvesSpec)

/-- ITS FALSE NEIGHBOUR: 'it returns false'. Refute it at one input. -/
def aimSolvesWrong : ChangeSpec := { name := "aimSolves", fn := fun _ => fun
  | [d] => { results := [.lit (.bool false)], args := [d] }
  | _ => none }
def AimSolvesWrongFalsely : Prop := aimSolvesRow.holds Tryd.pinned (OpenSpec.ofChange aimSolvesWrong)

/-- 'bivouaclaw17.AimReaches': WHATEVER THE INPUT: true; the input reads as it did. -/
def aimReachesSpec : ChangeSpec := { name := "aimReaches", fn := fun _ => fun
  | [d] => { results := [.lit (.bool true)], args := [d] }
  | _ => none }
def aimReachesRow : OpenClaim := { program := "ytbcddiaplpbhjaadoor", sum := "5c02b311523e6ffe2de01f1736b207f6d0eae47204c6ac0660196f8dd25c621b", func := "bivouac/bivouaclaw17.AimReaches", spec := "aimReaches", unfollowed := true, recurses := true, named := ["bivouac/trig.sines", "math/bits.divideError", "math/bits.overflowError"], apart := false, laid := [("bivouac/trig.sines", laid_bivouac_trig_sines)] }
def AimReachesSaid : Prop := aimReachesRow.holds Tryd.pinned (OpenSpec.ofChange aimReachesSpec)

/-- ITS FALSE NEIGHBOUR: 'it returns false'. Refute it at one input. -/
def aimReachesWrong : ChangeSpec := { name := "aimReaches", fn := fun _ => fun
  | [d] => { results := [.lit (.bool false)], args := [d] }
  | _ => none }
def AimReachesWrongFalsely : Prop := aimReachesRow.holds Tryd.pinned (OpenSpec.ofChange aimReachesWrong)

/-- 'bivouaclaw17.AimHits': WHATEVER THE INPUT: true; the input reads as it did. -/
def aimHitsSpec : ChangeSpec := { name := "aimHits", fn := fun _ => fun
  | [d] => { results := [.lit (.bool true)], args := [d] }
  | _ => none }
def aimHitsRow : OpenClaim := { program := "ytbcddiaplpbhjaadoor", sum := "5c02b311523e6ffe2de01f1736b207f6d0eae47204c6ac0660196f8dd25c621b", func := "bivouac/bivouaclaw17.AimHits", spec := "aimHits", unfollowed := true, recurses := true, named := ["bivouac/trig.sines", "math/bits.divideError", "math/bits.overflowError"], apart := false, laid := [("bivouac/trig.sines", laid_bivouac_trig_sines)] }
def AimHitsSaid : Prop := aimHitsRow.holds Tryd.pinned (OpenSpec.ofChange aimHitsSpec)

/-- ITS FALSE NEIGHBOUR: 'it returns false'. Refute it at one input. -/
def aimHitsWrong : ChangeSpec := { name := "aimHits", fn := fun _ => fun
  | [d] => { results := [.lit (.bool false)], args := [d] }
  | _ => none }
def AimHitsWrongFalsely : Prop := aimHitsRow.holds Tryd.pinned (OpenSpec.ofChange aimHitsWrong)

/- THE SECOND FORM. 'bulk': how many values and letters a reading holds, each counted each time it is reached (what is shared counts as often as it is met; a slice's spare places count too). A statement '..UptoSaid' is the law's where the arguments, and the package variables that the reading takes, are together of bulk at most 1048576: NARROWER than '..Said'. Prove '..Said' where nothing that the law and all that it calls make is longer than what came in: it says more and counts as full. Else prove '..UptoSaid'. A law counts once. -/
mutual
def uptoBulk {H : Type} : DataW H → Nat
  | .lit (.string bytes) => bytes.length + 1
  | .lit _ => 1
  | .nil => 1
  | .ptr d => uptoBulk d + 1
  | .slice elems spare => uptoBulkAll elems + uptoBulkAll spare + 1
  | .agg parts => uptoBulkAll parts + 1
  | .iface _ d => uptoBulk d + 1
  | .map entries => uptoBulkEntries entries + 1
  | .held _ => 1
def uptoBulkAll {H : Type} : List (DataW H) → Nat
  | [] => 0
  | d :: r => uptoBulk d + uptoBulkAll r
def uptoBulkEntries {H : Type} : List (Lit × DataW H) → Nat
  | [] => 0
  | x :: r => uptoBulkEntry x + uptoBulkEntries r
def uptoBulkEntry {H : Type} : Lit × DataW H → Nat
  | (.string bytes, d) => bytes.length + uptoBulk d + 1
  | (_, d) => uptoBulk d + 1
 end
def uptoSmall : (H : Type) → List (DataW H) → Bool := fun _ ds => decide (uptoBulkAll ds ≤ 1048576)
def OpenSpec.upto (s : _root_.Go.ChangeSpec) : _root_.Go.OpenSpec := { _root_.Go.OpenSpec.ofChange s with cond := some uptoSmall }

/-- 'bivouaclaw14.DriveOff', WHERE WHAT IT READS IS OF BULK AT MOST 1048576: true; the input reads as it did. -/
def driveOffUptoRow : OpenClaim := { program := "ytbcddiaplpbhjaadoor", sum := "5c02b311523e6ffe2de01f1736b207f6d0eae47204c6ac0660196f8dd25c621b", func := "bivouac/bivouaclaw14.DriveOff", spec := "driveOff", unfollowed := true, recurses := true, named := ["bivouac/trig.sines", "math/bits.divideError", "math/bits.overflowError"], apart := false, laid := [("bivouac/trig.sines", laid_bivouac_trig_sines)], narrowed := true }
def DriveOffUptoSaid : Prop := driveOffUptoRow.holds Tryd.pinned (OpenSpec.upto driveOffSpec)

/-- 'bivouaclaw14.DriveSteps', WHERE WHAT IT READS IS OF BULK AT MOST 1048576: true; the input reads as it did. -/
def driveStepsUptoRow : OpenClaim := { program := "ytbcddiaplpbhjaadoor", sum := "5c02b311523e6ffe2de01f1736b207f6d0eae47204c6ac0660196f8dd25c621b", func := "bivouac/bivouaclaw14.DriveSteps", spec := "driveSteps", unfollowed := true, recurses := true, named := ["bivouac/trig.sines", "math/bits.divideError", "math/bits.overflowError", "bivouac/bivouacref03.quarter"], apart := false, laid := [("bivouac/bivouacref03.quarter", laid_bivouac_bivouacref03_quarter), ("bivouac/trig.sines", laid_bivouac_trig_sines)], narrowed := true }
def DriveStepsUptoSaid : Prop := driveStepsUptoRow.holds Tryd.pinned (OpenSpec.upto driveStepsSpec)

/-- 'bivouaclaw14.DriveGoes', WHERE WHAT IT READS IS OF BULK AT MOST 1048576: true; the input reads as it did. -/
def driveGoesUptoRow : OpenClaim := { program := "ytbcddiaplpbhjaadoor", sum := "5c02b311523e6ffe2de01f1736b207f6d0eae47204c6ac0660196f8dd25c621b", func := "bivouac/bivouaclaw14.DriveGoes", spec := "driveGoes", unfollowed := true, recurses := true, named := ["bivouac/trig.sines", "math/bits.divideError", "math/bits.overflowError", "bivouac/bivouacref03.quarter"], apart := false, laid := [("bivouac/bivouacref03.quarter", laid_bivouac_bivouacref03_quarter), ("bivouac/trig.sines", laid_bivouac_trig_sines)], narrowed := true }
def DriveGoesUptoSaid : Prop := driveGoesUptoRow.holds Tryd.pinned (OpenSpec.upto driveGoesSpec)

/-- 'bivouaclaw14.DriveStays', WHERE WHAT IT READS IS OF BULK AT MOST 1048576: true; the input reads as it did. -/
def driveStaysUptoRow : OpenClaim := { program := "ytbcddiaplpbhjaadoor", sum := "5c02b311523e6ffe2de01f1736b207f6d0eae47204c6ac0660196f8dd25c621b", func := "bivouac/bivouaclaw14.DriveStays", spec := "driveStays", unfollowed := true, recurses := true, named := ["bivouac/trig.sines", "math/bits.divideError", "math/bits.overflowError"], apart := false, laid := [("bivouac/trig.sines", laid_bivouac_trig_sines)], narrowed := true }
def DriveStaysUptoSaid : Prop := driveStaysUptoRow.holds Tryd.pinned (OpenSpec.upto driveStaysSpec)

/-- 'bivouaclaw14.DriveParts', WHERE WHAT IT READS IS OF BULK AT MOST 1048576: true; the input reads as it did. -/
def drivePartsUptoRow : OpenClaim := { program := "ytbcddiaplpbhjaadoor", sum := "5c02b311523e6ffe2de01f1736b207f6d0eae47204c6ac0660196f8dd25c621b", func := "bivouac/bivouaclaw14.DriveParts", spec := "driveParts", unfollowed := true, recurses := true, named := ["bivouac/trig.sines", "math/bits.divideError", "math/bits.overflowError"], apart := false, laid := [("bivouac/trig.sines", laid_bivouac_trig_sines)], narrowed := true }
def DrivePartsUptoSaid : Prop := drivePartsUptoRow.holds Tryd.pinned (OpenSpec.upto drivePartsSpec)

/-- 'bivouaclaw17.AimShots', WHERE WHAT IT READS IS OF BULK AT MOST 1048576: true; the input reads as it did. -/
def aimShotsUptoRow : OpenClaim := { program := "ytbcddiaplpbhjaadoor", sum := "5c02b311523e6ffe2de01f1736b207f6d0eae47204c6ac0660196f8dd25c621b", func := "bivouac/bivouaclaw17.AimShots", spec := "aimShots", unfollowed := true, recurses := true, named := ["bivouac/trig.sines", "math/bits.divideError", "math/bits.overflowError", "bivouac/bivouacref03.quarter"], apart := false, laid := [("bivouac/bivouacref03.quarter", laid_bivouac_bivouacref03_quarter), ("bivouac/trig.sines", laid_bivouac_trig_sines)], narrowed := true }
def AimShotsUptoSaid : Prop := aimShotsUptoRow.holds Tryd.pinned (OpenSpec.upto aimShotsSpec)

/-- 'bivouaclaw17.AimSolves', WHERE WHAT IT READS IS OF BULK AT MOST 1048576: true; the input reads as it did. -/
def aimSolvesUptoRow : OpenClaim := { program := "ytbcddiaplpbhjaadoor", sum := "5c02b311523e6ffe2de01f1736b207f6d0eae47204c6ac0660196f8dd25c621b", func := "bivouac/bivouaclaw17.AimSolves", spec := "aimSolves", unfollowed := true, recurses := true, named := ["bivouac/trig.sines", "math/bits.divideError", "math/bits.overflowError", "bivouac/bivouacref03.quarter"], apart := false, laid := [("bivouac/bivouacref03.quarter", laid_bivouac_bivouacref03_quarter), ("bivouac/trig.sines", laid_bivouac_trig_sines)], narrowed := true }
def AimSolvesUptoSaid : Prop := aimSolvesUptoRow.holds Tryd.pinned (OpenSpec.upto aimSolvesSpec)

/-- 'bivouaclaw17.AimReaches', WHERE WHAT IT READS IS OF BULK AT MOST 1048576: true; the input reads as it did. -/
def aimReachesUptoRow : OpenClaim := { program := "ytbcddiaplpbhjaadoor", sum := "5c02b311523e6ffe2de01f1736b207f6d0eae47204c6ac0660196f8dd25c621b", func := "bivouac/bivouaclaw17.AimReaches", spec := "aimReaches", unfollowed := true, recurses := true, named := ["bivouac/trig.sines", "math/bits.divideError", "math/bits.overflowError"], apart := false, laid := [("bivouac/trig.sines", laid_bivouac_trig_sines)], narrowed := true }
def AimReachesUptoSaid : Prop := aimReachesUptoRow.holds Tryd.pinned (OpenSpec.upto aimReachesSpec)

/-- 'bivouaclaw17.AimHits', WHERE WHAT IT READS IS OF BULK AT MOST 1048576: true; the input reads as it did. -/
def aimHitsUptoRow : OpenClaim := { program := "ytbcddiaplpbhjaadoor", sum := "5c02b311523e6ffe2de01f1736b207f6d0eae47204c6ac0660196f8dd25c621b", func := "bivouac/bivouaclaw17.AimHits", spec := "aimHits", unfollowed := true, recurses := true, named := ["bivouac/trig.sines", "math/bits.divideError", "math/bits.overflowError"], apart := false, laid := [("bivouac/trig.sines", laid_bivouac_trig_sines)], narrowed := true }
def AimHitsUptoSaid : Prop := aimHitsUptoRow.holds Tryd.pinned (OpenSpec.upto aimHitsSpec)

end Rows
end Go.Proofs.YtbcddiaplpbhjaaDoor
