/-
  DERIVED. GIVEN WITH THE SEED: THE CARDS: each row of YtbcddiaplpbhjaaDoorRows.lean that lists a variable, with what it lists TIED to the program's text (the seventh form; the later family's looks); each row that meets fmt, with fmt's text TOLD by the authors' own Lean function (tested against real Go, not proved from fmt's source: count such statements apart). THE CARD IS WHAT COUNTS. Prove the row's statement (the work); the ties are given (YtbcddiaplpbhjaaDoorTie.lean); close each card by the builder's one call (the guide's Derived/Test/ToyasCard.lean, 'card_holds'). Laid BY PROGRAM, IN A SANDBOX (cutbox-door.mjs). By AI agents, Wed Nov 11 2026. No macro, syntax, notation, axiom, sorry.
-/
import Derived.Test.YtbcddiaplpbhjaaDoorRows
import GoSem.ClaimSeven
namespace Go.Proofs.YtbcddiaplpbhjaaDoor
namespace Rows

/-- THE TIED CARD OF 'bivouaclaw14.DriveOff'. -/
def driveOffCard : Claim7 := { stood := { row := driveOffRow, standIns := [], harness := (true, "c9410d55c645fd468e91d4fc42415b0f8b5041eb25db1c0105706ac4225de941"), looks := false }, kinds := [], alts := [], laidByText := true, laidKinds := [.data], laidTests := true, laidLooks := .later }
def DriveOffCardSaid : Prop := Claim7.holds Tryd.pinned (.plain (OpenSpec.ofChange driveOffSpec)) driveOffCard

/-- THE TIED CARD OF 'bivouaclaw14.DriveSteps'. -/
def driveStepsCard : Claim7 := { stood := { row := driveStepsRow, standIns := [], harness := (true, "c9410d55c645fd468e91d4fc42415b0f8b5041eb25db1c0105706ac4225de941"), looks := false }, kinds := [], alts := [], laidByText := true, laidKinds := [.data, .data], laidTests := true, laidLooks := .later }
def DriveStepsCardSaid : Prop := Claim7.holds Tryd.pinned (.plain (OpenSpec.ofChange driveStepsSpec)) driveStepsCard

/-- THE TIED CARD OF 'bivouaclaw14.DriveGoes'. -/
def driveGoesCard : Claim7 := { stood := { row := driveGoesRow, standIns := [], harness := (true, "c9410d55c645fd468e91d4fc42415b0f8b5041eb25db1c0105706ac4225de941"), looks := false }, kinds := [], alts := [], laidByText := true, laidKinds := [.data, .data], laidTests := true, laidLooks := .later }
def DriveGoesCardSaid : Prop := Claim7.holds Tryd.pinned (.plain (OpenSpec.ofChange driveGoesSpec)) driveGoesCard

/-- THE TIED CARD OF 'bivouaclaw14.DriveStays'. -/
def driveStaysCard : Claim7 := { stood := { row := driveStaysRow, standIns := [], harness := (true, "c9410d55c645fd468e91d4fc42415b0f8b5041eb25db1c0105706ac4225de941"), looks := false }, kinds := [], alts := [], laidByText := true, laidKinds := [.data], laidTests := true, laidLooks := .later }
def DriveStaysCardSaid : Prop := Claim7.holds Tryd.pinned (.plain (OpenSpec.ofChange driveStaysSpec)) driveStaysCard

/-- THE TIED CARD OF 'bivouaclaw14.DriveParts'. -/
def drivePartsCard : Claim7 := { stood := { row := drivePartsRow, standIns := [], harness := (true, "c9410d55c645fd468e91d4fc42415b0f8b5041eb25db1c0105706ac4225de941"), looks := false }, kinds := [], alts := [], laidByText := true, laidKinds := [.data], laidTests := true, laidLooks := .later }
def DrivePartsCardSaid : Prop := Claim7.holds Tryd.pinned (.plain (OpenSpec.ofChange drivePartsSpec)) drivePartsCard

/-- THE TIED CARD OF 'bivouaclaw17.AimShots'. -/
def aimShotsCard : Claim7 := { stood := { row := aimShotsRow, standIns := [], harness := (true, "c9410d55c645fd468e91d4fc42415b0f8b5041eb25db1c0105706ac4225de941"), looks := false }, kinds := [], alts := [], laidByText := true, laidKinds := [.data, .data], laidTests := true, laidLooks := .later }
def AimShotsCardSaid : Prop := Claim7.holds Tryd.pinned (.plain (OpenSpec.ofChange aimShotsSpec)) aimShotsCard

/-- THE TIED CARD OF 'bivouaclaw17.AimSolves'. -/
def aimSolvesCard : Claim7 := { stood := { row := aimSolvesRow, standIns := [], harness := (true, "c9410d55c645fd468e91d4fc42415b0f8b5041eb25db1c0105706ac4225de941"), looks := false }, kinds := [], alts := [], laidByText := true, laidKinds := [.data, .data], laidTests := true, laidLooks := .later }
def AimSolvesCardSaid : Prop := Claim7.holds Tryd.pinned (.plain (OpenSpec.ofChange aimSolvesSpec)) aimSolvesCard

/-- THE TIED CARD OF 'bivouaclaw17.AimReaches'. -/
def aimReachesCard : Claim7 := { stood := { row := aimReachesRow, standIns := [], harness := (true, "c9410d55c645fd468e91d4fc42415b0f8b5041eb25db1c0105706ac4225de941"), looks := false }, kinds := [], alts := [], laidByText := true, laidKinds := [.data], laidTests := true, laidLooks := .later }
def AimReachesCardSaid : Prop := Claim7.holds Tryd.pinned (.plain (OpenSpec.ofChange aimReachesSpec)) aimReachesCard

/-- THE TIED CARD OF 'bivouaclaw17.AimHits'. -/
def aimHitsCard : Claim7 := { stood := { row := aimHitsRow, standIns := [], harness := (true, "c9410d55c645fd468e91d4fc42415b0f8b5041eb25db1c0105706ac4225de941"), looks := false }, kinds := [], alts := [], laidByText := true, laidKinds := [.data], laidTests := true, laidLooks := .later }
def AimHitsCardSaid : Prop := Claim7.holds Tryd.pinned (.plain (OpenSpec.ofChange aimHitsSpec)) aimHitsCard

/-- THE SECOND FORM's CARD OF 'bivouaclaw14.DriveOff'. -/
def driveOffUptoCard : Claim7 := { stood := { row := driveOffUptoRow, standIns := [], harness := (true, "c9410d55c645fd468e91d4fc42415b0f8b5041eb25db1c0105706ac4225de941"), looks := false }, kinds := [], alts := [], laidByText := true, laidKinds := [.data], laidTests := true, laidLooks := .later }
def DriveOffUptoCardSaid : Prop := Claim7.holds Tryd.pinned (.plain (OpenSpec.upto driveOffSpec)) driveOffUptoCard

/-- THE SECOND FORM's CARD OF 'bivouaclaw14.DriveSteps'. -/
def driveStepsUptoCard : Claim7 := { stood := { row := driveStepsUptoRow, standIns := [], harness := (true, "c9410d55c645fd468e91d4fc42415b0f8b5041eb25db1c0105706ac4225de941"), looks := false }, kinds := [], alts := [], laidByText := true, laidKinds := [.data, .data], laidTests := true, laidLooks := .later }
def DriveStepsUptoCardSaid : Prop := Claim7.holds Tryd.pinned (.plain (OpenSpec.upto driveStepsSpec)) driveStepsUptoCard

/-- THE SECOND FORM's CARD OF 'bivouaclaw14.DriveGoes'. -/
def driveGoesUptoCard : Claim7 := { stood := { row := driveGoesUptoRow, standIns := [], harness := (true, "c9410d55c645fd468e91d4fc42415b0f8b5041eb25db1c0105706ac4225de941"), looks := false }, kinds := [], alts := [], laidByText := true, laidKinds := [.data, .data], laidTests := true, laidLooks := .later }
def DriveGoesUptoCardSaid : Prop := Claim7.holds Tryd.pinned (.plain (OpenSpec.upto driveGoesSpec)) driveGoesUptoCard

/-- THE SECOND FORM's CARD OF 'bivouaclaw14.DriveStays'. -/
def driveStaysUptoCard : Claim7 := { stood := { row := driveStaysUptoRow, standIns := [], harness := (true, "c9410d55c645fd468e91d4fc42415b0f8b5041eb25db1c0105706ac4225de941"), looks := false }, kinds := [], alts := [], laidByText := true, laidKinds := [.data], laidTests := true, laidLooks := .later }
def DriveStaysUptoCardSaid : Prop := Claim7.holds Tryd.pinned (.plain (OpenSpec.upto driveStaysSpec)) driveStaysUptoCard

/-- THE SECOND FORM's CARD OF 'bivouaclaw14.DriveParts'. -/
def drivePartsUptoCard : Claim7 := { stood := { row := drivePartsUptoRow, standIns := [], harness := (true, "c9410d55c645fd468e91d4fc42415b0f8b5041eb25db1c0105706ac4225de941"), looks := false }, kinds := [], alts := [], laidByText := true, laidKinds := [.data], laidTests := true, laidLooks := .later }
def DrivePartsUptoCardSaid : Prop := Claim7.holds Tryd.pinned (.plain (OpenSpec.upto drivePartsSpec)) drivePartsUptoCard

/-- THE SECOND FORM's CARD OF 'bivouaclaw17.AimShots'. -/
def aimShotsUptoCard : Claim7 := { stood := { row := aimShotsUptoRow, standIns := [], harness := (true, "c9410d55c645fd468e91d4fc42415b0f8b5041eb25db1c0105706ac4225de941"), looks := false }, kinds := [], alts := [], laidByText := true, laidKinds := [.data, .data], laidTests := true, laidLooks := .later }
def AimShotsUptoCardSaid : Prop := Claim7.holds Tryd.pinned (.plain (OpenSpec.upto aimShotsSpec)) aimShotsUptoCard

/-- THE SECOND FORM's CARD OF 'bivouaclaw17.AimSolves'. -/
def aimSolvesUptoCard : Claim7 := { stood := { row := aimSolvesUptoRow, standIns := [], harness := (true, "c9410d55c645fd468e91d4fc42415b0f8b5041eb25db1c0105706ac4225de941"), looks := false }, kinds := [], alts := [], laidByText := true, laidKinds := [.data, .data], laidTests := true, laidLooks := .later }
def AimSolvesUptoCardSaid : Prop := Claim7.holds Tryd.pinned (.plain (OpenSpec.upto aimSolvesSpec)) aimSolvesUptoCard

/-- THE SECOND FORM's CARD OF 'bivouaclaw17.AimReaches'. -/
def aimReachesUptoCard : Claim7 := { stood := { row := aimReachesUptoRow, standIns := [], harness := (true, "c9410d55c645fd468e91d4fc42415b0f8b5041eb25db1c0105706ac4225de941"), looks := false }, kinds := [], alts := [], laidByText := true, laidKinds := [.data], laidTests := true, laidLooks := .later }
def AimReachesUptoCardSaid : Prop := Claim7.holds Tryd.pinned (.plain (OpenSpec.upto aimReachesSpec)) aimReachesUptoCard

/-- THE SECOND FORM's CARD OF 'bivouaclaw17.AimHits'. -/
def aimHitsUptoCard : Claim7 := { stood := { row := aimHitsUptoRow, standIns := [], harness := (true, "c9410d55c645fd468e91d4fc42415b0f8b5041eb25db1c0105706ac4225de941"), looks := false }, kinds := [], alts := [], laidByText := true, laidKinds := [.data], laidTests := true, laidLooks := .later }
def AimHitsUptoCardSaid : Prop := Claim7.holds Tryd.pinned (.plain (OpenSpec.upto aimHitsSpec)) aimHitsUptoCard
end Rows
end Go.Proofs.YtbcddiaplpbhjaaDoor
