/-
  DERIVED. GIVEN WITH THE SEED: THE CARDS: each row of YtikhgdbbbingbaaDoorRows.lean that lists a variable, with what it lists TIED to the program's text (the seventh form; the later family's looks); each row that meets fmt, with fmt's text TOLD by the authors' own Lean function (tested against real Go, not proved from fmt's source: count such statements apart). THE CARD IS WHAT COUNTS. Prove the row's statement (the work); the ties are given (YtikhgdbbbingbaaDoorTie.lean); close each card by the builder's one call (the guide's Derived/Test/ToyasCard.lean, 'card_holds'). Laid BY PROGRAM, IN A SANDBOX (cutbox-door.mjs). By AI agents, Wed Nov 11 2026. No macro, syntax, notation, axiom, sorry.
-/
import Derived.Test.YtikhgdbbbingbaaDoorRows
import GoSem.ClaimSeven
namespace Go.Proofs.YtikhgdbbbingbaaDoor
namespace Rows

/-- THE TIED CARD OF 'bivouaclaw03.TrigSines'. -/
def trigSinesCard : Claim7 := { stood := { row := trigSinesRow, standIns := [], harness := (true, "2b91285c29bfd502b06ed9f92536428fc5ef98776e6dd5a9a9077f918fd13c79"), looks := false }, kinds := [], alts := [], laidByText := true, laidKinds := [.data, .data], laidTests := true, laidLooks := .later }
def TrigSinesCardSaid : Prop := Claim7.holds Tryd.pinned (.plain (OpenSpec.ofChange trigSinesSpec)) trigSinesCard

/-- THE TIED CARD OF 'bivouaclaw03.TrigMirrors'. -/
def trigMirrorsCard : Claim7 := { stood := { row := trigMirrorsRow, standIns := [], harness := (true, "2b91285c29bfd502b06ed9f92536428fc5ef98776e6dd5a9a9077f918fd13c79"), looks := false }, kinds := [], alts := [], laidByText := true, laidKinds := [.data], laidTests := true, laidLooks := .later }
def TrigMirrorsCardSaid : Prop := Claim7.holds Tryd.pinned (.plain (OpenSpec.ofChange trigMirrorsSpec)) trigMirrorsCard

/-- THE TIED CARD OF 'bivouaclaw03.TrigRises'. -/
def trigRisesCard : Claim7 := { stood := { row := trigRisesRow, standIns := [], harness := (true, "2b91285c29bfd502b06ed9f92536428fc5ef98776e6dd5a9a9077f918fd13c79"), looks := false }, kinds := [], alts := [], laidByText := true, laidKinds := [.data], laidTests := true, laidLooks := .later }
def TrigRisesCardSaid : Prop := Claim7.holds Tryd.pinned (.plain (OpenSpec.ofChange trigRisesSpec)) trigRisesCard

/-- THE TIED CARD OF 'bivouaclaw03.TrigHeads'. -/
def trigHeadsCard : Claim7 := { stood := { row := trigHeadsRow, standIns := [], harness := (true, "2b91285c29bfd502b06ed9f92536428fc5ef98776e6dd5a9a9077f918fd13c79"), looks := false }, kinds := [], alts := [], laidByText := true, laidKinds := [.data, .data], laidTests := true, laidLooks := .later }
def TrigHeadsCardSaid : Prop := Claim7.holds Tryd.pinned (.plain (OpenSpec.ofChange trigHeadsSpec)) trigHeadsCard

/-- THE TIED CARD OF 'bivouaclaw03.TrigTurns'. -/
def trigTurnsCard : Claim7 := { stood := { row := trigTurnsRow, standIns := [], harness := (true, "2b91285c29bfd502b06ed9f92536428fc5ef98776e6dd5a9a9077f918fd13c79"), looks := false }, kinds := [], alts := [], laidByText := true, laidKinds := [.data], laidTests := true, laidLooks := .later }
def TrigTurnsCardSaid : Prop := Claim7.holds Tryd.pinned (.plain (OpenSpec.ofChange trigTurnsSpec)) trigTurnsCard

/-- THE TIED CARD OF 'bivouaclaw03.TrigCloses'. -/
def trigClosesCard : Claim7 := { stood := { row := trigClosesRow, standIns := [], harness := (true, "2b91285c29bfd502b06ed9f92536428fc5ef98776e6dd5a9a9077f918fd13c79"), looks := false }, kinds := [], alts := [], laidByText := true, laidKinds := [.data], laidTests := true, laidLooks := .later }
def TrigClosesCardSaid : Prop := Claim7.holds Tryd.pinned (.plain (OpenSpec.ofChange trigClosesSpec)) trigClosesCard

/-- THE TIED CARD OF 'bivouaclaw03.TrigVecs'. -/
def trigVecsCard : Claim7 := { stood := { row := trigVecsRow, standIns := [], harness := (true, "2b91285c29bfd502b06ed9f92536428fc5ef98776e6dd5a9a9077f918fd13c79"), looks := false }, kinds := [], alts := [], laidByText := true, laidKinds := [.data, .data], laidTests := true, laidLooks := .later }
def TrigVecsCardSaid : Prop := Claim7.holds Tryd.pinned (.plain (OpenSpec.ofChange trigVecsSpec)) trigVecsCard

/-- THE SECOND FORM's CARD OF 'bivouaclaw03.TrigSines'. -/
def trigSinesUptoCard : Claim7 := { stood := { row := trigSinesUptoRow, standIns := [], harness := (true, "2b91285c29bfd502b06ed9f92536428fc5ef98776e6dd5a9a9077f918fd13c79"), looks := false }, kinds := [], alts := [], laidByText := true, laidKinds := [.data, .data], laidTests := true, laidLooks := .later }
def TrigSinesUptoCardSaid : Prop := Claim7.holds Tryd.pinned (.plain (OpenSpec.upto trigSinesSpec)) trigSinesUptoCard

/-- THE SECOND FORM's CARD OF 'bivouaclaw03.TrigMirrors'. -/
def trigMirrorsUptoCard : Claim7 := { stood := { row := trigMirrorsUptoRow, standIns := [], harness := (true, "2b91285c29bfd502b06ed9f92536428fc5ef98776e6dd5a9a9077f918fd13c79"), looks := false }, kinds := [], alts := [], laidByText := true, laidKinds := [.data], laidTests := true, laidLooks := .later }
def TrigMirrorsUptoCardSaid : Prop := Claim7.holds Tryd.pinned (.plain (OpenSpec.upto trigMirrorsSpec)) trigMirrorsUptoCard

/-- THE SECOND FORM's CARD OF 'bivouaclaw03.TrigRises'. -/
def trigRisesUptoCard : Claim7 := { stood := { row := trigRisesUptoRow, standIns := [], harness := (true, "2b91285c29bfd502b06ed9f92536428fc5ef98776e6dd5a9a9077f918fd13c79"), looks := false }, kinds := [], alts := [], laidByText := true, laidKinds := [.data], laidTests := true, laidLooks := .later }
def TrigRisesUptoCardSaid : Prop := Claim7.holds Tryd.pinned (.plain (OpenSpec.upto trigRisesSpec)) trigRisesUptoCard

/-- THE SECOND FORM's CARD OF 'bivouaclaw03.TrigHeads'. -/
def trigHeadsUptoCard : Claim7 := { stood := { row := trigHeadsUptoRow, standIns := [], harness := (true, "2b91285c29bfd502b06ed9f92536428fc5ef98776e6dd5a9a9077f918fd13c79"), looks := false }, kinds := [], alts := [], laidByText := true, laidKinds := [.data, .data], laidTests := true, laidLooks := .later }
def TrigHeadsUptoCardSaid : Prop := Claim7.holds Tryd.pinned (.plain (OpenSpec.upto trigHeadsSpec)) trigHeadsUptoCard

/-- THE SECOND FORM's CARD OF 'bivouaclaw03.TrigTurns'. -/
def trigTurnsUptoCard : Claim7 := { stood := { row := trigTurnsUptoRow, standIns := [], harness := (true, "2b91285c29bfd502b06ed9f92536428fc5ef98776e6dd5a9a9077f918fd13c79"), looks := false }, kinds := [], alts := [], laidByText := true, laidKinds := [.data], laidTests := true, laidLooks := .later }
def TrigTurnsUptoCardSaid : Prop := Claim7.holds Tryd.pinned (.plain (OpenSpec.upto trigTurnsSpec)) trigTurnsUptoCard

/-- THE SECOND FORM's CARD OF 'bivouaclaw03.TrigCloses'. -/
def trigClosesUptoCard : Claim7 := { stood := { row := trigClosesUptoRow, standIns := [], harness := (true, "2b91285c29bfd502b06ed9f92536428fc5ef98776e6dd5a9a9077f918fd13c79"), looks := false }, kinds := [], alts := [], laidByText := true, laidKinds := [.data], laidTests := true, laidLooks := .later }
def TrigClosesUptoCardSaid : Prop := Claim7.holds Tryd.pinned (.plain (OpenSpec.upto trigClosesSpec)) trigClosesUptoCard

/-- THE SECOND FORM's CARD OF 'bivouaclaw03.TrigVecs'. -/
def trigVecsUptoCard : Claim7 := { stood := { row := trigVecsUptoRow, standIns := [], harness := (true, "2b91285c29bfd502b06ed9f92536428fc5ef98776e6dd5a9a9077f918fd13c79"), looks := false }, kinds := [], alts := [], laidByText := true, laidKinds := [.data, .data], laidTests := true, laidLooks := .later }
def TrigVecsUptoCardSaid : Prop := Claim7.holds Tryd.pinned (.plain (OpenSpec.upto trigVecsSpec)) trigVecsUptoCard
end Rows
end Go.Proofs.YtikhgdbbbingbaaDoor
