/-
  DERIVED. GIVEN WITH THE SEED: THE CARDS: each row of YtnbolgdccdnjeaaGreatDoorRows.lean that lists a variable, with what it lists TIED to the program's text (the seventh form; the later family's looks); each row that meets fmt, with fmt's text TOLD by the authors' own Lean function (tested against real Go, not proved from fmt's source: count such statements apart). THE CARD IS WHAT COUNTS. Prove the row's statement (the work); the ties are given (YtnbolgdccdnjeaaGreatDoorTie.lean); close each card by the builder's one call (the guide's Derived/Test/ToyasCard.lean, 'card_holds'). Laid BY PROGRAM, IN A SANDBOX (cutbox-door.mjs). By AI agents, Wed Nov 11 2026. No macro, syntax, notation, axiom, sorry.
-/
import Derived.Test.YtnbolgdccdnjeaaGreatDoorRows
import GoSem.ClaimSeven
namespace Go.Proofs.YtnbolgdccdnjeaaGreatDoor
namespace Rows

/-- THE TIED CARD OF 'nameplanlaw05.PrinterMatchesReference'. -/
def printerMatchesReferenceCard : Claim7 := { stood := { row := printerMatchesReferenceRow, standIns := [], harness := (true, "41e4e0503a3a325a34f1cbddf1f91dc603957489e41dc2b07448470128d6f62f"), looks := true }, kinds := [], alts := [], laidByText := true, laidKinds := [.data, .data, .data, .data, .sentinel, .sentinel, .data, .data, .pinned], laidTests := true, laidLooks := .later }
def PrinterMatchesReferenceCardSaid : Prop := Claim7.holds Tryz.pinned (.plain (OpenSpec.ofChange printerMatchesReferenceSpec)) printerMatchesReferenceCard

/-- THE TIED CARD OF 'nameplanlaw05.PrinterRefuses'. -/
def printerRefusesCard : Claim7 := { stood := { row := printerRefusesRow, standIns := [], harness := (true, "41e4e0503a3a325a34f1cbddf1f91dc603957489e41dc2b07448470128d6f62f"), looks := true }, kinds := [], alts := [], laidByText := true, laidKinds := [.data, .data, .data, .data, .sentinel, .sentinel, .data, .data, .pinned], laidTests := true, laidLooks := .later }
def PrinterRefusesCardSaid : Prop := Claim7.holds Tryz.pinned (.plain (OpenSpec.ofChange printerRefusesSpec)) printerRefusesCard

/-- THE TIED CARD OF 'nameplanlaw05.PrinterNext'. -/
def printerNextCard : Claim7 := { stood := { row := printerNextRow, standIns := [], harness := (true, "41e4e0503a3a325a34f1cbddf1f91dc603957489e41dc2b07448470128d6f62f"), looks := true }, kinds := [], alts := [], laidByText := true, laidKinds := [.data, .data, .data, .data, .sentinel, .sentinel, .data, .data, .pinned], laidTests := true, laidLooks := .later }
def PrinterNextCardSaid : Prop := Claim7.holds Tryz.pinned (.plain (OpenSpec.ofChange printerNextSpec)) printerNextCard

/-- THE TIED CARD OF 'nameplanlaw05.PrinterParts'. -/
def printerPartsCard : Claim7 := { stood := { row := printerPartsRow, standIns := [], harness := (true, "41e4e0503a3a325a34f1cbddf1f91dc603957489e41dc2b07448470128d6f62f"), looks := true }, kinds := [], alts := [], laidByText := true, laidKinds := [.data, .data, .data, .data, .sentinel, .sentinel, .data, .data, .pinned], laidTests := true, laidLooks := .later }
def PrinterPartsCardSaid : Prop := Claim7.holds Tryz.pinned (.plain (OpenSpec.ofChange printerPartsSpec)) printerPartsCard

/-- THE TIED CARD OF 'nameplanlaw04.ParserZones'. -/
def parserZonesCard : Claim7 := { stood := { row := parserZonesRow, standIns := [], harness := (true, "41e4e0503a3a325a34f1cbddf1f91dc603957489e41dc2b07448470128d6f62f"), looks := true }, kinds := [], alts := [], laidByText := true, laidKinds := [.data, .data, .data, .data, .sentinel, .sentinel, .data, .pinned], laidTests := true, laidLooks := .later }
def ParserZonesCardSaid : Prop := Claim7.holds Tryz.pinned (.plain (OpenSpec.ofChange parserZonesSpec)) parserZonesCard

/-- THE TIED CARD OF 'nameplanlaw04.ParserGaps'. -/
def parserGapsCard : Claim7 := { stood := { row := parserGapsRow, standIns := [], harness := (true, "41e4e0503a3a325a34f1cbddf1f91dc603957489e41dc2b07448470128d6f62f"), looks := true }, kinds := [], alts := [], laidByText := true, laidKinds := [.data, .data, .data, .data, .sentinel, .sentinel, .data, .pinned], laidTests := true, laidLooks := .later }
def ParserGapsCardSaid : Prop := Claim7.holds Tryz.pinned (.plain (OpenSpec.ofChange parserGapsSpec)) parserGapsCard

/-- THE TIED CARD OF 'nameplanlaw04.ParserOrder'. -/
def parserOrderCard : Claim7 := { stood := { row := parserOrderRow, standIns := [], harness := (true, "41e4e0503a3a325a34f1cbddf1f91dc603957489e41dc2b07448470128d6f62f"), looks := true }, kinds := [], alts := [], laidByText := true, laidKinds := [.data, .data, .data, .data, .sentinel, .sentinel, .data, .pinned], laidTests := true, laidLooks := .later }
def ParserOrderCardSaid : Prop := Claim7.holds Tryz.pinned (.plain (OpenSpec.ofChange parserOrderSpec)) parserOrderCard

/-- THE TIED CARD OF 'nameplanlaw04.ParserJoins'. -/
def parserJoinsCard : Claim7 := { stood := { row := parserJoinsRow, standIns := [], harness := (true, "41e4e0503a3a325a34f1cbddf1f91dc603957489e41dc2b07448470128d6f62f"), looks := true }, kinds := [], alts := [], laidByText := true, laidKinds := [.data, .data, .data, .data, .sentinel, .sentinel, .data, .pinned], laidTests := true, laidLooks := .later }
def ParserJoinsCardSaid : Prop := Claim7.holds Tryz.pinned (.plain (OpenSpec.ofChange parserJoinsSpec)) parserJoinsCard

/-- THE TIED CARD OF 'nameplanlaw04.ParserWrong'. -/
def parserWrongCard : Claim7 := { stood := { row := parserWrongRow, standIns := [], harness := (true, "41e4e0503a3a325a34f1cbddf1f91dc603957489e41dc2b07448470128d6f62f"), looks := true }, kinds := [], alts := [], laidByText := true, laidKinds := [.data, .data, .data, .data, .sentinel, .sentinel, .data, .pinned], laidTests := true, laidLooks := .later }
def ParserWrongCardSaid : Prop := Claim7.holds Tryz.pinned (.plain (OpenSpec.ofChange parserWrongSpec)) parserWrongCard

/-- THE TIED CARD OF 'nameplanlaw05.PrinterInverse'. -/
def printerInverseCard : Claim7 := { stood := { row := printerInverseRow, standIns := [], harness := (true, "41e4e0503a3a325a34f1cbddf1f91dc603957489e41dc2b07448470128d6f62f"), looks := true }, kinds := [], alts := [], laidByText := true, laidKinds := [.data, .data, .data, .data, .sentinel, .sentinel, .data, .data, .pinned], laidTests := true, laidLooks := .later }
def PrinterInverseCardSaid : Prop := Claim7.holds Tryz.pinned (.plain (OpenSpec.ofChange printerInverseSpec)) printerInverseCard

/-- THE TIED CARD OF 'nameplanlaw05.PrinterCanonical'. -/
def printerCanonicalCard : Claim7 := { stood := { row := printerCanonicalRow, standIns := [], harness := (true, "41e4e0503a3a325a34f1cbddf1f91dc603957489e41dc2b07448470128d6f62f"), looks := true }, kinds := [], alts := [], laidByText := true, laidKinds := [.data, .data, .data, .data, .sentinel, .sentinel, .data, .data, .pinned], laidTests := true, laidLooks := .later }
def PrinterCanonicalCardSaid : Prop := Claim7.holds Tryz.pinned (.plain (OpenSpec.ofChange printerCanonicalSpec)) printerCanonicalCard

/-- THE SECOND FORM's CARD OF 'nameplanlaw05.PrinterMatchesReference'. -/
def printerMatchesReferenceUptoCard : Claim7 := { stood := { row := printerMatchesReferenceUptoRow, standIns := [], harness := (true, "41e4e0503a3a325a34f1cbddf1f91dc603957489e41dc2b07448470128d6f62f"), looks := true }, kinds := [], alts := [], laidByText := true, laidKinds := [.data, .data, .data, .data, .sentinel, .sentinel, .data, .data, .pinned], laidTests := true, laidLooks := .later }
def PrinterMatchesReferenceUptoCardSaid : Prop := Claim7.holds Tryz.pinned (.plain (OpenSpec.upto printerMatchesReferenceSpec)) printerMatchesReferenceUptoCard

/-- THE SECOND FORM's CARD OF 'nameplanlaw05.PrinterRefuses'. -/
def printerRefusesUptoCard : Claim7 := { stood := { row := printerRefusesUptoRow, standIns := [], harness := (true, "41e4e0503a3a325a34f1cbddf1f91dc603957489e41dc2b07448470128d6f62f"), looks := true }, kinds := [], alts := [], laidByText := true, laidKinds := [.data, .data, .data, .data, .sentinel, .sentinel, .data, .data, .pinned], laidTests := true, laidLooks := .later }
def PrinterRefusesUptoCardSaid : Prop := Claim7.holds Tryz.pinned (.plain (OpenSpec.upto printerRefusesSpec)) printerRefusesUptoCard

/-- THE SECOND FORM's CARD OF 'nameplanlaw05.PrinterNext'. -/
def printerNextUptoCard : Claim7 := { stood := { row := printerNextUptoRow, standIns := [], harness := (true, "41e4e0503a3a325a34f1cbddf1f91dc603957489e41dc2b07448470128d6f62f"), looks := true }, kinds := [], alts := [], laidByText := true, laidKinds := [.data, .data, .data, .data, .sentinel, .sentinel, .data, .data, .pinned], laidTests := true, laidLooks := .later }
def PrinterNextUptoCardSaid : Prop := Claim7.holds Tryz.pinned (.plain (OpenSpec.upto printerNextSpec)) printerNextUptoCard

/-- THE SECOND FORM's CARD OF 'nameplanlaw05.PrinterParts'. -/
def printerPartsUptoCard : Claim7 := { stood := { row := printerPartsUptoRow, standIns := [], harness := (true, "41e4e0503a3a325a34f1cbddf1f91dc603957489e41dc2b07448470128d6f62f"), looks := true }, kinds := [], alts := [], laidByText := true, laidKinds := [.data, .data, .data, .data, .sentinel, .sentinel, .data, .data, .pinned], laidTests := true, laidLooks := .later }
def PrinterPartsUptoCardSaid : Prop := Claim7.holds Tryz.pinned (.plain (OpenSpec.upto printerPartsSpec)) printerPartsUptoCard

/-- THE SECOND FORM's CARD OF 'nameplanlaw04.ParserZones'. -/
def parserZonesUptoCard : Claim7 := { stood := { row := parserZonesUptoRow, standIns := [], harness := (true, "41e4e0503a3a325a34f1cbddf1f91dc603957489e41dc2b07448470128d6f62f"), looks := true }, kinds := [], alts := [], laidByText := true, laidKinds := [.data, .data, .data, .data, .sentinel, .sentinel, .data, .pinned], laidTests := true, laidLooks := .later }
def ParserZonesUptoCardSaid : Prop := Claim7.holds Tryz.pinned (.plain (OpenSpec.upto parserZonesSpec)) parserZonesUptoCard

/-- THE SECOND FORM's CARD OF 'nameplanlaw04.ParserGaps'. -/
def parserGapsUptoCard : Claim7 := { stood := { row := parserGapsUptoRow, standIns := [], harness := (true, "41e4e0503a3a325a34f1cbddf1f91dc603957489e41dc2b07448470128d6f62f"), looks := true }, kinds := [], alts := [], laidByText := true, laidKinds := [.data, .data, .data, .data, .sentinel, .sentinel, .data, .pinned], laidTests := true, laidLooks := .later }
def ParserGapsUptoCardSaid : Prop := Claim7.holds Tryz.pinned (.plain (OpenSpec.upto parserGapsSpec)) parserGapsUptoCard

/-- THE SECOND FORM's CARD OF 'nameplanlaw04.ParserOrder'. -/
def parserOrderUptoCard : Claim7 := { stood := { row := parserOrderUptoRow, standIns := [], harness := (true, "41e4e0503a3a325a34f1cbddf1f91dc603957489e41dc2b07448470128d6f62f"), looks := true }, kinds := [], alts := [], laidByText := true, laidKinds := [.data, .data, .data, .data, .sentinel, .sentinel, .data, .pinned], laidTests := true, laidLooks := .later }
def ParserOrderUptoCardSaid : Prop := Claim7.holds Tryz.pinned (.plain (OpenSpec.upto parserOrderSpec)) parserOrderUptoCard

/-- THE SECOND FORM's CARD OF 'nameplanlaw04.ParserJoins'. -/
def parserJoinsUptoCard : Claim7 := { stood := { row := parserJoinsUptoRow, standIns := [], harness := (true, "41e4e0503a3a325a34f1cbddf1f91dc603957489e41dc2b07448470128d6f62f"), looks := true }, kinds := [], alts := [], laidByText := true, laidKinds := [.data, .data, .data, .data, .sentinel, .sentinel, .data, .pinned], laidTests := true, laidLooks := .later }
def ParserJoinsUptoCardSaid : Prop := Claim7.holds Tryz.pinned (.plain (OpenSpec.upto parserJoinsSpec)) parserJoinsUptoCard

/-- THE SECOND FORM's CARD OF 'nameplanlaw04.ParserWrong'. -/
def parserWrongUptoCard : Claim7 := { stood := { row := parserWrongUptoRow, standIns := [], harness := (true, "41e4e0503a3a325a34f1cbddf1f91dc603957489e41dc2b07448470128d6f62f"), looks := true }, kinds := [], alts := [], laidByText := true, laidKinds := [.data, .data, .data, .data, .sentinel, .sentinel, .data, .pinned], laidTests := true, laidLooks := .later }
def ParserWrongUptoCardSaid : Prop := Claim7.holds Tryz.pinned (.plain (OpenSpec.upto parserWrongSpec)) parserWrongUptoCard

/-- THE SECOND FORM's CARD OF 'nameplanlaw05.PrinterInverse'. -/
def printerInverseUptoCard : Claim7 := { stood := { row := printerInverseUptoRow, standIns := [], harness := (true, "41e4e0503a3a325a34f1cbddf1f91dc603957489e41dc2b07448470128d6f62f"), looks := true }, kinds := [], alts := [], laidByText := true, laidKinds := [.data, .data, .data, .data, .sentinel, .sentinel, .data, .data, .pinned], laidTests := true, laidLooks := .later }
def PrinterInverseUptoCardSaid : Prop := Claim7.holds Tryz.pinned (.plain (OpenSpec.upto printerInverseSpec)) printerInverseUptoCard

/-- THE SECOND FORM's CARD OF 'nameplanlaw05.PrinterCanonical'. -/
def printerCanonicalUptoCard : Claim7 := { stood := { row := printerCanonicalUptoRow, standIns := [], harness := (true, "41e4e0503a3a325a34f1cbddf1f91dc603957489e41dc2b07448470128d6f62f"), looks := true }, kinds := [], alts := [], laidByText := true, laidKinds := [.data, .data, .data, .data, .sentinel, .sentinel, .data, .data, .pinned], laidTests := true, laidLooks := .later }
def PrinterCanonicalUptoCardSaid : Prop := Claim7.holds Tryz.pinned (.plain (OpenSpec.upto printerCanonicalSpec)) printerCanonicalUptoCard
end Rows
end Go.Proofs.YtnbolgdccdnjeaaGreatDoor
