/-
  DERIVED. GIVEN WITH THE SEED: THE CARDS: each row of YtfnopgdcaanaiaaGreatDoorRows.lean that lists a variable, with what it lists TIED to the program's text (the seventh form; the later family's looks); each row that meets fmt, with fmt's text TOLD by the authors' own Lean function (tested against real Go, not proved from fmt's source: count such statements apart). THE CARD IS WHAT COUNTS. Prove the row's statement (the work); the ties are given (YtfnopgdcaanaiaaGreatDoorTie.lean); close each card by the builder's one call (the guide's Derived/Test/ToyasCard.lean, 'card_holds'). Laid BY PROGRAM, IN A SANDBOX (cutbox-door.mjs). By AI agents, Wed Nov 11 2026. No macro, syntax, notation, axiom, sorry.
-/
import Derived.Test.YtfnopgdcaanaiaaGreatDoorRows
import GoSem.ClaimSeven
namespace Go.Proofs.YtfnopgdcaanaiaaGreatDoor
namespace Rows

/-- THE TIED CARD OF 'nameplanlaw23.HoldsExact'. -/
def holdsExactCard : Claim7 := { stood := { row := holdsExactRow, standIns := [], harness := (true, "3142b394e04124f87f129d8b7d4b48ae36d69fc9d738104ce9f3310d863a9d3c"), looks := false }, kinds := [], alts := [], laidByText := true, laidKinds := [.data, .data, .data, .data], laidTests := true, laidLooks := .later }
def HoldsExactCardSaid : Prop := Claim7.holds Tryz.pinned (.plain (OpenSpec.ofChange holdsExactSpec)) holdsExactCard

/-- THE TIED CARD OF 'nameplanlaw23.HoldsSpans'. -/
def holdsSpansCard : Claim7 := { stood := { row := holdsSpansRow, standIns := [], harness := (true, "3142b394e04124f87f129d8b7d4b48ae36d69fc9d738104ce9f3310d863a9d3c"), looks := false }, kinds := [], alts := [], laidByText := true, laidKinds := [.data, .data, .data, .data], laidTests := true, laidLooks := .later }
def HoldsSpansCardSaid : Prop := Claim7.holds Tryz.pinned (.plain (OpenSpec.ofChange holdsSpansSpec)) holdsSpansCard

/-- THE TIED CARD OF 'nameplanlaw23.HoldsLater'. -/
def holdsLaterCard : Claim7 := { stood := { row := holdsLaterRow, standIns := [], harness := (true, "3142b394e04124f87f129d8b7d4b48ae36d69fc9d738104ce9f3310d863a9d3c"), looks := false }, kinds := [], alts := [], laidByText := true, laidKinds := [.data, .data, .data, .data], laidTests := true, laidLooks := .later }
def HoldsLaterCardSaid : Prop := Claim7.holds Tryz.pinned (.plain (OpenSpec.ofChange holdsLaterSpec)) holdsLaterCard

/-- THE TIED CARD OF 'nameplanlaw23.HoldsKept'. -/
def holdsKeptCard : Claim7 := { stood := { row := holdsKeptRow, standIns := [], harness := (true, "3142b394e04124f87f129d8b7d4b48ae36d69fc9d738104ce9f3310d863a9d3c"), looks := false }, kinds := [], alts := [], laidByText := true, laidKinds := [.data, .data, .data, .data], laidTests := true, laidLooks := .later }
def HoldsKeptCardSaid : Prop := Claim7.holds Tryz.pinned (.plain (OpenSpec.ofChange holdsKeptSpec)) holdsKeptCard

/-- THE TIED CARD OF 'nameplanlaw23.HoldsMatchesReference'. -/
def holdsMatchesReferenceCard : Claim7 := { stood := { row := holdsMatchesReferenceRow, standIns := [], harness := (true, "3142b394e04124f87f129d8b7d4b48ae36d69fc9d738104ce9f3310d863a9d3c"), looks := false }, kinds := [], alts := [], laidByText := true, laidKinds := [.data, .data, .data, .data], laidTests := true, laidLooks := .later }
def HoldsMatchesReferenceCardSaid : Prop := Claim7.holds Tryz.pinned (.plain (OpenSpec.ofChange holdsMatchesReferenceSpec)) holdsMatchesReferenceCard

/-- THE TIED CARD OF 'nameplanlaw23.HoldsAllowed'. -/
def holdsAllowedCard : Claim7 := { stood := { row := holdsAllowedRow, standIns := [], harness := (true, "3142b394e04124f87f129d8b7d4b48ae36d69fc9d738104ce9f3310d863a9d3c"), looks := false }, kinds := [], alts := [], laidByText := true, laidKinds := [.data, .data, .data, .data], laidTests := true, laidLooks := .later }
def HoldsAllowedCardSaid : Prop := Claim7.holds Tryz.pinned (.plain (OpenSpec.ofChange holdsAllowedSpec)) holdsAllowedCard

/-- THE TIED CARD OF 'nameplanlaw25.ResignMatchesReference'. -/
def resignMatchesReferenceCard : Claim7 := { stood := { row := resignMatchesReferenceRow, standIns := [], harness := (true, "3142b394e04124f87f129d8b7d4b48ae36d69fc9d738104ce9f3310d863a9d3c"), looks := false }, kinds := [], alts := [], laidByText := true, laidKinds := [.data, .data, .data, .data], laidTests := true, laidLooks := .later }
def ResignMatchesReferenceCardSaid : Prop := Claim7.holds Tryz.pinned (.plain (OpenSpec.ofChange resignMatchesReferenceSpec)) resignMatchesReferenceCard

/-- THE TIED CARD OF 'nameplanlaw25.ResignGaps'. -/
def resignGapsCard : Claim7 := { stood := { row := resignGapsRow, standIns := [], harness := (true, "3142b394e04124f87f129d8b7d4b48ae36d69fc9d738104ce9f3310d863a9d3c"), looks := false }, kinds := [], alts := [], laidByText := true, laidKinds := [.data, .data, .data, .data], laidTests := true, laidLooks := .later }
def ResignGapsCardSaid : Prop := Claim7.holds Tryz.pinned (.plain (OpenSpec.ofChange resignGapsSpec)) resignGapsCard

/-- THE TIED CARD OF 'nameplanlaw25.ResignTimes'. -/
def resignTimesCard : Claim7 := { stood := { row := resignTimesRow, standIns := [], harness := (true, "3142b394e04124f87f129d8b7d4b48ae36d69fc9d738104ce9f3310d863a9d3c"), looks := false }, kinds := [], alts := [], laidByText := true, laidKinds := [.data, .data, .data, .data], laidTests := true, laidLooks := .later }
def ResignTimesCardSaid : Prop := Claim7.holds Tryz.pinned (.plain (OpenSpec.ofChange resignTimesSpec)) resignTimesCard

/-- THE TIED CARD OF 'nameplanlaw21.HistoryServing'. -/
def historyServingCard : Claim7 := { stood := { row := historyServingRow, standIns := [], harness := (true, "3142b394e04124f87f129d8b7d4b48ae36d69fc9d738104ce9f3310d863a9d3c"), looks := false }, kinds := [], alts := [], laidByText := true, laidKinds := [.data, .data, .data, .data], laidTests := true, laidLooks := .later }
def HistoryServingCardSaid : Prop := Claim7.holds Tryz.pinned (.plain (OpenSpec.ofChange historyServingSpec)) historyServingCard

/-- THE SECOND FORM's CARD OF 'nameplanlaw23.HoldsExact'. -/
def holdsExactUptoCard : Claim7 := { stood := { row := holdsExactUptoRow, standIns := [], harness := (true, "3142b394e04124f87f129d8b7d4b48ae36d69fc9d738104ce9f3310d863a9d3c"), looks := false }, kinds := [], alts := [], laidByText := true, laidKinds := [.data, .data, .data, .data], laidTests := true, laidLooks := .later }
def HoldsExactUptoCardSaid : Prop := Claim7.holds Tryz.pinned (.plain (OpenSpec.upto holdsExactSpec)) holdsExactUptoCard

/-- THE SECOND FORM's CARD OF 'nameplanlaw23.HoldsSpans'. -/
def holdsSpansUptoCard : Claim7 := { stood := { row := holdsSpansUptoRow, standIns := [], harness := (true, "3142b394e04124f87f129d8b7d4b48ae36d69fc9d738104ce9f3310d863a9d3c"), looks := false }, kinds := [], alts := [], laidByText := true, laidKinds := [.data, .data, .data, .data], laidTests := true, laidLooks := .later }
def HoldsSpansUptoCardSaid : Prop := Claim7.holds Tryz.pinned (.plain (OpenSpec.upto holdsSpansSpec)) holdsSpansUptoCard

/-- THE SECOND FORM's CARD OF 'nameplanlaw23.HoldsLater'. -/
def holdsLaterUptoCard : Claim7 := { stood := { row := holdsLaterUptoRow, standIns := [], harness := (true, "3142b394e04124f87f129d8b7d4b48ae36d69fc9d738104ce9f3310d863a9d3c"), looks := false }, kinds := [], alts := [], laidByText := true, laidKinds := [.data, .data, .data, .data], laidTests := true, laidLooks := .later }
def HoldsLaterUptoCardSaid : Prop := Claim7.holds Tryz.pinned (.plain (OpenSpec.upto holdsLaterSpec)) holdsLaterUptoCard

/-- THE SECOND FORM's CARD OF 'nameplanlaw23.HoldsKept'. -/
def holdsKeptUptoCard : Claim7 := { stood := { row := holdsKeptUptoRow, standIns := [], harness := (true, "3142b394e04124f87f129d8b7d4b48ae36d69fc9d738104ce9f3310d863a9d3c"), looks := false }, kinds := [], alts := [], laidByText := true, laidKinds := [.data, .data, .data, .data], laidTests := true, laidLooks := .later }
def HoldsKeptUptoCardSaid : Prop := Claim7.holds Tryz.pinned (.plain (OpenSpec.upto holdsKeptSpec)) holdsKeptUptoCard

/-- THE SECOND FORM's CARD OF 'nameplanlaw23.HoldsMatchesReference'. -/
def holdsMatchesReferenceUptoCard : Claim7 := { stood := { row := holdsMatchesReferenceUptoRow, standIns := [], harness := (true, "3142b394e04124f87f129d8b7d4b48ae36d69fc9d738104ce9f3310d863a9d3c"), looks := false }, kinds := [], alts := [], laidByText := true, laidKinds := [.data, .data, .data, .data], laidTests := true, laidLooks := .later }
def HoldsMatchesReferenceUptoCardSaid : Prop := Claim7.holds Tryz.pinned (.plain (OpenSpec.upto holdsMatchesReferenceSpec)) holdsMatchesReferenceUptoCard

/-- THE SECOND FORM's CARD OF 'nameplanlaw23.HoldsAllowed'. -/
def holdsAllowedUptoCard : Claim7 := { stood := { row := holdsAllowedUptoRow, standIns := [], harness := (true, "3142b394e04124f87f129d8b7d4b48ae36d69fc9d738104ce9f3310d863a9d3c"), looks := false }, kinds := [], alts := [], laidByText := true, laidKinds := [.data, .data, .data, .data], laidTests := true, laidLooks := .later }
def HoldsAllowedUptoCardSaid : Prop := Claim7.holds Tryz.pinned (.plain (OpenSpec.upto holdsAllowedSpec)) holdsAllowedUptoCard

/-- THE SECOND FORM's CARD OF 'nameplanlaw25.ResignMatchesReference'. -/
def resignMatchesReferenceUptoCard : Claim7 := { stood := { row := resignMatchesReferenceUptoRow, standIns := [], harness := (true, "3142b394e04124f87f129d8b7d4b48ae36d69fc9d738104ce9f3310d863a9d3c"), looks := false }, kinds := [], alts := [], laidByText := true, laidKinds := [.data, .data, .data, .data], laidTests := true, laidLooks := .later }
def ResignMatchesReferenceUptoCardSaid : Prop := Claim7.holds Tryz.pinned (.plain (OpenSpec.upto resignMatchesReferenceSpec)) resignMatchesReferenceUptoCard

/-- THE SECOND FORM's CARD OF 'nameplanlaw25.ResignGaps'. -/
def resignGapsUptoCard : Claim7 := { stood := { row := resignGapsUptoRow, standIns := [], harness := (true, "3142b394e04124f87f129d8b7d4b48ae36d69fc9d738104ce9f3310d863a9d3c"), looks := false }, kinds := [], alts := [], laidByText := true, laidKinds := [.data, .data, .data, .data], laidTests := true, laidLooks := .later }
def ResignGapsUptoCardSaid : Prop := Claim7.holds Tryz.pinned (.plain (OpenSpec.upto resignGapsSpec)) resignGapsUptoCard

/-- THE SECOND FORM's CARD OF 'nameplanlaw25.ResignTimes'. -/
def resignTimesUptoCard : Claim7 := { stood := { row := resignTimesUptoRow, standIns := [], harness := (true, "3142b394e04124f87f129d8b7d4b48ae36d69fc9d738104ce9f3310d863a9d3c"), looks := false }, kinds := [], alts := [], laidByText := true, laidKinds := [.data, .data, .data, .data], laidTests := true, laidLooks := .later }
def ResignTimesUptoCardSaid : Prop := Claim7.holds Tryz.pinned (.plain (OpenSpec.upto resignTimesSpec)) resignTimesUptoCard

/-- THE SECOND FORM's CARD OF 'nameplanlaw21.HistoryServing'. -/
def historyServingUptoCard : Claim7 := { stood := { row := historyServingUptoRow, standIns := [], harness := (true, "3142b394e04124f87f129d8b7d4b48ae36d69fc9d738104ce9f3310d863a9d3c"), looks := false }, kinds := [], alts := [], laidByText := true, laidKinds := [.data, .data, .data, .data], laidTests := true, laidLooks := .later }
def HistoryServingUptoCardSaid : Prop := Claim7.holds Tryz.pinned (.plain (OpenSpec.upto historyServingSpec)) historyServingUptoCard
end Rows
end Go.Proofs.YtfnopgdcaanaiaaGreatDoor
