/-
  DERIVED. GIVEN WITH THE SEED: THE CARDS: each row of YtbfbobfbgabjiaaGreatDoorRows.lean that lists a variable, with what it lists TIED to the program's text (the seventh form; the later family's looks); each row that meets fmt, with fmt's text TOLD by the authors' own Lean function (tested against real Go, not proved from fmt's source: count such statements apart). THE CARD IS WHAT COUNTS. Prove the row's statement (the work); the ties are given (YtbfbobfbgabjiaaGreatDoorTie.lean); close each card by the builder's one call (the guide's Derived/Test/ToyasCard.lean, 'card_holds'). Laid BY PROGRAM, IN A SANDBOX (cutbox-door.mjs). By AI agents, Wed Nov 11 2026. No macro, syntax, notation, axiom, sorry.
-/
import Derived.Test.YtbfbobfbgabjiaaGreatDoorRows
import GoSem.ClaimSeven
namespace Go.Proofs.YtbfbobfbgabjiaaGreatDoor
namespace Rows

/-- THE TIED CARD OF 'nameplanlaw21.HistoryMatchesReference'. -/
def historyMatchesReferenceCard : Claim7 := { stood := { row := historyMatchesReferenceRow, standIns := [], harness := (true, "fb06dc5ea7b537705af9cbfa108169ad8224ca737b5861815d1d7342e52bb9ee"), looks := false }, kinds := [], alts := [], laidByText := true, laidKinds := [.data, .data, .data, .data], laidTests := true, laidLooks := .later }
def HistoryMatchesReferenceCardSaid : Prop := Claim7.holds Tryz.pinned (.plain (OpenSpec.ofChange historyMatchesReferenceSpec)) historyMatchesReferenceCard

/-- THE TIED CARD OF 'nameplanlaw21.HistoryAt'. -/
def historyAtCard : Claim7 := { stood := { row := historyAtRow, standIns := [], harness := (true, "fb06dc5ea7b537705af9cbfa108169ad8224ca737b5861815d1d7342e52bb9ee"), looks := false }, kinds := [], alts := [], laidByText := true, laidKinds := [.data, .data, .data, .data], laidTests := true, laidLooks := .later }
def HistoryAtCardSaid : Prop := Claim7.holds Tryz.pinned (.plain (OpenSpec.ofChange historyAtSpec)) historyAtCard

/-- THE TIED CARD OF 'nameplanlaw21.HistoryParts'. -/
def historyPartsCard : Claim7 := { stood := { row := historyPartsRow, standIns := [], harness := (true, "fb06dc5ea7b537705af9cbfa108169ad8224ca737b5861815d1d7342e52bb9ee"), looks := false }, kinds := [], alts := [], laidByText := true, laidKinds := [.data, .data, .data, .data], laidTests := true, laidLooks := .later }
def HistoryPartsCardSaid : Prop := Claim7.holds Tryz.pinned (.plain (OpenSpec.ofChange historyPartsSpec)) historyPartsCard

/-- THE TIED CARD OF 'nameplanlaw21.HistoryOrder'. -/
def historyOrderCard : Claim7 := { stood := { row := historyOrderRow, standIns := [], harness := (true, "fb06dc5ea7b537705af9cbfa108169ad8224ca737b5861815d1d7342e52bb9ee"), looks := false }, kinds := [], alts := [], laidByText := true, laidKinds := [.data, .data, .data, .data], laidTests := true, laidLooks := .later }
def HistoryOrderCardSaid : Prop := Claim7.holds Tryz.pinned (.plain (OpenSpec.ofChange historyOrderSpec)) historyOrderCard

/-- THE TIED CARD OF 'nameplanlaw21.HistoryShorter'. -/
def historyShorterCard : Claim7 := { stood := { row := historyShorterRow, standIns := [], harness := (true, "fb06dc5ea7b537705af9cbfa108169ad8224ca737b5861815d1d7342e52bb9ee"), looks := false }, kinds := [], alts := [], laidByText := true, laidKinds := [.data, .data, .data, .data], laidTests := true, laidLooks := .later }
def HistoryShorterCardSaid : Prop := Claim7.holds Tryz.pinned (.plain (OpenSpec.ofChange historyShorterSpec)) historyShorterCard

/-- THE TIED CARD OF 'nameplanlaw21.HistoryPublished'. -/
def historyPublishedCard : Claim7 := { stood := { row := historyPublishedRow, standIns := [], harness := (true, "fb06dc5ea7b537705af9cbfa108169ad8224ca737b5861815d1d7342e52bb9ee"), looks := false }, kinds := [], alts := [], laidByText := true, laidKinds := [.data, .data, .data, .data], laidTests := true, laidLooks := .later }
def HistoryPublishedCardSaid : Prop := Claim7.holds Tryz.pinned (.plain (OpenSpec.ofChange historyPublishedSpec)) historyPublishedCard

/-- THE TIED CARD OF 'nameplanlaw21.HistoryServing'. -/
def historyServingCard : Claim7 := { stood := { row := historyServingRow, standIns := [], harness := (true, "fb06dc5ea7b537705af9cbfa108169ad8224ca737b5861815d1d7342e52bb9ee"), looks := false }, kinds := [], alts := [], laidByText := true, laidKinds := [.data, .data, .data, .data], laidTests := true, laidLooks := .later }
def HistoryServingCardSaid : Prop := Claim7.holds Tryz.pinned (.plain (OpenSpec.ofChange historyServingSpec)) historyServingCard

/-- THE SECOND FORM's CARD OF 'nameplanlaw21.HistoryMatchesReference'. -/
def historyMatchesReferenceUptoCard : Claim7 := { stood := { row := historyMatchesReferenceUptoRow, standIns := [], harness := (true, "fb06dc5ea7b537705af9cbfa108169ad8224ca737b5861815d1d7342e52bb9ee"), looks := false }, kinds := [], alts := [], laidByText := true, laidKinds := [.data, .data, .data, .data], laidTests := true, laidLooks := .later }
def HistoryMatchesReferenceUptoCardSaid : Prop := Claim7.holds Tryz.pinned (.plain (OpenSpec.upto historyMatchesReferenceSpec)) historyMatchesReferenceUptoCard

/-- THE SECOND FORM's CARD OF 'nameplanlaw21.HistoryAt'. -/
def historyAtUptoCard : Claim7 := { stood := { row := historyAtUptoRow, standIns := [], harness := (true, "fb06dc5ea7b537705af9cbfa108169ad8224ca737b5861815d1d7342e52bb9ee"), looks := false }, kinds := [], alts := [], laidByText := true, laidKinds := [.data, .data, .data, .data], laidTests := true, laidLooks := .later }
def HistoryAtUptoCardSaid : Prop := Claim7.holds Tryz.pinned (.plain (OpenSpec.upto historyAtSpec)) historyAtUptoCard

/-- THE SECOND FORM's CARD OF 'nameplanlaw21.HistoryParts'. -/
def historyPartsUptoCard : Claim7 := { stood := { row := historyPartsUptoRow, standIns := [], harness := (true, "fb06dc5ea7b537705af9cbfa108169ad8224ca737b5861815d1d7342e52bb9ee"), looks := false }, kinds := [], alts := [], laidByText := true, laidKinds := [.data, .data, .data, .data], laidTests := true, laidLooks := .later }
def HistoryPartsUptoCardSaid : Prop := Claim7.holds Tryz.pinned (.plain (OpenSpec.upto historyPartsSpec)) historyPartsUptoCard

/-- THE SECOND FORM's CARD OF 'nameplanlaw21.HistoryOrder'. -/
def historyOrderUptoCard : Claim7 := { stood := { row := historyOrderUptoRow, standIns := [], harness := (true, "fb06dc5ea7b537705af9cbfa108169ad8224ca737b5861815d1d7342e52bb9ee"), looks := false }, kinds := [], alts := [], laidByText := true, laidKinds := [.data, .data, .data, .data], laidTests := true, laidLooks := .later }
def HistoryOrderUptoCardSaid : Prop := Claim7.holds Tryz.pinned (.plain (OpenSpec.upto historyOrderSpec)) historyOrderUptoCard

/-- THE SECOND FORM's CARD OF 'nameplanlaw21.HistoryShorter'. -/
def historyShorterUptoCard : Claim7 := { stood := { row := historyShorterUptoRow, standIns := [], harness := (true, "fb06dc5ea7b537705af9cbfa108169ad8224ca737b5861815d1d7342e52bb9ee"), looks := false }, kinds := [], alts := [], laidByText := true, laidKinds := [.data, .data, .data, .data], laidTests := true, laidLooks := .later }
def HistoryShorterUptoCardSaid : Prop := Claim7.holds Tryz.pinned (.plain (OpenSpec.upto historyShorterSpec)) historyShorterUptoCard

/-- THE SECOND FORM's CARD OF 'nameplanlaw21.HistoryPublished'. -/
def historyPublishedUptoCard : Claim7 := { stood := { row := historyPublishedUptoRow, standIns := [], harness := (true, "fb06dc5ea7b537705af9cbfa108169ad8224ca737b5861815d1d7342e52bb9ee"), looks := false }, kinds := [], alts := [], laidByText := true, laidKinds := [.data, .data, .data, .data], laidTests := true, laidLooks := .later }
def HistoryPublishedUptoCardSaid : Prop := Claim7.holds Tryz.pinned (.plain (OpenSpec.upto historyPublishedSpec)) historyPublishedUptoCard

/-- THE SECOND FORM's CARD OF 'nameplanlaw21.HistoryServing'. -/
def historyServingUptoCard : Claim7 := { stood := { row := historyServingUptoRow, standIns := [], harness := (true, "fb06dc5ea7b537705af9cbfa108169ad8224ca737b5861815d1d7342e52bb9ee"), looks := false }, kinds := [], alts := [], laidByText := true, laidKinds := [.data, .data, .data, .data], laidTests := true, laidLooks := .later }
def HistoryServingUptoCardSaid : Prop := Claim7.holds Tryz.pinned (.plain (OpenSpec.upto historyServingSpec)) historyServingUptoCard
end Rows
end Go.Proofs.YtbfbobfbgabjiaaGreatDoor
