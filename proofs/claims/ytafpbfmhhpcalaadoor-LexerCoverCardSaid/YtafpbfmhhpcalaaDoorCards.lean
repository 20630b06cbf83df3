/-
  DERIVED. GIVEN WITH THE SEED: THE CARDS: each row of YtafpbfmhhpcalaaDoorRows.lean that lists a variable, with what it lists TIED to the program's text (the seventh form; the later family's looks); each row that meets fmt, with fmt's text TOLD by the authors' own Lean function (tested against real Go, not proved from fmt's source: count such statements apart). THE CARD IS WHAT COUNTS. Prove the row's statement (the work); the ties are given (YtafpbfmhhpcalaaDoorTie.lean); close each card by the builder's one call (the guide's Derived/Test/ToyasCard.lean, 'card_holds'). Laid BY PROGRAM, IN A SANDBOX (cutbox-door.mjs). By AI agents, Wed Nov 11 2026. No macro, syntax, notation, axiom, sorry.
-/
import Derived.Test.YtafpbfmhhpcalaaDoorRows
import GoSem.ClaimSeven
namespace Go.Proofs.YtafpbfmhhpcalaaDoor
namespace Rows

/-- THE TIED CARD OF 'nameplanlaw25.ResignMore'. -/
def resignMoreCard : Claim7 := { stood := { row := resignMoreRow, standIns := [], harness := (true, "23bc4a8c2b927670e12206b8989db63de947a523e01eb5b88d55bff9fae45fe3"), looks := true }, kinds := [], alts := [], laidByText := true, laidKinds := [.data], laidTests := true, laidLooks := .later }
def ResignMoreCardSaid : Prop := Claim7.holds Tryd.pinned (.plain (OpenSpec.ofChange resignMoreSpec)) resignMoreCard

/-- THE TIED CARD OF 'nameplanlaw25.ResignSure'. -/
def resignSureCard : Claim7 := { stood := { row := resignSureRow, standIns := [], harness := (true, "23bc4a8c2b927670e12206b8989db63de947a523e01eb5b88d55bff9fae45fe3"), looks := true }, kinds := [], alts := [], laidByText := true, laidKinds := [.data], laidTests := true, laidLooks := .later }
def ResignSureCardSaid : Prop := Claim7.holds Tryd.pinned (.plain (OpenSpec.ofChange resignSureSpec)) resignSureCard

/-- THE TIED CARD OF 'nameplanlaw03.LexerMatchesReference'. -/
def lexerMatchesReferenceCard : Claim7 := { stood := { row := lexerMatchesReferenceRow, standIns := [], harness := (true, "23bc4a8c2b927670e12206b8989db63de947a523e01eb5b88d55bff9fae45fe3"), looks := true }, kinds := [], alts := [], laidByText := true, laidKinds := [.data, .data, .data, .data, .sentinel, .sentinel, .pinned], laidTests := true, laidLooks := .later }
def LexerMatchesReferenceCardSaid : Prop := Claim7.holds Tryd.pinned (.plain (OpenSpec.ofChange lexerMatchesReferenceSpec)) lexerMatchesReferenceCard

/-- THE TIED CARD OF 'nameplanlaw03.LexerJoin'. -/
def lexerJoinCard : Claim7 := { stood := { row := lexerJoinRow, standIns := [], harness := (true, "23bc4a8c2b927670e12206b8989db63de947a523e01eb5b88d55bff9fae45fe3"), looks := true }, kinds := [], alts := [], laidByText := true, laidKinds := [.data, .data, .data, .data, .sentinel, .sentinel, .pinned], laidTests := true, laidLooks := .later }
def LexerJoinCardSaid : Prop := Claim7.holds Tryd.pinned (.plain (OpenSpec.ofChange lexerJoinSpec)) lexerJoinCard

/-- THE TIED CARD OF 'nameplanlaw03.LexerTexts'. -/
def lexerTextsCard : Claim7 := { stood := { row := lexerTextsRow, standIns := [], harness := (true, "23bc4a8c2b927670e12206b8989db63de947a523e01eb5b88d55bff9fae45fe3"), looks := true }, kinds := [], alts := [], laidByText := true, laidKinds := [.data, .data, .data, .data, .sentinel, .sentinel, .pinned], laidTests := true, laidLooks := .later }
def LexerTextsCardSaid : Prop := Claim7.holds Tryd.pinned (.plain (OpenSpec.ofChange lexerTextsSpec)) lexerTextsCard

/-- THE TIED CARD OF 'nameplanlaw03.LexerErrors'. -/
def lexerErrorsCard : Claim7 := { stood := { row := lexerErrorsRow, standIns := [], harness := (true, "23bc4a8c2b927670e12206b8989db63de947a523e01eb5b88d55bff9fae45fe3"), looks := true }, kinds := [], alts := [], laidByText := true, laidKinds := [.data, .data, .data, .data, .sentinel, .sentinel, .pinned], laidTests := true, laidLooks := .later }
def LexerErrorsCardSaid : Prop := Claim7.holds Tryd.pinned (.plain (OpenSpec.ofChange lexerErrorsSpec)) lexerErrorsCard

/-- THE TIED CARD OF 'nameplanlaw03.LexerGaps'. -/
def lexerGapsCard : Claim7 := { stood := { row := lexerGapsRow, standIns := [], harness := (true, "23bc4a8c2b927670e12206b8989db63de947a523e01eb5b88d55bff9fae45fe3"), looks := true }, kinds := [], alts := [], laidByText := true, laidKinds := [.data, .data, .data, .data, .sentinel, .sentinel, .pinned], laidTests := true, laidLooks := .later }
def LexerGapsCardSaid : Prop := Claim7.holds Tryd.pinned (.plain (OpenSpec.ofChange lexerGapsSpec)) lexerGapsCard

/-- THE TIED CARD OF 'nameplanlaw03.LexerCover'. -/
def lexerCoverCard : Claim7 := { stood := { row := lexerCoverRow, standIns := [], harness := (true, "23bc4a8c2b927670e12206b8989db63de947a523e01eb5b88d55bff9fae45fe3"), looks := true }, kinds := [], alts := [], laidByText := true, laidKinds := [.data, .data, .data, .data, .sentinel, .sentinel, .pinned], laidTests := true, laidLooks := .later }
def LexerCoverCardSaid : Prop := Claim7.holds Tryd.pinned (.plain (OpenSpec.ofChange lexerCoverSpec)) lexerCoverCard

/-- THE SECOND FORM's CARD OF 'nameplanlaw25.ResignMore'. -/
def resignMoreUptoCard : Claim7 := { stood := { row := resignMoreUptoRow, standIns := [], harness := (true, "23bc4a8c2b927670e12206b8989db63de947a523e01eb5b88d55bff9fae45fe3"), looks := true }, kinds := [], alts := [], laidByText := true, laidKinds := [.data], laidTests := true, laidLooks := .later }
def ResignMoreUptoCardSaid : Prop := Claim7.holds Tryd.pinned (.plain (OpenSpec.upto resignMoreSpec)) resignMoreUptoCard

/-- THE SECOND FORM's CARD OF 'nameplanlaw25.ResignSure'. -/
def resignSureUptoCard : Claim7 := { stood := { row := resignSureUptoRow, standIns := [], harness := (true, "23bc4a8c2b927670e12206b8989db63de947a523e01eb5b88d55bff9fae45fe3"), looks := true }, kinds := [], alts := [], laidByText := true, laidKinds := [.data], laidTests := true, laidLooks := .later }
def ResignSureUptoCardSaid : Prop := Claim7.holds Tryd.pinned (.plain (OpenSpec.upto resignSureSpec)) resignSureUptoCard

/-- THE SECOND FORM's CARD OF 'nameplanlaw03.LexerMatchesReference'. -/
def lexerMatchesReferenceUptoCard : Claim7 := { stood := { row := lexerMatchesReferenceUptoRow, standIns := [], harness := (true, "23bc4a8c2b927670e12206b8989db63de947a523e01eb5b88d55bff9fae45fe3"), looks := true }, kinds := [], alts := [], laidByText := true, laidKinds := [.data, .data, .data, .data, .sentinel, .sentinel, .pinned], laidTests := true, laidLooks := .later }
def LexerMatchesReferenceUptoCardSaid : Prop := Claim7.holds Tryd.pinned (.plain (OpenSpec.upto lexerMatchesReferenceSpec)) lexerMatchesReferenceUptoCard

/-- THE SECOND FORM's CARD OF 'nameplanlaw03.LexerJoin'. -/
def lexerJoinUptoCard : Claim7 := { stood := { row := lexerJoinUptoRow, standIns := [], harness := (true, "23bc4a8c2b927670e12206b8989db63de947a523e01eb5b88d55bff9fae45fe3"), looks := true }, kinds := [], alts := [], laidByText := true, laidKinds := [.data, .data, .data, .data, .sentinel, .sentinel, .pinned], laidTests := true, laidLooks := .later }
def LexerJoinUptoCardSaid : Prop := Claim7.holds Tryd.pinned (.plain (OpenSpec.upto lexerJoinSpec)) lexerJoinUptoCard

/-- THE SECOND FORM's CARD OF 'nameplanlaw03.LexerTexts'. -/
def lexerTextsUptoCard : Claim7 := { stood := { row := lexerTextsUptoRow, standIns := [], harness := (true, "23bc4a8c2b927670e12206b8989db63de947a523e01eb5b88d55bff9fae45fe3"), looks := true }, kinds := [], alts := [], laidByText := true, laidKinds := [.data, .data, .data, .data, .sentinel, .sentinel, .pinned], laidTests := true, laidLooks := .later }
def LexerTextsUptoCardSaid : Prop := Claim7.holds Tryd.pinned (.plain (OpenSpec.upto lexerTextsSpec)) lexerTextsUptoCard

/-- THE SECOND FORM's CARD OF 'nameplanlaw03.LexerErrors'. -/
def lexerErrorsUptoCard : Claim7 := { stood := { row := lexerErrorsUptoRow, standIns := [], harness := (true, "23bc4a8c2b927670e12206b8989db63de947a523e01eb5b88d55bff9fae45fe3"), looks := true }, kinds := [], alts := [], laidByText := true, laidKinds := [.data, .data, .data, .data, .sentinel, .sentinel, .pinned], laidTests := true, laidLooks := .later }
def LexerErrorsUptoCardSaid : Prop := Claim7.holds Tryd.pinned (.plain (OpenSpec.upto lexerErrorsSpec)) lexerErrorsUptoCard

/-- THE SECOND FORM's CARD OF 'nameplanlaw03.LexerGaps'. -/
def lexerGapsUptoCard : Claim7 := { stood := { row := lexerGapsUptoRow, standIns := [], harness := (true, "23bc4a8c2b927670e12206b8989db63de947a523e01eb5b88d55bff9fae45fe3"), looks := true }, kinds := [], alts := [], laidByText := true, laidKinds := [.data, .data, .data, .data, .sentinel, .sentinel, .pinned], laidTests := true, laidLooks := .later }
def LexerGapsUptoCardSaid : Prop := Claim7.holds Tryd.pinned (.plain (OpenSpec.upto lexerGapsSpec)) lexerGapsUptoCard

/-- THE SECOND FORM's CARD OF 'nameplanlaw03.LexerCover'. -/
def lexerCoverUptoCard : Claim7 := { stood := { row := lexerCoverUptoRow, standIns := [], harness := (true, "23bc4a8c2b927670e12206b8989db63de947a523e01eb5b88d55bff9fae45fe3"), looks := true }, kinds := [], alts := [], laidByText := true, laidKinds := [.data, .data, .data, .data, .sentinel, .sentinel, .pinned], laidTests := true, laidLooks := .later }
def LexerCoverUptoCardSaid : Prop := Claim7.holds Tryd.pinned (.plain (OpenSpec.upto lexerCoverSpec)) lexerCoverUptoCard
end Rows
end Go.Proofs.YtafpbfmhhpcalaaDoor
