/-
  DERIVED. GIVEN WITH THE SEED: THE CARDS: each row of YtadhigmjilijcaaGreatDoorRows.lean that lists a variable, with what it lists TIED to the program's text (the seventh form; the later family's looks); each row that meets fmt, with fmt's text TOLD by the authors' own Lean function (tested against real Go, not proved from fmt's source: count such statements apart). THE CARD IS WHAT COUNTS. Prove the row's statement (the work); the ties are given (YtadhigmjilijcaaGreatDoorTie.lean); close each card by the builder's one call (the guide's Derived/Test/ToyasCard.lean, 'card_holds'). Laid BY PROGRAM, IN A SANDBOX (cutbox-door.mjs). By AI agents, Wed Nov 11 2026. No macro, syntax, notation, axiom, sorry.
-/
import Derived.Test.YtadhigmjilijcaaGreatDoorRows
import GoSem.ClaimSeven
namespace Go.Proofs.YtadhigmjilijcaaGreatDoor
namespace Rows

/-- THE TIED CARD OF 'nameplanlaw30.ValidateMatchesReference'. -/
def validateMatchesReferenceCard : Claim7 := { stood := { row := validateMatchesReferenceRow, standIns := [], harness := (true, "36b0a8976c8a0388ea4ddedaf899a52f5448f9fc14e698a10453f00c16cc1274"), looks := false }, kinds := [], alts := [], laidByText := true, laidKinds := [.data], laidTests := true, laidLooks := .later }
def ValidateMatchesReferenceCardSaid : Prop := Claim7.holds Tryz.pinned (.plain (OpenSpec.ofChange validateMatchesReferenceSpec)) validateMatchesReferenceCard

/-- THE TIED CARD OF 'nameplanlaw30.ValidateSecure'. -/
def validateSecureCard : Claim7 := { stood := { row := validateSecureRow, standIns := [], harness := (true, "36b0a8976c8a0388ea4ddedaf899a52f5448f9fc14e698a10453f00c16cc1274"), looks := false }, kinds := [], alts := [], laidByText := true, laidKinds := [.data], laidTests := true, laidLooks := .later }
def ValidateSecureCardSaid : Prop := Claim7.holds Tryz.pinned (.plain (OpenSpec.ofChange validateSecureSpec)) validateSecureCard

/-- THE TIED CARD OF 'nameplanlaw30.ValidateForged'. -/
def validateForgedCard : Claim7 := { stood := { row := validateForgedRow, standIns := [], harness := (true, "36b0a8976c8a0388ea4ddedaf899a52f5448f9fc14e698a10453f00c16cc1274"), looks := false }, kinds := [], alts := [], laidByText := true, laidKinds := [.data], laidTests := true, laidLooks := .later }
def ValidateForgedCardSaid : Prop := Claim7.holds Tryz.pinned (.plain (OpenSpec.ofChange validateForgedSpec)) validateForgedCard

/-- THE TIED CARD OF 'nameplanlaw30.ValidateMissing'. -/
def validateMissingCard : Claim7 := { stood := { row := validateMissingRow, standIns := [], harness := (true, "36b0a8976c8a0388ea4ddedaf899a52f5448f9fc14e698a10453f00c16cc1274"), looks := false }, kinds := [], alts := [], laidByText := true, laidKinds := [.data], laidTests := true, laidLooks := .later }
def ValidateMissingCardSaid : Prop := Claim7.holds Tryz.pinned (.plain (OpenSpec.ofChange validateMissingSpec)) validateMissingCard

/-- THE TIED CARD OF 'nameplanlaw30.ValidateFilter'. -/
def validateFilterCard : Claim7 := { stood := { row := validateFilterRow, standIns := [], harness := (true, "36b0a8976c8a0388ea4ddedaf899a52f5448f9fc14e698a10453f00c16cc1274"), looks := false }, kinds := [], alts := [], laidByText := true, laidKinds := [.data], laidTests := true, laidLooks := .later }
def ValidateFilterCardSaid : Prop := Claim7.holds Tryz.pinned (.plain (OpenSpec.ofChange validateFilterSpec)) validateFilterCard

/-- THE TIED CARD OF 'nameplanlaw30.ValidateHonest'. -/
def validateHonestCard : Claim7 := { stood := { row := validateHonestRow, standIns := [], harness := (true, "36b0a8976c8a0388ea4ddedaf899a52f5448f9fc14e698a10453f00c16cc1274"), looks := false }, kinds := [], alts := [], laidByText := true, laidKinds := [.data], laidTests := true, laidLooks := .later }
def ValidateHonestCardSaid : Prop := Claim7.holds Tryz.pinned (.plain (OpenSpec.ofChange validateHonestSpec)) validateHonestCard

/-- THE SECOND FORM's CARD OF 'nameplanlaw30.ValidateMatchesReference'. -/
def validateMatchesReferenceUptoCard : Claim7 := { stood := { row := validateMatchesReferenceUptoRow, standIns := [], harness := (true, "36b0a8976c8a0388ea4ddedaf899a52f5448f9fc14e698a10453f00c16cc1274"), looks := false }, kinds := [], alts := [], laidByText := true, laidKinds := [.data], laidTests := true, laidLooks := .later }
def ValidateMatchesReferenceUptoCardSaid : Prop := Claim7.holds Tryz.pinned (.plain (OpenSpec.upto validateMatchesReferenceSpec)) validateMatchesReferenceUptoCard

/-- THE SECOND FORM's CARD OF 'nameplanlaw30.ValidateSecure'. -/
def validateSecureUptoCard : Claim7 := { stood := { row := validateSecureUptoRow, standIns := [], harness := (true, "36b0a8976c8a0388ea4ddedaf899a52f5448f9fc14e698a10453f00c16cc1274"), looks := false }, kinds := [], alts := [], laidByText := true, laidKinds := [.data], laidTests := true, laidLooks := .later }
def ValidateSecureUptoCardSaid : Prop := Claim7.holds Tryz.pinned (.plain (OpenSpec.upto validateSecureSpec)) validateSecureUptoCard

/-- THE SECOND FORM's CARD OF 'nameplanlaw30.ValidateForged'. -/
def validateForgedUptoCard : Claim7 := { stood := { row := validateForgedUptoRow, standIns := [], harness := (true, "36b0a8976c8a0388ea4ddedaf899a52f5448f9fc14e698a10453f00c16cc1274"), looks := false }, kinds := [], alts := [], laidByText := true, laidKinds := [.data], laidTests := true, laidLooks := .later }
def ValidateForgedUptoCardSaid : Prop := Claim7.holds Tryz.pinned (.plain (OpenSpec.upto validateForgedSpec)) validateForgedUptoCard

/-- THE SECOND FORM's CARD OF 'nameplanlaw30.ValidateMissing'. -/
def validateMissingUptoCard : Claim7 := { stood := { row := validateMissingUptoRow, standIns := [], harness := (true, "36b0a8976c8a0388ea4ddedaf899a52f5448f9fc14e698a10453f00c16cc1274"), looks := false }, kinds := [], alts := [], laidByText := true, laidKinds := [.data], laidTests := true, laidLooks := .later }
def ValidateMissingUptoCardSaid : Prop := Claim7.holds Tryz.pinned (.plain (OpenSpec.upto validateMissingSpec)) validateMissingUptoCard

/-- THE SECOND FORM's CARD OF 'nameplanlaw30.ValidateFilter'. -/
def validateFilterUptoCard : Claim7 := { stood := { row := validateFilterUptoRow, standIns := [], harness := (true, "36b0a8976c8a0388ea4ddedaf899a52f5448f9fc14e698a10453f00c16cc1274"), looks := false }, kinds := [], alts := [], laidByText := true, laidKinds := [.data], laidTests := true, laidLooks := .later }
def ValidateFilterUptoCardSaid : Prop := Claim7.holds Tryz.pinned (.plain (OpenSpec.upto validateFilterSpec)) validateFilterUptoCard

/-- THE SECOND FORM's CARD OF 'nameplanlaw30.ValidateHonest'. -/
def validateHonestUptoCard : Claim7 := { stood := { row := validateHonestUptoRow, standIns := [], harness := (true, "36b0a8976c8a0388ea4ddedaf899a52f5448f9fc14e698a10453f00c16cc1274"), looks := false }, kinds := [], alts := [], laidByText := true, laidKinds := [.data], laidTests := true, laidLooks := .later }
def ValidateHonestUptoCardSaid : Prop := Claim7.holds Tryz.pinned (.plain (OpenSpec.upto validateHonestSpec)) validateHonestUptoCard
end Rows
end Go.Proofs.YtadhigmjilijcaaGreatDoor
