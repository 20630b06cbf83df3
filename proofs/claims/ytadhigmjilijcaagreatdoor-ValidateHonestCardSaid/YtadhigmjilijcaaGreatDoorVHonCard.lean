/- The card. For every input the law returns true. -/
import Derived.Test.YtadhigmjilijcaaGreatDoorCards
import Derived.Test.YtadhigmjilijcaaGreatDoorTie
import Derived.Test.YtadhigmjilijcaaGreatDoorVHonSaid
import Derived.Test.YtadhigmjilijcaaGreatDoorVHonPlain
import Derived.Test.YtadhigmjilijcaaGreatDoorVHonGoes
set_option linter.all false
namespace Go.Proofs.YtadhigmjilijcaaGreatDoor.validateHonest
open Go.ChangeShapes Go.WideShapes Go.ChangeAt Go.RowKit
theorem card:Rows.ValidateHonestCardSaid:=
 Claim7.holds_tied_plain_at .later [] _ _ _ _ said (λ_ h=>by cases h) (by kernel_rfl) (λ_ h=>by cases h) validateHonest_row_tie rfl ⟨rfl,rfl⟩ (by kernel_rfl) rfl plain goes
end Go.Proofs.YtadhigmjilijcaaGreatDoor.validateHonest
