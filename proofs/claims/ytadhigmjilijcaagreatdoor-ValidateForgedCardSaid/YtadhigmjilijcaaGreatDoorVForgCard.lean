/- The card. For every input the law returns true. -/
import Derived.Test.YtadhigmjilijcaaGreatDoorCards
import Derived.Test.YtadhigmjilijcaaGreatDoorTie
import Derived.Test.YtadhigmjilijcaaGreatDoorVForgSaid
import Derived.Test.YtadhigmjilijcaaGreatDoorVForgPlain
import Derived.Test.YtadhigmjilijcaaGreatDoorVForgGoes
set_option linter.all false
namespace Go.Proofs.YtadhigmjilijcaaGreatDoor.validateForged
open Go.ChangeShapes Go.WideShapes Go.ChangeAt Go.RowKit
theorem card:Rows.ValidateForgedCardSaid:=
 Claim7.holds_tied_plain_at .later [] _ _ _ _ said (λ_ h=>by cases h) (by kernel_rfl) (λ_ h=>by cases h) validateForged_row_tie rfl ⟨rfl,rfl⟩ (by kernel_rfl) rfl plain goes
end Go.Proofs.YtadhigmjilijcaaGreatDoor.validateForged
