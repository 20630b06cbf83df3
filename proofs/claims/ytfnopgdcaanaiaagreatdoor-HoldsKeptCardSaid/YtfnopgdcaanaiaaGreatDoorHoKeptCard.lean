/- The card. For every input the law returns true. -/
import Derived.Test.YtfnopgdcaanaiaaGreatDoorCards
import Derived.Test.YtfnopgdcaanaiaaGreatDoorTie
import Derived.Test.YtfnopgdcaanaiaaGreatDoorHoKeptSaid
import Derived.Test.YtfnopgdcaanaiaaGreatDoorHoKeptPlain
import Derived.Test.YtfnopgdcaanaiaaGreatDoorHoKeptGoes
set_option linter.all false
namespace Go.Proofs.YtfnopgdcaanaiaaGreatDoor.holdsKept
open Go.ChangeShapes Go.WideShapes Go.ChangeAt Go.RowKit
theorem card:Rows.HoldsKeptCardSaid:=
 Claim7.holds_tied_plain_at .later [] _ _ _ _ said (λ_ h=>by cases h) (by kernel_rfl) (λ_ h=>by cases h) holdsKept_row_tie rfl ⟨rfl,rfl⟩ (by kernel_rfl) rfl plain goes
end Go.Proofs.YtfnopgdcaanaiaaGreatDoor.holdsKept
