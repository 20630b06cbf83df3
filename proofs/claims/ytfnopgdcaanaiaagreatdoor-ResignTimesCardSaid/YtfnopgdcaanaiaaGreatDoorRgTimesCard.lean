/- The card. For every input the law returns true. -/
import Derived.Test.YtfnopgdcaanaiaaGreatDoorCards
import Derived.Test.YtfnopgdcaanaiaaGreatDoorTie
import Derived.Test.YtfnopgdcaanaiaaGreatDoorRgTimesSaid
import Derived.Test.YtfnopgdcaanaiaaGreatDoorRgTimesPlain
import Derived.Test.YtfnopgdcaanaiaaGreatDoorRgTimesGoes
set_option linter.all false
namespace Go.Proofs.YtfnopgdcaanaiaaGreatDoor.resignTimes
open Go.ChangeShapes Go.WideShapes Go.ChangeAt Go.RowKit
theorem card:Rows.ResignTimesCardSaid:=
 Claim7.holds_tied_plain_at .later [] _ _ _ _ said (λ_ h=>by cases h) (by kernel_rfl) (λ_ h=>by cases h) resignTimes_row_tie rfl ⟨rfl,rfl⟩ (by kernel_rfl) rfl plain goes
end Go.Proofs.YtfnopgdcaanaiaaGreatDoor.resignTimes
