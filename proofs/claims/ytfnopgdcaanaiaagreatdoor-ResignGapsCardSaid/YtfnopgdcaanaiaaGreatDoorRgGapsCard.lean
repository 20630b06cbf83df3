/- The card. For every input the law returns true. -/
import Derived.Test.YtfnopgdcaanaiaaGreatDoorCards
import Derived.Test.YtfnopgdcaanaiaaGreatDoorTie
import Derived.Test.YtfnopgdcaanaiaaGreatDoorRgGapsSaid
import Derived.Test.YtfnopgdcaanaiaaGreatDoorRgGapsPlain
import Derived.Test.YtfnopgdcaanaiaaGreatDoorRgGapsGoes
set_option linter.all false
namespace Go.Proofs.YtfnopgdcaanaiaaGreatDoor.resignGaps
open Go.ChangeShapes Go.WideShapes Go.ChangeAt Go.RowKit
theorem card:Rows.ResignGapsCardSaid:=
 Claim7.holds_tied_plain_at .later [] _ _ _ _ said (λ_ h=>by cases h) (by kernel_rfl) (λ_ h=>by cases h) resignGaps_row_tie rfl ⟨rfl,rfl⟩ (by kernel_rfl) rfl plain goes
end Go.Proofs.YtfnopgdcaanaiaaGreatDoor.resignGaps
