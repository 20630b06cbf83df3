/- The card. For every input the law returns true. -/
import Derived.Test.YtfnopgdcaanaiaaGreatDoorCards
import Derived.Test.YtfnopgdcaanaiaaGreatDoorTie
import Derived.Test.YtfnopgdcaanaiaaGreatDoorHSrvSaid
import Derived.Test.YtfnopgdcaanaiaaGreatDoorHSrvPlain
import Derived.Test.YtfnopgdcaanaiaaGreatDoorHSrvGoes
set_option linter.all false
namespace Go.Proofs.YtfnopgdcaanaiaaGreatDoor.historyServing
open Go.ChangeShapes Go.WideShapes Go.ChangeAt Go.RowKit
theorem card:Rows.HistoryServingCardSaid:=
 Claim7.holds_tied_plain_at .later [] _ _ _ _ said (λ_ h=>by cases h) (by kernel_rfl) (λ_ h=>by cases h) historyServing_row_tie rfl ⟨rfl,rfl⟩ (by kernel_rfl) rfl plain goes
end Go.Proofs.YtfnopgdcaanaiaaGreatDoor.historyServing
