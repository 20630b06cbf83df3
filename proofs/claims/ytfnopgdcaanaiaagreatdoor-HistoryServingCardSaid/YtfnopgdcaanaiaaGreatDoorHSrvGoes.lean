/- Parts of the card. No condition. -/
import Derived.Test.YtfnopgdcaanaiaaGreatDoorCards
import Derived.Test.YtfnopgdcaanaiaaGreatDoorTie
set_option linter.all false
namespace Go.Proofs.YtfnopgdcaanaiaaGreatDoor.historyServing
theorem goes:false=Rows.historyServingRow.goesBy Tryz.pinned.checked.prog:=by kernel_rfl
end Go.Proofs.YtfnopgdcaanaiaaGreatDoor.historyServing
