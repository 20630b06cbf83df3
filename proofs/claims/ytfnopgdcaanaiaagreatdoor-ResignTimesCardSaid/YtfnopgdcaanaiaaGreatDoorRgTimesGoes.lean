/- Parts of the card. No condition. -/
import Derived.Test.YtfnopgdcaanaiaaGreatDoorCards
import Derived.Test.YtfnopgdcaanaiaaGreatDoorTie
set_option linter.all false
namespace Go.Proofs.YtfnopgdcaanaiaaGreatDoor.resignTimes
theorem goes:false=Rows.resignTimesRow.goesBy Tryz.pinned.checked.prog:=by kernel_rfl
end Go.Proofs.YtfnopgdcaanaiaaGreatDoor.resignTimes
