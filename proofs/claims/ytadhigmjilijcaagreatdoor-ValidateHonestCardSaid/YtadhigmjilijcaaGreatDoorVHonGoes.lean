/- Parts of the card. No condition. -/
import Derived.Test.YtadhigmjilijcaaGreatDoorCards
import Derived.Test.YtadhigmjilijcaaGreatDoorTie
set_option linter.all false
namespace Go.Proofs.YtadhigmjilijcaaGreatDoor.validateHonest
theorem goes:false=Rows.validateHonestRow.goesBy Tryz.pinned.checked.prog:=by kernel_rfl
end Go.Proofs.YtadhigmjilijcaaGreatDoor.validateHonest
