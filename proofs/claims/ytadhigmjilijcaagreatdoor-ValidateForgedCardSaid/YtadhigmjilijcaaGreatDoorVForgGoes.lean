/- Parts of the card. No condition. -/
import Derived.Test.YtadhigmjilijcaaGreatDoorCards
import Derived.Test.YtadhigmjilijcaaGreatDoorTie
set_option linter.all false
namespace Go.Proofs.YtadhigmjilijcaaGreatDoor.validateForged
theorem goes:false=Rows.validateForgedRow.goesBy Tryz.pinned.checked.prog:=by kernel_rfl
end Go.Proofs.YtadhigmjilijcaaGreatDoor.validateForged
