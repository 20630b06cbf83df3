/- Parts of the proof. No condition. -/
import Derived.Test.YtfnopgdcaanaiaaGreatDoorT17
import Derived.Test.YtfnopgdcaanaiaaGreatDoorT18
set_option linter.all false
set_option maxRecDepth 100000
set_option maxHeartbeats 8000000
namespace Go.Proofs.YtfnopgdcaanaiaaGreatDoor
section
open Go.RowKit


end
section
open Go.RowKit Go.Shelf

end
end Go.Proofs.YtfnopgdcaanaiaaGreatDoor
