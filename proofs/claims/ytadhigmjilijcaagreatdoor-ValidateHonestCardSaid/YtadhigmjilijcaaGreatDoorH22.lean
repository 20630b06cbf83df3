/- No condition. -/
import Derived.Test.YtadhigmjilijcaaGreatDoorH18
set_option linter.all false
set_option maxRecDepth 100000
set_option maxHeartbeats 8000000
namespace Go.Proofs.YtadhigmjilijcaaGreatDoor
section
open Go.RowKit Go.Shelf

end
section
open Go.RowKit

end
end Go.Proofs.YtadhigmjilijcaaGreatDoor
