/- No condition. -/
import Derived.Test.YtadhigmjilijcaaGreatDoorA14
import Derived.Test.YtadhigmjilijcaaGreatDoorA15
import Derived.Test.YtadhigmjilijcaaGreatDoorA17
set_option linter.all false
set_option maxRecDepth 100000
set_option maxHeartbeats 8000000
namespace Go.Proofs.YtadhigmjilijcaaGreatDoor
section
open Go.RowKit


end
end Go.Proofs.YtadhigmjilijcaaGreatDoor
