/- No condition. -/
import Derived.Test.YtadhigmjilijcaaGreatDoorH18
import Derived.Test.YtadhigmjilijcaaGreatDoorH19
import Derived.Test.YtadhigmjilijcaaGreatDoorH20
set_option linter.all false
set_option maxRecDepth 100000
set_option maxHeartbeats 8000000
namespace Go.Proofs.YtadhigmjilijcaaGreatDoor
section
open Go.RowKit Go.Shelf
attribute [local go_sem] Oper.semAt_some CV.cells
end
end Go.Proofs.YtadhigmjilijcaaGreatDoor
