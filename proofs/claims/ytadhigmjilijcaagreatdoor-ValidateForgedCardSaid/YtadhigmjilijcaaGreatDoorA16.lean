/- No condition. -/
import Derived.Test.YtadhigmjilijcaaGreatDoorA12
import Derived.Test.YtadhigmjilijcaaGreatDoorA13
set_option linter.all false
set_option maxRecDepth 100000
set_option maxHeartbeats 8000000
namespace Go.Proofs.YtadhigmjilijcaaGreatDoor
section
open Go.RowKit Go.MapKept Go.Shelf
section
variable {ops:Array Oper} {rest:List Oper} {o:Oper} {a:Act} {Q:Exit->Act->World->Prop}
end
section
variable {ops:Array Oper} {rest:List Oper} {o:Oper} {a:Act} {Q:Exit->Act->World->Prop}
end
end
end Go.Proofs.YtadhigmjilijcaaGreatDoor
