/- Parts of the proof. No condition. -/
import Derived.Test.YtbfbobfbgabjiaaGreatDoorP24
set_option linter.all false
set_option maxRecDepth 100000
set_option maxHeartbeats 8000000
namespace Go.Proofs.YtbfbobfbgabjiaaGreatDoor
section
open Go.RowKit Go.Shelf
def CJ(l:List Np.Copy)(zone:List UInt8)(k:Int):List Np.Span:=(l.filter λc=>decide (c.host=k)&&(c.zone.apex == zone)).map Np.gV
theorem aEQ(l:List Np.Copy)(zone:List UInt8)(k:Int):(CJ l zone k).length<=l.length:=by
 unfold CJ;rw[List.length_map];exact List.length_filter_le _ _
end
end Go.Proofs.YtbfbobfbgabjiaaGreatDoor
