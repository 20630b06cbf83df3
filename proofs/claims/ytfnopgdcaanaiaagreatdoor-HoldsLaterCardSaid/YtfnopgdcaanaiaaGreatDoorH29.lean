/- Parts of the proof. No condition. -/
import Derived.Test.YtfnopgdcaanaiaaGreatDoorH24
set_option linter.all false
set_option maxRecDepth 100000
set_option maxHeartbeats 8000000
namespace Go.Proofs.YtfnopgdcaanaiaaGreatDoor
section
open Go.RowKit

def Eg(W:World)(B:Nat)(e:List Value)(x:Np.WorldP):Prop:=∃ (hv zv:Value) (s:ByteArray) (dv cN:Value),e = [hv,zv,.string s,.int .i64 x.anchor.type,.int .i64 x.anchor.life,dv,cN]/\s.data.toList=x.anchor.name/\s.size<=140737488355328/\
 SlR iG 3 W B hv x.hosts/\SlR sM 3 W B zv x.zones/\SlR bn 3 W B dv x.anchor.data/\SlR jn 1 W B cN x.hints
theorem YF:cY Eg:=λ_ _ _ _ _ ⟨hv,cv,s,dv,cN,h0,h1,h2,h3,h4,h5,h6⟩ hb=>⟨hv,cv,s,dv,cN,h0,h1,h2,h3.keep mI hb,h4.keep Ct hb,h5.keep de hb,h6.keep oP hb⟩
theorem YG:dw Eg:=λ_ _ _ _ _ ⟨hv,cv,s,dv,cN,h0,h1,h2,h3,h4,h5,h6⟩ hb=>⟨hv,cv,s,dv,cN,h0,h1,h2,h3.more vJ hb,h4.more Gz hb,h5.more eN hb,h6.more vK hb⟩
end
end Go.Proofs.YtfnopgdcaanaiaaGreatDoor
