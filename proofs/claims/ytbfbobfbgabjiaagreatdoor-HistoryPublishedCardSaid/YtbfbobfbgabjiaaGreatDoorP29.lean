/- Parts of the proof. No condition. -/
import Derived.Test.YtbfbobfbgabjiaaGreatDoorP24
set_option linter.all false
set_option maxRecDepth 100000
set_option maxHeartbeats 8000000
namespace Go.Proofs.YtbfbobfbgabjiaaGreatDoor
open Go.Proofs.Tryz
section
open Go.RowKit
theorem aDX(l:List Np.Copy)(t:Int):(Np.ki l t).length<=l.length:=List.length_filter_le _ _
theorem Tryz.infoPlaced:(prog.info? 60).map (λi=>(i.zero,i.size,i.bytes))=some (some (.agg #[.int .i64 0,.string ⟨#[]⟩,.slice none 0 0]),3,48):=by kernel_rfl
def rG(W:World)(B:Nat)(e:List Value)(x:Np.WorldP):Prop:=∃ (hv zv:Value) (s:ByteArray) (dv dh:Value),e = [hv,zv,.string s,.int .i64 x.anchor.type,.int .i64 x.anchor.life,dv,dh]/\s.data.toList=x.anchor.name/\s.size<=140737488355328/\
 SlR gb 3 W B hv x.hosts/\SlR jm 3 W B zv x.zones/\SlR cr 3 W B dv x.anchor.data/\SlR gJ 1 W B dh x.hints
theorem aCQ:dw rG:=λ_ _ _ _ _ ⟨hv,cv,s,dv,dh,h0,h1,h2,h3,h4,h5,h6⟩ hb=>⟨hv,cv,s,dv,dh,h0,h1,h2,h3.keep fw hb,h4.keep fV hb,h5.keep cB hb,h6.keep kR hb⟩
theorem aCZ:dN rG:=λ_ _ _ _ _ ⟨hv,cv,s,dv,dh,h0,h1,h2,h3,h4,h5,h6⟩ hb=>⟨hv,cv,s,dv,dh,h0,h1,h2,h3.more kP hb,h4.more fW hb,h5.more cZ hb,h6.more sI hb⟩
theorem aCJ:eH rG:=λ_ _ _ _ _ _ hM ⟨hv,cv,s,dv,dh,h0,h1,h2,h3,h4,h5,h6⟩=>⟨hv,cv,s,dv,dh,h0,h1,h2,h3.sans azZ hM,h4.sans nR hM,h5.sans xl hM,h6.sans azJ hM⟩
end
end Go.Proofs.YtbfbobfbgabjiaaGreatDoor
