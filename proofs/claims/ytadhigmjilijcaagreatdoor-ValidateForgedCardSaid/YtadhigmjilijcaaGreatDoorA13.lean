/- No condition. -/
import Derived.Test.YtadhigmjilijcaaGreatDoorA06
import Derived.Test.YtadhigmjilijcaaGreatDoorA09
set_option linter.all false
set_option maxRecDepth 100000
set_option maxHeartbeats 8000000
namespace Go.Proofs.YtadhigmjilijcaaGreatDoor
section
open Go.RowKit
structure Np.ApexH(a:List UInt8)(l:List Np.Signed):Prop where
 start:Np.NK l a 4
 server:Np.NK l a 2
 fits:∀ x∈l,Np.FC x.set.type (x.set.name == a)=true
end
section
open Go.RowKit Go.Sort Go.Shelf
instance:Inhabited Np.Span:=⟨⟨0,0⟩⟩

structure SpBox(W:World)(b:Nat)(f u:Int):Prop where
 c0:W.cell? ⟨b,0,none⟩=some (.int .i64 f)
 c1:W.cell? ⟨b,1,none⟩=some (.int .i64 u)
 f0:W.frozen? ⟨b,0,none⟩=false
 f1:W.frozen? ⟨b,1,none⟩=false
 lt:b<W.heap.size
theorem SpBox.keep{W W':World}{b:Nat}{f u:Int}(h:SpBox W b f u){B:Nat}(hb:Below B W W')(hB:b<B):SpBox W' b f u:=
 ⟨(hb.cell hB).trans h.c0,(hb.cell hB).trans h.c1,(hb.frozen hB).trans h.f0,(hb.frozen hB).trans h.f1,lqQ h.lt hb.size⟩
structure SpAt(W:World)(b j:Nat)(f u:Int):Prop where
 c0:W.cell? ⟨b,j,none⟩=some (.int .i64 f)
 c1:W.cell? ⟨b,j+1,none⟩=some (.int .i64 u)
theorem SpAt.keep{W W':World}{b j:Nat}{f u:Int}(h:SpAt W b j f u){B:Nat}(hb:Below B W W')(hB:b<B):SpAt W' b j f u:=⟨(hb.cell hB).trans h.c0,(hb.cell hB).trans h.c1⟩
end
section
open Go.RowKit


end
section
open Go.RowKit Go.Sort Go.Shelf

end
end Go.Proofs.YtadhigmjilijcaaGreatDoor
