/- Parts of the proof. No condition. -/
import Derived.Test.YtfnopgdcaanaiaaGreatDoorT22
import Derived.Test.YtfnopgdcaanaiaaGreatDoorT23
set_option linter.all false
set_option maxRecDepth 100000
set_option maxHeartbeats 8000000
namespace Go.Proofs.YtfnopgdcaanaiaaGreatDoor
section
open Go.RowKit

end
section
open Go.RowKit Go.Shelf
attribute [local go_sem] Oper.semAt_some
structure HC where
 z:ByteArray
 s:ByteArray
 ty:Int
 lf:Int
 dA:Option Addr
 dn:Nat
 dc:Nat
 gA:Option Addr
 gn:Nat
 gc:Nat
 fA:Option Addr
 fn:Nat
 fc:Nat
 pA:Option Addr
 pn:Nat
 pc:Nat
def HC.cells(x:HC):Array Value:=#[.string x.z,.string x.s,.int .i64 x.ty,.int .i64 x.lf,.slice x.dA x.dn x.dc,.slice x.gA x.gn x.gc,.slice x.fA x.fn x.fc,.slice x.pA x.pn x.pc]
structure B4(w:World)(B:Nat)(x:HC)(h:Np.Held):Prop where
 zone:x.z.data.toList=h.zone
 name:x.s.data.toList=h.signed.set.name
 short:x.s.size<=140737488355328
 type:x.ty=h.signed.set.type
 life:x.lf=h.signed.set.life
 data:SlR bI 3 w B (.slice x.dA x.dn x.dc) h.signed.set.data
 sigs:SlR cr 6 w B (.slice x.gA x.gn x.gc) h.signed.sigs
 spans:SlR cm 2 w B (.slice x.pA x.pn x.pc) h.spans
theorem B4.keep{w w':World}{B:Nat}{x:HC}{h:Np.Held}(k:B4 w B x h)(hb:Below B w w'):B4 w' B x h:=⟨k.zone,k.name,k.short,k.type,k.life,k.data.keep bq hb,k.sigs.keep cC hb,k.spans.keep cI hb⟩
end
section
open Go.RowKit

end
end Go.Proofs.YtfnopgdcaanaiaaGreatDoor
