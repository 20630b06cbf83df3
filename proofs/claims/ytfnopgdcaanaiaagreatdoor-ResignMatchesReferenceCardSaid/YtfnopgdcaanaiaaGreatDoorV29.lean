/- Parts of the proof. No condition. -/
import Derived.Test.YtfnopgdcaanaiaaGreatDoorV22
set_option linter.all false
set_option maxRecDepth 100000
set_option maxHeartbeats 8000000
namespace Go.Proofs.YtfnopgdcaanaiaaGreatDoor
section
open Go.RowKit Go.Shelf
attribute [local go_sem] Oper.semAt_some
structure HC where
 z:ByteArray
 s:ByteArray
 ty:Int
 lf:Int
 dA:Option Addr
 dn:Nat
 dc:Nat
 gA:Option Addr
 gn:Nat
 gc:Nat
 fA:Option Addr
 fn:Nat
 fc:Nat
 pA:Option Addr
 pn:Nat
 pc:Nat
def HC.cells(x:HC):Array Value:=#[.string x.z,.string x.s,.int .i64 x.ty,.int .i64 x.lf,.slice x.dA x.dn x.dc,.slice x.gA x.gn x.gc,.slice x.fA x.fn x.fc,.slice x.pA x.pn x.pc]
structure FH(w:World)(B:Nat)(x:HC)(h:Np.Held):Prop where
 zone:x.z.data.toList=h.zone
 name:x.s.data.toList=h.signed.set.name
 short:x.s.size<=140737488355328
 type:x.ty=h.signed.set.type
 life:x.lf=h.signed.set.life
 data:SlR cA 3 w B (.slice x.dA x.dn x.dc) h.signed.set.data
 sigs:SlR de 6 w B (.slice x.gA x.gn x.gc) h.signed.sigs
 spans:SlR bA 2 w B (.slice x.pA x.pn x.pc) h.spans
theorem FH.keep{w w':World}{B:Nat}{x:HC}{h:Np.Held}(k:FH w B x h)(hb:Below B w w'):FH w' B x h:=⟨k.zone,k.name,k.short,k.type,k.life,k.data.keep bD hb,k.sigs.keep bH hb,k.spans.keep bE hb⟩
end
end Go.Proofs.YtfnopgdcaanaiaaGreatDoor
