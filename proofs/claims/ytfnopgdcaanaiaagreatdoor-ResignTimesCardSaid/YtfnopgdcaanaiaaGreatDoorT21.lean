/- Parts of the proof. No condition. -/
import Derived.Test.YtfnopgdcaanaiaaGreatDoorT12
import Derived.Test.YtfnopgdcaanaiaaGreatDoorT17
set_option linter.all false
set_option maxRecDepth 100000
set_option maxHeartbeats 8000000
namespace Go.Proofs.YtfnopgdcaanaiaaGreatDoor
section
open Go.RowKit Go.Shelf

end
section
open Go.RowKit
def Np.Fy(l:List Np.Signed):Prop:=l.length<=100/\∀ x∈l,x.set.data.length<=20/\x.sigs.length<=20
def Np.xR(h:Np.Hist):Prop:=(h.copies.length<=20/\h.hosts.length<=70/\h.hints.length<=20/\h.anchor.data.length<=20)/\(∀ c∈h.copies,Np.Fy c.zone.sets/\c.zone.apex.length<=100)/\∀ x∈h.hosts,x.name.length<=100
structure Np.Use(h:Np.Hist):Prop where
 copies:h.copies.length<=21
 hosts:h.hosts.length<=70
 hints:h.hints.length<=20
 data:h.anchor.data.length<=20
 each:∀ c∈h.copies,Np.Fy c.zone.sets
theorem Np.xR.use{h:Np.Hist}(k:Np.xR h):Np.Use h:=
 ⟨by have:=k.1.1;omega,k.1.2.1,k.1.2.2.1,k.1.2.2.2,λc hc=>(k.2.1 c hc).1⟩
theorem Np.Use.withC{h:Np.Hist}(k:Np.Use h){l:List Np.Copy}(hl:l.length<=21)(hz:∀ d∈l,∃ c∈h.copies,d.zone=c.zone):Np.Use (Np.withC h l):=
 ⟨hl,k.hosts,k.hints,k.data,λd hd=>by
  obtain⟨c,hc,e⟩:=hz d hd;rw[e];exact k.each c hc⟩
theorem Np.kC.withC{h:Np.Hist}(k:Np.kC h){l:List Np.Copy}(hz:∀ d∈l,∃ c∈h.copies,d.zone=c.zone):Np.kC (Np.withC h l):=λd hd s hs=>by
 obtain⟨c,hc,e⟩:=hz d hd;rw[e] at hs;exact k c hc s hs
theorem Np.Use.fewH{h:Np.Hist}(k:Np.Use h):Np.xP h:=
 ⟨by have:=k.copies;omega,λc hc=>by have:=(k.each c hc).1;omega⟩
theorem Np.Use.sets{h:Np.Hist}(k:Np.Use h):∀ c∈h.copies,∀ x∈c.zone.sets,x.set.data.length<=100000/\x.sigs.length<=100000:=λc hc x hx=>by
 have:=(k.each c hc).2 x hx
 omega
theorem Np.VQ{l:List Np.Copy}{n:Nat}(h:∀ c∈l,c.zone.sets.length<=n)(zone:List UInt8):(Np.ci l zone).length<=l.length * n:=by
 induction l with
 | nil=>simp[Np.ci,Np.qA]
 | cons c l ih=>
  have h1:=ih (λd hd=>h d (mQ _ hd));have h2:=h c (by simp);have e:=Np.KY [c] l zone;rw[List.singleton_append] at e;rw[e,List.length_append,List.length_cons,Nat.add_mul,Nat.one_mul];have h3:(Np.ci [c] zone).length<=n:=by
   unfold Np.ci Np.qA;rw[List.filter_cons,List.filter_nil];split
   ·simp[Np.kZ];exact h2
   ·simp
  omega
theorem Np.Use.pairs{h:Np.Hist}(k:Np.Use h)(zone:List UInt8):(Np.ci h.copies zone).length<=5000:=by
 have h1:=Np.VQ (λc hc=>(k.each c hc).1) zone;have h2:=Nat.mul_le_mul_right 100 k.copies;omega
theorem Np.Use.cut{h:Np.Hist}(k:Np.xR h)(j:Nat)(a:Int):Np.Use (Np.withC h (Np.qB h.copies j a)):=
 k.use.withC (by have h1:=Np.Qw h.copies j a;have h2:=k.1.1;omega) (λd hd=>by
  obtain⟨c,hc,_,h2,_⟩:=Np.Ic hd;exact⟨c,hc,h2⟩)
theorem Np.kC.cut{h:Np.Hist}(k:Np.kC h)(j:Nat)(a:Int):Np.kC (Np.withC h (Np.qB h.copies j a)):=
 k.withC (λd hd=>by
  obtain⟨c,hc,_,h2,_⟩:=Np.Ic hd;exact⟨c,hc,h2⟩)
theorem Np.Use.short{h:Np.Hist}(k:Np.xR h)(u:Int):Np.Use (Np.withC h (Np.tC h.copies u)):=
 k.use.withC (by have h1:=Np.W8 h.copies u;have h2:=k.1.1;omega) (λd hd=>by
  obtain⟨c,hc,rfl,_⟩:=Np.KH.1 hd;exact⟨c,hc,rfl⟩)
theorem Np.kC.short{h:Np.Hist}(k:Np.kC h)(u:Int):Np.kC (Np.withC h (Np.tC h.copies u)):=
 k.withC (λd hd=>by
  obtain⟨c,hc,rfl,_⟩:=Np.KH.1 hd;exact⟨c,hc,rfl⟩)
end
end Go.Proofs.YtfnopgdcaanaiaaGreatDoor
