/- No condition. -/
import Derived.Test.YtadhigmjilijcaaGreatDoorH14
set_option linter.all false
set_option maxRecDepth 100000
set_option maxHeartbeats 8000000
namespace Go.Proofs.YtadhigmjilijcaaGreatDoor
open Go.Proofs.Tryz
section
open Go.RowKit
def Np.yA(l:List Np.Signed):Prop:=l.length<=100/\∀ x∈l,x.set.data.length<=20/\x.sigs.length<=20
theorem ayQ(a:ByteArray)(v:Value)(l:List Np.Signed)(w:World)(hd:SlR az 5 w w.heap.size v l) :
 Calls prog 26 #[.agg #[.string a,v]] w λe w'=>e = .returned (.bool (Np.yes (Np.yA l)))/\Below w.heap.size w w':=by
 obtain⟨r,hr⟩:=aaK (Np.yes (Np.yA l));rw[hr];have HR:=jq hr;have HD:=jq hd;obtain⟨A,c,rfl,aR,cP⟩:=ba hd;clear hr hd;obtain⟨X,hX⟩:=aaK w.heap.size;obtain⟨n,hn⟩:=aaK l.length;rw[hn] at HD aR cP |-;have Bx:=jq hn;clear hn;obtain⟨W1,dD⟩:=aaK (w.alloc (.cells #[.string a,.slice A n c] 66));have aT:Below w.heap.size w W1:=by rw[<-dD];exact blAl
 have Gu:W1.heap.size=w.heap.size+1:=by rw[<-dD];simp
 have k1:W1.cell? ⟨X,1,none⟩=some (.slice A n c):=by rw[<-dD,<-hX];simp[go_sem]
 rw[hX] at aT Gu HD |-;have bN:=jq aT;clear aT;go_enter func26,ntmps26;go_wp2_with fail;clear dD hX;go_loopw [3] (λi wr=>∃ (k:Nat),k<=n/\k<=101/\i = .int .i64 k/\Hid (Below (X+1) W1 wr)/\Hid (∀ x∈l.take k,x.set.data.length<=20/\x.sigs.length<=20)) (λi _=>n - (intOf i).toNat)
 case atStart=>exact⟨0,jQ _,jQ _,rfl,jq (vQ _ _),jq (by simp)⟩
 case round=>
  obtain⟨k,hk,b4J,rfl,eY,HQ⟩:=hrel;have HB:=aaZ bN eY.out;have q1:=aaQ eY.out k1;have aB:=eY.out.size;by_cases ag:k<n
  ·by_cases bUJ:k<=100
   ·have aLQ:decide ((k:Int)<=100)=true:=adQ;obtain⟨x,aF⟩:∃ x,l[k]?=some x:=⟨_,aQ (by rw[Bx.out];exact ag)⟩;obtain⟨b,o,c',sn,dv,sv,hA,cX,_,aP,fK,aV,aZ,f0,f1,f2,f3,f4⟩:=dN (HD.out.keep ax HB.out) aF
    cases hA
    obtain⟨Ad,cd,rfl,_,_⟩:=ba aV;obtain⟨As,cs,rfl,_,_⟩:=ba aZ;obtain⟨nd,C2⟩:=aaK x.set.data.length;obtain⟨ns,zI⟩:=aaK x.sigs.length;rw[C2] at f3;rw[zI] at f4;have HF:Hid (¬ (nd<=20/\ns<=20)->r=false):=jq (λh=>by
     rw[<-HR.out,<-C2,<-zI] at *;exact Np.eX λq=>h (q.2 x (gQ aF)))
    have gz:Hid (nd<=20/\ns<=20->∀ x∈l.take (k+1),x.set.data.length<=20/\x.sigs.length<=20):=jq (λh y hy=>by
     obtain⟨hl,he⟩:=cQ.1 aF;rw[fQ hl,he] at hy;rcases List.mem_append.1 hy with hy | hy
     ·exact HQ.out y hy
     ·rw[List.mem_singleton] at hy;subst hy;rw[C2,zI];exact h)
    clear aF aP aV aZ C2 zI;by_cases g1:20<nd
    ·have d1:decide (20<(nd:Int))=true:=adQ;have HX:=jq (HF.out (by omega));clear g1;go_wp2_with fail;go_ret;exact⟨aj HX.out.symm,HB.out⟩
    ·have d1:decide (20<(nd:Int))=false:=acY;by_cases g2:20<ns
     ·have d2:decide (20<(ns:Int))=true:=adQ;have HX:=jq (HF.out (by omega));clear g1 g2;go_wp2_with fail;go_ret;exact⟨aj HX.out.symm,HB.out⟩
     ·have d2:decide (20<(ns:Int))=false:=acY;have HX:=jq (gz.out (by omega));clear g1 g2;go_wp2_with fail;go_roundw
      case rel=>exact⟨k+1,by omega,by omega,by go_num,eY,HX⟩
      ·simp[intOf]<;>omega
   ·have aLQ:decide ((k:Int)<=100)=false:=acY;have jC:decide ((n:Int)<=100)=false:=acY;have HX:Hid (r=false):=jq (by rw[<-HR.out];exact Np.eX λq=>by have:=q.1;rw[Bx.out] at this;omega);go_wp2_with fail;go_ret;exact⟨aj HX.out.symm,HB.out⟩
  ·have Yp:Hid (∀ x∈l,x.set.data.length<=20/\x.sigs.length<=20):=jq (by have:=HQ.out;rwa [kQ (by rw[Bx.out];omega)] at this);by_cases aRZ:n<=100
   ·have jC:decide ((n:Int)<=100)=true:=adQ;have HX:Hid (r=true):=jq (by rw[<-HR.out];exact Np.gY ⟨by rw[Bx.out];exact aRZ,Yp.out⟩);go_wp2_with fail;go_ret;exact⟨aj HX.out.symm,HB.out⟩
   ·have jC:decide ((n:Int)<=100)=false:=acY;have HX:Hid (r=false):=jq (by rw[<-HR.out];exact Np.eX λq=>by have:=q.1;rw[Bx.out] at this;omega);go_wp2_with fail;go_ret;exact⟨aj HX.out.symm,HB.out⟩
def Np.G9(h:Np.Hist):Prop:=(h.copies.length<=20/\h.hosts.length<=70/\h.hints.length<=20/\h.anchor.data.length<=20)/\(∀ c∈h.copies,Np.yA c.zone.sets/\c.zone.apex.length<=100)/\∀ x∈h.hosts,x.name.length<=100
structure Np.Use(h:Np.Hist):Prop where
 copies:h.copies.length<=21
 hosts:h.hosts.length<=70
 hints:h.hints.length<=20
 data:h.anchor.data.length<=20
 each:∀ c∈h.copies,Np.yA c.zone.sets
theorem Np.G9.use{h:Np.Hist}(k:Np.G9 h):Np.Use h:=
 ⟨by have:=k.1.1;omega,k.1.2.1,k.1.2.2.1,k.1.2.2.2,λc hc=>(k.2.1 c hc).1⟩
theorem Np.Use.withC{h:Np.Hist}(k:Np.Use h){l:List Np.Copy}(hl:l.length<=21)(hz:∀ d∈l,∃ c∈h.copies,d.zone=c.zone):Np.Use (Np.withC h l):=
 ⟨hl,k.hosts,k.hints,k.data,λd hd=>by
  obtain⟨c,hc,e⟩:=hz d hd;rw[e];exact k.each c hc⟩
theorem Np.wR.withC{h:Np.Hist}(k:Np.wR h){l:List Np.Copy}(hz:∀ d∈l,∃ c∈h.copies,d.zone=c.zone):Np.wR (Np.withC h l):=λd hd s hs=>by
 obtain⟨c,hc,e⟩:=hz d hd;rw[e] at hs;exact k c hc s hs
theorem Np.Use.sets{h:Np.Hist}(k:Np.Use h):∀ c∈h.copies,∀ x∈c.zone.sets,x.set.data.length<=100000/\x.sigs.length<=100000:=λc hc x hx=>by
 have:=(k.each c hc).2 x hx
 omega
theorem Np.Use.cut{h:Np.Hist}(k:Np.G9 h)(j:Nat)(a:Int):Np.Use (Np.withC h (Np.wW h.copies j a)):=
 k.use.withC (by have h1:=Np.aqK h.copies j a;have h2:=k.1.1;omega) (λd hd=>by
  obtain⟨c,hc,_,h2,_⟩:=Np.Qr hd;exact⟨c,hc,h2⟩)
theorem Np.wR.cut{h:Np.Hist}(k:Np.wR h)(j:Nat)(a:Int):Np.wR (Np.withC h (Np.wW h.copies j a)):=
 k.withC (λd hd=>by
  obtain⟨c,hc,_,h2,_⟩:=Np.Qr hd;exact⟨c,hc,h2⟩)
end
end Go.Proofs.YtadhigmjilijcaaGreatDoor
