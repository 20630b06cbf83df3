/- Parts of the proof. No condition. -/
import Derived.Test.YtfnopgdcaanaiaaGreatDoorM17
set_option linter.all false
set_option maxRecDepth 100000
set_option maxHeartbeats 8000000
namespace Go.Proofs.YtfnopgdcaanaiaaGreatDoor
open Go.Proofs.Tryz
section
open Go.RowKit
def Np.rR(h:Np.Hist):Prop:=(h.copies.length<=20/\h.hosts.length<=70/\h.hints.length<=20/\h.anchor.data.length<=20)/\(∀ c∈h.copies,Np.pB c.zone.sets/\c.zone.apex.length<=100)/\∀ x∈h.hosts,x.name.length<=100
theorem Xk(e:List Value)(h:Np.Hist)(w:World)(hh:gC w w.heap.size e h) :
 Calls prog 26 #[.agg e.toArray] w λe w'=>e = .returned (.bool (Np.yes (Np.rR h)))/\Below w.heap.size w w':=by
 obtain⟨hv,cv,s,dv,dU,rfl,_,_,h3,h4,h5',h6⟩:=hh;obtain⟨hosts,copies,⟨name,ty,life,data⟩,hints,drift,stop⟩:=h;dsimp only at h3 h4 h5' h6 |-;have HD:=jq h4;have HH:=jq h3;obtain⟨A1,c1,rfl,_,_⟩:=ak h3;obtain⟨A2,c2,rfl,_,_⟩:=ak h4;obtain⟨A3,c3,rfl,_,_⟩:=ak h5';obtain⟨A4,c4,rfl,_,_⟩:=ak h6;clear h3 h4 h5' h6;obtain⟨n1,bP⟩:=acJ hosts.length;obtain⟨n2,cr⟩:=acJ copies.length;obtain⟨n3,eu⟩:=acJ data.length;obtain⟨n4,eP⟩:=acJ hints.length;rw[bP,cr,eu,eP];rw[cr] at HD;rw[bP] at HH;have kL:=jq bP;have DA:=jq eu;have Hg:=jq eP;have da:=jq cr;clear bP cr eu eP;obtain⟨r,hr⟩:=acJ (Np.yes (Np.rR ⟨hosts,copies,⟨name,ty,life,data⟩,hints,drift,stop⟩));rw[hr];have HR:=jq hr;have vC:Hid (Np.rR ⟨hosts,copies,⟨name,ty,life,data⟩,hints,drift,stop⟩↔(n2<=20/\n1<=70/\n4<=20/\n3<=20)/\(∀ c∈copies,Np.pB c.zone.sets/\c.zone.apex.length<=100)/\∀ h∈hosts,h.name.length<=100):=jq (by unfold Np.rR;dsimp only;rw[da.out,kL.out,DA.out,Hg.out]);clear hr;obtain⟨X,hX⟩:=acJ w.heap.size;have kN:=jq hX;obtain⟨W1,am⟩:=acJ (w.alloc (.cells #[.slice A1 n1 c1,.slice A2 n2 c2,.string s,.int .i64 ty,.int .i64 life,.slice A3 n3 c3,.slice A4 n4 c4,.int .i64 drift,.int .i64 stop] 29));have aI:Below w.heap.size w W1:=by rw[<-am];exact (vQ _ _).alloc (bQ _) _
 have iS:W1.heap.size=w.heap.size+1:=by rw[<-am];simp
 have k0:W1.cell? ⟨X,0,none⟩=some (.slice A1 n1 c1):=by rw[<-am,<-hX];simp[go_sem]
 have k5:W1.cell? ⟨X,5,none⟩=some (.slice A3 n3 c3):=by rw[<-am,<-hX];simp[go_sem]
 have k6:W1.cell? ⟨X,6,none⟩=some (.slice A4 n4 c4):=by rw[<-am,<-hX];simp[go_sem]
 have k1:W1.cell? ⟨X,1,none⟩=some (.slice A2 n2 c2):=by rw[<-am,<-hX];simp[go_sem]
 rw[hX] at aI iS HD HH |-;have aV:=jq aI;clear aI;go_enter func26,ntmps26;go_wp2_with fail;clear am hX;go_loopw [3] (λi wr=>∃ (k:Nat),k<=n2/\k<=21/\i = .int .i64 k/\Hid (Below (X+1) W1 wr)/\Hid (∀ c∈copies.take k,Np.pB c.zone.sets/\c.zone.apex.length<=100)) (λi _=>n2 - (intOf i).toNat)
 case atStart=>exact⟨0,jQ _,jQ _,rfl,jq (vQ _ _),jq (by simp)⟩
 case round=>
  obtain⟨k,hk,a6Y,rfl,bG,HQ⟩:=hrel;have HB:=acZ aV bG.out;have an:=bG.out.size;have q0:=aaJ bG.out k0;have q1:=aaJ bG.out k1;have q5:=aaJ bG.out k5;have q6:=aaJ bG.out k6;by_cases kw:k<n2/\k<=20
  ·obtain⟨ab,bW⟩:=kw;have a4J:decide ((k:Int)<=20)=true:=adK;obtain⟨x,aa⟩:∃ x,copies[k]?=some x:=⟨_,aQ (by rw[da.out];exact ab)⟩;obtain⟨b,o,sn,vz,rfl,bA,aw,cB,fJ,f0,f1,f2,f3,f4⟩:=t8 (HD.out.keep mp HB.out) aa;have aT:Hid (x.zone.apex.length=sn.size):=jq (by rw[<-aw,bn]);have kk:Hid (SlR bO 5 wr wr.heap.size vz x.zone.sets):=jq (fJ.more cC (by omega));obtain⟨rz,fy⟩:=acJ (Np.yes (Np.pB x.zone.sets));have ja:=jq fy;have HF:Hid (¬ (Np.pB x.zone.sets/\x.zone.apex.length<=100)->r=false):=jq (λh=>by
    rw[<-HR.out];exact Np.aF λq=>h ((vC.out.1 q).2.1 x (gQ aa)))
   have qW:Hid (Np.pB x.zone.sets/\x.zone.apex.length<=100->∀ c∈copies.take (k+1),Np.pB c.zone.sets/\c.zone.apex.length<=100):=jq (λh y hy=>by
    obtain⟨hl,he⟩:=cQ.1 aa;rw[fQ hl,he] at hy;rcases List.mem_append.1 hy with hy | hy
    ·exact HQ.out y hy
    ·rw[List.mem_singleton] at hy;subst hy;exact h)
   obtain⟨Az,cz,rfl,_,_⟩:=ak fJ;obtain⟨nz,ju⟩:=acJ x.zone.sets.length;rw[ju] at f4 kk;clear aa aw fJ ju fy;go_wp2_with fail;refine (Xl sn _ x.zone.sets _ kk.out).mono ?_;rintro e w3 ⟨rfl,aq⟩;have eR:=aq.size;have g3:=aaJ aq f3;have g1:=aaJ aq q1;have ar:=acZ HB aq;have Gy:=acZ bG aq;clear aq;rw[ja.out]
   cases rz with
   | false=>
    have HX:=jq (HF.out (λh=>by have:=Np.bh h.1;rw[ja.out] at this;cases this));go_wp2_with fail;go_ret;exact⟨ag HX.out.symm,ar.out⟩
   | true=>
    by_cases hs:100<sn.size
    ·have d2:decide (100<(sn.size:Int))=true:=adK;have HX:=jq (HF.out (λh=>by have:=h.2;rw[aT.out] at this;omega));clear hs;go_wp2_with fail;go_ret;exact⟨ag HX.out.symm,ar.out⟩
    ·have d2:decide (100<(sn.size:Int))=false:=adJ;have HX:=jq (qW.out ⟨Np.fq.1 ja.out,by rw[aT.out];omega⟩);clear hs;go_wp2_with fail;go_roundw
     case rel=>exact⟨k+1,by omega,by omega,by go_num,jq Gy.out,HX⟩
     case measure=>simp[intOf] <;> omega
  ·have mF:(decide ((k:Int)<(n2:Int))=false)\/(decide ((k:Int)<(n2:Int))=true/\decide ((k:Int)<=20)=false):=by
    by_cases h1:k<n2
    ·exact .inr ⟨adK,adJ⟩
    ·exact .inl (adJ)
   have mx:Hid (n2<=20->∀ c∈copies,Np.pB c.zone.sets/\c.zone.apex.length<=100):=jq (λh=>by
    have:=HQ.out
    rwa [kQ (by rw[da.out];omega)] at this)
   obtain⟨wo,rfl⟩:=acY wr;clear mF;have JC:k<n2->decide ((k:Int)<=20)=false:=λh=>adJ;by_cases pa:k<n2
   ·have fI:=JC pa;clear kw JC;go_wp2_with fail;go_loopw [4] (λi wi=>∃ (j:Nat),j<=n1/\j<=71/\i = .int .i64 j/\Hid (Below wo.heap.size wo wi)/\Hid (∀ x∈hosts.take j,x.name.length<=100)) (λi _=>n1 - (intOf i).toNat)
    case atStart=>exact⟨0,jQ _,jQ _,rfl,jq (vQ _ _),jq (by simp)⟩
    case round=>
     obtain⟨j,hj,Y5,rfl,cw,HP⟩:=hrel;have kJ:=acZ HB cw.out;have uN:=cw.out.size;have u0:=aaJ cw.out q0;have u1:=aaJ cw.out q1;have u5:=aaJ cw.out q5;have u6:=aaJ cw.out q6;by_cases kw:j<n1/\j<=70
     ·obtain⟨ab,XS⟩:=kw;have YE:decide ((j:Int)<=70)=true:=adK;obtain⟨x,aa⟩:∃ x,hosts[j]?=some x:=⟨_,aQ (by rw[kL.out];exact ab)⟩;obtain⟨b,o,sn,rfl,bA,aw,cB,f0,f1,f2⟩:=Cv (HH.out.keep oh kJ.out) aa;have aT:Hid (x.name.length=sn.size):=jq (by rw[<-aw,bn]);have HF:Hid (¬ x.name.length<=100->r=false):=jq (λh=>by
       rw[<-HR.out];exact Np.aF λq=>h ((vC.out.1 q).2.2 x (gQ aa)))
      have pM:Hid (x.name.length<=100->∀ c∈hosts.take (j+1),c.name.length<=100):=jq (λh y hy=>by
       obtain⟨hl,he⟩:=cQ.1 aa;rw[fQ hl,he] at hy;rcases List.mem_append.1 hy with hy | hy
       ·exact HP.out y hy
       ·rw[List.mem_singleton] at hy;subst hy;exact h)
      clear aa aw;by_cases hs:100<sn.size
      ·have d2:decide (100<(sn.size:Int))=true:=adK;have HX:=jq (HF.out (λh=>by rw[aT.out] at h;omega));clear hs;go_wp2_with fail;go_ret;exact⟨ag HX.out.symm,kJ.out⟩
      ·have d2:decide (100<(sn.size:Int))=false:=adJ;have HX:=jq (pM.out (by rw[aT.out];omega));clear hs;go_wp2_with fail;go_roundw
       case rel=>exact⟨j+1,by omega,by omega,by go_num,cw,HX⟩
       case measure=>simp[intOf] <;> omega
     ·have wW:j<n1->decide ((j:Int)<=70)=false:=λh=>adJ;have GO:Hid (n1<=70->∀ x∈hosts,x.name.length<=100):=jq (λh=>by
       have:=HP.out
       rwa [kQ (by rw[kL.out];omega)] at this)
      have xo:(20<n2\/70<n1\/20<n4\/20<n3)->r=false:=λh=>by rw[<-HR.out];exact Np.aF λq=>by have:=(vC.out.1 q).1;omega
      have Hm:=jq xo;have Bd:Hid (n2<=20/\n1<=70/\n4<=20/\n3<=20->r=true):=jq (λh=>by rw[<-HR.out];exact Np.bh (vC.out.2 ⟨h,mx.out h.1,GO.out h.2.1⟩));clear kw xo;have bX:∃ c1 c2 c3 c4:Bool,decide ((n2:Int)<=20)=c1/\decide ((n1:Int)<=70)=c2/\decide ((n4:Int)<=20)=c3/\decide ((n3:Int)<=20)=c4/\Hid (r=(c1&&c2&&c3&&c4)):=by
       refine⟨_,_,_,_,rfl,rfl,rfl,rfl,jq ?_⟩;by_cases h:n2<=20/\n1<=70/\n4<=20/\n3<=20
       ·rw[Bd.out h,adK,adK,adK,uQ (by omega)];rfl
       ·rw[Hm.out (by omega)]
        symm
        rw[Bool.eq_false_iff];intro hb;simp only[Bool.and_eq_true,Qa] at hb;omega
      obtain⟨c1',c2',c3',c4',e1,e2,e3,e4,sj⟩:=bX;by_cases nU:j<n1
      ·have jN:=wW nU;clear wW
       cases c1' <;> cases c2' <;> cases c3' <;> cases c4'
       all_goals
        go_wp2_with fail;go_ret;exact⟨ag sj.out.symm,kJ.out⟩
      ·have jN:=nU;clear wW
       cases c1' <;> cases c2' <;> cases c3' <;> cases c4'
       all_goals
        go_wp2_with fail;go_ret;exact⟨ag sj.out.symm,kJ.out⟩
   ·clear kw JC;go_wp2_with fail;go_loopw [4] (λi wi=>∃ (j:Nat),j<=n1/\j<=71/\i = .int .i64 j/\Hid (Below wo.heap.size wo wi)/\Hid (∀ x∈hosts.take j,x.name.length<=100)) (λi _=>n1 - (intOf i).toNat)
    case atStart=>exact⟨0,jQ _,jQ _,rfl,jq (vQ _ _),jq (by simp)⟩
    case round=>
     obtain⟨j,hj,Y5,rfl,cw,HP⟩:=hrel;have kJ:=acZ HB cw.out;have uN:=cw.out.size;have u0:=aaJ cw.out q0;have u1:=aaJ cw.out q1;have u5:=aaJ cw.out q5;have u6:=aaJ cw.out q6;by_cases kw:j<n1/\j<=70
     ·obtain⟨ab,XS⟩:=kw;have YE:decide ((j:Int)<=70)=true:=adK;obtain⟨x,aa⟩:∃ x,hosts[j]?=some x:=⟨_,aQ (by rw[kL.out];exact ab)⟩;obtain⟨b,o,sn,rfl,bA,aw,cB,f0,f1,f2⟩:=Cv (HH.out.keep oh kJ.out) aa;have aT:Hid (x.name.length=sn.size):=jq (by rw[<-aw,bn]);have HF:Hid (¬ x.name.length<=100->r=false):=jq (λh=>by
       rw[<-HR.out];exact Np.aF λq=>h ((vC.out.1 q).2.2 x (gQ aa)))
      have pM:Hid (x.name.length<=100->∀ c∈hosts.take (j+1),c.name.length<=100):=jq (λh y hy=>by
       obtain⟨hl,he⟩:=cQ.1 aa;rw[fQ hl,he] at hy;rcases List.mem_append.1 hy with hy | hy
       ·exact HP.out y hy
       ·rw[List.mem_singleton] at hy;subst hy;exact h)
      clear aa aw;by_cases hs:100<sn.size
      ·have d2:decide (100<(sn.size:Int))=true:=adK;have HX:=jq (HF.out (λh=>by rw[aT.out] at h;omega));clear hs;go_wp2_with fail;go_ret;exact⟨ag HX.out.symm,kJ.out⟩
      ·have d2:decide (100<(sn.size:Int))=false:=adJ;have HX:=jq (pM.out (by rw[aT.out];omega));clear hs;go_wp2_with fail;go_roundw
       case rel=>exact⟨j+1,by omega,by omega,by go_num,cw,HX⟩
       case measure=>simp[intOf] <;> omega
     ·have wW:j<n1->decide ((j:Int)<=70)=false:=λh=>adJ;have GO:Hid (n1<=70->∀ x∈hosts,x.name.length<=100):=jq (λh=>by
       have:=HP.out
       rwa [kQ (by rw[kL.out];omega)] at this)
      have xo:(20<n2\/70<n1\/20<n4\/20<n3)->r=false:=λh=>by rw[<-HR.out];exact Np.aF λq=>by have:=(vC.out.1 q).1;omega
      have Hm:=jq xo;have Bd:Hid (n2<=20/\n1<=70/\n4<=20/\n3<=20->r=true):=jq (λh=>by rw[<-HR.out];exact Np.bh (vC.out.2 ⟨h,mx.out h.1,GO.out h.2.1⟩));clear kw xo;have bX:∃ c1 c2 c3 c4:Bool,decide ((n2:Int)<=20)=c1/\decide ((n1:Int)<=70)=c2/\decide ((n4:Int)<=20)=c3/\decide ((n3:Int)<=20)=c4/\Hid (r=(c1&&c2&&c3&&c4)):=by
       refine⟨_,_,_,_,rfl,rfl,rfl,rfl,jq ?_⟩;by_cases h:n2<=20/\n1<=70/\n4<=20/\n3<=20
       ·rw[Bd.out h,adK,adK,adK,uQ (by omega)];rfl
       ·rw[Hm.out (by omega)]
        symm
        rw[Bool.eq_false_iff];intro hb;simp only[Bool.and_eq_true,Qa] at hb;omega
      obtain⟨c1',c2',c3',c4',e1,e2,e3,e4,sj⟩:=bX;by_cases nU:j<n1
      ·have jN:=wW nU;clear wW
       cases c1' <;> cases c2' <;> cases c3' <;> cases c4'
       all_goals
        go_wp2_with fail;go_ret;exact⟨ag sj.out.symm,kJ.out⟩
      ·have jN:=nU;clear wW
       cases c1' <;> cases c2' <;> cases c3' <;> cases c4'
       all_goals
        go_wp2_with fail;go_ret;exact⟨ag sj.out.symm,kJ.out⟩
structure Np.Use(h:Np.Hist):Prop where
 copies:h.copies.length<=21
 hosts:h.hosts.length<=70
 hints:h.hints.length<=20
 data:h.anchor.data.length<=20
 each:∀ c∈h.copies,Np.pB c.zone.sets
theorem Np.rR.use{h:Np.Hist}(k:Np.rR h):Np.Use h:=
 ⟨by have:=k.1.1;omega,k.1.2.1,k.1.2.2.1,k.1.2.2.2,λc hc=>(k.2.1 c hc).1⟩
theorem Np.Use.withC{h:Np.Hist}(k:Np.Use h){l:List Np.Copy}(hl:l.length<=21)(hz:∀ d∈l,∃ c∈h.copies,d.zone=c.zone):Np.Use (Np.withC h l):=
 ⟨hl,k.hosts,k.hints,k.data,λd hd=>by
  obtain⟨c,hc,e⟩:=hz d hd;rw[e];exact k.each c hc⟩
theorem Np.lG.withC{h:Np.Hist}(k:Np.lG h){l:List Np.Copy}(hz:∀ d∈l,∃ c∈h.copies,d.zone=c.zone):Np.lG (Np.withC h l):=λd hd s hs=>by
 obtain⟨c,hc,e⟩:=hz d hd;rw[e] at hs;exact k c hc s hs
theorem Np.Use.fewH{h:Np.Hist}(k:Np.Use h):Np.yf h:=
 ⟨by have:=k.copies;omega,λc hc=>by have:=(k.each c hc).1;omega⟩
theorem Np.Use.sets{h:Np.Hist}(k:Np.Use h):∀ c∈h.copies,∀ x∈c.zone.sets,x.set.data.length<=100000/\x.sigs.length<=100000:=λc hc x hx=>by
 have:=(k.each c hc).2 x hx
 omega
theorem Np.arJ{l:List Np.Copy}{n:Nat}(h:∀ c∈l,c.zone.sets.length<=n)(zone:List UInt8):(Np.cX l zone).length<=l.length * n:=by
 induction l with
 | nil=>simp[Np.cX,Np.tY]
 | cons c l ih=>
  have h1:=ih (λd hd=>h d (mQ _ hd));have h2:=h c (by simp);have e:=Np.FB [c] l zone;rw[List.singleton_append] at e;rw[e,List.length_append,List.length_cons,Nat.add_mul,Nat.one_mul];have h3:(Np.cX [c] zone).length<=n:=by
   unfold Np.cX Np.tY;rw[List.filter_cons,List.filter_nil];split
   ·simp[Np.oe];exact h2
   ·simp
  omega
theorem Np.Use.pairs{h:Np.Hist}(k:Np.Use h)(zone:List UInt8):(Np.cX h.copies zone).length<=5000:=by
 have h1:=Np.arJ (λc hc=>(k.each c hc).1) zone;have h2:=Nat.mul_le_mul_right 100 k.copies;omega
theorem Np.Use.cut{h:Np.Hist}(k:Np.rR h)(j:Nat)(a:Int):Np.Use (Np.withC h (Np.wu h.copies j a)):=
 k.use.withC (by have h1:=Np.WO h.copies j a;have h2:=k.1.1;omega) (λd hd=>by
  obtain⟨c,hc,_,h2,_⟩:=Np.Ol hd;exact⟨c,hc,h2⟩)
theorem Np.lG.cut{h:Np.Hist}(k:Np.lG h)(j:Nat)(a:Int):Np.lG (Np.withC h (Np.wu h.copies j a)):=
 k.withC (λd hd=>by
  obtain⟨c,hc,_,h2,_⟩:=Np.Ol hd;exact⟨c,hc,h2⟩)
theorem Np.Use.short{h:Np.Hist}(k:Np.rR h)(u:Int):Np.Use (Np.withC h (Np.zK h.copies u)):=
 k.use.withC (by have h1:=Np.aKK h.copies u;have h2:=k.1.1;omega) (λd hd=>by
  obtain⟨c,hc,rfl,_⟩:=Np.Rj.1 hd;exact⟨c,hc,rfl⟩)
theorem Np.lG.short{h:Np.Hist}(k:Np.lG h)(u:Int):Np.lG (Np.withC h (Np.zK h.copies u)):=
 k.withC (λd hd=>by
  obtain⟨c,hc,rfl,_⟩:=Np.Rj.1 hd;exact⟨c,hc,rfl⟩)
end
end Go.Proofs.YtfnopgdcaanaiaaGreatDoor
