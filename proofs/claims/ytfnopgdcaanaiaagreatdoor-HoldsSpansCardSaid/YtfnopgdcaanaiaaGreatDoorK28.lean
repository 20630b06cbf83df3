/- Parts of the proof. No condition. -/
import Derived.Test.YtfnopgdcaanaiaaGreatDoorK21
import Derived.Test.YtfnopgdcaanaiaaGreatDoorK23
set_option linter.all false
set_option maxRecDepth 100000
set_option maxHeartbeats 8000000
namespace Go.Proofs.YtfnopgdcaanaiaaGreatDoor
open Go.Proofs.Tryz
section
open Go.RowKit
theorem IP(e:List Value)(h:Np.Hist)(hf:Np.xi h)(w:World)(hR:iP w w.heap.size)(hh:fo w w.heap.size e h) :
 Calls prog 56 #[.agg e.toArray] w λe w'=>e = .returned (.bool (Np.yes (Np.VHist h)))/\Below w.heap.size w w':=by
 obtain⟨hv,cv,s,dv,cE,rfl,h1,h2,h3,h4,h5,h6⟩:=hh;obtain⟨hosts,copies,⟨name,ty,life,data⟩,hints,drift,stop⟩:=h;dsimp only at h1 h3 h4 h5 h6;subst h1;exact Of _ hosts _ copies s h2 ty life _ data _ hints drift stop hf.1 hf.2 _ hR h3 h4 h5 h6
def Np.nu(h:Np.Hist):Prop:=(h.copies.length<=20/\h.hosts.length<=70/\h.hints.length<=20/\h.anchor.data.length<=20)/\(∀ c∈h.copies,Np.ox c.zone.sets/\c.zone.apex.length<=100)/\∀ x∈h.hosts,x.name.length<=100
theorem V4(e:List Value)(h:Np.Hist)(w:World)(hh:fo w w.heap.size e h) :
 Calls prog 26 #[.agg e.toArray] w λe w'=>e = .returned (.bool (Np.yes (Np.nu h)))/\Below w.heap.size w w':=by
 obtain⟨hv,cv,s,dv,cE,rfl,_,_,h3,h4,h5',h6⟩:=hh;obtain⟨hosts,copies,⟨name,ty,life,data⟩,hints,drift,stop⟩:=h;dsimp only at h3 h4 h5' h6 |-;have HD:=jq h4;have HH:=jq h3;obtain⟨A1,c1,rfl,_,_⟩:=al h3;obtain⟨A2,c2,rfl,_,_⟩:=al h4;obtain⟨A3,c3,rfl,_,_⟩:=al h5';obtain⟨A4,c4,rfl,_,_⟩:=al h6;clear h3 h4 h5' h6;obtain⟨n1,bp⟩:∃ n,hosts.length=n:=⟨_,rfl⟩;obtain⟨n2,bJ⟩:∃ n,copies.length=n:=⟨_,rfl⟩;obtain⟨n3,di⟩:∃ n,data.length=n:=⟨_,rfl⟩;obtain⟨n4,dO⟩:∃ n,hints.length=n:=⟨_,rfl⟩;rw[bp,bJ,di,dO];rw[bJ] at HD;rw[bp] at HH;have gW:=jq bp;have sN:=jq di;have uE:=jq dO;have ga:=jq bJ;clear bp bJ di dO;obtain⟨r,hr⟩:∃ r,Np.yes (Np.nu ⟨hosts,copies,⟨name,ty,life,data⟩,hints,drift,stop⟩)=r:=⟨_,rfl⟩;rw[hr];have HR:=jq hr;have qP:Hid (Np.nu ⟨hosts,copies,⟨name,ty,life,data⟩,hints,drift,stop⟩↔(n2<=20/\n1<=70/\n4<=20/\n3<=20)/\(∀ c∈copies,Np.ox c.zone.sets/\c.zone.apex.length<=100)/\∀ h∈hosts,h.name.length<=100):=jq (by unfold Np.nu;dsimp only;rw[ga.out,gW.out,sN.out,uE.out]);clear hr;obtain⟨X,hX⟩:∃ X,w.heap.size=X:=⟨_,rfl⟩;have kA:=jq hX;obtain⟨W1,an⟩:∃ W1,w.alloc (.cells #[.slice A1 n1 c1,.slice A2 n2 c2,.string s,.int .i64 ty,.int .i64 life,.slice A3 n3 c3,.slice A4 n4 c4,.int .i64 drift,.int .i64 stop] 29)=W1:=⟨_,rfl⟩;have aL:Below w.heap.size w W1:=by rw[<-an];exact (vQ _ _).alloc (bQ _) _
 have kP:W1.heap.size=w.heap.size+1:=by rw[<-an];simp
 have k0:W1.cell? ⟨X,0,none⟩=some (.slice A1 n1 c1):=by rw[<-an,<-hX];simp[go_sem]
 have k5:W1.cell? ⟨X,5,none⟩=some (.slice A3 n3 c3):=by rw[<-an,<-hX];simp[go_sem]
 have k6:W1.cell? ⟨X,6,none⟩=some (.slice A4 n4 c4):=by rw[<-an,<-hX];simp[go_sem]
 have k1:W1.cell? ⟨X,1,none⟩=some (.slice A2 n2 c2):=by rw[<-an,<-hX];simp[go_sem]
 rw[hX] at aL kP HD HH |-;have aU:=jq aL;clear aL;go_enter func26,ntmps26;go_wp2_with fail;clear an hX;go_loopw [3] (λi wr=>∃ (k:Nat),k<=n2/\k<=21/\i = .int .i64 k/\Hid (Below (X+1) W1 wr)/\Hid (∀ c∈copies.take k,Np.ox c.zone.sets/\c.zone.apex.length<=100)) (λi _=>n2 - (intOf i).toNat)
 case atStart=>exact⟨0,jQ _,jQ _,rfl,jq (vQ _ _),jq (by simp)⟩
 case round=>
  obtain⟨k,hk,aVK,rfl,bH,HQ⟩:=hrel;have HB:=jq (aU.out.trans (bH.out.mono (by omega)));have ap:=bH.out.size;have q0:=(cl bH.out (by omega)).trans k0;have q1:=(cl bH.out (by omega)).trans k1;have q5:=(cl bH.out (by omega)).trans k5;have q6:=(cl bH.out (by omega)).trans k6;by_cases jr:k<n2/\k<=20
  ·obtain⟨aa,bM⟩:=jr;have aTJ:decide ((k:Int)<=20)=true:=uQ (by omega);obtain⟨x,ab⟩:∃ x,copies[k]?=some x:=⟨_,aQ (by rw[ga.out];exact aa)⟩;obtain⟨b,o,sn,vz,rfl,bU,aF,cx,fK,f0,f1,f2,f3,f4⟩:=ve (HD.out.keep kk HB.out) ab;have aS:Hid (x.zone.apex.length=sn.size):=jq (by rw[<-aF,aZ]);have lR:Hid (SlR bk 5 wr wr.heap.size vz x.zone.sets):=jq (fK.more bY (by omega));obtain⟨rz,ed⟩:∃ rz,Np.yes (Np.ox x.zone.sets)=rz:=⟨_,rfl⟩;have fR:=jq ed;have HF:Hid (¬ (Np.ox x.zone.sets/\x.zone.apex.length<=100)->r=false):=jq (λh=>by
    rw[<-HR.out];exact Np.aN λq=>h ((qP.out.1 q).2.1 x (gQ ab)))
   have uF:Hid (Np.ox x.zone.sets/\x.zone.apex.length<=100->∀ c∈copies.take (k+1),Np.ox c.zone.sets/\c.zone.apex.length<=100):=jq (λh y hy=>by
    obtain⟨hl,he⟩:=cQ.1 ab;rw[fQ hl,he] at hy;rcases List.mem_append.1 hy with hy | hy
    ·exact HQ.out y hy
    ·rw[List.mem_singleton] at hy;subst hy;exact h)
   obtain⟨Az,cz,rfl,_,_⟩:=al fK;obtain⟨nz,jy⟩:∃ nz,x.zone.sets.length=nz:=⟨_,rfl⟩;rw[jy] at f4 lR;clear ab aF fK jy ed;go_wp2_with fail;refine (V5 sn _ x.zone.sets _ lR.out).mono ?_;rintro e w3 ⟨rfl,am⟩;have dP:=am.size;have g3:=(cl am (by omega)).trans f3;have g1:=(cl am (by omega)).trans q1;have az:=jq (HB.out.trans (am.mono (by omega)));have FR:=jq (bH.out.trans (am.mono (by omega)));clear am;rw[fR.out]
   cases rz with
   | false=>
    have HX:=jq (HF.out (λh=>by have:=Np.bO h.1;rw[fR.out] at this;cases this));go_wp2_with fail;go_ret;exact⟨ag HX.out.symm,az.out⟩
   | true=>
    by_cases hs:100<sn.size
    ·have d2:decide (100<(sn.size:Int))=true:=uQ (by omega);have HX:=jq (HF.out (λh=>by have:=h.2;rw[aS.out] at this;omega));clear hs;go_wp2_with fail;go_ret;exact⟨ag HX.out.symm,az.out⟩
    ·have d2:decide (100<(sn.size:Int))=false:=tQ (by omega);have HX:=jq (uF.out ⟨Np.fm.1 fR.out,by rw[aS.out];omega⟩);clear hs;go_wp2_with fail;go_roundw
     case rel=>exact⟨k+1,by omega,by omega,by go_num,jq FR.out,HX⟩
     case measure=>simp[intOf] <;> omega
  ·have rt:(decide ((k:Int)<(n2:Int))=false)\/(decide ((k:Int)<(n2:Int))=true/\decide ((k:Int)<=20)=false):=by
    by_cases h1:k<n2
    ·exact .inr ⟨uQ (by omega),tQ (by omega)⟩
    ·exact .inl (tQ (by omega))
   have lM:Hid (n2<=20->∀ c∈copies,Np.ox c.zone.sets/\c.zone.apex.length<=100):=jq (λh=>by
    have:=HQ.out
    rwa [kQ (by rw[ga.out];omega)] at this)
   obtain⟨wo,rfl⟩:∃ wo,wo=wr:=⟨_,rfl⟩;clear rt;have IA:k<n2->decide ((k:Int)<=20)=false:=λh=>tQ (by omega);by_cases nV:k<n2
   ·have ew:=IA nV;clear jr IA;go_wp2_with fail;go_loopw [4] (λi wi=>∃ (j:Nat),j<=n1/\j<=71/\i = .int .i64 j/\Hid (Below wo.heap.size wo wi)/\Hid (∀ x∈hosts.take j,x.name.length<=100)) (λi _=>n1 - (intOf i).toNat)
    case atStart=>exact⟨0,jQ _,jQ _,rfl,jq (vQ _ _),jq (by simp)⟩
    case round=>
     obtain⟨j,hj,XZ,rfl,cA,HP⟩:=hrel;have jJ:=jq (HB.out.trans (cA.out.mono (by omega)));have rW:=cA.out.size;have u0:=(cl cA.out (by omega)).trans q0;have u1:=(cl cA.out (by omega)).trans q1;have u5:=(cl cA.out (by omega)).trans q5;have u6:=(cl cA.out (by omega)).trans q6;by_cases jr:j<n1/\j<=70
     ·obtain⟨aa,WD⟩:=jr;have XA:decide ((j:Int)<=70)=true:=uQ (by omega);obtain⟨x,ab⟩:∃ x,hosts[j]?=some x:=⟨_,aQ (by rw[gW.out];exact aa)⟩;obtain⟨b,o,sn,rfl,bU,aF,cx,f0,f1,f2⟩:=BT (HH.out.keep km jJ.out) ab;have aS:Hid (x.name.length=sn.size):=jq (by rw[<-aF,aZ]);have HF:Hid (¬ x.name.length<=100->r=false):=jq (λh=>by
       rw[<-HR.out];exact Np.aN λq=>h ((qP.out.1 q).2.2 x (gQ ab)))
      have oH:Hid (x.name.length<=100->∀ c∈hosts.take (j+1),c.name.length<=100):=jq (λh y hy=>by
       obtain⟨hl,he⟩:=cQ.1 ab;rw[fQ hl,he] at hy;rcases List.mem_append.1 hy with hy | hy
       ·exact HP.out y hy
       ·rw[List.mem_singleton] at hy;subst hy;exact h)
      clear ab aF;by_cases hs:100<sn.size
      ·have d2:decide (100<(sn.size:Int))=true:=uQ (by omega);have HX:=jq (HF.out (λh=>by rw[aS.out] at h;omega));clear hs;go_wp2_with fail;go_ret;exact⟨ag HX.out.symm,jJ.out⟩
      ·have d2:decide (100<(sn.size:Int))=false:=tQ (by omega);have HX:=jq (oH.out (by rw[aS.out];omega));clear hs;go_wp2_with fail;go_roundw
       case rel=>exact⟨j+1,by omega,by omega,by go_num,cA,HX⟩
       case measure=>simp[intOf] <;> omega
     ·have vO:j<n1->decide ((j:Int)<=70)=false:=λh=>tQ (by omega);have Gd:Hid (n1<=70->∀ x∈hosts,x.name.length<=100):=jq (λh=>by
       have:=HP.out
       rwa [kQ (by rw[gW.out];omega)] at this)
      have vV:(20<n2\/70<n1\/20<n4\/20<n3)->r=false:=λh=>by rw[<-HR.out];exact Np.aN λq=>by have:=(qP.out.1 q).1;omega
      have GF:=jq vV;have zY:Hid (n2<=20/\n1<=70/\n4<=20/\n3<=20->r=true):=jq (λh=>by rw[<-HR.out];exact Np.bO (qP.out.2 ⟨h,lM.out h.1,Gd.out h.2.1⟩));clear jr vV;have aA:∃ c1 c2 c3 c4:Bool,decide ((n2:Int)<=20)=c1/\decide ((n1:Int)<=70)=c2/\decide ((n4:Int)<=20)=c3/\decide ((n3:Int)<=20)=c4/\Hid (r=(c1&&c2&&c3&&c4)):=by
       refine⟨_,_,_,_,rfl,rfl,rfl,rfl,jq ?_⟩;by_cases h:n2<=20/\n1<=70/\n4<=20/\n3<=20
       ·rw[zY.out h,uQ (by omega),uQ (by omega),uQ (by omega),uQ (by omega)];rfl
       ·rw[GF.out (by omega)]
        symm
        rw[Bool.eq_false_iff];intro hb;simp only[Bool.and_eq_true,Qa] at hb;omega
      obtain⟨c1',c2',c3',c4',e1,e2,e3,e4,qX⟩:=aA;by_cases oZ:j<n1
      ·have jw:=vO oZ;clear vO
       cases c1' <;> cases c2' <;> cases c3' <;> cases c4'
       all_goals
        go_wp2_with fail;go_ret;exact⟨ag qX.out.symm,jJ.out⟩
      ·have jw:=oZ;clear vO
       cases c1' <;> cases c2' <;> cases c3' <;> cases c4'
       all_goals
        go_wp2_with fail;go_ret;exact⟨ag qX.out.symm,jJ.out⟩
   ·clear jr IA;go_wp2_with fail;go_loopw [4] (λi wi=>∃ (j:Nat),j<=n1/\j<=71/\i = .int .i64 j/\Hid (Below wo.heap.size wo wi)/\Hid (∀ x∈hosts.take j,x.name.length<=100)) (λi _=>n1 - (intOf i).toNat)
    case atStart=>exact⟨0,jQ _,jQ _,rfl,jq (vQ _ _),jq (by simp)⟩
    case round=>
     obtain⟨j,hj,XZ,rfl,cA,HP⟩:=hrel;have jJ:=jq (HB.out.trans (cA.out.mono (by omega)));have rW:=cA.out.size;have u0:=(cl cA.out (by omega)).trans q0;have u1:=(cl cA.out (by omega)).trans q1;have u5:=(cl cA.out (by omega)).trans q5;have u6:=(cl cA.out (by omega)).trans q6;by_cases jr:j<n1/\j<=70
     ·obtain⟨aa,WD⟩:=jr;have XA:decide ((j:Int)<=70)=true:=uQ (by omega);obtain⟨x,ab⟩:∃ x,hosts[j]?=some x:=⟨_,aQ (by rw[gW.out];exact aa)⟩;obtain⟨b,o,sn,rfl,bU,aF,cx,f0,f1,f2⟩:=BT (HH.out.keep km jJ.out) ab;have aS:Hid (x.name.length=sn.size):=jq (by rw[<-aF,aZ]);have HF:Hid (¬ x.name.length<=100->r=false):=jq (λh=>by
       rw[<-HR.out];exact Np.aN λq=>h ((qP.out.1 q).2.2 x (gQ ab)))
      have oH:Hid (x.name.length<=100->∀ c∈hosts.take (j+1),c.name.length<=100):=jq (λh y hy=>by
       obtain⟨hl,he⟩:=cQ.1 ab;rw[fQ hl,he] at hy;rcases List.mem_append.1 hy with hy | hy
       ·exact HP.out y hy
       ·rw[List.mem_singleton] at hy;subst hy;exact h)
      clear ab aF;by_cases hs:100<sn.size
      ·have d2:decide (100<(sn.size:Int))=true:=uQ (by omega);have HX:=jq (HF.out (λh=>by rw[aS.out] at h;omega));clear hs;go_wp2_with fail;go_ret;exact⟨ag HX.out.symm,jJ.out⟩
      ·have d2:decide (100<(sn.size:Int))=false:=tQ (by omega);have HX:=jq (oH.out (by rw[aS.out];omega));clear hs;go_wp2_with fail;go_roundw
       case rel=>exact⟨j+1,by omega,by omega,by go_num,cA,HX⟩
       case measure=>simp[intOf] <;> omega
     ·have vO:j<n1->decide ((j:Int)<=70)=false:=λh=>tQ (by omega);have Gd:Hid (n1<=70->∀ x∈hosts,x.name.length<=100):=jq (λh=>by
       have:=HP.out
       rwa [kQ (by rw[gW.out];omega)] at this)
      have vV:(20<n2\/70<n1\/20<n4\/20<n3)->r=false:=λh=>by rw[<-HR.out];exact Np.aN λq=>by have:=(qP.out.1 q).1;omega
      have GF:=jq vV;have zY:Hid (n2<=20/\n1<=70/\n4<=20/\n3<=20->r=true):=jq (λh=>by rw[<-HR.out];exact Np.bO (qP.out.2 ⟨h,lM.out h.1,Gd.out h.2.1⟩));clear jr vV;have aA:∃ c1 c2 c3 c4:Bool,decide ((n2:Int)<=20)=c1/\decide ((n1:Int)<=70)=c2/\decide ((n4:Int)<=20)=c3/\decide ((n3:Int)<=20)=c4/\Hid (r=(c1&&c2&&c3&&c4)):=by
       refine⟨_,_,_,_,rfl,rfl,rfl,rfl,jq ?_⟩;by_cases h:n2<=20/\n1<=70/\n4<=20/\n3<=20
       ·rw[zY.out h,uQ (by omega),uQ (by omega),uQ (by omega),uQ (by omega)];rfl
       ·rw[GF.out (by omega)]
        symm
        rw[Bool.eq_false_iff];intro hb;simp only[Bool.and_eq_true,Qa] at hb;omega
      obtain⟨c1',c2',c3',c4',e1,e2,e3,e4,qX⟩:=aA;by_cases oZ:j<n1
      ·have jw:=vO oZ;clear vO
       cases c1' <;> cases c2' <;> cases c3' <;> cases c4'
       all_goals
        go_wp2_with fail;go_ret;exact⟨ag qX.out.symm,jJ.out⟩
      ·have jw:=oZ;clear vO
       cases c1' <;> cases c2' <;> cases c3' <;> cases c4'
       all_goals
        go_wp2_with fail;go_ret;exact⟨ag qX.out.symm,jJ.out⟩
structure Np.Use(h:Np.Hist):Prop where
 copies:h.copies.length<=21
 hosts:h.hosts.length<=70
 hints:h.hints.length<=20
 data:h.anchor.data.length<=20
 each:∀ c∈h.copies,Np.ox c.zone.sets
theorem Np.nu.use{h:Np.Hist}(k:Np.nu h):Np.Use h:=
 ⟨by have:=k.1.1;omega,k.1.2.1,k.1.2.2.1,k.1.2.2.2,λc hc=>(k.2.1 c hc).1⟩
theorem Np.Use.withC{h:Np.Hist}(k:Np.Use h){l:List Np.Copy}(hl:l.length<=21)(hz:∀ d∈l,∃ c∈h.copies,d.zone=c.zone):Np.Use (Np.withC h l):=
 ⟨hl,k.hosts,k.hints,k.data,λd hd=>by
  obtain⟨c,hc,e⟩:=hz d hd;rw[e];exact k.each c hc⟩
theorem Np.jS.withC{h:Np.Hist}(k:Np.jS h){l:List Np.Copy}(hz:∀ d∈l,∃ c∈h.copies,d.zone=c.zone):Np.jS (Np.withC h l):=λd hd s hs=>by
 obtain⟨c,hc,e⟩:=hz d hd;rw[e] at hs;exact k c hc s hs
theorem Np.Use.fewH{h:Np.Hist}(k:Np.Use h):Np.xi h:=
 ⟨by have:=k.copies;omega,λc hc=>by have:=(k.each c hc).1;omega⟩
theorem Np.Use.big{h:Np.Hist}(k:Np.Use h):h.hosts.length<=100000/\h.hints.length<=100000/\h.anchor.data.length<=100000:=by
 have h1:=k.hosts;have h2:=k.hints;have h3:=k.data;omega
theorem Np.Use.sets{h:Np.Hist}(k:Np.Use h):∀ c∈h.copies,∀ x∈c.zone.sets,x.set.data.length<=100000/\x.sigs.length<=100000:=λc hc x hx=>by
 have:=(k.each c hc).2 x hx
 omega
theorem Np.ahX{l:List Np.Copy}{n:Nat}(h:∀ c∈l,c.zone.sets.length<=n)(zone:List UInt8):(Np.de l zone).length<=l.length * n:=by
 induction l with
 | nil=>simp[Np.de,Np.vd]
 | cons c l ih=>
  have h1:=ih (λd hd=>h d (mQ _ hd));have h2:=h c (by simp);have e:=Np.Qj [c] l zone;rw[List.singleton_append] at e;rw[e,List.length_append,List.length_cons,Nat.add_mul,Nat.one_mul];have h3:(Np.de [c] zone).length<=n:=by
   unfold Np.de Np.vd;rw[List.filter_cons,List.filter_nil];split
   ·simp[Np.oe];exact h2
   ·simp
  omega
theorem Np.Use.pairs{h:Np.Hist}(k:Np.Use h)(zone:List UInt8):(Np.de h.copies zone).length<=5000:=by
 have h1:=Np.ahX (λc hc=>(k.each c hc).1) zone;have h2:=Nat.mul_le_mul_right 100 k.copies;omega
theorem Np.Use.cut{h:Np.Hist}(k:Np.nu h)(j:Nat)(a:Int):Np.Use (Np.withC h (Np.vf h.copies j a)):=
 k.use.withC (by have h1:=Np.VH h.copies j a;have h2:=k.1.1;omega) (λd hd=>by
  obtain⟨c,hc,_,h2,_⟩:=Np.MP hd;exact⟨c,hc,h2⟩)
theorem Np.jS.cut{h:Np.Hist}(k:Np.jS h)(j:Nat)(a:Int):Np.jS (Np.withC h (Np.vf h.copies j a)):=
 k.withC (λd hd=>by
  obtain⟨c,hc,_,h2,_⟩:=Np.MP hd;exact⟨c,hc,h2⟩)
theorem Np.Use.short{h:Np.Hist}(k:Np.nu h)(u:Int):Np.Use (Np.withC h (Np.yZ h.copies u)):=
 k.use.withC (by have h1:=Np.ayJ h.copies u;have h2:=k.1.1;omega) (λd hd=>by
  obtain⟨c,hc,rfl,_⟩:=Np.PX.1 hd;exact⟨c,hc,rfl⟩)
theorem Np.jS.short{h:Np.Hist}(k:Np.jS h)(u:Int):Np.jS (Np.withC h (Np.yZ h.copies u)):=
 k.withC (λd hd=>by
  obtain⟨c,hc,rfl,_⟩:=Np.PX.1 hd;exact⟨c,hc,rfl⟩)
end
end Go.Proofs.YtfnopgdcaanaiaaGreatDoor
