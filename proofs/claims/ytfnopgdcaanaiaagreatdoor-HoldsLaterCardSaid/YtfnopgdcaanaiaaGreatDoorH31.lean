/- Parts of the proof. No condition. -/
import Derived.Test.YtfnopgdcaanaiaaGreatDoorH24
import Derived.Test.YtfnopgdcaanaiaaGreatDoorH26
set_option linter.all false
set_option maxRecDepth 100000
set_option maxHeartbeats 8000000
namespace Go.Proofs.YtfnopgdcaanaiaaGreatDoor
open Go.Proofs.Tryz
section
open Go.RowKit
def Np.me(h:Np.Hist):Prop:=(h.copies.length<=20/\h.hosts.length<=70/\h.hints.length<=20/\h.anchor.data.length<=20)/\(∀ c∈h.copies,Np.mN c.zone.sets/\c.zone.apex.length<=100)/\∀ x∈h.hosts,x.name.length<=100
theorem Sm(e:List Value)(h:Np.Hist)(w:World)(hh:ed w w.heap.size e h) :
 Calls prog 26 #[.agg e.toArray] w λe w'=>e = .returned (.bool (Np.yes (Np.me h)))/\Below w.heap.size w w':=by
 obtain⟨hv,cv,s,dv,cN,rfl,_,_,h3,h4,h5',h6⟩:=hh;obtain⟨hosts,copies,⟨name,ty,life,data⟩,hints,drift,stop⟩:=h;dsimp only at h3 h4 h5' h6 |-;have HD:=jq h4;have HH:=jq h3;obtain⟨A1,c1,rfl,_,_⟩:=al h3;obtain⟨A2,c2,rfl,_,_⟩:=al h4;obtain⟨A3,c3,rfl,_,_⟩:=al h5';obtain⟨A4,c4,rfl,_,_⟩:=al h6;clear h3 h4 h5' h6;obtain⟨n1,bl⟩:∃ n,hosts.length=n:=⟨_,rfl⟩;obtain⟨n2,bP⟩:∃ n,copies.length=n:=⟨_,rfl⟩;obtain⟨n3,dW⟩:∃ n,data.length=n:=⟨_,rfl⟩;obtain⟨n4,eT⟩:∃ n,hints.length=n:=⟨_,rfl⟩;rw[bl,bP,dW,eT];rw[bP] at HD;rw[bl] at HH;have jj:=jq bl;have Ag:=jq dW;have DG:=jq eT;have fJ:=jq bP;clear bl bP dW eT;obtain⟨r,hr⟩:∃ r,Np.yes (Np.me ⟨hosts,copies,⟨name,ty,life,data⟩,hints,drift,stop⟩)=r:=⟨_,rfl⟩;rw[hr];have HR:=jq hr;have rZ:Hid (Np.me ⟨hosts,copies,⟨name,ty,life,data⟩,hints,drift,stop⟩↔(n2<=20/\n1<=70/\n4<=20/\n3<=20)/\(∀ c∈copies,Np.mN c.zone.sets/\c.zone.apex.length<=100)/\∀ h∈hosts,h.name.length<=100):=jq (by unfold Np.me;dsimp only;rw[fJ.out,jj.out,Ag.out,DG.out]);clear hr;obtain⟨X,hX⟩:∃ X,w.heap.size=X:=⟨_,rfl⟩;have jS:=jq hX;obtain⟨W1,ap⟩:∃ W1,w.alloc (.cells #[.slice A1 n1 c1,.slice A2 n2 c2,.string s,.int .i64 ty,.int .i64 life,.slice A3 n3 c3,.slice A4 n4 c4,.int .i64 drift,.int .i64 stop] 29)=W1:=⟨_,rfl⟩;have aG:Below w.heap.size w W1:=by rw[<-ap];exact (vQ _ _).alloc (bQ _) _
 have kJ:W1.heap.size=w.heap.size+1:=by rw[<-ap];simp
 have k0:W1.cell? ⟨X,0,none⟩=some (.slice A1 n1 c1):=by rw[<-ap,<-hX];simp[go_sem]
 have k5:W1.cell? ⟨X,5,none⟩=some (.slice A3 n3 c3):=by rw[<-ap,<-hX];simp[go_sem]
 have k6:W1.cell? ⟨X,6,none⟩=some (.slice A4 n4 c4):=by rw[<-ap,<-hX];simp[go_sem]
 have k1:W1.cell? ⟨X,1,none⟩=some (.slice A2 n2 c2):=by rw[<-ap,<-hX];simp[go_sem]
 rw[hX] at aG kJ HD HH |-;have aP:=jq aG;clear aG;go_enter func26,ntmps26;go_wp2_with fail;clear ap hX;go_loopw [3] (λi wr=>∃ (k:Nat),k<=n2/\k<=21/\i = .int .i64 k/\Hid (Below (X+1) W1 wr)/\Hid (∀ c∈copies.take k,Np.mN c.zone.sets/\c.zone.apex.length<=100)) (λi _=>n2 - (intOf i).toNat)
 case atStart=>exact⟨0,jQ _,jQ _,rfl,jq (vQ _ _),jq (by simp)⟩
 case round=>
  obtain⟨k,hk,aiJ,rfl,bD,HQ⟩:=hrel;have HB:=jq (aP.out.trans (bD.out.mono (by omega)));have an:=bD.out.size;have q0:=(cl bD.out (by omega)).trans k0;have q1:=(cl bD.out (by omega)).trans k1;have q5:=(cl bD.out (by omega)).trans k5;have q6:=(cl bD.out (by omega)).trans k6;by_cases iO:k<n2/\k<=20
  ·obtain⟨aa,bI⟩:=iO;have agZ:decide ((k:Int)<=20)=true:=uQ (by omega);obtain⟨x,ab⟩:∃ x,copies[k]?=some x:=⟨_,aQ (by rw[fJ.out];exact aa)⟩;obtain⟨b,o,sn,vz,rfl,bJ,ay,cw,fm,f0,f1,f2,f3,f4⟩:=pq (HD.out.keep g8 HB.out) ab;have aL:Hid (x.zone.apex.length=sn.size):=jq (by rw[<-ay,aU]);have kV:Hid (SlR bh 5 wr wr.heap.size vz x.zone.sets):=jq (fm.more cj (by omega));obtain⟨rz,dJ⟩:∃ rz,Np.yes (Np.mN x.zone.sets)=rz:=⟨_,rfl⟩;have ie:=jq dJ;have HF:Hid (¬ (Np.mN x.zone.sets/\x.zone.apex.length<=100)->r=false):=jq (λh=>by
    rw[<-HR.out];exact Np.aF λq=>h ((rZ.out.1 q).2.1 x (gQ ab)))
   have sC:Hid (Np.mN x.zone.sets/\x.zone.apex.length<=100->∀ c∈copies.take (k+1),Np.mN c.zone.sets/\c.zone.apex.length<=100):=jq (λh y hy=>by
    obtain⟨hl,he⟩:=cQ.1 ab;rw[fQ hl,he] at hy;rcases List.mem_append.1 hy with hy | hy
    ·exact HQ.out y hy
    ·rw[List.mem_singleton] at hy;subst hy;exact h)
   obtain⟨Az,cz,rfl,_,_⟩:=al fm;obtain⟨nz,iU⟩:∃ nz,x.zone.sets.length=nz:=⟨_,rfl⟩;rw[iU] at f4 kV;clear ab ay fm iU dJ;go_wp2_with fail;refine (Sn sn _ x.zone.sets _ kV.out).mono ?_;rintro e w3 ⟨rfl,ak⟩;have el:=ak.size;have g3:=(cl ak (by omega)).trans f3;have g1:=(cl ak (by omega)).trans q1;have ar:=jq (HB.out.trans (ak.mono (by omega)));have C8:=jq (bD.out.trans (ak.mono (by omega)));clear ak;rw[ie.out]
   cases rz with
   | false=>
    have HX:=jq (HF.out (λh=>by have:=Np.bB h.1;rw[ie.out] at this;cases this));go_wp2_with fail;go_ret;exact⟨ae HX.out.symm,ar.out⟩
   | true=>
    by_cases hs:100<sn.size
    ·have d2:decide (100<(sn.size:Int))=true:=uQ (by omega);have HX:=jq (HF.out (λh=>by have:=h.2;rw[aL.out] at this;omega));clear hs;go_wp2_with fail;go_ret;exact⟨ae HX.out.symm,ar.out⟩
    ·have d2:decide (100<(sn.size:Int))=false:=tQ (by omega);have HX:=jq (sC.out ⟨Np.ew.1 ie.out,by rw[aL.out];omega⟩);clear hs;go_wp2_with fail;go_roundw
     case rel=>exact⟨k+1,by omega,by omega,by go_num,jq C8.out,HX⟩
     case measure=>simp[intOf] <;> omega
  ·have pz:(decide ((k:Int)<(n2:Int))=false)\/(decide ((k:Int)<(n2:Int))=true/\decide ((k:Int)<=20)=false):=by
    by_cases h1:k<n2
    ·exact .inr ⟨uQ (by omega),tQ (by omega)⟩
    ·exact .inl (tQ (by omega))
   have kP:Hid (n2<=20->∀ c∈copies,Np.mN c.zone.sets/\c.zone.apex.length<=100):=jq (λh=>by
    have:=HQ.out
    rwa [kQ (by rw[fJ.out];omega)] at this)
   obtain⟨wo,rfl⟩:∃ wo,wo=wr:=⟨_,rfl⟩;clear pz;have Fd:k<n2->decide ((k:Int)<=20)=false:=λh=>tQ (by omega);by_cases lS:k<n2
   ·have eG:=Fd lS;clear iO Fd;go_wp2_with fail;go_loopw [4] (λi wi=>∃ (j:Nat),j<=n1/\j<=71/\i = .int .i64 j/\Hid (Below wo.heap.size wo wi)/\Hid (∀ x∈hosts.take j,x.name.length<=100)) (λi _=>n1 - (intOf i).toNat)
    case atStart=>exact⟨0,jQ _,jQ _,rfl,jq (vQ _ _),jq (by simp)⟩
    case round=>
     obtain⟨j,hj,Ud,rfl,ck,HP⟩:=hrel;have jh:=jq (HB.out.trans (ck.out.mono (by omega)));have rG:=ck.out.size;have u0:=(cl ck.out (by omega)).trans q0;have u1:=(cl ck.out (by omega)).trans q1;have u5:=(cl ck.out (by omega)).trans q5;have u6:=(cl ck.out (by omega)).trans q6;by_cases iO:j<n1/\j<=70
     ·obtain⟨aa,ST⟩:=iO;have TN:decide ((j:Int)<=70)=true:=uQ (by omega);obtain⟨x,ab⟩:∃ x,hosts[j]?=some x:=⟨_,aQ (by rw[jj.out];exact aa)⟩;obtain⟨b,o,sn,rfl,bJ,ay,cw,f0,f1,f2⟩:=yL (HH.out.keep mI jh.out) ab;have aL:Hid (x.name.length=sn.size):=jq (by rw[<-ay,aU]);have HF:Hid (¬ x.name.length<=100->r=false):=jq (λh=>by
       rw[<-HR.out];exact Np.aF λq=>h ((rZ.out.1 q).2.2 x (gQ ab)))
      have mY:Hid (x.name.length<=100->∀ c∈hosts.take (j+1),c.name.length<=100):=jq (λh y hy=>by
       obtain⟨hl,he⟩:=cQ.1 ab;rw[fQ hl,he] at hy;rcases List.mem_append.1 hy with hy | hy
       ·exact HP.out y hy
       ·rw[List.mem_singleton] at hy;subst hy;exact h)
      clear ab ay;by_cases hs:100<sn.size
      ·have d2:decide (100<(sn.size:Int))=true:=uQ (by omega);have HX:=jq (HF.out (λh=>by rw[aL.out] at h;omega));clear hs;go_wp2_with fail;go_ret;exact⟨ae HX.out.symm,jh.out⟩
      ·have d2:decide (100<(sn.size:Int))=false:=tQ (by omega);have HX:=jq (mY.out (by rw[aL.out];omega));clear hs;go_wp2_with fail;go_roundw
       case rel=>exact⟨j+1,by omega,by omega,by go_num,ck,HX⟩
       case measure=>simp[intOf] <;> omega
     ·have tj:j<n1->decide ((j:Int)<=70)=false:=λh=>tQ (by omega);have Dh:Hid (n1<=70->∀ x∈hosts,x.name.length<=100):=jq (λh=>by
       have:=HP.out
       rwa [kQ (by rw[jj.out];omega)] at this)
      have tv:(20<n2\/70<n1\/20<n4\/20<n3)->r=false:=λh=>by rw[<-HR.out];exact Np.aF λq=>by have:=(rZ.out.1 q).1;omega
      have DL:=jq tv;have xm:Hid (n2<=20/\n1<=70/\n4<=20/\n3<=20->r=true):=jq (λh=>by rw[<-HR.out];exact Np.bB (rZ.out.2 ⟨h,kP.out h.1,Dh.out h.2.1⟩));clear iO tv;have aH:∃ c1 c2 c3 c4:Bool,decide ((n2:Int)<=20)=c1/\decide ((n1:Int)<=70)=c2/\decide ((n4:Int)<=20)=c3/\decide ((n3:Int)<=20)=c4/\Hid (r=(c1&&c2&&c3&&c4)):=by
       refine⟨_,_,_,_,rfl,rfl,rfl,rfl,jq ?_⟩;by_cases h:n2<=20/\n1<=70/\n4<=20/\n3<=20
       ·rw[xm.out h,uQ (by omega),uQ (by omega),uQ (by omega),uQ (by omega)];rfl
       ·rw[DL.out (by omega)]
        symm
        rw[Bool.eq_false_iff];intro hb;simp only[Bool.and_eq_true,Qa] at hb;omega
      obtain⟨c1',c2',c3',c4',e1,e2,e3,e4,fK⟩:=aH;by_cases nD:j<n1
      ·have iR:=tj nD;clear tj
       cases c1' <;> cases c2' <;> cases c3' <;> cases c4'
       all_goals
        go_wp2_with fail;go_ret;exact⟨ae fK.out.symm,jh.out⟩
      ·have iR:=nD;clear tj
       cases c1' <;> cases c2' <;> cases c3' <;> cases c4'
       all_goals
        go_wp2_with fail;go_ret;exact⟨ae fK.out.symm,jh.out⟩
   ·clear iO Fd;go_wp2_with fail;go_loopw [4] (λi wi=>∃ (j:Nat),j<=n1/\j<=71/\i = .int .i64 j/\Hid (Below wo.heap.size wo wi)/\Hid (∀ x∈hosts.take j,x.name.length<=100)) (λi _=>n1 - (intOf i).toNat)
    case atStart=>exact⟨0,jQ _,jQ _,rfl,jq (vQ _ _),jq (by simp)⟩
    case round=>
     obtain⟨j,hj,Ud,rfl,ck,HP⟩:=hrel;have jh:=jq (HB.out.trans (ck.out.mono (by omega)));have rG:=ck.out.size;have u0:=(cl ck.out (by omega)).trans q0;have u1:=(cl ck.out (by omega)).trans q1;have u5:=(cl ck.out (by omega)).trans q5;have u6:=(cl ck.out (by omega)).trans q6;by_cases iO:j<n1/\j<=70
     ·obtain⟨aa,ST⟩:=iO;have TN:decide ((j:Int)<=70)=true:=uQ (by omega);obtain⟨x,ab⟩:∃ x,hosts[j]?=some x:=⟨_,aQ (by rw[jj.out];exact aa)⟩;obtain⟨b,o,sn,rfl,bJ,ay,cw,f0,f1,f2⟩:=yL (HH.out.keep mI jh.out) ab;have aL:Hid (x.name.length=sn.size):=jq (by rw[<-ay,aU]);have HF:Hid (¬ x.name.length<=100->r=false):=jq (λh=>by
       rw[<-HR.out];exact Np.aF λq=>h ((rZ.out.1 q).2.2 x (gQ ab)))
      have mY:Hid (x.name.length<=100->∀ c∈hosts.take (j+1),c.name.length<=100):=jq (λh y hy=>by
       obtain⟨hl,he⟩:=cQ.1 ab;rw[fQ hl,he] at hy;rcases List.mem_append.1 hy with hy | hy
       ·exact HP.out y hy
       ·rw[List.mem_singleton] at hy;subst hy;exact h)
      clear ab ay;by_cases hs:100<sn.size
      ·have d2:decide (100<(sn.size:Int))=true:=uQ (by omega);have HX:=jq (HF.out (λh=>by rw[aL.out] at h;omega));clear hs;go_wp2_with fail;go_ret;exact⟨ae HX.out.symm,jh.out⟩
      ·have d2:decide (100<(sn.size:Int))=false:=tQ (by omega);have HX:=jq (mY.out (by rw[aL.out];omega));clear hs;go_wp2_with fail;go_roundw
       case rel=>exact⟨j+1,by omega,by omega,by go_num,ck,HX⟩
       case measure=>simp[intOf] <;> omega
     ·have tj:j<n1->decide ((j:Int)<=70)=false:=λh=>tQ (by omega);have Dh:Hid (n1<=70->∀ x∈hosts,x.name.length<=100):=jq (λh=>by
       have:=HP.out
       rwa [kQ (by rw[jj.out];omega)] at this)
      have tv:(20<n2\/70<n1\/20<n4\/20<n3)->r=false:=λh=>by rw[<-HR.out];exact Np.aF λq=>by have:=(rZ.out.1 q).1;omega
      have DL:=jq tv;have xm:Hid (n2<=20/\n1<=70/\n4<=20/\n3<=20->r=true):=jq (λh=>by rw[<-HR.out];exact Np.bB (rZ.out.2 ⟨h,kP.out h.1,Dh.out h.2.1⟩));clear iO tv;have aH:∃ c1 c2 c3 c4:Bool,decide ((n2:Int)<=20)=c1/\decide ((n1:Int)<=70)=c2/\decide ((n4:Int)<=20)=c3/\decide ((n3:Int)<=20)=c4/\Hid (r=(c1&&c2&&c3&&c4)):=by
       refine⟨_,_,_,_,rfl,rfl,rfl,rfl,jq ?_⟩;by_cases h:n2<=20/\n1<=70/\n4<=20/\n3<=20
       ·rw[xm.out h,uQ (by omega),uQ (by omega),uQ (by omega),uQ (by omega)];rfl
       ·rw[DL.out (by omega)]
        symm
        rw[Bool.eq_false_iff];intro hb;simp only[Bool.and_eq_true,Qa] at hb;omega
      obtain⟨c1',c2',c3',c4',e1,e2,e3,e4,fK⟩:=aH;by_cases nD:j<n1
      ·have iR:=tj nD;clear tj
       cases c1' <;> cases c2' <;> cases c3' <;> cases c4'
       all_goals
        go_wp2_with fail;go_ret;exact⟨ae fK.out.symm,jh.out⟩
      ·have iR:=nD;clear tj
       cases c1' <;> cases c2' <;> cases c3' <;> cases c4'
       all_goals
        go_wp2_with fail;go_ret;exact⟨ae fK.out.symm,jh.out⟩
end
end Go.Proofs.YtfnopgdcaanaiaaGreatDoor
