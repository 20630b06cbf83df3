/- Parts of the proof. No condition. -/
import Derived.Test.YtbfbobfbgabjiaaGreatDoorP24
import Derived.Test.YtbfbobfbgabjiaaGreatDoorP27
set_option linter.all false
set_option maxRecDepth 100000
set_option maxHeartbeats 8000000
namespace Go.Proofs.YtbfbobfbgabjiaaGreatDoor
open Go.Proofs.Tryz
section
open Go.RowKit
def Np.mT(h:Np.Hist):Prop:=(h.copies.length<=20/\h.hosts.length<=70/\h.hints.length<=20/\h.anchor.data.length<=20)/\(∀ c∈h.copies,Np.oU c.zone.sets/\c.zone.apex.length<=100)/\∀ x∈h.hosts,x.name.length<=100
theorem WO(e:List Value)(h:Np.Hist)(w:World)(hh:bA w w.heap.size e h) :
 Calls prog 11 #[.agg e.toArray] w λe w'=>e = .returned (.bool (Np.yes (Np.mT h)))/\Below w.heap.size w w':=by
 obtain⟨hv,cv,s,dv,dh,rfl,_,_,h3,h4,h5',h6⟩:=hh;obtain⟨hosts,copies,⟨name,ty,life,data⟩,hints,drift,stop⟩:=h;dsimp only at h3 h4 h5' h6 |-;have HD:=jq h4;have HH:=jq h3;obtain⟨A1,c1,rfl,_,_⟩:=ah h3;obtain⟨A2,c2,rfl,_,_⟩:=ah h4;obtain⟨A3,c3,rfl,_,_⟩:=ah h5';obtain⟨A4,c4,rfl,_,_⟩:=ah h6;clear h3 h4 h5' h6;obtain⟨n1,aO⟩:∃ n,hosts.length=n:=⟨_,rfl⟩;obtain⟨n2,be⟩:∃ n,copies.length=n:=⟨_,rfl⟩;obtain⟨n3,cP⟩:∃ n,data.length=n:=⟨_,rfl⟩;obtain⟨n4,cW⟩:∃ n,hints.length=n:=⟨_,rfl⟩;rw[aO,be,cP,cW];rw[be] at HD;rw[aO] at HH;have fB:=jq aO;have ta:=jq cP;have rt:=jq cW;have gl:=jq be;clear aO be cP cW;obtain⟨r,hr⟩:∃ r,Np.yes (Np.mT ⟨hosts,copies,⟨name,ty,life,data⟩,hints,drift,stop⟩)=r:=⟨_,rfl⟩;rw[hr];have HR:=jq hr;have rj:Hid (Np.mT ⟨hosts,copies,⟨name,ty,life,data⟩,hints,drift,stop⟩↔(n2<=20/\n1<=70/\n4<=20/\n3<=20)/\(∀ c∈copies,Np.oU c.zone.sets/\c.zone.apex.length<=100)/\∀ h∈hosts,h.name.length<=100):=jq (by unfold Np.mT; dsimp only; rw[gl.out,fB.out,ta.out,rt.out]);clear hr;obtain⟨X,hX⟩:∃ X,w.heap.size=X:=⟨_,rfl⟩;have lP:=jq hX;obtain⟨W1,ai⟩:∃ W1,w.alloc (.cells #[.slice A1 n1 c1,.slice A2 n2 c2,.string s,.int .i64 ty,.int .i64 life,.slice A3 n3 c3,.slice A4 n4 c4,.int .i64 drift,.int .i64 stop] 29)=W1:=⟨_,rfl⟩;have aG:Below w.heap.size w W1:=by rw[<-ai]; exact (vQ _ _).alloc (bQ _) _
 have jA:W1.heap.size=w.heap.size+1:=by rw[<-ai]; simp
 have k0:W1.cell? ⟨X,0,none⟩=some (.slice A1 n1 c1):=by rw[<-ai,<-hX]; simp[go_sem]
 have k5:W1.cell? ⟨X,5,none⟩=some (.slice A3 n3 c3):=by rw[<-ai,<-hX]; simp[go_sem]
 have k6:W1.cell? ⟨X,6,none⟩=some (.slice A4 n4 c4):=by rw[<-ai,<-hX]; simp[go_sem]
 have k1:W1.cell? ⟨X,1,none⟩=some (.slice A2 n2 c2):=by rw[<-ai,<-hX]; simp[go_sem]
 rw[hX] at aG jA HD HH |-;have aB:=jq aG;clear aG;go_enter func11,ntmps11;go_wp2_with fail;clear ai hX;go_loopw [3] (λi wr=>∃ (k:Nat),k<=n2/\k<=21/\i = .int .i64 k/\Hid (Below (X+1) W1 wr)/\Hid (∀ c∈copies.take k,Np.oU c.zone.sets/\c.zone.apex.length<=100)) (λi _=>n2 - (intOf i).toNat)
 case atStart=>exact⟨0,jQ _,jQ _,rfl,jq (vQ _ _),jq (by simp)⟩
 case round=>
  obtain⟨k,hk,a0Y,rfl,bO,HQ⟩:=hrel;have HB:=jq (aB.out.trans (bO.out.mono (by omega)));have am:=bO.out.size;have q0:=(cl bO.out (by omega)).trans k0;have q1:=(cl bO.out (by omega)).trans k1;have q5:=(cl bO.out (by omega)).trans k5;have q6:=(cl bO.out (by omega)).trans k6;by_cases j8:k<n2/\k<=20
  ·obtain⟨aa,bV⟩:=j8;have aYZ:decide ((k:Int)<=20)=true:=uQ (by omega);obtain⟨x,ac⟩:∃ x,copies[k]?=some x:=⟨_,aQ (by rw[gl.out]; exact aa)⟩;obtain⟨b,o,sn,vz,rfl,bS,av,cA,eq,f0,f1,f2,f3,f4⟩:=rI (HD.out.keep fu HB.out) ac;have aH:Hid (x.zone.apex.length=sn.size):=jq (by rw[<-av,aT]);have jk:Hid (SlR bC 5 wr wr.heap.size vz x.zone.sets):=jq (eq.more bN (by omega));obtain⟨rz,fq⟩:∃ rz,Np.yes (Np.oU x.zone.sets)=rz:=⟨_,rfl⟩;have gX:=jq fq;have HF:Hid (¬ (Np.oU x.zone.sets/\x.zone.apex.length<=100)->r=false):=jq (λh=>by
    rw[<-HR.out];exact Np.aJ λq=>h ((rj.out.1 q).2.1 x (gQ ac)))
   have ve:Hid (Np.oU x.zone.sets/\x.zone.apex.length<=100->∀ c∈copies.take (k+1),Np.oU c.zone.sets/\c.zone.apex.length<=100):=jq (λh y hy=>by
    obtain⟨hl,he⟩:=cQ.1 ac;rw[fQ hl,he] at hy;rcases List.mem_append.1 hy with hy | hy
    ·exact HQ.out y hy
    ·rw[List.mem_singleton] at hy; subst hy; exact h)
   obtain⟨Az,cz,rfl,_,_⟩:=ah eq;obtain⟨nz,kC⟩:∃ nz,x.zone.sets.length=nz:=⟨_,rfl⟩;rw[kC] at f4 jk;clear ac av eq kC fq;go_wp2_with fail;refine (WQ sn _ x.zone.sets _ jk.out).mono ?_;rintro e w3 ⟨rfl,ag⟩;have er:=ag.size;have g3:=(cl ag (by omega)).trans f3;have g1:=(cl ag (by omega)).trans q1;have ar:=jq (HB.out.trans (ag.mono (by omega)));have Gg:=jq (bO.out.trans (ag.mono (by omega)));clear ag;rw[gX.out]
   cases rz with
   | false=>
    have HX:=jq (HF.out (λh=>by have:=Np.bM h.1; rw[gX.out] at this; cases this));go_wp2_with fail;go_ret;exact⟨ae HX.out.symm,ar.out⟩
   | true=>
    by_cases hs:100<sn.size
    ·have d2:decide (100<(sn.size:Int))=true:=uQ (by omega);have HX:=jq (HF.out (λh=>by have:=h.2; rw[aH.out] at this; omega));clear hs;go_wp2_with fail;go_ret;exact⟨ae HX.out.symm,ar.out⟩
    ·have d2:decide (100<(sn.size:Int))=false:=tQ (by omega);have HX:=jq (ve.out ⟨Np.fz.1 gX.out,by rw[aH.out]; omega⟩);clear hs;go_wp2_with fail;go_roundw
     case rel=>exact⟨k+1,by omega,by omega,by go_num,jq Gg.out,HX⟩
     case measure=>simp[intOf] <;> omega
  ·have pz:(decide ((k:Int)<(n2:Int))=false)\/(decide ((k:Int)<(n2:Int))=true/\decide ((k:Int)<=20)=false):=by
    by_cases h1:k<n2
    ·exact .inr ⟨uQ (by omega),tQ (by omega)⟩
    ·exact .inl (tQ (by omega))
   have kY:Hid (n2<=20->∀ c∈copies,Np.oU c.zone.sets/\c.zone.apex.length<=100):=jq (λh=>by
    have:=HQ.out
    rwa [kQ (by rw[gl.out]; omega)] at this)
   obtain⟨wo,rfl⟩:∃ wo,wo=wr:=⟨_,rfl⟩;clear pz;have Jc:k<n2->decide ((k:Int)<=20)=false:=λh=>tQ (by omega);by_cases oG:k<n2
   ·have dG:=Jc oG;clear j8 Jc;go_wp2_with fail;go_loopw [4] (λi wi=>∃ (j:Nat),j<=n1/\j<=71/\i = .int .i64 j/\Hid (Below wo.heap.size wo wi)/\Hid (∀ x∈hosts.take j,x.name.length<=100)) (λi _=>n1 - (intOf i).toNat)
    case atStart=>exact⟨0,jQ _,jQ _,rfl,jq (vQ _ _),jq (by simp)⟩
    case round=>
     obtain⟨j,hj,YQ,rfl,cT,HP⟩:=hrel;have kl:=jq (HB.out.trans (cT.out.mono (by omega)));have um:=cT.out.size;have u0:=(cl cT.out (by omega)).trans q0;have u1:=(cl cT.out (by omega)).trans q1;have u5:=(cl cT.out (by omega)).trans q5;have u6:=(cl cT.out (by omega)).trans q6;by_cases j8:j<n1/\j<=70
     ·obtain⟨aa,Xr⟩:=j8;have Yr:decide ((j:Int)<=70)=true:=uQ (by omega);obtain⟨x,ac⟩:∃ x,hosts[j]?=some x:=⟨_,aQ (by rw[fB.out]; exact aa)⟩;obtain⟨b,o,sn,rfl,bS,av,cA,f0,f1,f2⟩:=rZ (HH.out.keep fw kl.out) ac;have aH:Hid (x.name.length=sn.size):=jq (by rw[<-av,aT]);have HF:Hid (¬ x.name.length<=100->r=false):=jq (λh=>by
       rw[<-HR.out];exact Np.aJ λq=>h ((rj.out.1 q).2.2 x (gQ ac)))
      have Af:Hid (x.name.length<=100->∀ c∈hosts.take (j+1),c.name.length<=100):=jq (λh y hy=>by
       obtain⟨hl,he⟩:=cQ.1 ac;rw[fQ hl,he] at hy;rcases List.mem_append.1 hy with hy | hy
       ·exact HP.out y hy
       ·rw[List.mem_singleton] at hy; subst hy; exact h)
      clear ac av;by_cases hs:100<sn.size
      ·have d2:decide (100<(sn.size:Int))=true:=uQ (by omega);have HX:=jq (HF.out (λh=>by rw[aH.out] at h; omega));clear hs;go_wp2_with fail;go_ret;exact⟨ae HX.out.symm,kl.out⟩
      ·have d2:decide (100<(sn.size:Int))=false:=tQ (by omega);have HX:=jq (Af.out (by rw[aH.out]; omega));clear hs;go_wp2_with fail;go_roundw
       case rel=>exact⟨j+1,by omega,by omega,by go_num,cT,HX⟩
       case measure=>simp[intOf] <;> omega
     ·have wD:j<n1->decide ((j:Int)<=70)=false:=λh=>tQ (by omega);have Gs:Hid (n1<=70->∀ x∈hosts,x.name.length<=100):=jq (λh=>by
       have:=HP.out
       rwa [kQ (by rw[fB.out]; omega)] at this)
      have wO:(20<n2\/70<n1\/20<n4\/20<n3)->r=false:=λh=>by rw[<-HR.out]; exact Np.aJ λq=>by have:=(rj.out.1 q).1; omega
      have G7:=jq wO;have AH:Hid (n2<=20/\n1<=70/\n4<=20/\n3<=20->r=true):=jq (λh=>by rw[<-HR.out]; exact Np.bM (rj.out.2 ⟨h,kY.out h.1,Gs.out h.2.1⟩));clear j8 wO;have az:∃ c1 c2 c3 c4:Bool,decide ((n2:Int)<=20)=c1/\decide ((n1:Int)<=70)=c2/\decide ((n4:Int)<=20)=c3/\decide ((n3:Int)<=20)=c4/\Hid (r=(c1&&c2&&c3&&c4)):=by
       refine⟨_,_,_,_,rfl,rfl,rfl,rfl,jq ?_⟩;by_cases h:n2<=20/\n1<=70/\n4<=20/\n3<=20
       ·rw[AH.out h,uQ (by omega),uQ (by omega),uQ (by omega),uQ (by omega)]; rfl
       ·rw[G7.out (by omega)]
        symm
        rw[Bool.eq_false_iff];intro hb;simp only[Bool.and_eq_true,Qa] at hb;omega
      obtain⟨c1',c2',c3',c4',e1,e2,e3,e4,go⟩:=az;by_cases yy:j<n1
      ·have kA:=wD yy;clear wD
       cases c1' <;> cases c2' <;> cases c3' <;> cases c4'
       all_goals
        go_wp2_with fail;go_ret;exact⟨ae go.out.symm,kl.out⟩
      ·have kA:=yy;clear wD
       cases c1' <;> cases c2' <;> cases c3' <;> cases c4'
       all_goals
        go_wp2_with fail;go_ret;exact⟨ae go.out.symm,kl.out⟩
   ·clear j8 Jc;go_wp2_with fail;go_loopw [4] (λi wi=>∃ (j:Nat),j<=n1/\j<=71/\i = .int .i64 j/\Hid (Below wo.heap.size wo wi)/\Hid (∀ x∈hosts.take j,x.name.length<=100)) (λi _=>n1 - (intOf i).toNat)
    case atStart=>exact⟨0,jQ _,jQ _,rfl,jq (vQ _ _),jq (by simp)⟩
    case round=>
     obtain⟨j,hj,YQ,rfl,cT,HP⟩:=hrel;have kl:=jq (HB.out.trans (cT.out.mono (by omega)));have um:=cT.out.size;have u0:=(cl cT.out (by omega)).trans q0;have u1:=(cl cT.out (by omega)).trans q1;have u5:=(cl cT.out (by omega)).trans q5;have u6:=(cl cT.out (by omega)).trans q6;by_cases j8:j<n1/\j<=70
     ·obtain⟨aa,Xr⟩:=j8;have Yr:decide ((j:Int)<=70)=true:=uQ (by omega);obtain⟨x,ac⟩:∃ x,hosts[j]?=some x:=⟨_,aQ (by rw[fB.out]; exact aa)⟩;obtain⟨b,o,sn,rfl,bS,av,cA,f0,f1,f2⟩:=rZ (HH.out.keep fw kl.out) ac;have aH:Hid (x.name.length=sn.size):=jq (by rw[<-av,aT]);have HF:Hid (¬ x.name.length<=100->r=false):=jq (λh=>by
       rw[<-HR.out];exact Np.aJ λq=>h ((rj.out.1 q).2.2 x (gQ ac)))
      have Af:Hid (x.name.length<=100->∀ c∈hosts.take (j+1),c.name.length<=100):=jq (λh y hy=>by
       obtain⟨hl,he⟩:=cQ.1 ac;rw[fQ hl,he] at hy;rcases List.mem_append.1 hy with hy | hy
       ·exact HP.out y hy
       ·rw[List.mem_singleton] at hy; subst hy; exact h)
      clear ac av;by_cases hs:100<sn.size
      ·have d2:decide (100<(sn.size:Int))=true:=uQ (by omega);have HX:=jq (HF.out (λh=>by rw[aH.out] at h; omega));clear hs;go_wp2_with fail;go_ret;exact⟨ae HX.out.symm,kl.out⟩
      ·have d2:decide (100<(sn.size:Int))=false:=tQ (by omega);have HX:=jq (Af.out (by rw[aH.out]; omega));clear hs;go_wp2_with fail;go_roundw
       case rel=>exact⟨j+1,by omega,by omega,by go_num,cT,HX⟩
       case measure=>simp[intOf] <;> omega
     ·have wD:j<n1->decide ((j:Int)<=70)=false:=λh=>tQ (by omega);have Gs:Hid (n1<=70->∀ x∈hosts,x.name.length<=100):=jq (λh=>by
       have:=HP.out
       rwa [kQ (by rw[fB.out]; omega)] at this)
      have wO:(20<n2\/70<n1\/20<n4\/20<n3)->r=false:=λh=>by rw[<-HR.out]; exact Np.aJ λq=>by have:=(rj.out.1 q).1; omega
      have G7:=jq wO;have AH:Hid (n2<=20/\n1<=70/\n4<=20/\n3<=20->r=true):=jq (λh=>by rw[<-HR.out]; exact Np.bM (rj.out.2 ⟨h,kY.out h.1,Gs.out h.2.1⟩));clear j8 wO;have az:∃ c1 c2 c3 c4:Bool,decide ((n2:Int)<=20)=c1/\decide ((n1:Int)<=70)=c2/\decide ((n4:Int)<=20)=c3/\decide ((n3:Int)<=20)=c4/\Hid (r=(c1&&c2&&c3&&c4)):=by
       refine⟨_,_,_,_,rfl,rfl,rfl,rfl,jq ?_⟩;by_cases h:n2<=20/\n1<=70/\n4<=20/\n3<=20
       ·rw[AH.out h,uQ (by omega),uQ (by omega),uQ (by omega),uQ (by omega)]; rfl
       ·rw[G7.out (by omega)]
        symm
        rw[Bool.eq_false_iff];intro hb;simp only[Bool.and_eq_true,Qa] at hb;omega
      obtain⟨c1',c2',c3',c4',e1,e2,e3,e4,go⟩:=az;by_cases yy:j<n1
      ·have kA:=wD yy;clear wD
       cases c1' <;> cases c2' <;> cases c3' <;> cases c4'
       all_goals
        go_wp2_with fail;go_ret;exact⟨ae go.out.symm,kl.out⟩
      ·have kA:=yy;clear wD
       cases c1' <;> cases c2' <;> cases c3' <;> cases c4'
       all_goals
        go_wp2_with fail;go_ret;exact⟨ae go.out.symm,kl.out⟩
end
end Go.Proofs.YtbfbobfbgabjiaaGreatDoor
