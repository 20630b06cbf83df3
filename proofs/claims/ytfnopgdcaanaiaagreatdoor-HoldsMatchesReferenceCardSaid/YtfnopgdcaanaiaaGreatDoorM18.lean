/- Parts of the proof. No condition. -/
import Derived.Test.YtfnopgdcaanaiaaGreatDoorM14
import Derived.Test.YtfnopgdcaanaiaaGreatDoorM15
set_option linter.all false
set_option maxRecDepth 100000
set_option maxHeartbeats 8000000
namespace Go.Proofs.YtfnopgdcaanaiaaGreatDoor
open Go.Proofs.Tryz
section
open Go.RowKit
theorem aJQ{z:Np.Zone}(bW:z.sets.length<=20000):Np.RZoneOk z↔((((Np.fK z=true/\Np.ApexH z.apex z.sets)/\Np.Bp z.sets)/\Np.qB z.sets (Np.eM z))/\Np.zW z.apex z.sets (Np.eM z)):=by
 constructor
 ·intro h;refine⟨⟨⟨⟨h.right,h.start,h.server,h.fits⟩,λk x hx p h0 hp he=>?_⟩,h.cuts⟩,λk x b hx hb=>⟨h.form x (gQ hx),λho=>?_⟩⟩
  ·obtain⟨hk,rfl⟩:=cQ.1 hx;obtain⟨bI,rfl⟩:=cQ.1 hp;obtain⟨m,rfl⟩:∃ m,k=m+1:=⟨k - 1,by omega⟩;exact h.three m hk he
  ·obtain⟨h1,h2⟩:=Rx.1 ho;exact h.sigs k x b hx hb h1 h2
 ·rintro⟨⟨⟨⟨h1,h2⟩,h3⟩,h4⟩,h5⟩;have bB:=Np.tW z;refine⟨h1,bW,h2.start,h2.server,h2.fits,λi hi he=>?_,h4,λk x b hx hb jK ht=>(h5 k x b hx hb).2 (Rx.2 ⟨jK,ht⟩),λx hx=>?_⟩
  ·exact h3 (i+1) _ (aQ hi) _ (by omega) (aQ (by omega)) he
  ·obtain⟨k,hk,rfl⟩:=nQ.1 hx;exact (h5 k _ _ (aQ hk) (aQ (by omega))).1
theorem aFZ(a:ByteArray)(ha:a.size<=140737488355328)(v:Value)(l:List Np.Signed)(bW:l.length<=20000)(w:World)(hd:SlR bO 5 w w.heap.size v l) :
 Calls prog 89 #[.agg #[.string a,v]] w (a0X w.heap.size w (.bool (Np.yes (Np.VZone ⟨a.data.toList,l⟩)))):=by
 obtain⟨r,hr⟩:=acJ (Np.yes (Np.VZone ⟨a.data.toList,l⟩));rw[hr];have HR:Hid (Np.yes ((((Np.fK ⟨a.data.toList,l⟩=true/\Np.ApexH a.data.toList l)/\Np.Bp l)/\Np.qB l (Np.eM ⟨a.data.toList,l⟩))/\Np.zW a.data.toList l (Np.eM ⟨a.data.toList,l⟩))=r):=jq (by
  rw[<-hr,Np.ve (Np.aTZ _)];exact (Np.ve (aJQ (z:=⟨a.data.toList,l⟩) bW)).symm)
 have HD:=jq hd;obtain⟨A,c,rfl,bq,bM⟩:=ak hd;clear hr hd;have HW:Hid (∀ o,Below w.heap.size w (w.alloc o)):=jq (λo=>(vQ _ w).alloc (bQ _) _);go_enter func89,ntmps89;go_wp2_with fail;obtain⟨w1,ah⟩:=acJ (w.alloc (.cells #[.string a,.slice A l.length c] 44));have c0:w1.cell? ⟨w.heap.size,0,none⟩=some (.string a):=by rw[<-ah];simp[go_sem]
 have c1:w1.cell? ⟨w.heap.size,1,none⟩=some (.slice A l.length c):=by rw[<-ah];simp[go_sem]
 have bd:w1.heap.size=w.heap.size+1:=by rw[<-ah];simp
 have av:Hid (Below w.heap.size w w1):=jq (by rw[<-ah];exact HW.out _);rw[ah];clear ah;refine (aDZ a ha _ l bW _ (HD.out.later bj cC av.out)).mono ?_;rintro e w2 ⟨rfl,ac⟩;have aN:=ac.size;have ai:=acZ av ac;replace c0:=aaJ ac c0;replace c1:=aaJ ac c1;clear ac
 cases fy:Np.fK ⟨a.data.toList,l⟩ with
 | false=>
  have HX:Hid (r=false):=jq (by rw[<-HR.out];exact Np.aF λh=>by rw[fy] at h;cases h.1.1.1.1);clear fy;go_wp2_with fail;go_ret;exact⟨ag HX.out.symm,ai.out⟩
 | true=>
  have ja:=jq fy;have ho:=Np.VZone.inOrder fy;have HO:=jq ho;have rB:=fy;unfold Np.fK at rB;simp only[Bool.and_eq_true] at rB;have HV:Hid (∀ x∈l,Np.aD x.set.name=true):=jq (λx hx=>F4 (Np.Eg rB.2 x hx));have lZ:Hid (∀ x∈l,x.set.name≠[]):=jq ho.name;clear fy rB ho;go_wp2_with fail;refine (aFQ a _ l _ (HD.out.later bj cC ai.out)).mono ?_;rintro e w3 ⟨rfl,aq⟩;have eR:=aq.size;have ar:=acZ ai aq;replace c0:=aaJ aq c0;replace c1:=aaJ aq c1;clear aq
  cases E4:Np.yes (Np.ApexH a.data.toList l) with
  | false=>
   have HX:Hid (r=false):=jq (by rw[<-HR.out];exact Np.aF λh=>tz E4 h.1.1.1.2);clear E4;go_wp2_with fail;go_ret;exact⟨ag HX.out.symm,ar.out⟩
  | true=>
   have UM:=jq (Np.fq.1 E4);clear E4;go_wp2_with fail;refine (aEY a _ l bW lZ.out _ (HD.out.later bj cC ar.out)).mono ?_;rintro e w4 ⟨rfl,aC⟩;have fl:=aC.size;have aU:=acZ ar aC;replace c0:=aaJ aC c0;replace c1:=aaJ aC c1;clear aC
   cases E5:Np.yes (Np.Bp l) with
   | false=>
    have HX:Hid (r=false):=jq (by rw[<-HR.out];exact Np.aF λh=>tz E5 h.1.1.2);clear E5;go_wp2_with fail;go_ret;exact⟨ag HX.out.symm,aU.out⟩
   | true=>
    have UN:=jq (Np.fq.1 E5);clear E5;go_wp2_with fail;refine (aBY a _ l bW HO.out HV.out _ (HD.out.later bj cC aU.out)).mono ?_;rintro e w5 ⟨rfl,aH⟩;have ik:=aH.size;have bN:=acZ aU aH;replace c0:=aaJ aH c0;replace c1:=aaJ aH c1;clear aH
    cases E6:Np.yes (Np.qB l (Np.eM ⟨a.data.toList,l⟩)) with
    | false=>
     have HX:Hid (r=false):=jq (by rw[<-HR.out];exact Np.aF λh=>tz E6 h.1.2);clear E6;go_wp2_with fail;go_ret;exact⟨ag HX.out.symm,bN.out⟩
    | true=>
     have Hx:=jq (Np.fq.1 E6);clear E6;go_wp2_with fail;refine (aBX a _ l bW HO.out HV.out _ (HD.out.later bj cC bN.out)).mono ?_;rintro e w6 ⟨rfl,aW⟩;have iy:=aW.size;have dl:=acZ bN aW;replace c0:=aaJ aW c0;replace c1:=aaJ aW c1;clear aW
     cases sY:Np.yes (Np.zW a.data.toList l (Np.eM ⟨a.data.toList,l⟩)) with
     | false=>
      have HX:Hid (r=false):=jq (by rw[<-HR.out];exact Np.aF λh=>tz sY h.2);clear sY;go_wp2_with fail;go_ret;exact⟨ag HX.out.symm,dl.out⟩
     | true=>
      have Hy:=jq (Np.fq.1 sY);clear sY;go_wp2_with fail;go_ret;exact⟨ag (by rw[<-HR.out];exact (Np.bh ⟨⟨⟨⟨ja.out,UM.out⟩,UN.out⟩,Hx.out⟩,Hy.out⟩).symm),dl.out⟩
end
end Go.Proofs.YtfnopgdcaanaiaaGreatDoor
