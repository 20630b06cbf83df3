/- No condition. -/
import Derived.Test.YtfnopgdcaanaiaaGreatDoorS06
import Derived.Test.YtfnopgdcaanaiaaGreatDoorS08
set_option linter.all false
set_option maxRecDepth 100000
set_option maxHeartbeats 8000000
namespace Go.Proofs.YtfnopgdcaanaiaaGreatDoor
open Go.Proofs.Tryz
section
open Go.RowKit
theorem bbQ{z:Np.Zone}(bY:z.sets.length<=20000):Np.RZoneOk z↔((((Np.eK z=true/\Np.ApexH z.apex z.sets)/\Np.Bf z.sets)/\Np.qj z.sets (Np.dL z))/\Np.zW z.apex z.sets (Np.dL z)):=by
 constructor
 ·intro h;refine⟨⟨⟨⟨h.right,h.start,h.server,h.fits⟩,λk x hx p h0 hp he=>?_⟩,h.cuts⟩,λk x b hx hb=>⟨h.form x (gQ hx),λho=>?_⟩⟩
  ·obtain⟨hk,rfl⟩:=cQ.1 hx;obtain⟨ck,rfl⟩:=cQ.1 hp;obtain⟨m,rfl⟩:∃ m,k=m+1:=⟨k - 1,by omega⟩;exact h.three m hk he
  ·obtain⟨h1,h2⟩:=SL.1 ho;exact h.sigs k x b hx hb h1 h2
 ·rintro⟨⟨⟨⟨h1,h2⟩,h3⟩,h4⟩,h5⟩;have b7:=Np.tE z;refine⟨h1,bY,h2.start,h2.server,h2.fits,λi hi he=>?_,h4,λk x b hx hb im ht=>(h5 k x b hx hb).2 (SL.2 ⟨im,ht⟩),λx hx=>?_⟩
  ·exact h3 (i+1) _ (aQ hi) _ (by omega) (aQ (by omega)) he
  ·obtain⟨k,hk,rfl⟩:=nQ.1 hx;exact (h5 k _ _ (aQ hk) (aQ (by omega))).1
theorem a6K(a:ByteArray)(ha:a.size<=140737488355328)(v:Value)(l:List Np.Signed)(bY:l.length<=20000)(w:World)(hd:SlR br 5 w w.heap.size v l) :
 Calls prog 89 #[.agg #[.string a,v]] w (ahZ w.heap.size w (.bool (Np.yes (Np.VZone ⟨a.data.toList,l⟩)))):=by
 obtain⟨r,hr⟩:=afZ (Np.yes (Np.VZone ⟨a.data.toList,l⟩));rw[hr];have HR:Hid (Np.yes ((((Np.eK ⟨a.data.toList,l⟩=true/\Np.ApexH a.data.toList l)/\Np.Bf l)/\Np.qj l (Np.dL ⟨a.data.toList,l⟩))/\Np.zW a.data.toList l (Np.dL ⟨a.data.toList,l⟩))=r):=jq (by
  rw[<-hr,Np.uE (Np.bpJ _)];exact (Np.uE (bbQ (z:=⟨a.data.toList,l⟩) bY)).symm)
 have HD:=jq hd;obtain⟨A,c,rfl,bw,bT⟩:=ak hd;clear hr hd;have HW:=blW w;go_enter func89,ntmps89;go_wp2_with fail;obtain⟨w1,am⟩:=afZ (w.alloc (.cells #[.string a,.slice A l.length c] 44));have c0:w1.cell? ⟨w.heap.size,0,none⟩=some (.string a):=by rw[<-am];simp[go_sem]
 have c1:w1.cell? ⟨w.heap.size,1,none⟩=some (.slice A l.length c):=by rw[<-am];simp[go_sem]
 have bF:w1.heap.size=w.heap.size+1:=by rw[<-am];simp
 have aF:Hid (Below w.heap.size w w1):=jq (by rw[<-am];exact HW.out _);rw[am];clear am;refine (a5Q a ha _ l bY _ (HD.out.later aP bK aF.out)).mono ?_;rintro e w2 ⟨rfl,aa⟩;have aO:=aa.size;have ah:=aeX aF aa;replace c0:=aeK aa c0;replace c1:=aeK aa c1;clear aa
 cases fu:Np.eK ⟨a.data.toList,l⟩ with
 | false=>
  have HX:Hid (r=false):=jq (by rw[<-HR.out];exact Np.aR λh=>by rw[fu] at h;cases h.1.1.1.1);clear fu;go_wp2_with fail;go_ret;exact⟨ag HX.out.symm,ah.out⟩
 | true=>
  have gR:=jq fu;have ho:=Np.VZone.inOrder fu;have HO:=jq ho;have qV:=fu;unfold Np.eK at qV;simp only[Bool.and_eq_true] at qV;have HV:Hid (∀ x∈l,Np.al x.set.name=true):=jq (λx hx=>zO (Np.Et qV.2 x hx));have jZ:Hid (∀ x∈l,x.set.name≠[]):=jq ho.name;clear fu qV ho;go_wp2_with fail;refine (a6J a _ l _ (HD.out.later aP bK ah.out)).mono ?_;rintro e w3 ⟨rfl,ai⟩;have dR:=ai.size;have aw:=aeX ah ai;replace c0:=aeK ai c0;replace c1:=aeK ai c1;clear ai
  cases Fe:Np.yes (Np.ApexH a.data.toList l) with
  | false=>
   have HX:Hid (r=false):=jq (by rw[<-HR.out];exact Np.aR λh=>tb Fe h.1.1.1.2);clear Fe;go_wp2_with fail;go_ret;exact⟨ag HX.out.symm,aw.out⟩
  | true=>
   have WM:=jq (Np.eZ.1 Fe);clear Fe;go_wp2_with fail;refine (a6Z a _ l bY jZ.out _ (HD.out.later aP bK aw.out)).mono ?_;rintro e w4 ⟨rfl,ar⟩;have fz:=ar.size;have bi:=aeX aw ar;replace c0:=aeK ar c0;replace c1:=aeK ar c1;clear ar
   cases Ff:Np.yes (Np.Bf l) with
   | false=>
    have HX:Hid (r=false):=jq (by rw[<-HR.out];exact Np.aR λh=>tb Ff h.1.1.2);clear Ff;go_wp2_with fail;go_ret;exact⟨ag HX.out.symm,bi.out⟩
   | true=>
    have WN:=jq (Np.eZ.1 Ff);clear Ff;go_wp2_with fail;refine (a3Y a _ l bY HO.out HV.out _ (HD.out.later aP bK bi.out)).mono ?_;rintro e w5 ⟨rfl,aG⟩;have lB:=aG.size;have cg:=aeX bi aG;replace c0:=aeK aG c0;replace c1:=aeK aG c1;clear aG
    cases ud:Np.yes (Np.qj l (Np.dL ⟨a.data.toList,l⟩)) with
    | false=>
     have HX:Hid (r=false):=jq (by rw[<-HR.out];exact Np.aR λh=>tb ud h.1.2);clear ud;go_wp2_with fail;go_ret;exact⟨ag HX.out.symm,cg.out⟩
    | true=>
     have Ih:=jq (Np.eZ.1 ud);clear ud;go_wp2_with fail;refine (a3X a _ l bY HO.out HV.out _ (HD.out.later aP bK cg.out)).mono ?_;rintro e w6 ⟨rfl,aT⟩;have eX:=aT.size;have cn:=aeX cg aT;replace c0:=aeK aT c0;replace c1:=aeK aT c1;clear aT
     cases nH:Np.yes (Np.zW a.data.toList l (Np.dL ⟨a.data.toList,l⟩)) with
     | false=>
      have HX:Hid (r=false):=jq (by rw[<-HR.out];exact Np.aR λh=>tb nH h.2);clear nH;go_wp2_with fail;go_ret;exact⟨ag HX.out.symm,cn.out⟩
     | true=>
      have Ii:=jq (Np.eZ.1 nH);clear nH;go_wp2_with fail;go_ret;exact⟨ag (by rw[<-HR.out];exact (Np.bV ⟨⟨⟨⟨gR.out,WM.out⟩,WN.out⟩,Ih.out⟩,Ii.out⟩).symm),cn.out⟩
end
end Go.Proofs.YtfnopgdcaanaiaaGreatDoor
