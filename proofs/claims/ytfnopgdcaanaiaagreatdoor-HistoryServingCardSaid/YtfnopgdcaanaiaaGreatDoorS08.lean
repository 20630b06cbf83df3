/- No condition. -/
import Derived.Test.YtfnopgdcaanaiaaGreatDoorS02
import Derived.Test.YtfnopgdcaanaiaaGreatDoorS03
import Derived.Test.YtfnopgdcaanaiaaGreatDoorS04
import Derived.Test.YtfnopgdcaanaiaaGreatDoorS05
set_option linter.all false
set_option maxRecDepth 100000
set_option maxHeartbeats 8000000
namespace Go.Proofs.YtfnopgdcaanaiaaGreatDoor
open Go.Proofs.Tryz
section
open Go.RowKit
theorem bpZ{z:Np.Zone}(bY:z.sets.length<=20000):Np.VZone z↔(((((Np.eK z=true/\Np.ApexH z.apex z.sets)/\Np.zV z.sets)/\Np.qj z.sets (Np.dL z))/\Np.Bd z.sets (Np.dL z))/\∀ x∈z.sets,Np.go z.apex x.sigs):=by
 constructor
 ·intro h;refine⟨⟨⟨⟨⟨h.right,h.start,h.server,h.fits⟩,λk x hx ht=>⟨λp h0 hp he=>?_,λn hn he=>?_⟩⟩,h.cuts⟩,h.sigs⟩,h.form⟩
  ·obtain⟨hk,rfl⟩:=cQ.1 hx;obtain⟨ck,rfl⟩:=cQ.1 hp;obtain⟨m,rfl⟩:∃ m,k=m+1:=⟨k - 1,by omega⟩;exact h.aliasBefore m hk ht he
  ·obtain⟨hk,rfl⟩:=cQ.1 hx;obtain⟨ck,rfl⟩:=cQ.1 hn;exact h.aliasBehind k ck ht he
 ·rintro⟨⟨⟨⟨⟨h1,h2⟩,h3⟩,h4⟩,h5⟩,h6⟩;refine⟨h1,bY,h2.start,h2.server,h2.fits,λi hi ht he=>?_,λi hi ht he=>?_,h4,h5,h6⟩
  ·exact (h3 (i+1) _ (aQ hi) ht).1 _ (by omega) (aQ (by omega)) he
  ·exact (h3 i _ (aQ (by omega)) ht).2 _ (aQ hi) he
theorem tb{P:Prop}(h:Np.yes P=false):¬ P:=λhp=>by rw[Np.bV hp] at h;cases h
theorem L0(a:ByteArray)(ha:a.size<=140737488355328)(v:Value)(l:List Np.Signed)(bY:l.length<=20000)(w:World)(hR:gq w w.heap.size)(hd:SlR br 5 w w.heap.size v l) :
 Calls prog 120 #[.agg #[.string a,v]] w (ahZ w.heap.size w (.bool (Np.yes (Np.VZone ⟨a.data.toList,l⟩)))):=by
 obtain⟨r,hr⟩:=afZ (Np.yes (Np.VZone ⟨a.data.toList,l⟩));rw[hr];have HR:Hid (Np.yes (((((Np.eK ⟨a.data.toList,l⟩=true/\Np.ApexH a.data.toList l)/\Np.zV l)/\Np.qj l (Np.dL ⟨a.data.toList,l⟩))/\Np.Bd l (Np.dL ⟨a.data.toList,l⟩))/\∀ x∈l,Np.go a.data.toList x.sigs)=r):=jq (by
  rw[<-hr];exact (Np.uE (bpZ (z:=⟨a.data.toList,l⟩) bY)).symm)
 have HD:=jq hd;have ef:=jq hR;obtain⟨A,c,rfl,bw,bT⟩:=ak hd;clear hr hd hR;have HW:Hid (∀ o o',Below w.heap.size w ((w.alloc o).alloc o')):=jq (λo o'=>((vQ _ w).alloc (bQ _) _).alloc (by simp) _);go_enter func120,ntmps120;go_wp2_with fail;obtain⟨w1,am⟩:=afZ ((w.alloc (.cells #[.string a,.slice A l.length c] 44)).alloc (.cells #[.string a,.slice A l.length c] 263));have c0:w1.cell? ⟨w.heap.size+1,0,none⟩=some (.string a):=by rw[<-am];simp[go_sem]
 have c1:w1.cell? ⟨w.heap.size+1,1,none⟩=some (.slice A l.length c):=by rw[<-am];simp[go_sem]
 have bF:w1.heap.size=w.heap.size+2:=by rw[<-am];simp
 have aF:Hid (Below w.heap.size w w1):=jq (by rw[<-am];exact HW.out _ _);rw[am];clear am;refine (buJ a ha _ l bY _ ((ef.out.keep aF.out).more (by omega)) (HD.out.later aP bK aF.out)).mono ?_;rintro e w2 ⟨rfl,aa⟩;have aO:=aa.size;have ah:=aeX aF aa;have d0:w2.cell? ⟨w.heap.size+1,0,none⟩=some (.string a):=aeK aa c0;have d1:w2.cell? ⟨w.heap.size+1,1,none⟩=some (.slice A l.length c):=aeK aa c1;clear aa c0 c1
 cases fu:Np.eK ⟨a.data.toList,l⟩ with
 | false=>
  have HX:Hid (r=false):=jq (by rw[<-HR.out];exact Np.aR λh=>by rw[fu] at h;cases h.1.1.1.1.1);clear fu;go_wp2_with fail;go_ret;exact⟨ag HX.out.symm,ah.out⟩
 | true=>
  have gR:=jq fu;have ho:=Np.VZone.inOrder fu;have HS:=jq (Lr ho);have qV:=fu;unfold Np.eK at qV;simp only[Bool.and_eq_true] at qV;have NA:=jq qV.1.1;have HV:Hid (∀ x∈l,Np.al x.set.name=true):=jq (λx hx=>zO (Np.Et qV.2 x hx));clear fu qV ho;go_wp2_with fail;refine (Yj a ha NA.out _ l bY HV.out HS.out _ (HD.out.later aP bK ah.out)).mono ?_;rintro e w3 ⟨rfl,ai⟩;have dR:=ai.size;have aw:=aeX ah ai;replace d0:=aeK ai d0;replace d1:=aeK ai d1;clear ai
  cases iO:Np.yes (Np.ApexH a.data.toList l) with
  | false=>
   have HX:Hid (r=false):=jq (by rw[<-HR.out];exact Np.aR λh=>tb iO h.1.1.1.1.2);clear iO;go_wp2_with fail;go_ret;exact⟨ag HX.out.symm,aw.out⟩
  | true=>
   have kJ:=jq (Np.eZ.1 iO);clear iO;go_wp2_with fail;refine (aOQ a _ l bY HV.out HS.out _ (HD.out.later aP bK aw.out)).mono ?_;rintro e w4 ⟨⟨bv,rfl,eC⟩,ar⟩;have fz:=ar.size;have bi:=aeX aw ar;obtain⟨A2,c2,rfl,dE,dF⟩:=ak eC;have b7:(Np.dL ⟨a.data.toList,l⟩).length=l.length:=Np.tE _;rw[b7] at dE dF eC |-;clear b7;have UR:=jq eC;clear ar eC d0 d1;go_wp2_with fail;obtain⟨w5,aK⟩:=afZ (w4.alloc (.cells #[.string a,.slice A l.length c,.slice A2 l.length c2] 265));have g0:w5.cell? ⟨w4.heap.size,0,none⟩=some (.string a):=by rw[<-aK];simp[go_sem]
   have g1:w5.cell? ⟨w4.heap.size,1,none⟩=some (.slice A l.length c):=by rw[<-aK];simp[go_sem]
   have g2:w5.cell? ⟨w4.heap.size,2,none⟩=some (.slice A2 l.length c2):=by rw[<-aK];simp[go_sem]
   have lB:w5.heap.size=w4.heap.size+1:=by rw[<-aK];simp
   have xM:Hid (Below w4.heap.size w4 w5):=jq (by rw[<-aK];exact blAl);have cg:Hid (Below w.heap.size w w5):=aeX bi xM.out;have mT:Hid (∀ wx,Below w.heap.size w wx->w.heap.size<=wx.heap.size->SlR br 5 wx wx.heap.size (.slice A l.length c) l):=jq (λwx hb _=>HD.out.later aP bK hb);have M8:Hid (∀ wx,Below w4.heap.size w4 wx->SlR RTx 1 wx wx.heap.size (.slice A2 l.length c2) (Np.dL ⟨a.data.toList,l⟩)):=jq (λwx hb=>UR.out.later jt zI hb);have HL:Hid ((Np.dL ⟨a.data.toList,l⟩).length=l.length):=jq (Np.tE _);rw[aK];clear aK;refine (Yg a _ A2 l.length c2 l bY _ (mT.out _ cg.out cg.out.size)).mono ?_;rintro e w6 ⟨rfl,aT⟩;have eX:=aT.size;have cn:=aeX cg aT;have Mc:=aeX xM aT;replace g0:=aeK aT g0;replace g1:=aeK aT g1;replace g2:=aeK aT g2;clear aT
   cases nH:Np.yes (Np.zV l) with
   | false=>
    have HX:Hid (r=false):=jq (by rw[<-HR.out];exact Np.aR λh=>tb nH h.1.1.1.2);clear nH;go_wp2_with fail;go_ret;exact⟨ag HX.out.symm,cn.out⟩
   | true=>
    have Ii:=jq (Np.eZ.1 nH);clear nH;go_wp2_with fail;refine (Zl a _ _ l _ HL.out _ (mT.out _ cn.out cn.out.size) (M8.out _ Mc.out)).mono ?_;rintro e w7 ⟨rfl,dp⟩;have mG:=dp.size;have cZ:=aeX cn dp;have UC:=aeX Mc dp;replace g0:=aeK dp g0;replace g1:=aeK dp g1;replace g2:=aeK dp g2;clear dp
    cases Cr:Np.yes (Np.qj l (Np.dL ⟨a.data.toList,l⟩)) with
    | false=>
     have HX:Hid (r=false):=jq (by rw[<-HR.out];exact Np.aR λh=>tb Cr h.1.1.2);clear Cr;go_wp2_with fail;go_ret;exact⟨ag HX.out.symm,cZ.out⟩
    | true=>
     have WO:=jq (Np.eZ.1 Cr);clear Cr;go_wp2_with fail;refine (beX a _ _ l _ HL.out _ (mT.out _ cZ.out cZ.out.size) (M8.out _ UC.out)).mono ?_;rintro e w8 ⟨rfl,fU⟩;have p6:=fU.size;have fd:=aeX cZ fU;replace g0:=aeK fU g0;replace g1:=aeK fU g1;replace g2:=aeK fU g2;clear fU
     cases wW:Np.yes (Np.Bd l (Np.dL ⟨a.data.toList,l⟩)) with
     | false=>
      have HX:Hid (r=false):=jq (by rw[<-HR.out];exact Np.aR λh=>tb wW h.1.2);clear wW;go_wp2_with fail;go_ret;exact⟨ag HX.out.symm,fd.out⟩
     | true=>
      have DP:=jq (Np.eZ.1 wW);clear wW;go_wp2_with fail;refine (abY a _ A2 l.length c2 l _ (mT.out _ fd.out fd.out.size)).mono ?_;rintro e w9 ⟨rfl,cS⟩;have zu:=cS.size;have eN:=aeX fd cS;replace g0:=aeK cS g0;replace g1:=aeK cS g1;replace g2:=aeK cS g2;clear cS
      cases az:Np.yes (∀ x∈l,Np.go a.data.toList x.sigs) with
      | false=>
       have HX:Hid (r=false):=jq (by rw[<-HR.out];exact Np.aR λh=>tb az h.2);clear az;go_wp2_with fail;go_ret;exact⟨ag HX.out.symm,eN.out⟩
      | true=>
       have AK:=jq (Np.eZ.1 az);clear az;go_wp2_with fail;go_ret;exact⟨ag (by rw[<-HR.out];exact (Np.bV ⟨⟨⟨⟨⟨gR.out,kJ.out⟩,Ii.out⟩,WO.out⟩,DP.out⟩,AK.out⟩).symm),eN.out⟩
end
section
open Go.RowKit Go.Shelf
theorem aHZ{a t:List UInt8}(h:46∉a):Lib.indexByte (a++46::t) 46=a.length:=by
 induction a with
 | nil=>rfl
 | cons c a ih=>
  have hc:(c == 46)=false:=by
   simp only[beq_eq_false_iff_ne,ne_eq];rintro rfl;exact h (List.mem_cons_self ..)
  have hm:((a.length:Int) == -1)=false:=by simp only[beq_eq_false_iff_ne,ne_eq];omega
  rw[List.cons_append,Lib.indexByte,hc,ih (λk=>h (mQ _ k)),hm];simp
theorem aHJ{a:List UInt8}(h:46∉a):Lib.indexByte a 46 = -1:=by
 induction a with
 | nil=>rfl
 | cons c a ih=>
  have hc:(c == 46)=false:=by
   simp only[beq_eq_false_iff_ne,ne_eq];rintro rfl;exact h (List.mem_cons_self ..)
  rw[Lib.indexByte,hc,ih (λk=>h (mQ _ k))];rfl
theorem SO(s:ByteArray)(hs:s.size<=140737488355328)(hv:Np.al s.data.toList=true)(hr:s.data.toList≠[46])(w:World) :
 Calls prog 261 #[.string s] w λe w'=>∃ p:ByteArray,e = .returned (.tuple #[.string p,.int .i64 0])/\p.data.toList=Np.re s.data.toList/\p.size<=140737488355328/\Below w.heap.size w w':=by
 have HV:=jq hv;have y9:(s.toList == [46])=false:=by
  simp only[beq_eq_false_iff_ne,ne_eq,dQ];exact hr
 clear hv;by_cases hd:46∈s.data.toList
 ·obtain⟨a,t,hat,ha⟩:=Np.Pi hd;have tY:Lib.indexByte s.data.toList 46=(a.length:Int):=by rw[hat,aHZ ha]
  have hp:Np.re s.data.toList=t:=by rw[hat,Np.SQ ha]
  have hlen:a.length+1+t.length=s.size:=by rw[<-bj,hat];simp;omega
  obtain⟨k,hk⟩:=afZ a.length;rw[hk] at tY hlen;have HE:Hid ((s.extract (k+1) s.size).data.toList=t):=jq (by
   simp only[ByteArray.data_extract,Array.toList_extract,List.extract_eq_take_drop,hat];rw[show (a++46::t).drop (k+1)=t by rw[<-hk];simp];exact kQ (by omega))
  have HP:=jq hp;have Hh:=jq tY;clear hd hat ha hp tY hk hr;have ck:k+1<=s.size:=by omega
  go_enter func261,ntmps261;go_wp2_with fail;refine (valid_any s hs _).mono ?_;rintro e w1 ⟨rfl,hb⟩;rw[HV.out];have HB:=jq hb;clear hb;go_wp2_with fail;refine (Tryz.strings_IndexByte _ _ _).mono ?_;rintro e w2 ⟨rfl,rfl⟩;rw[show Lib.indexByte s.data.toList (46:Int).toNat.toUInt8=(k:Int) from Hh.out];go_wp2_with fail;go_ret2;exact⟨_,rfl,by rw[HP.out];exact HE.out,by simp<;>omega,HB.out⟩
 ·have tY:=aHJ hd;have HP:=jq (Np.ST hd);have Hh:=jq tY;clear hd tY hr;go_enter func261,ntmps261;go_wp2_with fail;refine (valid_any s hs _).mono ?_;rintro e w1 ⟨rfl,hb⟩;rw[HV.out];have HB:=jq hb;clear hb;go_wp2_with fail;refine (Tryz.strings_IndexByte _ _ _).mono ?_;rintro e w2 ⟨rfl,rfl⟩;rw[show Lib.indexByte s.data.toList (46:Int).toNat.toUInt8 = -1 from Hh.out];go_wp2_with fail;go_ret2;exact⟨_,rfl,by rw[HP.out],by decide,HB.out⟩
end
end Go.Proofs.YtfnopgdcaanaiaaGreatDoor
