/- Parts of the proof. No condition. -/
import Derived.Test.YtfnopgdcaanaiaaGreatDoorH15
import Derived.Test.YtfnopgdcaanaiaaGreatDoorH16
set_option linter.all false
set_option maxRecDepth 100000
set_option maxHeartbeats 8000000
namespace Go.Proofs.YtfnopgdcaanaiaaGreatDoor
open Go.Proofs.Tryz
section
open Go.RowKit
theorem YW(a:ByteArray)(v bv:Value)(l:List Np.Signed)(B:List (List UInt8))(iK:B.length=l.length)(w:World)(hd:SlR bh 5 w w.heap.size v l)(jx:SlR RTx 1 w w.heap.size bv B) :
 Calls prog 203 #[.agg #[.string a,v,bv]] w λe w'=>e = .returned (.bool (Np.yes (Np.xx l B)))/\Below w.heap.size w w':=by
 obtain⟨r,hr⟩:∃ r,Np.yes (Np.xx l B)=r:=⟨_,rfl⟩;rw[hr];have HR:=jq hr;have cX:=jq iK;have HD:=jq hd;have mR:=jq jx;obtain⟨A,c,rfl,bw,bT⟩:=al hd;obtain⟨A2,c2,rfl,eG,dI⟩:=al jx;rw[iK] at eG dI mR |-;clear hr hd jx iK;have HW:Hid (∀ o,Below w.heap.size w (w.alloc o)):=jq (λo=>(vQ _ w).alloc (bQ _) _);go_enter func203,ntmps203;go_wp2_with fail;obtain⟨w1,ah⟩:∃ w1,w.alloc (.cells #[.string a,.slice A l.length c,.slice A2 l.length c2] 265)=w1:=⟨_,rfl⟩;have c2':w1.cell? ⟨w.heap.size,2,none⟩=some (.slice A2 l.length c2):=by rw[<-ah];simp[go_sem]
 have du:w.heap.size<w1.heap.size:=by rw[<-ah];simp
 have aq:Hid (Below w.heap.size w w1):=jq (by rw[<-ah];exact HW.out _);rw[ah];clear ah;go_loopw [11] (λi wr=>∃ k:Nat,k<=l.length/\i = .int .i64 k/\Hid (Below w1.heap.size w1 wr)/\Hid (∀ j x b,j<k->l[j]?=some x->B[j]?=some b->(b≠[]->x.set.type=2\/x.set.type=1->x.sigs = []))) (λi _=>l.length - (intOf i).toNat)
 case atStart=>exact⟨0,jQ _,rfl,jq (vQ _ _),jq (λj x b hj=>by omega)⟩
 case round=>
  obtain⟨k,hk,rfl,HB,HA⟩:=hrel;have an:=HB.out.size;have aw:=jq (aq.out.trans (HB.out.mono (by omega)));by_cases aa:k<l.length
  ·obtain⟨x,ab⟩:∃ x,l[k]?=some x:=⟨_,aQ aa⟩;obtain⟨bb,dm⟩:∃ bb,B[k]?=some bb:=⟨_,aQ (by rw[cX.out];omega)⟩;obtain⟨b,o,c',sn,dv,sv,hA,bJ,_,ay,cw,aW,aM,e0,e1,e2,e3,e4⟩:=eq (HD.out.keep aX aw.out) ab
   cases hA
   obtain⟨b2,o2,sb,rfl,uN,nK,FQ,g0⟩:=oT (mR.out.keep mc aw.out) dm;have HN:Hid ((bb≠[]->x.set.type=2\/x.set.type=1->x.sigs = [])->∀ j x b,j<k+1->l[j]?=some x->B[j]?=some b->(b≠[]->x.set.type=2\/x.set.type=1->x.sigs = [])):=jq (λh j x b hj hx hb=>by
    by_cases e:j=k
    ·subst e;rw[ab] at hx;rw[dm] at hb;cases hx;cases hb;exact h
    ·exact HA.out j x b (by omega) hx hb)
   have HF:Hid (¬ (bb≠[]->x.set.type=2\/x.set.type=1->x.sigs = [])->r=false):=jq (λh=>by
    rw[<-HR.out];exact Np.aF λq=>h (q k _ _ ab dm))
   clear ab dm;obtain⟨Ad,cd,rfl,_,_⟩:=al aW;obtain⟨As,cs,rfl,_,_⟩:=al aM;have hcell:wr.cell? ⟨w.heap.size,2,none⟩=some (.slice (some ⟨b2,o2,none⟩) l.length c2):=(HB.out.cell (by dsimp only;omega)).trans c2';have cZ:w.heap.size<wr.heap.size:=by omega
   have az:b<wr.heap.size:=by omega
   have ac:b2<wr.heap.size:=by omega
   have aZ:Hid (∀ o,Below w1.heap.size w1 (wr.alloc o)):=jq (λo=>HB.out.alloc HB.out.size _);have mO:Hid (∀ o,Below w.heap.size w (wr.alloc o)):=jq (λo=>aw.out.alloc (by omega) _);have bO:(0:Int)<=(k:Int):=by omega
   have bM:(k:Int)<(l.length:Int):=by omega
   have aL:=jq ay;have eP:=jq nK;obtain⟨ty,eK⟩:∃ ty,x.set.type=ty:=⟨_,rfl⟩;have di:=jq eK;rw[eK] at e1;clear ay nK aW aM eK;by_cases cT:bb = []
   ·obtain rfl:sb=⟨#[]⟩:=kL (by rw[eP.out,cT]);have HX:=jq (HN.out (λh=>absurd cT h));clear cT;go_wp2_with fail;go_roundw
    case rel=>exact⟨k+1,by omega,by go_num,jq (aZ.out _),jq HX.out⟩
    case measure=>simp[intOf] <;> omega
   ·have vj:(sb.toList == [])=false:=by rw[dQ,eP.out];simpa using cT
    have mS:=jq cT;clear cT;by_cases ht:ty=2\/ty=1
    ·by_cases ri:x.sigs.length=0
     ·have HX:=jq (HN.out (λ_ _=>rQ ri));rw[ri] at e4;clear ri;rcases ht with rfl | rfl
      all_goals
       go_wp2_with fail;go_roundw
       case rel=>exact⟨k+1,by omega,by go_num,jq (aZ.out _),jq HX.out⟩
       case measure=>simp[intOf] <;> omega
     ·have HX:Hid (r=false):=jq (HF.out λh=>ri (by rw[h mS.out (by rw[di.out];exact ht)];rfl));have UH:0<x.sigs.length:=by omega
      have amK:(0:Int)<(x.sigs.length:Int):=by omega
      clear ri;rcases ht with rfl | rfl
      all_goals
       go_wp2_with fail;go_ret;exact⟨ae HX.out.symm,mO.out _⟩
    ·have HX:=jq (HN.out (λ_ h=>absurd (by rw[di.out] at h;exact h) ht));have t1:(ty == 2)=false:=by simp;omega
     have t2:(ty == 1)=false:=by simp;omega
     clear ht;go_wp2_with fail;go_roundw
     case rel=>exact⟨k+1,by omega,by go_num,jq (aZ.out _),jq HX.out⟩
     case measure=>simp[intOf] <;> omega
  ·go_wp2_with fail;go_ret;refine⟨ae ?_,aw.out⟩;rw[<-HR.out];exact (Np.bB λi x b hx hb=>HA.out i x b (by have:=(cQ.1 hx).1;omega) hx hb).symm
theorem Sx(a:ByteArray)(v:Value)(A2:Option Addr)(n2 c2:Nat)(l:List Np.Signed)(w:World)(hd:SlR bh 5 w w.heap.size v l) :
 Calls prog 204 #[.agg #[.string a,v,.slice A2 n2 c2]] w λe w'=>e = .returned (.bool (Np.yes (∀ x∈l,Np.fw a.data.toList x.sigs)))/\Below w.heap.size w w':=by
 obtain⟨r,hr⟩:∃ r,Np.yes (∀ x∈l,Np.fw a.data.toList x.sigs)=r:=⟨_,rfl⟩;rw[hr];have HR:=jq hr;have HD:=jq hd;obtain⟨A,c,rfl,bw,bT⟩:=al hd;clear hr hd;have HW:Hid (∀ o,Below w.heap.size w (w.alloc o)):=jq (λo=>(vQ _ w).alloc (bQ _) _);go_enter func204,ntmps204;go_wp2_with fail;obtain⟨w1,ah⟩:∃ w1,w.alloc (.cells #[.string a,.slice A l.length c,.slice A2 n2 c2] 265)=w1:=⟨_,rfl⟩;have c2':w1.cell? ⟨w.heap.size,0,none⟩=some (.string a):=by rw[<-ah];simp[go_sem]
 have du:w.heap.size<w1.heap.size:=by rw[<-ah];simp
 have aq:Hid (Below w.heap.size w w1):=jq (by rw[<-ah];exact HW.out _);rw[ah];clear ah;go_loopw [10] (λi wr=>∃ k:Nat,k<=l.length/\i = .int .i64 k/\Hid (Below w1.heap.size w1 wr)/\Hid (∀ j x,j<k->l[j]?=some x->Np.fw a.data.toList x.sigs)) (λi _=>l.length - (intOf i).toNat)
 case atStart=>exact⟨0,jQ _,rfl,jq (vQ _ _),jq (λj x hj=>by omega)⟩
 case round=>
  obtain⟨k,hk,rfl,HB,HA⟩:=hrel;have an:=HB.out.size;have aw:=jq (aq.out.trans (HB.out.mono (by omega)));by_cases aa:k<l.length
  ·obtain⟨x,ab⟩:∃ x,l[k]?=some x:=⟨_,aQ aa⟩;obtain⟨b,o,c',sn,dv,sv,hA,bJ,_,ay,cw,aW,aM,e0,e1,e2,e3,e4⟩:=eq (HD.out.keep aX aw.out) ab
   cases hA
   have HN:Hid (Np.fw a.data.toList x.sigs->∀ j x,j<k+1->l[j]?=some x->Np.fw a.data.toList x.sigs):=jq (λh j y hj hy=>by
    by_cases e:j=k
    ·subst e;rw[ab] at hy;cases hy;exact h
    ·exact HA.out j y (by omega) hy)
   have HF:Hid (¬ Np.fw a.data.toList x.sigs->r=false):=jq (λh=>by
    rw[<-HR.out];exact Np.aF λq=>h (q x (gQ ab)))
   clear ab;obtain⟨Ad,cd,rfl,_,_⟩:=al aW;obtain⟨As,cs,rfl,_,_⟩:=al aM;have hcell:wr.cell? ⟨w.heap.size,0,none⟩=some (.string a):=(HB.out.cell (by dsimp only;omega)).trans c2';have qC:=jq (aM.more gp (show w.heap.size<=wr.heap.size by omega));have cZ:w.heap.size<wr.heap.size:=by omega
   have az:b<wr.heap.size:=by omega
   have aZ:Hid (∀ o,Below w1.heap.size w1 (wr.alloc o)):=jq (λo=>HB.out.alloc HB.out.size _);have mO:Hid (∀ o,Below w.heap.size w (wr.alloc o)):=jq (λo=>aw.out.alloc (by omega) _);have bO:(0:Int)<=(k:Int):=by omega
   have bM:(k:Int)<(l.length:Int):=by omega
   have aL:=jq ay;clear ay aW aM;go_wp2_with fail;refine (VH a _ x.sigs _ (qC.out.later ep gp ((vQ _ _).alloc (bQ _) _))).mono ?_;rintro e w2 ⟨rfl,hb⟩;have aj:Hid (Below wr.heap.size wr w2):=jq (((vQ _ _).alloc (bQ _) _).trans (hb.mono (by simp)));clear hb
   cases hf:Np.yes (Np.fw a.data.toList x.sigs) with
   | true=>
    have HX:=jq (HN.out (Np.ew.1 hf));clear hf;go_wp2_with fail;go_roundw
    case rel=>exact⟨k+1,by omega,by go_num,jq (HB.out.trans (aj.out.mono HB.out.size)),jq HX.out⟩
    case measure=>simp[intOf] <;> omega
   | false=>
    have HX:=jq (HF.out λh=>by rw[Np.bB h] at hf;cases hf);clear hf;go_wp2_with fail;go_ret;exact⟨ae HX.out.symm,aw.out.trans (aj.out.mono (by omega))⟩
  ·go_wp2_with fail;go_ret;refine⟨ae ?_,aw.out⟩;rw[<-HR.out];refine (Np.bB λx hx=>?_).symm;obtain⟨j,hj,rfl⟩:=nQ.1 hx;exact HA.out j _ (by omega) (aQ hj)
theorem ZK{z:Np.Zone}(bI:z.sets.length<=20000):Np.VZone z↔(((((Np.dZ z=true/\Np.ApexH z.apex z.sets)/\Np.vV z.sets)/\Np.nS z.sets (Np.dl z))/\Np.xx z.sets (Np.dl z))/\∀ x∈z.sets,Np.fw z.apex x.sigs):=by
 constructor
 ·intro h;refine⟨⟨⟨⟨⟨h.right,h.start,h.server,h.fits⟩,λk x hx ht=>⟨λp h0 hp he=>?_,λn hn he=>?_⟩⟩,h.cuts⟩,h.sigs⟩,h.form⟩
  ·obtain⟨hk,rfl⟩:=cQ.1 hx;obtain⟨bM,rfl⟩:=cQ.1 hp;obtain⟨m,rfl⟩:∃ m,k=m+1:=⟨k - 1,by omega⟩;exact h.aliasBefore m hk ht he
  ·obtain⟨hk,rfl⟩:=cQ.1 hx;obtain⟨bM,rfl⟩:=cQ.1 hn;exact h.aliasBehind k bM ht he
 ·rintro⟨⟨⟨⟨⟨h1,h2⟩,h3⟩,h4⟩,h5⟩,h6⟩;refine⟨h1,bI,h2.start,h2.server,h2.fits,λi hi ht he=>?_,λi hi ht he=>?_,h4,h5,h6⟩
  ·exact (h3 (i+1) _ (aQ hi) ht).1 _ (by omega) (aQ (by omega)) he
  ·exact (h3 i _ (aQ (by omega)) ht).2 _ (aQ hi) he
theorem qm{P:Prop}(h:Np.yes P=false):¬ P:=λhp=>by rw[Np.bB hp] at h;cases h
theorem OC(a:ByteArray)(ha:a.size<=140737488355328)(v:Value)(l:List Np.Signed)(bI:l.length<=20000)(w:World)(hR:iH w w.heap.size)(hd:SlR bh 5 w w.heap.size v l) :
 Calls prog 120 #[.agg #[.string a,v]] w λe w'=>e = .returned (.bool (Np.yes (Np.VZone ⟨a.data.toList,l⟩)))/\Below w.heap.size w w':=by
 obtain⟨r,hr⟩:∃ r,Np.yes (Np.VZone ⟨a.data.toList,l⟩)=r:=⟨_,rfl⟩;rw[hr];have HR:Hid (Np.yes (((((Np.dZ ⟨a.data.toList,l⟩=true/\Np.ApexH a.data.toList l)/\Np.vV l)/\Np.nS l (Np.dl ⟨a.data.toList,l⟩))/\Np.xx l (Np.dl ⟨a.data.toList,l⟩))/\∀ x∈l,Np.fw a.data.toList x.sigs)=r):=jq (by
  rw[<-hr];exact (Np.ql (ZK (z:=⟨a.data.toList,l⟩) bI)).symm)
 have HD:=jq hd;have gv:=jq hR;obtain⟨A,c,rfl,bw,bT⟩:=al hd;clear hr hd hR;have HW:Hid (∀ o o',Below w.heap.size w ((w.alloc o).alloc o')):=jq (λo o'=>((vQ _ w).alloc (bQ _) _).alloc (by simp) _);go_enter func120,ntmps120;go_wp2_with fail;obtain⟨w1,ah⟩:∃ w1,(w.alloc (.cells #[.string a,.slice A l.length c] 44)).alloc (.cells #[.string a,.slice A l.length c] 263)=w1:=⟨_,rfl⟩;have c0:w1.cell? ⟨w.heap.size+1,0,none⟩=some (.string a):=by rw[<-ah];simp[go_sem]
 have c1:w1.cell? ⟨w.heap.size+1,1,none⟩=some (.slice A l.length c):=by rw[<-ah];simp[go_sem]
 have bj:w1.heap.size=w.heap.size+2:=by rw[<-ah];simp
 have aq:Hid (Below w.heap.size w w1):=jq (by rw[<-ah];exact HW.out _ _);rw[ah];clear ah;refine (aaQ a ha _ l bI _ ((gv.out.keep aq.out).more (by omega)) (HD.out.later aX cj aq.out)).mono ?_;rintro e w2 ⟨rfl,ac⟩;have aJ:=ac.size;have aj:=jq (aq.out.trans (ac.mono (by omega)));have d0:w2.cell? ⟨w.heap.size+1,0,none⟩=some (.string a):=(ac.cell (by dsimp only;omega)).trans c0;have d1:w2.cell? ⟨w.heap.size+1,1,none⟩=some (.slice A l.length c):=(ac.cell (by dsimp only;omega)).trans c1;clear ac c0 c1
 cases dJ:Np.dZ ⟨a.data.toList,l⟩ with
 | false=>
  have HX:Hid (r=false):=jq (by rw[<-HR.out];exact Np.aF λh=>by rw[dJ] at h;cases h.1.1.1.1.1);clear dJ;go_wp2_with fail;go_ret;exact⟨ae HX.out.symm,aj.out⟩
 | true=>
  have ie:=jq dJ;have ho:=Np.VZone.inOrder dJ;have HS:=jq (Y3 ho);have oD:=dJ;unfold Np.dZ at oD;simp only[Bool.and_eq_true] at oD;have NA:=jq oD.1.1;have HV:Hid (∀ x∈l,Np.aC x.set.name=true):=jq (λx hx=>CH (Np.AZ oD.2 x hx));clear dJ oD ho;go_wp2_with fail;refine (Q4 a ha NA.out _ l bI HV.out HS.out _ (HD.out.later aX cj aj.out)).mono ?_;rintro e w3 ⟨rfl,ak⟩;have el:=ak.size;have ar:=jq (aj.out.trans (ak.mono (by omega)));replace d0:w3.cell? ⟨w.heap.size+1,0,none⟩=some (.string a):=(ak.cell (by dsimp only;omega)).trans d0;replace d1:w3.cell? ⟨w.heap.size+1,1,none⟩=some (.slice A l.length c):=(ak.cell (by dsimp only;omega)).trans d1;clear ak
  cases s9:Np.yes (Np.ApexH a.data.toList l) with
  | false=>
   have HX:Hid (r=false):=jq (by rw[<-HR.out];exact Np.aF λh=>qm s9 h.1.1.1.1.2);clear s9;go_wp2_with fail;go_ret;exact⟨ae HX.out.symm,ar.out⟩
  | true=>
   have rT:=jq (Np.ew.1 s9);clear s9;go_wp2_with fail;refine (Wn a _ l bI HV.out HS.out _ (HD.out.later aX cj ar.out)).mono ?_;rintro e w4 ⟨⟨bv,rfl,gk⟩,av⟩;have em:=av.size;have ba:=jq (ar.out.trans (av.mono (by omega)));obtain⟨A2,c2,rfl,eG,dI⟩:=al gk;have bG:(Np.dl ⟨a.data.toList,l⟩).length=l.length:=Np.qK _;rw[bG] at eG dI gk |-;clear bG;have O1:=jq gk;clear av gk d0 d1;go_wp2_with fail;obtain⟨w5,aS⟩:∃ w5,w4.alloc (.cells #[.string a,.slice A l.length c,.slice A2 l.length c2] 265)=w5:=⟨_,rfl⟩;have g0:w5.cell? ⟨w4.heap.size,0,none⟩=some (.string a):=by rw[<-aS];simp[go_sem]
   have g1:w5.cell? ⟨w4.heap.size,1,none⟩=some (.slice A l.length c):=by rw[<-aS];simp[go_sem]
   have g2:w5.cell? ⟨w4.heap.size,2,none⟩=some (.slice A2 l.length c2):=by rw[<-aS];simp[go_sem]
   have iX:w5.heap.size=w4.heap.size+1:=by rw[<-aS];simp
   have qo:Hid (Below w4.heap.size w4 w5):=jq (by rw[<-aS];exact (vQ _ _).alloc (bQ _) _);have cx:Hid (Below w.heap.size w w5):=jq (ba.out.trans (qo.out.mono (by omega)));have nZ:Hid (∀ wx,Below w.heap.size w wx->w.heap.size<=wx.heap.size->SlR bh 5 wx wx.heap.size (.slice A l.length c) l):=jq (λwx hb _=>HD.out.later aX cj hb);have sj:Hid (∀ wx,Below w4.heap.size w4 wx->SlR RTx 1 wx wx.heap.size (.slice A2 l.length c2) (Np.dl ⟨a.data.toList,l⟩)):=jq (λwx hb=>O1.out.later mc Nn hb);have HL:Hid ((Np.dl ⟨a.data.toList,l⟩).length=l.length):=jq (Np.qK _);rw[aS];clear aS;refine (QY a _ A2 l.length c2 l bI _ (nZ.out _ cx.out cx.out.size)).mono ?_;rintro e w6 ⟨rfl,aT⟩;have gm:=aT.size;have dg:=jq (cx.out.trans (aT.mono (by omega)));have wg:=jq (qo.out.trans (aT.mono (by omega)));replace g0:w6.cell? ⟨w4.heap.size,0,none⟩=some (.string a):=(aT.cell (by dsimp only;omega)).trans g0;replace g1:w6.cell? ⟨w4.heap.size,1,none⟩=some (.slice A l.length c):=(aT.cell (by dsimp only;omega)).trans g1;replace g2:w6.cell? ⟨w4.heap.size,2,none⟩=some (.slice A2 l.length c2):=(aT.cell (by dsimp only;omega)).trans g2;clear aT
   cases pR:Np.yes (Np.vV l) with
   | false=>
    have HX:Hid (r=false):=jq (by rw[<-HR.out];exact Np.aF λh=>qm pR h.1.1.1.2);clear pR;go_wp2_with fail;go_ret;exact⟨ae HX.out.symm,dg.out⟩
   | true=>
    have DU:=jq (Np.ew.1 pR);clear pR;go_wp2_with fail;refine (RZ a _ _ l _ HL.out _ (nZ.out _ dg.out dg.out.size) (sj.out _ wg.out)).mono ?_;rintro e w7 ⟨rfl,fz⟩;have oI:=fz.size;have eO:=jq (dg.out.trans (fz.mono (by omega)));have OQ:=jq (wg.out.trans (fz.mono (by omega)));replace g0:w7.cell? ⟨w4.heap.size,0,none⟩=some (.string a):=(fz.cell (by dsimp only;omega)).trans g0;replace g1:w7.cell? ⟨w4.heap.size,1,none⟩=some (.slice A l.length c):=(fz.cell (by dsimp only;omega)).trans g1;replace g2:w7.cell? ⟨w4.heap.size,2,none⟩=some (.slice A2 l.length c2):=(fz.cell (by dsimp only;omega)).trans g2;clear fz
    cases yM:Np.yes (Np.nS l (Np.dl ⟨a.data.toList,l⟩)) with
    | false=>
     have HX:Hid (r=false):=jq (by rw[<-HR.out];exact Np.aF λh=>qm yM h.1.1.2);clear yM;go_wp2_with fail;go_ret;exact⟨ae HX.out.symm,eO.out⟩
    | true=>
     have P8:=jq (Np.ew.1 yM);clear yM;go_wp2_with fail;refine (YW a _ _ l _ HL.out _ (nZ.out _ eO.out eO.out.size) (sj.out _ OQ.out)).mono ?_;rintro e w8 ⟨rfl,ik⟩;have vt:=ik.size;have iz:=jq (eO.out.trans (ik.mono (by omega)));replace g0:w8.cell? ⟨w4.heap.size,0,none⟩=some (.string a):=(ik.cell (by dsimp only;omega)).trans g0;replace g1:w8.cell? ⟨w4.heap.size,1,none⟩=some (.slice A l.length c):=(ik.cell (by dsimp only;omega)).trans g1;replace g2:w8.cell? ⟨w4.heap.size,2,none⟩=some (.slice A2 l.length c2):=(ik.cell (by dsimp only;omega)).trans g2;clear ik
     cases tA:Np.yes (Np.xx l (Np.dl ⟨a.data.toList,l⟩)) with
     | false=>
      have HX:Hid (r=false):=jq (by rw[<-HR.out];exact Np.aF λh=>qm tA h.1.2);clear tA;go_wp2_with fail;go_ret;exact⟨ae HX.out.symm,iz.out⟩
     | true=>
      have AA:=jq (Np.ew.1 tA);clear tA;go_wp2_with fail;refine (Sx a _ A2 l.length c2 l _ (nZ.out _ iz.out iz.out.size)).mono ?_;rintro e w9 ⟨rfl,gF⟩;have zd:=gF.size;have gN:=jq (iz.out.trans (gF.mono (by omega)));replace g0:w9.cell? ⟨w4.heap.size,0,none⟩=some (.string a):=(gF.cell (by dsimp only;omega)).trans g0;replace g1:w9.cell? ⟨w4.heap.size,1,none⟩=some (.slice A l.length c):=(gF.cell (by dsimp only;omega)).trans g1;replace g2:w9.cell? ⟨w4.heap.size,2,none⟩=some (.slice A2 l.length c2):=(gF.cell (by dsimp only;omega)).trans g2;clear gF
      cases BR:Np.yes (∀ x∈l,Np.fw a.data.toList x.sigs) with
      | false=>
       have HX:Hid (r=false):=jq (by rw[<-HR.out];exact Np.aF λh=>qm BR h.2);clear BR;go_wp2_with fail;go_ret;exact⟨ae HX.out.symm,gN.out⟩
      | true=>
       have P9:=jq (Np.ew.1 BR);clear BR;go_wp2_with fail;go_ret;exact⟨ae (by rw[<-HR.out];exact (Np.bB ⟨⟨⟨⟨⟨ie.out,rT.out⟩,DU.out⟩,P8.out⟩,AA.out⟩,P9.out⟩).symm),gN.out⟩
end
end Go.Proofs.YtfnopgdcaanaiaaGreatDoor
