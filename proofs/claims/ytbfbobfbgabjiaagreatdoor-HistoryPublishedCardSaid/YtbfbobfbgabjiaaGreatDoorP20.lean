/- Parts of the proof. No condition. -/
import Derived.Test.YtbfbobfbgabjiaaGreatDoorP15
import Derived.Test.YtbfbobfbgabjiaaGreatDoorP16
set_option linter.all false
set_option maxRecDepth 100000
set_option maxHeartbeats 8000000
namespace Go.Proofs.YtbfbobfbgabjiaaGreatDoor
open Go.Proofs.Tryz
section
open Go.RowKit
theorem aFJ(a:ByteArray)(v bv:Value)(l:List Np.Signed)(B:List (List UInt8))(jV:B.length=l.length)(w:World)(hd:SlR bC 5 w w.heap.size v l)(dF:SlR RTx 1 w w.heap.size bv B) :
 Calls prog 106 #[.agg #[.string a,v,bv]] w λe w'=>e = .returned (.bool (Np.yes (Np.AL l B)))/\Below w.heap.size w w':=by
 obtain⟨r,hr⟩:∃ r,Np.yes (Np.AL l B)=r:=⟨_,rfl⟩;rw[hr];have HR:=jq hr;have ed:=jq jV;have HD:=jq hd;have em:=jq dF;obtain⟨A,c,rfl,aV,bi⟩:=ah hd;obtain⟨A2,c2,rfl,dG,dm⟩:=ah dF;rw[jV] at dG dm em |-;clear hr hd dF jV;have HW:Hid (∀ o,Below w.heap.size w (w.alloc o)):=jq (λo=>(vQ _ w).alloc (bQ _) _);go_enter func106,ntmps106;go_wp2_with fail;obtain⟨w1,ak⟩:∃ w1,w.alloc (.cells #[.string a,.slice A l.length c,.slice A2 l.length c2] 163)=w1:=⟨_,rfl⟩;have c2':w1.cell? ⟨w.heap.size,2,none⟩=some (.slice A2 l.length c2):=by rw[<-ak]; simp[go_sem]
 have ep:w.heap.size<w1.heap.size:=by rw[<-ak]; simp
 have ay:Hid (Below w.heap.size w w1):=jq (by rw[<-ak]; exact HW.out _);rw[ak];clear ak;go_loopw [11] (λi wr=>∃ k:Nat,k<=l.length/\i = .int .i64 k/\Hid (Below w1.heap.size w1 wr)/\Hid (∀ j x b,j<k->l[j]?=some x->B[j]?=some b->(b≠[]->x.set.type=2\/x.set.type=1->x.sigs = []))) (λi _=>l.length - (intOf i).toNat)
 case atStart=>exact⟨0,jQ _,rfl,jq (vQ _ _),jq (λj x b hj=>by omega)⟩
 case round=>
  obtain⟨k,hk,rfl,HB,HA⟩:=hrel;have am:=HB.out.size;have aw:=jq (ay.out.trans (HB.out.mono (by omega)));by_cases aa:k<l.length
  ·obtain⟨x,ac⟩:∃ x,l[k]?=some x:=⟨_,aQ aa⟩;obtain⟨bb,eI⟩:∃ bb,B[k]?=some bb:=⟨_,aQ (by rw[ed.out]; omega)⟩;obtain⟨b,o,c',sn,dv,sv,hA,bS,_,av,cA,aL,ax,e0,e1,e2,e3,e4⟩:=eE (HD.out.keep aN aw.out) ac
   cases hA
   obtain⟨b2,o2,sb,rfl,yq,mK,JU,g0⟩:=sM (em.out.keep iL aw.out) eI;have HN:Hid ((bb≠[]->x.set.type=2\/x.set.type=1->x.sigs = [])->∀ j x b,j<k+1->l[j]?=some x->B[j]?=some b->(b≠[]->x.set.type=2\/x.set.type=1->x.sigs = [])):=jq (λh j x b hj hx hb=>by
    by_cases e:j=k
    ·subst e; rw[ac] at hx; rw[eI] at hb; cases hx; cases hb; exact h
    ·exact HA.out j x b (by omega) hx hb)
   have HF:Hid (¬ (bb≠[]->x.set.type=2\/x.set.type=1->x.sigs = [])->r=false):=jq (λh=>by
    rw[<-HR.out]; exact Np.aJ λq=>h (q k _ _ ac eI))
   clear ac eI;obtain⟨Ad,cd,rfl,_,_⟩:=ah aL;obtain⟨As,cs,rfl,_,_⟩:=ah ax;have hcell:wr.cell? ⟨w.heap.size,2,none⟩=some (.slice (some ⟨b2,o2,none⟩) l.length c2):=(HB.out.cell (by dsimp only; omega)).trans c2';have dz:w.heap.size<wr.heap.size:=by omega
   have ap:b<wr.heap.size:=by omega
   have ab:b2<wr.heap.size:=by omega
   have aY:Hid (∀ o,Below w1.heap.size w1 (wr.alloc o)):=jq (λo=>HB.out.alloc HB.out.size _);have oW:Hid (∀ o,Below w.heap.size w (wr.alloc o)):=jq (λo=>aw.out.alloc (by omega) _);have bH:(0:Int)<=(k:Int):=by omega
   have bG:(k:Int)<(l.length:Int):=by omega
   have aH:=jq av;have eO:=jq mK;obtain⟨ty,dK⟩:∃ ty,x.set.type=ty:=⟨_,rfl⟩;have fD:=jq dK;rw[dK] at e1;clear av mK aL ax dK;by_cases cN:bb = []
   ·obtain rfl:sb=⟨#[]⟩:=iM (by rw[eO.out,cN]);have HX:=jq (HN.out (λh=>absurd cN h));clear cN;go_wp2_with fail;go_roundw
    case rel=>exact⟨k+1,by omega,by go_num,jq (aY.out _),jq HX.out⟩
    case measure=>simp[intOf] <;> omega
   ·have BX:(sb.toList == [])=false:=by rw[dQ,eO.out]; simpa using cN
    have fJ:=jq cN;clear cN;by_cases ht:ty=2\/ty=1
    ·by_cases tO:x.sigs.length=0
     ·have HX:=jq (HN.out (λ_ _=>rQ tO));rw[tO] at e4;clear tO;rcases ht with rfl | rfl
      all_goals
       go_wp2_with fail;go_roundw
       case rel=>exact⟨k+1,by omega,by go_num,jq (aY.out _),jq HX.out⟩
       case measure=>simp[intOf] <;> omega
     ·have HX:Hid (r=false):=jq (HF.out λh=>tO (by rw[h fJ.out (by rw[fD.out]; exact ht)]; rfl));have Zh:0<x.sigs.length:=by omega
      have a4X:(0:Int)<(x.sigs.length:Int):=by omega
      clear tO;rcases ht with rfl | rfl
      all_goals
       go_wp2_with fail;go_ret;exact⟨ae HX.out.symm,oW.out _⟩
    ·have HX:=jq (HN.out (λ_ h=>absurd (by rw[fD.out] at h; exact h) ht));have t1:(ty == 2)=false:=by simp; omega
     have t2:(ty == 1)=false:=by simp; omega
     clear ht;go_wp2_with fail;go_roundw
     case rel=>exact⟨k+1,by omega,by go_num,jq (aY.out _),jq HX.out⟩
     case measure=>simp[intOf] <;> omega
  ·go_wp2_with fail;go_ret;refine⟨ae ?_,aw.out⟩;rw[<-HR.out];exact (Np.bM λi x b hx hb=>HA.out i x b (by have:=(cQ.1 hx).1; omega) hx hb).symm
theorem W5(a:ByteArray)(v:Value)(A2:Option Addr)(n2 c2:Nat)(l:List Np.Signed)(w:World)(hd:SlR bC 5 w w.heap.size v l) :
 Calls prog 107 #[.agg #[.string a,v,.slice A2 n2 c2]] w λe w'=>e = .returned (.bool (Np.yes (∀ x∈l,Np.gr a.data.toList x.sigs)))/\Below w.heap.size w w':=by
 obtain⟨r,hr⟩:∃ r,Np.yes (∀ x∈l,Np.gr a.data.toList x.sigs)=r:=⟨_,rfl⟩;rw[hr];have HR:=jq hr;have HD:=jq hd;obtain⟨A,c,rfl,aV,bi⟩:=ah hd;clear hr hd;have HW:Hid (∀ o,Below w.heap.size w (w.alloc o)):=jq (λo=>(vQ _ w).alloc (bQ _) _);go_enter func107,ntmps107;go_wp2_with fail;obtain⟨w1,ak⟩:∃ w1,w.alloc (.cells #[.string a,.slice A l.length c,.slice A2 n2 c2] 163)=w1:=⟨_,rfl⟩;have c2':w1.cell? ⟨w.heap.size,0,none⟩=some (.string a):=by rw[<-ak]; simp[go_sem]
 have ep:w.heap.size<w1.heap.size:=by rw[<-ak]; simp
 have ay:Hid (Below w.heap.size w w1):=jq (by rw[<-ak]; exact HW.out _);rw[ak];clear ak;go_loopw [10] (λi wr=>∃ k:Nat,k<=l.length/\i = .int .i64 k/\Hid (Below w1.heap.size w1 wr)/\Hid (∀ j x,j<k->l[j]?=some x->Np.gr a.data.toList x.sigs)) (λi _=>l.length - (intOf i).toNat)
 case atStart=>exact⟨0,jQ _,rfl,jq (vQ _ _),jq (λj x hj=>by omega)⟩
 case round=>
  obtain⟨k,hk,rfl,HB,HA⟩:=hrel;have am:=HB.out.size;have aw:=jq (ay.out.trans (HB.out.mono (by omega)));by_cases aa:k<l.length
  ·obtain⟨x,ac⟩:∃ x,l[k]?=some x:=⟨_,aQ aa⟩;obtain⟨b,o,c',sn,dv,sv,hA,bS,_,av,cA,aL,ax,e0,e1,e2,e3,e4⟩:=eE (HD.out.keep aN aw.out) ac
   cases hA
   have HN:Hid (Np.gr a.data.toList x.sigs->∀ j x,j<k+1->l[j]?=some x->Np.gr a.data.toList x.sigs):=jq (λh j y hj hy=>by
    by_cases e:j=k
    ·subst e; rw[ac] at hy; cases hy; exact h
    ·exact HA.out j y (by omega) hy)
   have HF:Hid (¬ Np.gr a.data.toList x.sigs->r=false):=jq (λh=>by
    rw[<-HR.out]; exact Np.aJ λq=>h (q x (gQ ac)))
   clear ac;obtain⟨Ad,cd,rfl,_,_⟩:=ah aL;obtain⟨As,cs,rfl,_,_⟩:=ah ax;have hcell:wr.cell? ⟨w.heap.size,0,none⟩=some (.string a):=(HB.out.cell (by dsimp only; omega)).trans c2';have fC:=jq (ax.more fx (show w.heap.size<=wr.heap.size by omega));have dz:w.heap.size<wr.heap.size:=by omega
   have ap:b<wr.heap.size:=by omega
   have aY:Hid (∀ o,Below w1.heap.size w1 (wr.alloc o)):=jq (λo=>HB.out.alloc HB.out.size _);have oW:Hid (∀ o,Below w.heap.size w (wr.alloc o)):=jq (λo=>aw.out.alloc (by omega) _);have bH:(0:Int)<=(k:Int):=by omega
   have bG:(k:Int)<(l.length:Int):=by omega
   have aH:=jq av;clear av aL ax;go_wp2_with fail;refine (aaJ a _ x.sigs _ (fC.out.later el fx ((vQ _ _).alloc (bQ _) _))).mono ?_;rintro e w2 ⟨rfl,hb⟩;have al:Hid (Below wr.heap.size wr w2):=jq (((vQ _ _).alloc (bQ _) _).trans (hb.mono (by simp)));clear hb
   cases hf:Np.yes (Np.gr a.data.toList x.sigs) with
   | true=>
    have HX:=jq (HN.out (Np.fz.1 hf));clear hf;go_wp2_with fail;go_roundw
    case rel=>exact⟨k+1,by omega,by go_num,jq (HB.out.trans (al.out.mono HB.out.size)),jq HX.out⟩
    case measure=>simp[intOf] <;> omega
   | false=>
    have HX:=jq (HF.out λh=>by rw[Np.bM h] at hf; cases hf);clear hf;go_wp2_with fail;go_ret;exact⟨ae HX.out.symm,aw.out.trans (al.out.mono (by omega))⟩
  ·go_wp2_with fail;go_ret;refine⟨ae ?_,aw.out⟩;rw[<-HR.out];refine (Np.bM λx hx=>?_).symm;obtain⟨j,hj,rfl⟩:=nQ.1 hx;exact HA.out j _ (by omega) (aQ hj)
theorem aNJ{z:Np.Zone}(bV:z.sets.length<=20000):Np.VZone z↔(((((Np.eN z=true/\Np.ApexH z.apex z.sets)/\Np.zy z.sets)/\Np.pX z.sets (Np.dT z))/\Np.AL z.sets (Np.dT z))/\∀ x∈z.sets,Np.gr z.apex x.sigs):=by
 constructor
 ·intro h;refine⟨⟨⟨⟨⟨h.right,h.start,h.server,h.fits⟩,λk x hx ht=>⟨λp h0 hp he=>?_,λn hn he=>?_⟩⟩,h.cuts⟩,h.sigs⟩,h.form⟩
  ·obtain⟨hk,rfl⟩:=cQ.1 hx;obtain⟨bG,rfl⟩:=cQ.1 hp;obtain⟨m,rfl⟩:∃ m,k=m+1:=⟨k - 1,by omega⟩;exact h.aliasBefore m hk ht he
  ·obtain⟨hk,rfl⟩:=cQ.1 hx;obtain⟨bG,rfl⟩:=cQ.1 hn;exact h.aliasBehind k bG ht he
 ·rintro⟨⟨⟨⟨⟨h1,h2⟩,h3⟩,h4⟩,h5⟩,h6⟩;refine⟨h1,bV,h2.start,h2.server,h2.fits,λi hi ht he=>?_,λi hi ht he=>?_,h4,h5,h6⟩
  ·exact (h3 (i+1) _ (aQ hi) ht).1 _ (by omega) (aQ (by omega)) he
  ·exact (h3 i _ (aQ (by omega)) ht).2 _ (aQ hi) he
theorem sP{P:Prop}(h:Np.yes P=false):¬ P:=λhp=>by rw[Np.bM hp] at h; cases h
theorem Sd(a:ByteArray)(ha:a.size<=140737488355328)(v:Value)(l:List Np.Signed)(bV:l.length<=20000)(w:World)(hR:iS w w.heap.size)(hd:SlR bC 5 w w.heap.size v l) :
 Calls prog 55 #[.agg #[.string a,v]] w λe w'=>e = .returned (.bool (Np.yes (Np.VZone ⟨a.data.toList,l⟩)))/\Below w.heap.size w w':=by
 obtain⟨r,hr⟩:∃ r,Np.yes (Np.VZone ⟨a.data.toList,l⟩)=r:=⟨_,rfl⟩;rw[hr];have HR:Hid (Np.yes (((((Np.eN ⟨a.data.toList,l⟩=true/\Np.ApexH a.data.toList l)/\Np.zy l)/\Np.pX l (Np.dT ⟨a.data.toList,l⟩))/\Np.AL l (Np.dT ⟨a.data.toList,l⟩))/\∀ x∈l,Np.gr a.data.toList x.sigs)=r):=jq (by
  rw[<-hr]; exact (Np.uB (aNJ (z:=⟨a.data.toList,l⟩) bV)).symm)
 have HD:=jq hd;have f9:=jq hR;obtain⟨A,c,rfl,aV,bi⟩:=ah hd;clear hr hd hR;have HW:Hid (∀ o o',Below w.heap.size w ((w.alloc o).alloc o')):=jq (λo o'=>((vQ _ w).alloc (bQ _) _).alloc (by simp) _);go_enter func55,ntmps55;go_wp2_with fail;obtain⟨w1,ak⟩:∃ w1,(w.alloc (.cells #[.string a,.slice A l.length c] 56)).alloc (.cells #[.string a,.slice A l.length c] 161)=w1:=⟨_,rfl⟩;have c0:w1.cell? ⟨w.heap.size+1,0,none⟩=some (.string a):=by rw[<-ak]; simp[go_sem]
 have c1:w1.cell? ⟨w.heap.size+1,1,none⟩=some (.slice A l.length c):=by rw[<-ak]; simp[go_sem]
 have bL:w1.heap.size=w.heap.size+2:=by rw[<-ak]; simp
 have ay:Hid (Below w.heap.size w w1):=jq (by rw[<-ak]; exact HW.out _ _);rw[ak];clear ak;refine (aRQ a ha _ l bV _ ((f9.out.keep ay.out).more (by omega)) (HD.out.later aN bN ay.out)).mono ?_;rintro e w2 ⟨rfl,ab⟩;have aM:=ab.size;have al:=jq (ay.out.trans (ab.mono (by omega)));have d0:w2.cell? ⟨w.heap.size+1,0,none⟩=some (.string a):=(ab.cell (by dsimp only; omega)).trans c0;have d1:w2.cell? ⟨w.heap.size+1,1,none⟩=some (.slice A l.length c):=(ab.cell (by dsimp only; omega)).trans c1;clear ab c0 c1
 cases fq:Np.eN ⟨a.data.toList,l⟩ with
 | false=>
  have HX:Hid (r=false):=jq (by rw[<-HR.out]; exact Np.aJ λh=>by rw[fq] at h; cases h.1.1.1.1.1);clear fq;go_wp2_with fail;go_ret;exact⟨ae HX.out.symm,al.out⟩
 | true=>
  have gX:=jq fq;have ho:=Np.VZone.inOrder fq;have HS:=jq (aGK ho);have qK:=fq;unfold Np.eN at qK;simp only[Bool.and_eq_true] at qK;have NA:=jq qK.1.1;have HV:Hid (∀ x∈l,Np.aD x.set.name=true):=jq (λx hx=>FL (Np.DT qK.2 x hx));clear fq qK ho;go_wp2_with fail;refine (Vd a ha NA.out _ l bV HV.out HS.out _ (HD.out.later aN bN al.out)).mono ?_;rintro e w3 ⟨rfl,ag⟩;have er:=ag.size;have ar:=jq (al.out.trans (ag.mono (by omega)));replace d0:w3.cell? ⟨w.heap.size+1,0,none⟩=some (.string a):=(ag.cell (by dsimp only; omega)).trans d0;replace d1:w3.cell? ⟨w.heap.size+1,1,none⟩=some (.slice A l.length c):=(ag.cell (by dsimp only; omega)).trans d1;clear ag
  cases jW:Np.yes (Np.ApexH a.data.toList l) with
  | false=>
   have HX:Hid (r=false):=jq (by rw[<-HR.out]; exact Np.aJ λh=>sP jW h.1.1.1.1.2);clear jW;go_wp2_with fail;go_ret;exact⟨ae HX.out.symm,ar.out⟩
  | true=>
   have qZ:=jq (Np.fz.1 jW);clear jW;go_wp2_with fail;refine (agJ a _ l bV HV.out HS.out _ (HD.out.later aN bN ar.out)).mono ?_;rintro e w4 ⟨⟨bv,rfl,ie⟩,an⟩;have gC:=an.size;have bq:=jq (ar.out.trans (an.mono (by omega)));obtain⟨A2,c2,rfl,dG,dm⟩:=ah ie;have bZ:(Np.dT ⟨a.data.toList,l⟩).length=l.length:=Np.tr _;rw[bZ] at dG dm ie |-;clear bZ;have SC:=jq ie;clear an ie d0 d1;go_wp2_with fail;obtain⟨w5,aP⟩:∃ w5,w4.alloc (.cells #[.string a,.slice A l.length c,.slice A2 l.length c2] 163)=w5:=⟨_,rfl⟩;have g0:w5.cell? ⟨w4.heap.size,0,none⟩=some (.string a):=by rw[<-aP]; simp[go_sem]
   have g1:w5.cell? ⟨w4.heap.size,1,none⟩=some (.slice A l.length c):=by rw[<-aP]; simp[go_sem]
   have g2:w5.cell? ⟨w4.heap.size,2,none⟩=some (.slice A2 l.length c2):=by rw[<-aP]; simp[go_sem]
   have me:w5.heap.size=w4.heap.size+1:=by rw[<-aP]; simp
   have xy:Hid (Below w4.heap.size w4 w5):=jq (by rw[<-aP]; exact (vQ _ _).alloc (bQ _) _);have cS:Hid (Below w.heap.size w w5):=jq (bq.out.trans (xy.out.mono (by omega)));have rq:Hid (∀ wx,Below w.heap.size w wx->w.heap.size<=wx.heap.size->SlR bC 5 wx wx.heap.size (.slice A l.length c) l):=jq (λwx hb _=>HD.out.later aN bN hb);have uU:Hid (∀ wx,Below w4.heap.size w4 wx->SlR RTx 1 wx wx.heap.size (.slice A2 l.length c2) (Np.dT ⟨a.data.toList,l⟩)):=jq (λwx hb=>SC.out.later iL uv hb);have HL:Hid ((Np.dT ⟨a.data.toList,l⟩).length=l.length):=jq (Np.tr _);rw[aP];clear aP;refine (Vb a _ A2 l.length c2 l bV _ (rq.out _ cS.out cS.out.size)).mono ?_;rintro e w6 ⟨rfl,aU⟩;have il:=aU.size;have ca:=jq (cS.out.trans (aU.mono (by omega)));have Lq:=jq (xy.out.trans (aU.mono (by omega)));replace g0:w6.cell? ⟨w4.heap.size,0,none⟩=some (.string a):=(aU.cell (by dsimp only; omega)).trans g0;replace g1:w6.cell? ⟨w4.heap.size,1,none⟩=some (.slice A l.length c):=(aU.cell (by dsimp only; omega)).trans g1;replace g2:w6.cell? ⟨w4.heap.size,2,none⟩=some (.slice A2 l.length c2):=(aU.cell (by dsimp only; omega)).trans g2;clear aU
   cases sf:Np.yes (Np.zy l) with
   | false=>
    have HX:Hid (r=false):=jq (by rw[<-HR.out]; exact Np.aJ λh=>sP sf h.1.1.1.2);clear sf;go_wp2_with fail;go_ret;exact⟨ae HX.out.symm,ca.out⟩
   | true=>
    have Hf:=jq (Np.fz.1 sf);clear sf;go_wp2_with fail;refine (Wf a _ _ l _ HL.out _ (rq.out _ ca.out ca.out.size) (uU.out _ Lq.out)).mono ?_;rintro e w7 ⟨rfl,dY⟩;have mL:=dY.size;have dJ:=jq (ca.out.trans (dY.mono (by omega)));have Sn:=jq (Lq.out.trans (dY.mono (by omega)));replace g0:w7.cell? ⟨w4.heap.size,0,none⟩=some (.string a):=(dY.cell (by dsimp only; omega)).trans g0;replace g1:w7.cell? ⟨w4.heap.size,1,none⟩=some (.slice A l.length c):=(dY.cell (by dsimp only; omega)).trans g1;replace g2:w7.cell? ⟨w4.heap.size,2,none⟩=some (.slice A2 l.length c2):=(dY.cell (by dsimp only; omega)).trans g2;clear dY
    cases B3:Np.yes (Np.pX l (Np.dT ⟨a.data.toList,l⟩)) with
    | false=>
     have HX:Hid (r=false):=jq (by rw[<-HR.out]; exact Np.aJ λh=>sP B3 h.1.1.2);clear B3;go_wp2_with fail;go_ret;exact⟨ae HX.out.symm,dJ.out⟩
    | true=>
     have Um:=jq (Np.fz.1 B3);clear B3;go_wp2_with fail;refine (aFJ a _ _ l _ HL.out _ (rq.out _ dJ.out dJ.out.size) (uU.out _ Sn.out)).mono ?_;rintro e w8 ⟨rfl,jY⟩;have sC:=jY.size;have eF:=jq (dJ.out.trans (jY.mono (by omega)));replace g0:w8.cell? ⟨w4.heap.size,0,none⟩=some (.string a):=(jY.cell (by dsimp only; omega)).trans g0;replace g1:w8.cell? ⟨w4.heap.size,1,none⟩=some (.slice A l.length c):=(jY.cell (by dsimp only; omega)).trans g1;replace g2:w8.cell? ⟨w4.heap.size,2,none⟩=some (.slice A2 l.length c2):=(jY.cell (by dsimp only; omega)).trans g2;clear jY
     cases wS:Np.yes (Np.AL l (Np.dT ⟨a.data.toList,l⟩)) with
     | false=>
      have HX:Hid (r=false):=jq (by rw[<-HR.out]; exact Np.aJ λh=>sP wS h.1.2);clear wS;go_wp2_with fail;go_ret;exact⟨ae HX.out.symm,eF.out⟩
     | true=>
      have Dh:=jq (Np.fz.1 wS);clear wS;go_wp2_with fail;refine (W5 a _ A2 l.length c2 l _ (rq.out _ eF.out eF.out.size)).mono ?_;rintro e w9 ⟨rfl,dO⟩;have yR:=dO.size;have du:=jq (eF.out.trans (dO.mono (by omega)));replace g0:w9.cell? ⟨w4.heap.size,0,none⟩=some (.string a):=(dO.cell (by dsimp only; omega)).trans g0;replace g1:w9.cell? ⟨w4.heap.size,1,none⟩=some (.slice A l.length c):=(dO.cell (by dsimp only; omega)).trans g1;replace g2:w9.cell? ⟨w4.heap.size,2,none⟩=some (.slice A2 l.length c2):=(dO.cell (by dsimp only; omega)).trans g2;clear dO
      cases EM:Np.yes (∀ x∈l,Np.gr a.data.toList x.sigs) with
      | false=>
       have HX:Hid (r=false):=jq (by rw[<-HR.out]; exact Np.aJ λh=>sP EM h.2);clear EM;go_wp2_with fail;go_ret;exact⟨ae HX.out.symm,du.out⟩
      | true=>
       have Un:=jq (Np.fz.1 EM);clear EM;go_wp2_with fail;go_ret;exact⟨ae (by rw[<-HR.out]; exact (Np.bM ⟨⟨⟨⟨⟨gX.out,qZ.out⟩,Hf.out⟩,Um.out⟩,Dh.out⟩,Un.out⟩).symm),du.out⟩
end
end Go.Proofs.YtbfbobfbgabjiaaGreatDoor
