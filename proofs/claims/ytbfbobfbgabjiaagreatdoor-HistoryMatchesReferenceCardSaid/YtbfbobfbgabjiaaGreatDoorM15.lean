/- Parts of the proof. No condition. -/
import Derived.Test.YtbfbobfbgabjiaaGreatDoorM12
import Derived.Test.YtbfbobfbgabjiaaGreatDoorM14
set_option linter.all false
set_option maxRecDepth 100000
set_option maxHeartbeats 8000000
namespace Go.Proofs.YtbfbobfbgabjiaaGreatDoor
open Go.Proofs.Tryz
section
open Go.RowKit
theorem Mp{a b c:List UInt8}(h1:Np.aM a b<=0)(h2:Np.aM b c<=0):Np.aM a c<=0:=by
 by_cases e1:Np.aM a b=0
 ·rw[Np.fH.zero _ _ e1]; exact h2
 ·by_cases e2:Np.aM b c=0
  ·rw[<-Np.fH.zero _ _ e2]; exact h1
  ·exact Int.le_of_lt (Np.fH.trans a b c (by omega) (by omega))
theorem UZ{a b c:List UInt8}(h1:0<Np.aM a c)(h2:Np.aM a b<0):0<Np.aM b c:=by
 have h3:=Np.fH.anti' _ _ h1;have h4:=Np.fH.trans _ _ _ h3 h2;exact Np.fH.anti _ _ h4
theorem DM{bs:List (List UInt8)}{n i:Nat}(hi:i<n):bs++List.replicate (n - i) []=bs ++ [[]]++List.replicate (n - (i+1)) []:=by
 rw[show n - i=(n - (i+1))+1 by omega,List.replicate_succ,List.append_assoc]; rfl
theorem OY{bs:List (List UInt8)}{n i:Nat}{b:List UInt8}(hb:bs.length=i)(hi:i<n):(bs++List.replicate (n - i) []).set i b=bs ++ [b]++List.replicate (n - (i+1)) []:=by
 rw[show n - i=(n - (i+1))+1 by omega,List.replicate_succ,List.set_append_right _ _ (by omega),hb,Nat.sub_self,List.set_cons_zero,List.append_assoc]; rfl
def Ik(n0 Bs:Nat)(w1:World)(z:Np.Zone)(H:List (List UInt8))(vk vi:Value)(wr:World):Prop:=
 ∃ (i k:Nat) (bs:List (List UInt8)),i<=z.sets.length/\k<=H.length/\vi = .int .i64 i/\vk = .int .i64 k/\bs.length=i/\Hid (Below Bs w1 wr)/\Hid (fR wr Bs (bs++List.replicate (z.sets.length - i) []))/\Bs<wr.heap.size/\n0<=Bs/\
   Hid (∀ (j:Nat) (x:Np.Signed) (b:List UInt8),z.sets[j]?=some x->bs[j]?=some b->Np.jM (Np.cT z) x.set.name b)/\Hid (∀ (j:Nat) (y:List UInt8) (x:Np.Signed),j<k->H[j]?=some y->z.sets[i]?=some x->Np.aM y x.set.name<=0)
theorem L2(a:ByteArray)(v:Value)(l:List Np.Signed)(cu:l.length<=20000)(ho:Np.InOrder ⟨a.data.toList,l⟩)(hv:∀ x∈l,Np.aG x.set.name=true)(w:World)(hd:SlR bK 5 w w.heap.size v l) :
 Calls prog 185 #[.agg #[.string a,v]] w (yx RTx 1 w (Np.ef ⟨a.data.toList,l⟩)):=by
 have HD:=jq hd;obtain⟨A,c,rfl,bC,bH⟩:=ag hd;have HW:Hid (∀ o,Below w.heap.size w (w.alloc o)):=jq (λo=>(vQ _ w).alloc (bQ _) _);have HO:=jq ho;have HV:=jq hv;have CJ:Hid (∀ x∈Np.eq (Np.cU a.data.toList l),Np.aG x=true):=jq (λx hx=>by
  have hx:=Hm _ x hx;unfold Np.cU at hx;obtain⟨y,hy,rfl⟩:=List.mem_map.1 hx;exact hv y (List.mem_filter.1 hy).1)
 have PQ:Hid (∀ (n:List UInt8) (k:Nat),k<=(Np.eq (Np.cU a.data.toList l)).length->(∀ j x,j<k->(Np.eq (Np.cU a.data.toList l))[j]?=some x->Np.aM x n<=0)->(∀ j x,k<=j->(Np.eq (Np.cU a.data.toList l))[j]?=some x->0<Np.aM x n)->Np.jM (Np.cT ⟨a.data.toList,l⟩) n (Np.jG (Np.eq (Np.cU a.data.toList l)) k n)):=jq (λn k hk h1 h2=>Np.T6 ho hk h1 h2);have aqX:Hid ((Np.eq (Np.cU a.data.toList l)).Pairwise λa b=>Np.aM a b<0):=jq (Np.Pr ho).1.sorted;have hhl:(Np.eq (Np.cU a.data.toList l)).length<=20000:=by
  have h1:=ON (Np.cU a.data.toList l) (Np.cU a.data.toList l).length;rw[List.take_length] at h1;have h2:(Np.cU a.data.toList l).length<=l.length:=by
   unfold Np.cU;rw[List.length_map];exact List.length_filter_le _ _
  omega
 clear hd ho;go_enter func185,ntmps185;go_wp2_with fail;refine (TR a _ l cu hv _ (HD.out.later aV bR (HW.out _))).mono ?_;rintro e w1 ⟨vh,rfl,JW,aq⟩;have bI:w.heap.size<w1.heap.size:=by have:=aq.size; simp at this; omega
 have c1:w1.cell? ⟨w.heap.size,1,none⟩=some (.slice A l.length c):=by rw[aq.cell (by simp)]; go_simp
 have aF:=jq ((HW.out _).trans (aq.mono (by simp)));clear aq hv;generalize Np.eq (Np.cU a.data.toList l)=H at *;obtain⟨Ah,ch,rfl,hch,biJ⟩:=ag JW;have HH:=jq JW;clear JW;have gL:=G6 l.length cu;have HZ:Hid (∀ j,j<l.length->(madeCells #[Value.string ⟨#[]⟩] l.length)[j]?=some (.string ⟨#[]⟩)):=jq (λj hj=>Hj _ _ hj);generalize madeCells #[Value.string ⟨#[]⟩] l.length=Z at gL HZ;go_wp2_with fail;obtain⟨Bs,oT⟩:∃ Bs,w1.heap.size=Bs:=⟨_,rfl⟩;obtain⟨w2,ai⟩:∃ w2,w1.alloc (.cells Z 9)=w2:=⟨_,rfl⟩;have aa:Below Bs w1 w2:=by rw[<-ai,<-oT]; exact (vQ _ _).alloc (bQ _) _
 have aN:Bs<w2.heap.size:=by rw[<-ai]; simp; omega
 have mY:Hid (fR w2 Bs ([]++List.replicate (l.length - 0) [])):=jq (λj x hx=>by
  rw[List.nil_append,Nat.sub_zero,List.getElem?_replicate] at hx;split at hx
  ·rename_i hj
   cases hx
   refine⟨⟨#[]⟩,rfl,by decide,?_,?_⟩
   ·rw[<-ai,<-oT]; simp[go_sem]; exact HZ.out j hj
   ·rw[<-ai,<-oT]; simp[go_sem]
  ·cases hx)
 have ak:=jq aa;rw[ai,oT];clear ai aa gL HZ;go_loopw [5,6] (λvk vi wr=>Ik w.heap.size Bs w1 ⟨a.data.toList,l⟩ H vk vi wr) (λ_ i _=>l.length - (intOf i).toNat)
 case atStart=>exact⟨0,0,[],jQ _,jQ _,rfl,rfl,rfl,ak,mY,aN,by omega,jq (λj x b _ hb=>by simp at hb),jq (λj y x hj=>by omega)⟩
 case round=>
  obtain⟨i,k,bs,hi,hk,rfl,rfl,cD,HB,HR,nZ,S8,HT,HK⟩:=hrel;have hi:i<=l.length:=hi;have d1:wr.cell? ⟨w.heap.size,1,none⟩=some (.slice A l.length c):=(HB.out.cell (by dsimp only; omega)).trans c1;have aD:Hid (Below w.heap.size w wr):=jq (aF.out.trans (HB.out.mono (by omega)));have dF:w.heap.size<wr.heap.size:=by omega
  by_cases ab:i<l.length
  ·obtain⟨x,ac⟩:∃ x,l[i]?=some x:=⟨_,aQ ab⟩;obtain⟨b,o,c',sn,dv,sv,hA,bg,_,az,bL,bd,aL,f0,f1,f2,f3,f4⟩:=eT (HD.out.keep aV aD.out) ac
   cases hA
   have HX:=jq ac;have aS:=jq az;have a4X:sn.size<=60:=by have:=qs (HV.out x (gQ ac)); rw[<-az,bn] at this; exact this
   have nj:(0:Int)<=(i:Int):=by omega
   have sK:(i:Int)<(l.length:Int):=by omega
   have aq:b<wr.heap.size:=by omega
   have rD:Hid (∀ (j:Nat) (y:List UInt8),j<k->H[j]?=some y->Np.aM y sn.data.toList<=0):=jq (λj y hj hy=>by rw[az]; exact HK.out j y x hj hy ac);clear ac az bd aL f1 f2 f3 f4 HK;go_wp2_with fail;obtain⟨wo,rfl⟩:∃ wo,wo=wr:=⟨_,rfl⟩;go_loopw [5] (λvk wr=>∃ k:Nat,k<=H.length/\vk = .int .i64 k/\Hid (Below wo.heap.size wo wr)/\Hid (∀ (j:Nat) (y:List UInt8),j<k->H[j]?=some y->Np.aM y sn.data.toList<=0)) (λk _=>H.length - (intOf k).toNat)
   case atStart=>exact⟨k,hk,rfl,jq (vQ _ _),rD⟩
   case round=>
    obtain⟨k,hk,rfl,sF,Cs⟩:=hrel;have ut:=sF.out.size;have HBH:Hid (SlR RTx 1 wr w1.heap.size (.slice Ah H.length ch) H):=jq ((HH.out.keep jk (HB.out.mono (by omega))).keep jk (sF.out.mono (by omega)));by_cases mV:k<H.length
    ·obtain⟨y,dM⟩:∃ y,H[k]?=some y:=⟨_,aQ mV⟩;obtain⟨b2,o2,sy,rfl,zJ,iR,bqX,g0⟩:=rK HBH.out dM;have bhK:sy.size<=60:=by have:=qs (CJ.out y (gQ dM)); rw[<-iR,bn] at this; exact this
     have HY:=jq dM;have un:=jq iR;have bW:(0:Int)<=(k:Int):=by omega
     have bV:(k:Int)<(H.length:Int):=by omega
     clear dM iR;go_wp2_with fail;refine (Gm sy sn (by omega) (by omega) _).mono ?_;rintro e w6 ⟨rfl,aW⟩;have cY:=jq aW;have gP:=aW.size;clear aW;by_cases g8:Np.aM sy.data.toList sn.data.toList<=0
     ·have HN:Hid (∀ (j:Nat) (y:List UInt8),j<k+1->H[j]?=some y->Np.aM y sn.data.toList<=0):=jq (λj z hj hz=>by
       by_cases e:j=k
       ·subst e; rw[HY.out] at hz; cases hz; rw[<-un.out]; exact g8
       ·exact Cs.out j z (by omega) hz)
      go_wp2_with fail;go_roundw
      case rel=>exact⟨k+1,by omega,by go_num,jq (sF.out.trans (cY.out.mono sF.out.size)),jq HN.out⟩
      case measure=>simp[intOf] <;> omega
     ·have qR:Hid (∀ (j:Nat) (y:List UInt8),k<=j->H[j]?=some y->0<Np.aM y sn.data.toList):=jq (λj z hj hz=>by
       by_cases e:j=k
       ·subst e; rw[HY.out] at hz; cases hz; rw[<-un.out]; omega
       ·obtain⟨h1,e1⟩:=cQ.1 HY.out;obtain⟨h2,e2⟩:=cQ.1 hz
        have:=List.pairwise_iff_getElem.1 aqX.out k j h1 h2 (by omega)
        rw[e1,e2] at this;exact UZ (by rw[<-un.out]; omega) this)
      have lR:Hid (∀ W',Below Bs w1 W'->Bs<W'.heap.size->fR W' Bs (bs ++ [Np.jG H k sn.data.toList]++List.replicate (l.length - (i+1)) [])->Ik w.heap.size Bs w1 ⟨a.data.toList,l⟩ H (.int .i64 k) (.int .i64 (i+1)) W'):=jq (λW' h1 h2 h3=>by
       refine⟨i+1,k,bs ++ [Np.jG H k sn.data.toList],by show i+1<=l.length; omega,hk,by go_num,rfl,by simp[cD],jq h1,jq h3,h2,S8,jq λj x' b' hx' hb'=>?_,jq λj y x' hj hy hx'=>?_⟩
       ·have hx':l[j]?=some x':=hx';by_cases e:j<i
        ·rw[List.getElem?_append_left (by omega)] at hb';exact HT.out j x' b' hx' hb'
        ·have BV:j=i:=by have:=(cQ.1 hb').1; simp at this; omega
         subst BV;rw[HX.out] at hx'; cases hx';rw[oQ (by omega),cD,Nat.sub_self] at hb'
         cases hb'
         rw[<-aS.out];exact PQ.out _ k hk Cs.out qR.out
       ·obtain⟨q1,e1⟩:=cQ.1 HX.out;have hx':l[i+1]?=some x':=hx';obtain⟨q2,e2⟩:=cQ.1 hx';have h4:=HO.out.names (show i<i+1 by omega) q2;dsimp only at h4;rw[e1,e2,<-aS.out] at h4;exact Mp (Cs.out j y hj hy) h4)
      have rT:=jq (sF.out.trans (cY.out.mono sF.out.size));have CT:Hid (Below Bs w1 w6):=jq (HB.out.trans (rT.out.mono (by omega)));have vM:Bs<w6.heap.size:=by have:=rT.out.size; omega
      have mB:Hid (fR w6 Bs (bs++List.replicate (l.length - i) [])):=jq (HR.out.keep rT.out (by omega));by_cases jy:k=0
      ·have kV:decide ((0:Int)<(k:Int))=false:=by simp; omega
       have lH:decide (0<k)=false:=by simp; omega
       have nR:Hid (Np.jG H k sn.data.toList = []):=jq (by unfold Np.jG; rw[Qc (by omega)]);clear jy;go_wp2_with fail;go_roundw
       case rel=>exact lR.out _ CT.out vM (by rw[nR.out,<-DM ab]; exact mB.out)
       case measure=>simp[intOf] <;> omega
      ·obtain⟨m,nl⟩:∃ m,k=m+1:=⟨k - 1,by omega⟩;obtain⟨z,iz⟩:∃ z,H[m]?=some z:=⟨_,aQ (by omega)⟩;obtain⟨b3,o3,sz,FE,atX,lI,JS,g3⟩:=rK ((HH.out.keep jk (HB.out.mono (by omega))).keep jk (rT.out.mono (by omega))) iz;have aPJ:sz.size<=60:=by have:=qs (CJ.out z (gQ iz)); rw[<-lI,bn] at this; exact this
       have Bv:z≠[]:=λe=>by have:=CJ.out z (gQ iz); rw[e] at this; exact absurd this (by decide)
       have J1:Hid (Np.inL (Np.eW sn.data.toList) (Np.eW sz.data.toList)=Np.bG sn.data.toList z):=jq (by rw[lI]; exact Np.Ak Bv);have nR:Hid (Np.jG H k sn.data.toList=if Np.bG sn.data.toList z=true then z else []):=jq (by unfold Np.jG; rw[nl,show m+1 - 1=m by omega,iz]; simp);have wT:=jq lI;have kV:decide ((0:Int)<(k:Int))=true:=by simp; omega
       have lH:decide (0<k)=true:=by simp; omega
       have al:IntKind.i64.wrap ((k:Int) - 1)=(m:Int):=by rw[IntWalk.i64_in _ (by omega)]; omega
       have jx:(0:Int)<=(m:Int):=by omega
       have qJ:(m:Int)<(H.length:Int):=by omega
       clear iz lI nl jy Bv;simp only[Option.some.injEq,Addr.mk.injEq,and_true] at FE; obtain⟨rfl,rfl⟩:=FE;go_wp2_with fail;refine (DF sn sz (by omega) (by omega) _).mono ?_;rw[J1.out];rintro e w7 ⟨rfl,eD⟩;have dN:=jq eD;have lM:=eD.size;clear eD;have C1:Hid (Below Bs w1 w7):=jq (CT.out.trans (dN.out.mono (by omega)));have Cv:Bs<w7.heap.size:=by omega
       have xx:Hid (fR w7 Bs (bs++List.replicate (l.length - i) [])):=jq (mB.out.keep dN.out (by omega));have g37:w7.cell? ⟨b2,o2+m,none⟩=some (.string sz):=(dN.out.cell (by dsimp only; omega)).trans g3;obtain⟨s0,_,_,gD,oU⟩:=xx.out i [] (by rw[oQ (by omega),cD,Nat.sub_self,List.getElem?_replicate,Qb (by omega)])
       cases hu:Np.bG sn.data.toList z with
       | true=>
        have ie:Hid (Np.jG H k sn.data.toList=sz.data.toList):=jq (by rw[nR.out,hu,Qb rfl,wT.out]);clear hu;go_wp2_with fail;go_roundw
        case rel=>exact lR.out _ (C1.out.setCell (by simp) _) (by simpa using Cv) (by rw[ie.out,<-OY cD ab]; exact xx.out.store (by rw[List.length_append,List.length_replicate]; omega) sz JS)
        case measure=>simp[intOf] <;> omega
       | false=>
        have ie:Hid (Np.jG H k sn.data.toList = []):=jq (by rw[nR.out,hu]; rfl);clear hu;go_wp2_with fail;go_roundw
        case rel=>exact lR.out _ C1.out Cv (by rw[ie.out,<-DM ab]; exact xx.out)
        case measure=>simp[intOf] <;> omega
    ·have qR:Hid (∀ (j:Nat) (y:List UInt8),k<=j->H[j]?=some y->0<Np.aM y sn.data.toList):=jq (λj z hj hz=>by have:=(cQ.1 hz).1; omega);have ou:decide ((k:Int)<(H.length:Int))=false:=by simp; omega
     have lR:Hid (∀ W',Below Bs w1 W'->Bs<W'.heap.size->fR W' Bs (bs ++ [Np.jG H k sn.data.toList]++List.replicate (l.length - (i+1)) [])->Ik w.heap.size Bs w1 ⟨a.data.toList,l⟩ H (.int .i64 k) (.int .i64 (i+1)) W'):=jq (λW' h1 h2 h3=>by
      refine⟨i+1,k,bs ++ [Np.jG H k sn.data.toList],by show i+1<=l.length; omega,hk,by go_num,rfl,by simp[cD],jq h1,jq h3,h2,S8,jq λj x' b' hx' hb'=>?_,jq λj y x' hj hy hx'=>?_⟩
      ·have hx':l[j]?=some x':=hx';by_cases e:j<i
       ·rw[List.getElem?_append_left (by omega)] at hb';exact HT.out j x' b' hx' hb'
       ·have BV:j=i:=by have:=(cQ.1 hb').1; simp at this; omega
        subst BV;rw[HX.out] at hx'; cases hx';rw[oQ (by omega),cD,Nat.sub_self] at hb'
        cases hb'
        rw[<-aS.out];exact PQ.out _ k hk Cs.out qR.out
      ·obtain⟨q1,e1⟩:=cQ.1 HX.out;have hx':l[i+1]?=some x':=hx';obtain⟨q2,e2⟩:=cQ.1 hx';have h4:=HO.out.names (show i<i+1 by omega) q2;dsimp only at h4;rw[e1,e2,<-aS.out] at h4;exact Mp (Cs.out j y hj hy) h4)
     have rT:=jq (sF.out);have CT:Hid (Below Bs w1 wr):=jq (HB.out.trans (rT.out.mono (by omega)));have vM:Bs<wr.heap.size:=by have:=rT.out.size; omega
     have mB:Hid (fR wr Bs (bs++List.replicate (l.length - i) [])):=jq (HR.out.keep rT.out (by omega));by_cases jy:k=0
     ·have kV:decide ((0:Int)<(k:Int))=false:=by simp; omega
      have lH:decide (0<k)=false:=by simp; omega
      have nR:Hid (Np.jG H k sn.data.toList = []):=jq (by unfold Np.jG; rw[Qc (by omega)]);clear jy;go_wp2_with fail;go_roundw
      case rel=>exact lR.out _ CT.out vM (by rw[nR.out,<-DM ab]; exact mB.out)
      case measure=>simp[intOf] <;> omega
     ·obtain⟨m,nl⟩:∃ m,k=m+1:=⟨k - 1,by omega⟩;obtain⟨z,iz⟩:∃ z,H[m]?=some z:=⟨_,aQ (by omega)⟩;obtain⟨b3,o3,sz,FE,atX,lI,JS,g3⟩:=rK ((HH.out.keep jk (HB.out.mono (by omega))).keep jk (rT.out.mono (by omega))) iz;have aPJ:sz.size<=60:=by have:=qs (CJ.out z (gQ iz)); rw[<-lI,bn] at this; exact this
      have Bv:z≠[]:=λe=>by have:=CJ.out z (gQ iz); rw[e] at this; exact absurd this (by decide)
      have J1:Hid (Np.inL (Np.eW sn.data.toList) (Np.eW sz.data.toList)=Np.bG sn.data.toList z):=jq (by rw[lI]; exact Np.Ak Bv);have nR:Hid (Np.jG H k sn.data.toList=if Np.bG sn.data.toList z=true then z else []):=jq (by unfold Np.jG; rw[nl,show m+1 - 1=m by omega,iz]; simp);have wT:=jq lI;have kV:decide ((0:Int)<(k:Int))=true:=by simp; omega
      have lH:decide (0<k)=true:=by simp; omega
      have al:IntKind.i64.wrap ((k:Int) - 1)=(m:Int):=by rw[IntWalk.i64_in _ (by omega)]; omega
      have jx:(0:Int)<=(m:Int):=by omega
      have qJ:(m:Int)<(H.length:Int):=by omega
      clear iz lI nl jy Bv;subst FE;go_wp2_with fail;refine (DF sn sz (by omega) (by omega) _).mono ?_;rw[J1.out];rintro e w7 ⟨rfl,eD⟩;have dN:=jq eD;have lM:=eD.size;clear eD;have C1:Hid (Below Bs w1 w7):=jq (CT.out.trans (dN.out.mono (by omega)));have Cv:Bs<w7.heap.size:=by omega
      have xx:Hid (fR w7 Bs (bs++List.replicate (l.length - i) [])):=jq (mB.out.keep dN.out (by omega));have g37:w7.cell? ⟨b3,o3+m,none⟩=some (.string sz):=(dN.out.cell (by dsimp only; omega)).trans g3;obtain⟨s0,_,_,gD,oU⟩:=xx.out i [] (by rw[oQ (by omega),cD,Nat.sub_self,List.getElem?_replicate,Qb (by omega)])
      cases hu:Np.bG sn.data.toList z with
      | true=>
       have ie:Hid (Np.jG H k sn.data.toList=sz.data.toList):=jq (by rw[nR.out,hu,Qb rfl,wT.out]);clear hu;go_wp2_with fail;go_roundw
       case rel=>exact lR.out _ (C1.out.setCell (by simp) _) (by simpa using Cv) (by rw[ie.out,<-OY cD ab]; exact xx.out.store (by rw[List.length_append,List.length_replicate]; omega) sz JS)
       case measure=>simp[intOf] <;> omega
      | false=>
       have ie:Hid (Np.jG H k sn.data.toList = []):=jq (by rw[nR.out,hu]; rfl);clear hu;go_wp2_with fail;go_roundw
       case rel=>exact lR.out _ C1.out Cv (by rw[ie.out,<-DM ab]; exact xx.out)
       case measure=>simp[intOf] <;> omega
  ·have Lm:i=l.length:=by omega
   have HE:Hid (SlR RTx 1 wr wr.heap.size (.slice (some ⟨Bs,0,none⟩) l.length l.length) (Np.ef ⟨a.data.toList,l⟩)):=jq (by
    have h1:=HR.out;have e:l.length - i=0:=by omega
    dsimp only at h1;rw[e,List.replicate_zero,List.append_nil] at h1;have h2:=h1.slr nZ (by omega);have h3:=Np.Uk HO.out (B:=bs) (by rw[cD]; exact Lm) HT.out;rw[<-h3];rw[cD,Lm] at h2;exact h2)
   clear Lm;go_wp2_with fail;go_ret;exact⟨_,rfl,HE.out,aD.out⟩
theorem Vn(a:ByteArray)(v:Value)(l:List Np.Signed)(cu:l.length<=20000)(ho:Np.InOrder ⟨a.data.toList,l⟩)(hv:∀ x∈l,Np.aG x.set.name=true)(w:World)(hd:SlR bK 5 w w.heap.size v l) :
 Calls prog 115 #[.agg #[.string a,v]] w λe w'=>e = .returned (.bool (Np.yes (Np.qD l (Np.ef ⟨a.data.toList,l⟩))))/\Below w.heap.size w w':=by
 obtain⟨B,hB⟩:∃ B,Np.ef ⟨a.data.toList,l⟩=B:=⟨_,rfl⟩;have kE:B.length=l.length:=by rw[<-hB]; exact Np.tv _
 obtain⟨r,hr⟩:∃ r,Np.yes (Np.qD l (Np.ef ⟨a.data.toList,l⟩))=r:=⟨_,rfl⟩;rw[hr];rw[hB] at hr;have HR:=jq hr;have eL:=jq kE;have dE:=jq hB;have HD:=jq hd;have HO:=jq ho;have HV:=jq hv;obtain⟨A,c,rfl,bC,bH⟩:=ag hd;clear hr hd ho hv hB kE;have HW:Hid (∀ o,Below w.heap.size w (w.alloc o)):=jq (λo=>(vQ _ w).alloc (bQ _) _);go_enter func115,ntmps115;go_wp2_with fail;refine (L2 a _ l cu HO.out HV.out _ (HD.out.later aV bR (HW.out _))).mono ?_;rintro e w1 ⟨bv,rfl,iT,aq⟩;have fh:w.heap.size<w1.heap.size:=by have:=aq.size; simp at this; omega
 have c1':w1.cell? ⟨w.heap.size,1,none⟩=some (.slice A l.length c):=by rw[aq.cell (by simp)]; go_simp
 have aF:=jq ((HW.out _).trans (aq.mono (by simp)));obtain⟨A2,c2,rfl,eB,dz⟩:=ag iT;rw[dE.out] at eB dz iT |-;rw[eL.out] at eB dz iT |-;have kD:=jq iT;clear aq iT;go_wp2_with fail;go_loopw [4] (λi wr=>∃ k:Nat,k<=l.length/\i = .int .i64 k/\Hid (Below w1.heap.size w1 wr)/\Hid (∀ j x b,j<k->l[j]?=some x->B[j]?=some b->Np.lC x.set b)) (λi _=>l.length - (intOf i).toNat)
 case atStart=>exact⟨0,jQ _,rfl,jq (vQ _ _),jq (λj x b hj=>by omega)⟩
 case round=>
  obtain⟨k,hk,rfl,HB,HA⟩:=hrel;have an:=HB.out.size;have aD:=jq (aF.out.trans (HB.out.mono (by omega)));have d1:wr.cell? ⟨w.heap.size,1,none⟩=some (.slice A l.length c):=(HB.out.cell (by dsimp only; omega)).trans c1';by_cases ab:k<l.length
  ·obtain⟨x,ac⟩:∃ x,l[k]?=some x:=⟨_,aQ ab⟩;obtain⟨bb,fy⟩:∃ bb,B[k]?=some bb:=⟨_,aQ (by rw[eL.out]; omega)⟩;obtain⟨b,o,c',sn,dv,sv,hA,bg,_,az,bL,bd,aL,e0,e1,e2,e3,e4⟩:=eT (HD.out.keep aV aD.out) ac
   cases hA
   obtain⟨b2,o2,sb,rfl,zJ,mZ,Jf,g0⟩:=rK (kD.out.keep jk HB.out) fy;have HN:Hid (Np.lC x.set bb->∀ j x b,j<k+1->l[j]?=some x->B[j]?=some b->Np.lC x.set b):=jq (λh j x b hj hx hb=>by
    by_cases e:j=k
    ·subst e; rw[ac] at hx; rw[fy] at hb; cases hx; cases hb; exact h
    ·exact HA.out j x b (by omega) hx hb)
   have HF:Hid (¬ Np.lC x.set bb->r=false):=jq (λh=>by
    rw[<-HR.out]; exact Np.aP λq=>h (q k _ _ ac fy))
   clear ac fy;obtain⟨Ad,cd,rfl,_,_⟩:=ag bd;obtain⟨As,cs,rfl,_,_⟩:=ag aL;have hcell:wr.cell? ⟨w.heap.size,1,none⟩=some (.slice (some ⟨b,o,none⟩) l.length c):=(HB.out.cell (by dsimp only; omega)).trans c1';have dF:w.heap.size<wr.heap.size:=by omega
   have aq:b<wr.heap.size:=by omega
   have aa:b2<wr.heap.size:=by omega
   have br:Hid (∀ o,Below w1.heap.size w1 (wr.alloc o)):=jq (λo=>HB.out.alloc HB.out.size _);have qg:Hid (∀ o,Below w.heap.size w (wr.alloc o)):=jq (λo=>aD.out.alloc (by omega) _);have bW:(0:Int)<=(k:Int):=by omega
   have bV:(k:Int)<(l.length:Int):=by omega
   have aS:=jq az;have eu:=jq mZ;obtain⟨ty,dD⟩:∃ ty,x.set.type=ty:=⟨_,rfl⟩;have go:=jq dD;rw[dD] at e1;clear az mZ bd aL dD e4;by_cases di:bb = []
   ·obtain rfl:sb=⟨#[]⟩:=iV (by rw[eu.out,di]);have bZ:=jq (MW (x:=x.set) di);clear di;by_cases h6:ty=6
    ·have HX:Hid (r=false):=jq (HF.out λh=>(bZ.out.1 h) (go.out.trans h6));subst h6;go_wp2_with fail;go_quiet (fail);obtain⟨w2,ai⟩:∃ w2,(wr.alloc (.cells #[.string sn,.int .i64 6,.int .i64 x.set.life,.slice Ad x.set.data.length cd] 26)).drewN nq=w2:=⟨_,rfl⟩;rw[ai];have cZ:Below wr.heap.size wr w2:=by rw[<-ai]; exact below_drewN ((vQ _ _).alloc (bQ _) _) _
     have p1:w2.cell? ⟨wr.heap.size,1,none⟩=some (.int .i64 6):=by rw[<-ai]; simp[go_sem]
     have g02:w2.cell? ⟨b2,o2+k,none⟩=some (.string ⟨#[]⟩):=(cZ.cell (by dsimp only; omega)).trans g0;have f9:=jq (HB.out.trans (cZ.mono HB.out.size));have pV:=jq (aD.out.trans (cZ.mono (by omega)));clear cZ ai g0;go_wp2_with fail;go_ret;exact⟨aj HX.out.symm,pV.out⟩
    ·have HX:=jq (HN.out (bZ.out.2 λh=>h6 (go.out.symm.trans h)));have h6':(ty == 6)=false:=by simpa using h6
     clear h6;go_wp2_with fail;go_quiet (fail);obtain⟨w2,ai⟩:∃ w2,(wr.alloc (.cells #[.string sn,.int .i64 ty,.int .i64 x.set.life,.slice Ad x.set.data.length cd] 26)).drewN nq=w2:=⟨_,rfl⟩;rw[ai];have cZ:Below wr.heap.size wr w2:=by rw[<-ai]; exact below_drewN ((vQ _ _).alloc (bQ _) _) _
     have p1:w2.cell? ⟨wr.heap.size,1,none⟩=some (.int .i64 ty):=by rw[<-ai]; simp[go_sem]
     have g02:w2.cell? ⟨b2,o2+k,none⟩=some (.string ⟨#[]⟩):=(cZ.cell (by dsimp only; omega)).trans g0;have f9:=jq (HB.out.trans (cZ.mono HB.out.size));have pV:=jq (aD.out.trans (cZ.mono (by omega)));clear cZ ai g0;go_wp2_with fail;go_roundw
     case rel=>exact⟨k+1,by omega,by go_num,jq f9.out,jq HX.out⟩
     case measure=>simp[intOf] <;> omega
   ·have Cb:(sb.toList == [])=false:=by rw[dQ,eu.out]; simpa using di
    by_cases jV:bb=x.set.name
    ·have KC:(sn.toList == sb.toList)=true:=by rw[dQ,dQ,eu.out,aS.out]; simpa using jV.symm
     have bZ:=jq (Nz (x:=x.set) di jV);clear di jV;by_cases ht:ty=2\/ty=6\/ty=8\/ty=1
     ·have HX:=jq (HN.out (bZ.out.2 (by rw[go.out]; exact ht)));rcases ht with rfl | rfl | rfl | rfl
      ·skip
       go_wp2_with fail;go_quiet (fail);obtain⟨w2,ai⟩:∃ w2,(wr.alloc (.cells #[.string sn,.int .i64 2,.int .i64 x.set.life,.slice Ad x.set.data.length cd] 26)).drewN nq=w2:=⟨_,rfl⟩;rw[ai];have cZ:Below wr.heap.size wr w2:=by rw[<-ai]; exact below_drewN ((vQ _ _).alloc (bQ _) _) _
       have p1:w2.cell? ⟨wr.heap.size,1,none⟩=some (.int .i64 2):=by rw[<-ai]; simp[go_sem]
       have g02:w2.cell? ⟨b2,o2+k,none⟩=some (.string sb):=(cZ.cell (by dsimp only; omega)).trans g0;have f9:=jq (HB.out.trans (cZ.mono HB.out.size));have pV:=jq (aD.out.trans (cZ.mono (by omega)));clear cZ ai g0;go_wp2_with fail;go_roundw
       case rel=>exact⟨k+1,by omega,by go_num,jq f9.out,jq HX.out⟩
       case measure=>simp[intOf] <;> omega
      ·skip
       go_wp2_with fail;go_quiet (fail);obtain⟨w2,ai⟩:∃ w2,(wr.alloc (.cells #[.string sn,.int .i64 6,.int .i64 x.set.life,.slice Ad x.set.data.length cd] 26)).drewN nq=w2:=⟨_,rfl⟩;rw[ai];have cZ:Below wr.heap.size wr w2:=by rw[<-ai]; exact below_drewN ((vQ _ _).alloc (bQ _) _) _
       have p1:w2.cell? ⟨wr.heap.size,1,none⟩=some (.int .i64 6):=by rw[<-ai]; simp[go_sem]
       have g02:w2.cell? ⟨b2,o2+k,none⟩=some (.string sb):=(cZ.cell (by dsimp only; omega)).trans g0;have f9:=jq (HB.out.trans (cZ.mono HB.out.size));have pV:=jq (aD.out.trans (cZ.mono (by omega)));clear cZ ai g0;go_wp2_with fail;go_roundw
       case rel=>exact⟨k+1,by omega,by go_num,jq f9.out,jq HX.out⟩
       case measure=>simp[intOf] <;> omega
      ·skip
       go_wp2_with fail;go_quiet (fail);obtain⟨w2,ai⟩:∃ w2,(wr.alloc (.cells #[.string sn,.int .i64 8,.int .i64 x.set.life,.slice Ad x.set.data.length cd] 26)).drewN nq=w2:=⟨_,rfl⟩;rw[ai];have cZ:Below wr.heap.size wr w2:=by rw[<-ai]; exact below_drewN ((vQ _ _).alloc (bQ _) _) _
       have p1:w2.cell? ⟨wr.heap.size,1,none⟩=some (.int .i64 8):=by rw[<-ai]; simp[go_sem]
       have g02:w2.cell? ⟨b2,o2+k,none⟩=some (.string sb):=(cZ.cell (by dsimp only; omega)).trans g0;have f9:=jq (HB.out.trans (cZ.mono HB.out.size));have pV:=jq (aD.out.trans (cZ.mono (by omega)));clear cZ ai g0;go_wp2_with fail;go_roundw
       case rel=>exact⟨k+1,by omega,by go_num,jq f9.out,jq HX.out⟩
       case measure=>simp[intOf] <;> omega
      ·skip
       go_wp2_with fail;go_quiet (fail);obtain⟨w2,ai⟩:∃ w2,(wr.alloc (.cells #[.string sn,.int .i64 1,.int .i64 x.set.life,.slice Ad x.set.data.length cd] 26)).drewN nq=w2:=⟨_,rfl⟩;rw[ai];have cZ:Below wr.heap.size wr w2:=by rw[<-ai]; exact below_drewN ((vQ _ _).alloc (bQ _) _) _
       have p1:w2.cell? ⟨wr.heap.size,1,none⟩=some (.int .i64 1):=by rw[<-ai]; simp[go_sem]
       have g02:w2.cell? ⟨b2,o2+k,none⟩=some (.string sb):=(cZ.cell (by dsimp only; omega)).trans g0;have f9:=jq (HB.out.trans (cZ.mono HB.out.size));have pV:=jq (aD.out.trans (cZ.mono (by omega)));clear cZ ai g0;go_wp2_with fail;go_roundw
       case rel=>exact⟨k+1,by omega,by go_num,jq f9.out,jq HX.out⟩
       case measure=>simp[intOf] <;> omega
     ·have HX:Hid (r=false):=jq (HF.out λh=>ht (by have:=bZ.out.1 h; rwa [go.out] at this));have t1:(ty != 2)=true:=by simp; omega
      have t2:(ty != 6)=true:=by simp; omega
      have t3:(ty != 8)=true:=by simp; omega
      have t4:(ty != 1)=true:=by simp; omega
      clear ht;go_wp2_with fail;go_quiet (fail);obtain⟨w2,ai⟩:∃ w2,(wr.alloc (.cells #[.string sn,.int .i64 ty,.int .i64 x.set.life,.slice Ad x.set.data.length cd] 26)).drewN nq=w2:=⟨_,rfl⟩;rw[ai];have cZ:Below wr.heap.size wr w2:=by rw[<-ai]; exact below_drewN ((vQ _ _).alloc (bQ _) _) _
      have p1:w2.cell? ⟨wr.heap.size,1,none⟩=some (.int .i64 ty):=by rw[<-ai]; simp[go_sem]
      have g02:w2.cell? ⟨b2,o2+k,none⟩=some (.string sb):=(cZ.cell (by dsimp only; omega)).trans g0;have f9:=jq (HB.out.trans (cZ.mono HB.out.size));have pV:=jq (aD.out.trans (cZ.mono (by omega)));clear cZ ai g0;go_wp2_with fail;go_ret;exact⟨aj HX.out.symm,pV.out⟩
    ·have KC:(sn.toList == sb.toList)=false:=by rw[dQ,dQ,eu.out,aS.out]; simpa using λe:x.set.name=bb=>jV e.symm
     have bZ:=jq (MV (x:=x.set) di jV);clear di jV;by_cases ht:ty=1
     ·have HX:=jq (HN.out (bZ.out.2 (by rw[go.out]; exact ht)));subst ht;go_wp2_with fail;go_quiet (fail);obtain⟨w2,ai⟩:∃ w2,(wr.alloc (.cells #[.string sn,.int .i64 1,.int .i64 x.set.life,.slice Ad x.set.data.length cd] 26)).drewN nq=w2:=⟨_,rfl⟩;rw[ai];have cZ:Below wr.heap.size wr w2:=by rw[<-ai]; exact below_drewN ((vQ _ _).alloc (bQ _) _) _
      have p1:w2.cell? ⟨wr.heap.size,1,none⟩=some (.int .i64 1):=by rw[<-ai]; simp[go_sem]
      have g02:w2.cell? ⟨b2,o2+k,none⟩=some (.string sb):=(cZ.cell (by dsimp only; omega)).trans g0;have f9:=jq (HB.out.trans (cZ.mono HB.out.size));have pV:=jq (aD.out.trans (cZ.mono (by omega)));clear cZ ai g0;go_wp2_with fail;go_roundw
      case rel=>exact⟨k+1,by omega,by go_num,jq f9.out,jq HX.out⟩
      case measure=>simp[intOf] <;> omega
     ·have HX:Hid (r=false):=jq (HF.out λh=>ht (by have:=bZ.out.1 h; rwa [go.out] at this));have t4:(ty != 1)=true:=by simpa using ht
      clear ht;go_wp2_with fail;go_quiet (fail);obtain⟨w2,ai⟩:∃ w2,(wr.alloc (.cells #[.string sn,.int .i64 ty,.int .i64 x.set.life,.slice Ad x.set.data.length cd] 26)).drewN nq=w2:=⟨_,rfl⟩;rw[ai];have cZ:Below wr.heap.size wr w2:=by rw[<-ai]; exact below_drewN ((vQ _ _).alloc (bQ _) _) _
      have p1:w2.cell? ⟨wr.heap.size,1,none⟩=some (.int .i64 ty):=by rw[<-ai]; simp[go_sem]
      have g02:w2.cell? ⟨b2,o2+k,none⟩=some (.string sb):=(cZ.cell (by dsimp only; omega)).trans g0;have f9:=jq (HB.out.trans (cZ.mono HB.out.size));have pV:=jq (aD.out.trans (cZ.mono (by omega)));clear cZ ai g0;go_wp2_with fail;go_ret;exact⟨aj HX.out.symm,pV.out⟩
  ·go_wp2_with fail;go_ret;refine⟨aj ?_,aD.out⟩;rw[<-HR.out];exact (Np.bO λi x b hx hb=>HA.out i x b (by have:=(cQ.1 hx).1; omega) hx hb).symm
theorem Vk(a:ByteArray)(v:Value)(l:List Np.Sig)(w:World)(h:SlR fT 6 w w.heap.size v l) :
 Calls prog 187 #[v,.string a] w λe w'=>e = .returned (.bool (Np.yes (Np.gV a.data.toList l)))/\Below w.heap.size w w':=by
 obtain⟨r,hr⟩:∃ r,Np.yes (Np.gV a.data.toList l)=r:=⟨_,rfl⟩;rw[hr];have HR:=jq hr;have H:=jq h;obtain⟨A,c,rfl,bC,bH⟩:=ag h;clear h hr;by_cases h6:l.length<=6
 ·have H6:=jq h6;go_enter func187,ntmps187;go_wp2_with fail;go_loopw [5] (λi wr=>∃ k:Nat,k<=l.length/\i = .int .i64 k/\Hid (Below w.heap.size w wr)/\Hid (∀ j g,j<k->l[j]?=some g->Np.SigOk a.data.toList l j g)) (λi _=>l.length - (intOf i).toNat)
  case atStart=>exact⟨0,jQ _,rfl,jq (vQ _ _),jq (λj g hj=>by omega)⟩
  case round=>
   obtain⟨k,hk,rfl,HB,HA⟩:=hrel;by_cases ab:k<l.length
   ·have eM:=H.out.keep gg HB.out;have ac:=aQ ab;obtain⟨b,o,c',s,hA,bg,hs,an,e0,e1,e2,e3,e4,e5⟩:=rL eM ac
    cases hA
    have wF:=aQ (show 0<l.length by omega);obtain⟨b',o',c'',s',hA,_,_,_,_,z1,z2,z3,z4,_⟩:=rL eM wF;simp only[Value.slice.injEq,Option.some.injEq,Addr.mk.injEq,and_true,true_and] at hA;obtain⟨⟨rfl,rfl⟩,-⟩:=hA;simp only[Nat.zero_mul,Nat.add_zero] at z3 z4;have HN:Hid (∀ h:Np.SigOk a.data.toList l k l[k],∀ j g,j<k+1->l[j]?=some g->Np.SigOk a.data.toList l j g):=jq (λh=>Ow ac HA.out h);have HF:Hid (¬ Np.SigOk a.data.toList l k l[k]->r=false):=jq (λh=>HR.out ▸ Od ac h);have HZ:=jq wF;have qh:=jq ac;have HS:=jq hs;have kZ:=HB.out.size;have zk:b<wr.heap.size:=by omega
    have br:Hid (∀ o n,Below w.heap.size w ((wr.alloc o).drewN n)):=jq (λo n=>below_drewN (HB.out.alloc HB.out.size _) _);have qg:Hid (∀ o,Below w.heap.size w (wr.alloc o)):=jq (λo=>(HB.out.alloc HB.out.size _));have bW:(0:Int)<=(k:Int):=by omega
    have bV:(k:Int)<(l.length:Int):=by omega
    have bI:(0:Int)<(l.length:Int):=by omega
    have LF:Hid (∀ m,k=m+1->∃ y,l[m]?=some y/\wr.cell? ⟨b,o+m * 6+1,none⟩=some (.int .i64 y.key)):=jq (λm hm=>by
     obtain⟨b2,o2,c2,s2,hA,_,_,_,_,y1,_⟩:=rL eM (aQ (show m<l.length by omega));simp only[Value.slice.injEq,Option.some.injEq,Addr.mk.injEq,and_true,true_and] at hA;obtain⟨⟨rfl,rfl⟩,-⟩:=hA;exact⟨_,aQ (by omega),y1⟩)
    generalize l[k]=x at *;generalize l[0]=x0 at *;clear eM hs ac wF z1 z2;by_cases jy:k=0
    ·have kV:decide ((0:Int)<(k:Int))=false:=by simp; omega
     have lH:decide (0<k)=false:=by simp; omega
     have td:(!s.toList == a.toList)=true\/(!s.toList == a.toList)=false/\(decide (x.key<1)=true\/decide (x.key<1)=false/\(decide (1000000<x.key)=true\/decide (1000000<x.key)=false/\(decide (x.alg<1)=true\/decide (x.alg<1)=false/\(decide (3<x.alg)=true\/decide (3<x.alg)=false/\((x.frm != x0.frm)=true\/(x.frm != x0.frm)=false/\((x.til != x0.til)=true\/(x.til != x0.til)=false/\(decide (x.frm<0)=true\/decide (x.frm<0)=false/\(decide (x.til<x.frm)=true\/decide (x.til<x.frm)=false/\(decide (20000000<x.til)=true\/decide (20000000<x.til)=false))))))))):=by
      simp only[bne_iff_ne,bne_eq_false_iff_eq,Qa,decide_eq_false_iff_not];by_cases q:s.toList=a.toList
      ·simp[q]; omega
      ·exact .inl (by simpa using q)
     have HX0:Hid (x0=x):=jq (by
      have h1:=HZ.out;rw[<-jy,qh.out] at h1;exact (Option.some.inj h1).symm)
     clear jy;rcases td with d1 | ⟨d1,d2 | ⟨d2,d3 | ⟨d3,d4 | ⟨d4,d5 | ⟨d5,d6 | ⟨d6,d7 | ⟨d7,d8 | ⟨d8,d9 | ⟨d9,d10 | d10⟩⟩⟩⟩⟩⟩⟩⟩⟩
     rotate_right
     ·have bZ:Hid (Np.SigOk a.data.toList l k x):=jq (by
       have e1:s.toList=a.toList:=by simpa using d1
       rw[dQ,dQ] at e1;simp only[bne_eq_false_iff_eq,decide_eq_false_iff_not] at d2 d3 d4 d5 d6 d7 d8 d9 d10;refine⟨by rw[<-HS.out,e1],by omega,by omega,by omega,λq hq=>?_,λp _ h0=>absurd h0 (by simpa using lH)⟩;rw[HZ.out] at hq; cases hq;exact⟨d6,d7⟩)
      go_wp2_with fail;go_quiet (fail);obtain⟨w2,ai⟩:∃ w2,(wr.alloc (.cells #[.string s,.int .i64 x.key,.int .i64 x.alg,.int .i64 x.frm,.int .i64 x.til,.int .u64 x.sum] 133)).drewN nq=w2:=⟨_,rfl⟩;have p3:w2.cell? ⟨wr.heap.size,3,none⟩=some (.int .i64 x.frm):=by rw[<-ai]; simp[go_sem]
      have p4:w2.cell? ⟨wr.heap.size,4,none⟩=some (.int .i64 x.til):=by rw[<-ai]; simp[go_sem]
      have f9:Hid (Below w.heap.size w w2):=jq (by rw[<-ai]; exact br.out _ _);rw[ai];clear ai;go_wp2_with fail;go_roundw
      case rel=>exact⟨k+1,by omega,by go_num,jq f9.out,jq (HN.out bZ.out)⟩
      case measure=>simp[intOf] <;> omega
     all_goals
      go_wp2_with fail;go_quiet (fail);obtain⟨w2,ai⟩:∃ w2,(wr.alloc (.cells #[.string s,.int .i64 x.key,.int .i64 x.alg,.int .i64 x.frm,.int .i64 x.til,.int .u64 x.sum] 133)).drewN nq=w2:=⟨_,rfl⟩;have p3:w2.cell? ⟨wr.heap.size,3,none⟩=some (.int .i64 x.frm):=by rw[<-ai]; simp[go_sem]
      have p4:w2.cell? ⟨wr.heap.size,4,none⟩=some (.int .i64 x.til):=by rw[<-ai]; simp[go_sem]
      have f9:Hid (Below w.heap.size w w2):=jq (by rw[<-ai]; exact br.out _ _);rw[ai];clear ai;go_wp2_with fail;go_ret;refine⟨aj (HF.out ?_).symm,f9.out⟩;intro nV;obtain⟨k1,k2,k3,k4,k5,k6⟩:=nV;replace k5:=k5 _ HZ.out
      first
       | (rw[dQ,dQ,HS.out,k1] at d1; simp at d1; done)
       | (simp only[bne_iff_ne,bne_eq_false_iff_eq,Qa,decide_eq_false_iff_not] at *; omega)
    ·obtain⟨m,nl⟩:∃ m,k=m+1:=⟨k - 1,by omega⟩;obtain⟨y,hy,y1⟩:=LF.out m nl;have HY:=jq hy;have Jo:=jq nl;have kV:decide ((0:Int)<(k:Int))=true:=by simp; omega
     have lH:decide (0<k)=true:=by simp; omega
     have al:IntKind.i64.wrap ((k:Int) - 1)=(m:Int):=by rw[IntWalk.i64_in _ (by omega)]; omega
     have Fe:(k:Int) - 1=(m:Int):=by omega
     have nj:(0:Int)<=(m:Int):=by omega
     have sK:(m:Int)<(l.length:Int):=by omega
     clear hy jy nl;have td:(!s.toList == a.toList)=true\/(!s.toList == a.toList)=false/\(decide (x.key<1)=true\/decide (x.key<1)=false/\(decide (1000000<x.key)=true\/decide (1000000<x.key)=false/\(decide (x.alg<1)=true\/decide (x.alg<1)=false/\(decide (3<x.alg)=true\/decide (3<x.alg)=false/\((x.frm != x0.frm)=true\/(x.frm != x0.frm)=false/\((x.til != x0.til)=true\/(x.til != x0.til)=false/\(decide (x.key<=y.key)=true\/decide (x.key<=y.key)=false/\(decide (x.frm<0)=true\/decide (x.frm<0)=false/\(decide (x.til<x.frm)=true\/decide (x.til<x.frm)=false/\(decide (20000000<x.til)=true\/decide (20000000<x.til)=false)))))))))):=by
      simp only[bne_iff_ne,bne_eq_false_iff_eq,Qa,decide_eq_false_iff_not];by_cases q:s.toList=a.toList
      ·simp[q]; omega
      ·exact .inl (by simpa using q)
     rcases td with d1 | ⟨d1,d2 | ⟨d2,d3 | ⟨d3,d4 | ⟨d4,d5 | ⟨d5,d6 | ⟨d6,d7 | ⟨d7,d8 | ⟨d8,d9 | ⟨d9,d10 | ⟨d10,d11 | d11⟩⟩⟩⟩⟩⟩⟩⟩⟩⟩
     rotate_right
     ·have bZ:Hid (Np.SigOk a.data.toList l k x):=jq (by
       have e1:s.toList=a.toList:=by simpa using d1
       rw[dQ,dQ] at e1;simp only[bne_eq_false_iff_eq,decide_eq_false_iff_not] at d2 d3 d4 d5 d6 d7 d8 d9 d10 d11;refine⟨by rw[<-HS.out,e1],by omega,by omega,by omega,λq hq=>?_,λp hp h0=>?_⟩
       ·rw[HZ.out] at hq; cases hq;exact⟨d6,d7⟩
       ·rw[Jo.out,show m+1 - 1=m by omega,HY.out] at hp; cases hp;omega)
      go_wp2_with fail;go_quiet (fail);obtain⟨w2,ai⟩:∃ w2,(wr.alloc (.cells #[.string s,.int .i64 x.key,.int .i64 x.alg,.int .i64 x.frm,.int .i64 x.til,.int .u64 x.sum] 133)).drewN nq=w2:=⟨_,rfl⟩;have p3:w2.cell? ⟨wr.heap.size,3,none⟩=some (.int .i64 x.frm):=by rw[<-ai]; simp[go_sem]
      have p4:w2.cell? ⟨wr.heap.size,4,none⟩=some (.int .i64 x.til):=by rw[<-ai]; simp[go_sem]
      have f9:Hid (Below w.heap.size w w2):=jq (by rw[<-ai]; exact br.out _ _);rw[ai];clear ai;go_wp2_with fail;go_roundw
      case rel=>exact⟨k+1,by omega,by go_num,jq f9.out,jq (HN.out bZ.out)⟩
      case measure=>simp[intOf] <;> omega
     all_goals
      go_wp2_with fail;go_quiet (fail);obtain⟨w2,ai⟩:∃ w2,(wr.alloc (.cells #[.string s,.int .i64 x.key,.int .i64 x.alg,.int .i64 x.frm,.int .i64 x.til,.int .u64 x.sum] 133)).drewN nq=w2:=⟨_,rfl⟩;have p3:w2.cell? ⟨wr.heap.size,3,none⟩=some (.int .i64 x.frm):=by rw[<-ai]; simp[go_sem]
      have p4:w2.cell? ⟨wr.heap.size,4,none⟩=some (.int .i64 x.til):=by rw[<-ai]; simp[go_sem]
      have f9:Hid (Below w.heap.size w w2):=jq (by rw[<-ai]; exact br.out _ _);rw[ai];clear ai;go_wp2_with fail;go_ret;refine⟨aj (HF.out ?_).symm,f9.out⟩;intro nV;obtain⟨k1,k2,k3,k4,k5,k6⟩:=nV;replace k6:=k6 y (by rw[Jo.out]; exact HY.out) (by have:=Jo.out; omega);replace k5:=k5 _ HZ.out
      first
       | (rw[dQ,dQ,HS.out,k1] at d1; simp at d1; done)
       | (simp only[bne_iff_ne,bne_eq_false_iff_eq,Qa,decide_eq_false_iff_not] at *; omega)
   ·go_wp2_with fail;go_ret;refine⟨aj ?_,HB.out⟩;rw[<-HR.out];exact (Np.bO ⟨H6.out,λj g hg=>HA.out j g (by have:=(cQ.1 hg).1; omega) hg⟩).symm
 ·have h6':6<l.length:=by omega
  have HF:Hid (r=false):=jq (by rw[<-HR.out]; exact Np.aP λhf=>h6 hf.1);clear h6;go_enter func187,ntmps187;go_wp2_with fail;go_ret;exact⟨aj HF.out.symm,vQ _ _⟩
def oJ(w:World)(B:Nat)(xs:List Value):Prop:=∀ j x,xs[j]?=some x->w.cell? ⟨B,j,none⟩=some x/\w.frozen? ⟨B,j,none⟩=false
theorem oJ.keep{w w':World}{B n:Nat}{xs:List Value}(h:oJ w B xs)(hb:Below n w w')(hB:B<n):oJ w' B xs:=λj x hx=>by
 obtain⟨h3,h4⟩:=h j x hx;exact⟨(hb.cell (p:=⟨B,j,none⟩) hB).trans h3,(hb.frozen (p:=⟨B,j,none⟩) hB).trans h4⟩
theorem oJ.store{w:World}{B:Nat}{xs:List Value}(h:oJ w B xs){k:Nat}(hk:k<xs.length)(u:Value):oJ (w.setCell ⟨B,k,none⟩ u) B (xs.set k u):=λj x hx=>by
 rw[List.getElem?_set] at hx;by_cases BH:k=j
 ·subst BH;rw[Qb rfl,Qb hk] at hx
  cases hx
  obtain⟨h3,h4⟩:=h k _ (aQ hk);exact⟨by simp[World.cell?_setCell_same,h3],(World.frozen?_setCell _ _ _ _).trans h4⟩
 ·rw[Qc BH] at hx;obtain⟨h3,h4⟩:=h j x hx;exact⟨by rw[xQ _ _ _ _ (by simp <;> omega)]; exact h3,(World.frozen?_setCell _ _ _ _).trans h4⟩
def AP(_:World)(_:Nat)(e:List Value)(x:Bool):Prop:=e = [.bool x]
theorem Ws:dK AP:=λ_ _ _ _ _ h _=>h
theorem oJ.slr{w:World}{B:Nat}{xs:List Bool}(h:oJ w B (xs.map Value.bool))(hB:B<w.heap.size)(hl:xs.length<=140737488355328):SlR AP 1 w w.heap.size (.slice (some ⟨B,0,none⟩) xs.length xs.length) xs:=
 ⟨_,_,rfl,bQ _,hl,λj x hx=>by
  obtain⟨h3,_⟩:=h j (.bool x) (by rw[List.getElem?_map,hx]; rfl);refine⟨B,0,[.bool x],rfl,hB,rfl,λi v hv=>?_,rfl⟩
  match i,hv with
  | 0,hv=>cases hv; simpa using h3⟩
theorem ZU{w:World}{B n c:Nat}{A:Option Addr}{xs:List Bool}(h:SlR AP 1 w B (.slice A n c) xs){k:Nat}{x:Bool}(hx:xs[k]?=some x):∃ (b o:Nat),A=some ⟨b,o,none⟩/\b<B/\w.cell? ⟨b,o+k,none⟩=some (.bool x):=by
 obtain⟨A',c',hv,hc,_,he⟩:=h;simp only[Value.slice.injEq] at hv;obtain⟨rfl,_,_⟩:=hv;obtain⟨b,o,e,rfl,hb,_,hce,rfl⟩:=he k x hx;exact⟨b,o,rfl,hb,by have:=hce 0 _ rfl; simpa using this⟩
theorem XL(n j:Nat)(hj:j<n):(madeCells #[Value.bool false] n)[j]?=some (.bool false):=by
 unfold madeCells;simp[hj,Nat.mod_one]
theorem Tryz.infoBoolZ:(prog.info? 4).map (λi=>(i.zero,i.size,i.bytes))=some (some (.bool false),1,1):=by kernel_rfl
theorem WB(n:Nat)(hn:n<=20000)(w:World):(Instr.makeSlice 232 (.int .i64 n) (.int .i64 n)).run prog w = .ok (.slice (some ⟨w.heap.size,0,none⟩) n n) (w.alloc (.cells (madeCells #[Value.bool false] n) 4)):=by
 obtain⟨i,hi,hp⟩:=Option.map_eq_some_iff.1 Tryz.infoBoolZ;simp only[Prod.mk.injEq] at hp;obtain⟨hz,hs,hb⟩:=hp
 have:=run_make (P:=prog) w 232 4 i (.bool false) underlying232 hi hz .i64 .i64 n n (by omega) (Int.le_refl _) (by rw[hb]; omega) (by omega)
 rw[hs] at this;simpa [Value.cells] using this
def Np.nK(x:Np.Signed)(b:List UInt8):Bool:=b == []||(x.set.type != 2&&x.set.type != 1)
def Np.mO(l:List Np.Signed)(B:List (List UInt8)):List Bool:=(l.zip B).map λp=>Np.nK p.1 p.2
theorem O2{l:List Np.Signed}{B:List (List UInt8)}{k:Nat}{x:Np.Signed}{b:List UInt8}(hx:l[k]?=some x)(hb:B[k]?=some b):(Np.mO l B)[k]?=some (Np.nK x b):=by
 unfold Np.mO;rw[List.getElem?_map,(List.getElem?_zip_eq_some (z:=(x,b))).2 ⟨hx,hb⟩]; rfl
theorem Wi(a:ByteArray)(v:Value)(l:List Np.Signed)(cu:l.length<=20000)(ho:Np.InOrder ⟨a.data.toList,l⟩)(hv:∀ x∈l,Np.aG x.set.name=true)(w:World)(hd:SlR bK 5 w w.heap.size v l) :
 Calls prog 186 #[.agg #[.string a,v]] w (yx AP 1 w (Np.mO l (Np.ef ⟨a.data.toList,l⟩))):=by
 obtain⟨B,hB⟩:∃ B,Np.ef ⟨a.data.toList,l⟩=B:=⟨_,rfl⟩;have kE:B.length=l.length:=by rw[<-hB]; exact Np.tv _
 have HB':=jq hB;have eL:=jq kE;have kG:Hid ((Np.mO l B).length=l.length):=jq (by unfold Np.mO; rw[List.length_map,List.length_zip,kE,Nat.min_self]);have HD:=jq hd;have HO:=jq ho;have HV:=jq hv;obtain⟨A,c,rfl,bC,bH⟩:=ag hd;rw[hB];clear hd ho hv hB kE;have HW:Hid (∀ o,Below w.heap.size w (w.alloc o)):=jq (λo=>(vQ _ w).alloc (bQ _) _);go_enter func186,ntmps186;go_wp2_with fail;refine (L2 a _ l cu HO.out HV.out _ (HD.out.later aV bR (HW.out _))).mono ?_;rintro e w1 ⟨bv,rfl,iT,aq⟩;have fh:w.heap.size<w1.heap.size:=by have:=aq.size; simp at this; omega
 have c1':w1.cell? ⟨w.heap.size,1,none⟩=some (.slice A l.length c):=by rw[aq.cell (by simp)]; go_simp
 have aF:=jq ((HW.out _).trans (aq.mono (by simp)));obtain⟨A2,c2,rfl,eB,dz⟩:=ag iT;rw[HB'.out] at eB dz iT |-;rw[eL.out] at eB dz iT |-;have kD:=jq iT;clear aq iT;have gL:=WB l.length cu;have HZ:Hid (∀ j,j<l.length->(madeCells #[Value.bool false] l.length)[j]?=some (.bool false)):=jq (λj hj=>XL _ _ hj);generalize madeCells #[Value.bool false] l.length=Z at gL HZ;go_wp2_with fail;obtain⟨Bs,oT⟩:∃ Bs,w1.heap.size=Bs:=⟨_,rfl⟩;obtain⟨w2,ai⟩:∃ w2,w1.alloc (.cells Z 4)=w2:=⟨_,rfl⟩;have aa:Below Bs w1 w2:=by rw[<-ai,<-oT]; exact (vQ _ _).alloc (bQ _) _
 have aN:Bs<w2.heap.size:=by rw[<-ai]; simp; omega
 have mY:Hid (oJ w2 Bs (((Np.mO l B).take 0).map Value.bool++List.replicate (l.length - 0) (Value.bool false))):=jq (λj x hx=>by
  rw[List.take_zero,List.map_nil,List.nil_append,Nat.sub_zero,List.getElem?_replicate] at hx;split at hx
  ·rename_i hj
   cases hx
   refine⟨?_,?_⟩
   ·rw[<-ai,<-oT]; simp[go_sem]; exact HZ.out j hj
   ·rw[<-ai,<-oT]; simp[go_sem]
  ·cases hx)
 have ak:=jq aa;rw[ai,oT];clear ai aa gL HZ;go_loopw [5] (λi wr=>∃ k:Nat,k<=l.length/\i = .int .i64 k/\Hid (Below Bs w1 wr)/\Bs<wr.heap.size/\Hid (oJ wr Bs (((Np.mO l B).take k).map Value.bool++List.replicate (l.length - k) (Value.bool false)))) (λi _=>l.length - (intOf i).toNat)
 case atStart=>exact⟨0,jQ _,rfl,ak,aN,mY⟩
 case round=>
  obtain⟨k,hk,rfl,HB,nZ,HR⟩:=hrel;have d1:wr.cell? ⟨w.heap.size,1,none⟩=some (.slice A l.length c):=(HB.out.cell (by dsimp only; omega)).trans c1';have aD:Hid (Below w.heap.size w wr):=jq (aF.out.trans (HB.out.mono (by omega)));have dF:w.heap.size<wr.heap.size:=by omega
  by_cases ab:k<l.length
  ·obtain⟨x,ac⟩:∃ x,l[k]?=some x:=⟨_,aQ ab⟩;obtain⟨bb,fy⟩:∃ bb,B[k]?=some bb:=⟨_,aQ (by rw[eL.out]; omega)⟩;obtain⟨b,o,c',sn,dv,sv,hA,bg,_,az,bL,bd,aL,f0,f1,f2,f3,f4⟩:=eT (HD.out.keep aV aD.out) ac
   cases hA
   obtain⟨b2,o2,sb,rfl,zJ,mZ,Jf,g0⟩:=rK ((kD.out.keep jk (HB.out.mono (by omega)))) fy;have eu:=jq mZ;have bW:(0:Int)<=(k:Int):=by omega
   have bV:(k:Int)<(l.length:Int):=by omega
   have aq:b<wr.heap.size:=by omega
   have ir:Hid (∀ q,Np.nK x bb=q->∀ W,oJ W Bs (((Np.mO l B).take k).map Value.bool++List.replicate (l.length - k) (Value.bool false))->oJ (W.setCell ⟨Bs,k,none⟩ (.bool q)) Bs (((Np.mO l B).take (k+1)).map Value.bool++List.replicate (l.length - (k+1)) (Value.bool false))):=jq (λq hq W hW=>by
    obtain⟨hko,he⟩:=cQ.1 (O2 ac fy);have h1:=hW.store (k:=k) (by rw[List.length_append,List.length_map,List.length_take,List.length_replicate,kG.out]; omega) (.bool q);have h2:(((Np.mO l B).take k).map Value.bool++List.replicate (l.length - k) (Value.bool false)).set k (Value.bool q)=((Np.mO l B).take (k+1)).map Value.bool++List.replicate (l.length - (k+1)) (Value.bool false):=by
     rw[show l.length - k=(l.length - (k+1))+1 by omega,List.replicate_succ,List.set_append_right _ _ (by rw[List.length_map,List.length_take]; omega),List.length_map,List.length_take,kG.out,show k - min k l.length=0 by omega,List.set_cons_zero,fQ hko,he,hq,List.map_append,List.append_assoc]; rfl
    rw[h2] at h1;exact h1)
   obtain⟨gD,oU⟩:=HR.out k (Value.bool false) (by rw[oQ (by rw[List.length_map,List.length_take]; omega),List.length_map,List.length_take,kG.out,show k - min k l.length=0 by omega,List.getElem?_replicate,Qb (by omega)]);obtain⟨ty,dD⟩:∃ ty,x.set.type=ty:=⟨_,rfl⟩;have iI:Hid (∀ q,(bb == []||(ty != 2&&ty != 1))=q->Np.nK x bb=q):=jq (λq h=>by unfold Np.nK; rw[dD]; exact h);rw[dD] at f1;clear ac fy az mZ bd aL dD f2 f3 f4;by_cases di:bb = []
   ·obtain rfl:sb=⟨#[]⟩:=iV (by rw[eu.out,di]);have HX:=jq (ir.out true (iI.out true (by simp[di])));clear di;go_wp2_with fail;go_roundw
    case rel=>exact⟨k+1,by omega,by go_num,jq (HB.out.setCell (by simp) _),by simpa using nZ,jq (HX.out _ HR.out)⟩
    case measure=>simp[intOf] <;> omega
   ·have Cb:(sb.toList == [])=false:=by rw[dQ,eu.out]; simpa using di
    by_cases h2:ty=2
    ·have HX:=jq (ir.out false (iI.out false (by simp[di,h2])));subst h2;clear di;go_wp2_with fail;go_roundw
     case rel=>exact⟨k+1,by omega,by go_num,jq (HB.out.setCell (by simp) _),by simpa using nZ,jq (HX.out _ HR.out)⟩
     case measure=>simp[intOf] <;> omega
    ·by_cases h1:ty=1
     ·have HX:=jq (ir.out false (iI.out false (by simp[di,h1])));subst h1;clear di;go_wp2_with fail;go_roundw
      case rel=>exact⟨k+1,by omega,by go_num,jq (HB.out.setCell (by simp) _),by simpa using nZ,jq (HX.out _ HR.out)⟩
      case measure=>simp[intOf] <;> omega
     ·have HX:=jq (ir.out true (iI.out true (by simp[h1,h2])));have t1:(ty != 2)=true:=by simpa using h2
      have t2:(ty != 1)=true:=by simpa using h1
      clear di h1 h2;go_wp2_with fail;go_roundw
      case rel=>exact⟨k+1,by omega,by go_num,jq (HB.out.setCell (by simp) _),by simpa using nZ,jq (HX.out _ HR.out)⟩
      case measure=>simp[intOf] <;> omega
  ·have HE:Hid (SlR AP 1 wr wr.heap.size (.slice (some ⟨Bs,0,none⟩) l.length l.length) (Np.mO l B)):=jq (by
    have h1:=HR.out;rw[kQ (by rw[kG.out]; omega),show l.length - k=0 by omega,List.replicate_zero,List.append_nil] at h1;have h2:=h1.slr nZ (by rw[kG.out]; omega);rw[kG.out] at h2;exact h2)
   go_wp2_with fail;go_ret;exact⟨_,rfl,HE.out,aD.out⟩
theorem OD{x:Np.Signed}{b:List UInt8} : (Np.nK x b=false)↔(b≠[]/\(x.set.type=2\/x.set.type=1)):=by
 unfold Np.nK;by_cases h0:b = [] <;> by_cases h2:x.set.type=2 <;> by_cases h1:x.set.type=1 <;> simp[h0,h2,h1]
def Np.AR(a:List UInt8)(l:List Np.Signed)(B:List (List UInt8)):Prop:=∀ (k:Nat) (x:Np.Signed) (b:List UInt8),l[k]?=some x->B[k]?=some b->Np.gV a x.sigs/\(Np.nK x b=false->x.sigs = [])
theorem Vo(a:ByteArray)(v:Value)(l:List Np.Signed)(cu:l.length<=20000)(ho:Np.InOrder ⟨a.data.toList,l⟩)(hv:∀ x∈l,Np.aG x.set.name=true)(w:World)(hd:SlR bK 5 w w.heap.size v l) :
 Calls prog 116 #[.agg #[.string a,v]] w λe w'=>e = .returned (.bool (Np.yes (Np.AR a.data.toList l (Np.ef ⟨a.data.toList,l⟩))))/\Below w.heap.size w w':=by
 obtain⟨B,hB⟩:∃ B,Np.ef ⟨a.data.toList,l⟩=B:=⟨_,rfl⟩;have kE:B.length=l.length:=by rw[<-hB]; exact Np.tv _
 rw[hB];obtain⟨r,hr⟩:∃ r,Np.yes (Np.AR a.data.toList l B)=r:=⟨_,rfl⟩;rw[hr];have HR:=jq hr;have HB':=jq hB;have eL:=jq kE;have kG:Hid ((Np.mO l B).length=l.length):=jq (by unfold Np.mO; rw[List.length_map,List.length_zip,kE,Nat.min_self]);have HD:=jq hd;have HO:=jq ho;have HV:=jq hv;obtain⟨A,c,rfl,bC,bH⟩:=ag hd;clear hd ho hv hB kE hr;have HW:Hid (∀ o,Below w.heap.size w (w.alloc o)):=jq (λo=>(vQ _ w).alloc (bQ _) _);go_enter func116,ntmps116;go_wp2_with fail;refine (Wi a _ l cu HO.out HV.out _ (HD.out.later aV bR (HW.out _))).mono ?_;rintro e w1 ⟨bv,rfl,iT,aq⟩;have fh:w.heap.size<w1.heap.size:=by have:=aq.size; simp at this; omega
 have c0':w1.cell? ⟨w.heap.size,0,none⟩=some (.string a):=by rw[aq.cell (by simp)]; go_simp
 have c1':w1.cell? ⟨w.heap.size,1,none⟩=some (.slice A l.length c):=by rw[aq.cell (by simp)]; go_simp
 have aF:=jq ((HW.out _).trans (aq.mono (by simp)));obtain⟨A2,c2,rfl,eB,dz⟩:=ag iT;rw[HB'.out] at eB dz iT |-;rw[kG.out] at eB dz iT |-;have kD:=jq iT;clear aq iT;go_wp2_with fail;go_loopw [4] (λi wr=>∃ k:Nat,k<=l.length/\i = .int .i64 k/\Hid (Below w1.heap.size w1 wr)/\Hid (∀ (j:Nat) (x:Np.Signed) (b:List UInt8),j<k->l[j]?=some x->B[j]?=some b->Np.gV a.data.toList x.sigs/\(Np.nK x b=false->x.sigs = []))) (λi _=>l.length - (intOf i).toNat)
 case atStart=>exact⟨0,jQ _,rfl,jq (vQ _ _),jq (λj x b hj=>by omega)⟩
 case round=>
  obtain⟨k,hk,rfl,HB,HA⟩:=hrel;have an:=HB.out.size;have aD:=jq (aF.out.trans (HB.out.mono (by omega)));have d0:wr.cell? ⟨w.heap.size,0,none⟩=some (.string a):=(HB.out.cell (by dsimp only; omega)).trans c0';have d1:wr.cell? ⟨w.heap.size,1,none⟩=some (.slice A l.length c):=(HB.out.cell (by dsimp only; omega)).trans c1';have dF:w.heap.size<wr.heap.size:=by omega
  by_cases ab:k<l.length
  ·obtain⟨x,ac⟩:∃ x,l[k]?=some x:=⟨_,aQ ab⟩;obtain⟨bb,fy⟩:∃ bb,B[k]?=some bb:=⟨_,aQ (by rw[eL.out]; omega)⟩;obtain⟨b,o,c',sn,dv,sv,hA,bg,_,az,bL,bd,aL,f0,f1,f2,f3,f4⟩:=eT (HD.out.keep aV aD.out) ac
   cases hA
   obtain⟨As,cs,rfl,_,_⟩:=ag aL;obtain⟨b2,o2,rfl,zJ,g0⟩:=ZU (kD.out.keep Ws HB.out) (O2 ac fy);have HN:Hid (Np.gV a.data.toList x.sigs->(Np.nK x bb=false->x.sigs = [])->∀ (j:Nat) (y:Np.Signed) (b:List UInt8),j<k+1->l[j]?=some y->B[j]?=some b->Np.gV a.data.toList y.sigs/\(Np.nK y b=false->y.sigs = [])):=jq (λh1 h2 j y b hj hy hb=>by
    by_cases e:j=k
    ·subst e; rw[ac] at hy; rw[fy] at hb; cases hy; cases hb; exact⟨h1,h2⟩
    ·exact HA.out j y b (by omega) hy hb)
   have HF:Hid (¬ (Np.gV a.data.toList x.sigs/\(Np.nK x bb=false->x.sigs = []))->r=false):=jq (λh=>by
    rw[<-HR.out]; exact Np.aP λq=>h (q k _ _ ac fy))
   have bW:(0:Int)<=(k:Int):=by omega
   have bV:(k:Int)<(l.length:Int):=by omega
   have aq:b<wr.heap.size:=by omega
   have aa:b2<wr.heap.size:=by omega
   have kq:∀ (g:bE wr) (p:Addr),p.block<wr.heap.size->g.w.cell? p=wr.cell? p:=λg p h=>g.cell p h;obtain⟨bf,J8⟩:∃ bf,Np.yes (Np.gV a.data.toList x.sigs)=bf:=⟨_,rfl⟩;have E0:=jq J8;have bT:∀ g:bE wr,Calls prog 187 #[.slice As x.sigs.length cs,.string a] g.w λe w'=>e = .returned (.bool bf)/\Below g.w.heap.size g.w w':=λg=>by
    rw[<-J8];exact Vk a _ x.sigs g.w ((aL.keep gg (g.below.mono (by omega))).more ij (by have:=g.size; omega))
   have HC:=jq bT;obtain⟨ow,how⟩:∃ ow,Np.nK x bb=ow:=⟨_,rfl⟩;have gY:=jq how;rw[how] at g0;clear ac fy az bd aL J8 bT how f0 f1 f2 f3
   cases bf with
   | false=>
    have HX:Hid (r=false):=jq (HF.out λh=>by have:=Np.bO h.1; rw[E0.out] at this; cases this);go_wp2_with fail;refine en (by kernel_rfl) (by kernel_rfl) ?_
    repeat (go_big_quiet_step ((go_at_call 187; exact Calls.grow_of (HC.out _))))
    refine wpQuiet_nil ?_;rintro _ ⟨g,rfl⟩;go_wp2_with fail;go_ret;exact⟨aj HX.out.symm,aD.out.trans (g.below.mono (by omega))⟩
   | true=>
    have Q8:Hid (Np.gV a.data.toList x.sigs):=jq (Np.eE.1 E0.out)
    cases ow with
    | true=>
     have HX:=jq (HN.out Q8.out (λh=>by rw[gY.out] at h; cases h));go_wp2_with fail;refine en (by kernel_rfl) (by kernel_rfl) ?_
     repeat (go_big_quiet_step ((go_at_call 187; exact Calls.grow_of (HC.out _))))
     refine wpQuiet_nil ?_;rintro _ ⟨g,rfl⟩;go_wp2_with fail;go_roundw
     case rel=>exact⟨k+1,by omega,by go_num,jq (HB.out.trans (g.below.mono (by omega))),jq HX.out⟩
     case measure=>simp[intOf] <;> omega
    | false=>
     obtain⟨N,hN⟩:∃ N,x.sigs.length=N:=⟨_,rfl⟩;have dh:=jq hN;rw[hN] at f4 HC;clear hN;by_cases h0:N=0
     ·have HX:=jq (HN.out Q8.out (λ_=>rQ (dh.out.trans h0)));subst h0;go_wp2_with fail;refine en (by kernel_rfl) (by kernel_rfl) ?_
      repeat (go_big_quiet_step ((go_at_call 187; exact Calls.grow_of (HC.out _))))
      refine wpQuiet_nil ?_;rintro _ ⟨g,rfl⟩;go_wp2_with fail;go_roundw
      case rel=>exact⟨k+1,by omega,by go_num,jq (HB.out.trans (g.below.mono (by omega))),jq HX.out⟩
      case measure=>simp[intOf] <;> omega
     ·have HX:Hid (r=false):=jq (HF.out λh=>h0 (by have:=h.2 gY.out; rw[this] at dh; exact dh.out.symm));have hp:decide ((0:Int)<(N:Int))=true:=by simp; omega
      have LH:decide (0<N)=true:=by simp; omega
      clear h0;go_wp2_with fail;refine en (by kernel_rfl) (by kernel_rfl) ?_
      repeat (go_big_quiet_step ((go_at_call 187; exact Calls.grow_of (HC.out _))))
      refine wpQuiet_nil ?_;rintro _ ⟨g,rfl⟩;go_wp2_with fail;go_ret;exact⟨aj HX.out.symm,aD.out.trans (g.below.mono (by omega))⟩
  ·go_wp2_with fail;go_ret;refine⟨aj ?_,aD.out⟩;rw[<-HR.out];exact (Np.bO λi x b hx hb=>HA.out i x b (by have:=(cQ.1 hx).1; omega) hx hb).symm
theorem Vg{z:Np.Zone}(cu:z.sets.length<=20000):Np.RZoneOk z↔((((Np.fm z=true/\Np.ApexH z.apex z.sets)/\Np.AK z.sets)/\Np.qD z.sets (Np.ef z))/\Np.AR z.apex z.sets (Np.ef z)):=by
 constructor
 ·intro h;refine⟨⟨⟨⟨h.right,h.start,h.server,h.fits⟩,λk x hx p h0 hp he=>?_⟩,h.cuts⟩,λk x b hx hb=>⟨h.form x (gQ hx),λho=>?_⟩⟩
  ·obtain⟨hk,rfl⟩:=cQ.1 hx;obtain⟨bV,rfl⟩:=cQ.1 hp;obtain⟨m,rfl⟩:∃ m,k=m+1:=⟨k - 1,by omega⟩;exact h.three m hk he
  ·obtain⟨h1,h2⟩:=OD.1 ho;exact h.sigs k x b hx hb h1 h2
 ·rintro⟨⟨⟨⟨h1,h2⟩,h3⟩,h4⟩,h5⟩;have cD:=Np.tv z;refine⟨h1,cu,h2.start,h2.server,h2.fits,λi hi he=>?_,h4,λk x b hx hb jV ht=>(h5 k x b hx hb).2 (OD.2 ⟨jV,ht⟩),λx hx=>?_⟩
  ·exact h3 (i+1) _ (aQ hi) _ (by omega) (aQ (by omega)) he
  ·obtain⟨k,hk,rfl⟩:=nQ.1 hx;exact (h5 k _ _ (aQ hk) (aQ (by omega))).1
theorem Vi(a:ByteArray)(ha:a.size<=140737488355328)(v:Value)(l:List Np.Signed)(cu:l.length<=20000)(w:World)(hd:SlR bK 5 w w.heap.size v l) :
 Calls prog 61 #[.agg #[.string a,v]] w λe w'=>e = .returned (.bool (Np.yes (Np.VZone ⟨a.data.toList,l⟩)))/\Below w.heap.size w w':=by
 obtain⟨r,hr⟩:∃ r,Np.yes (Np.VZone ⟨a.data.toList,l⟩)=r:=⟨_,rfl⟩;rw[hr];have HR:Hid (Np.yes ((((Np.fm ⟨a.data.toList,l⟩=true/\Np.ApexH a.data.toList l)/\Np.AK l)/\Np.qD l (Np.ef ⟨a.data.toList,l⟩))/\Np.AR a.data.toList l (Np.ef ⟨a.data.toList,l⟩))=r):=jq (by
  rw[<-hr,Np.tw (Np.Xg _)]; exact (Np.tw (Vg (z:=⟨a.data.toList,l⟩) cu)).symm)
 have HD:=jq hd;obtain⟨A,c,rfl,bC,bH⟩:=ag hd;clear hr hd;have HW:Hid (∀ o,Below w.heap.size w (w.alloc o)):=jq (λo=>(vQ _ w).alloc (bQ _) _);go_enter func61,ntmps61;go_wp2_with fail;obtain⟨w1,al⟩:∃ w1,w.alloc (.cells #[.string a,.slice A l.length c] 56)=w1:=⟨_,rfl⟩;have c0:w1.cell? ⟨w.heap.size,0,none⟩=some (.string a):=by rw[<-al]; simp[go_sem]
 have c1:w1.cell? ⟨w.heap.size,1,none⟩=some (.slice A l.length c):=by rw[<-al]; simp[go_sem]
 have bI:w1.heap.size=w.heap.size+1:=by rw[<-al]; simp
 have aF:Hid (Below w.heap.size w w1):=jq (by rw[<-al]; exact HW.out _);rw[al];clear al;refine (Wj a ha _ l cu _ (HD.out.later aV bR aF.out)).mono ?_;rintro e w2 ⟨rfl,aa⟩;have aN:=aa.size;have ak:=jq (aF.out.trans (aa.mono (by omega)));replace c0:w2.cell? ⟨w.heap.size,0,none⟩=some (.string a):=(aa.cell (by dsimp only; omega)).trans c0;replace c1:w2.cell? ⟨w.heap.size,1,none⟩=some (.slice A l.length c):=(aa.cell (by dsimp only; omega)).trans c1;clear aa
 cases fY:Np.fm ⟨a.data.toList,l⟩ with
 | false=>
  have HX:Hid (r=false):=jq (by rw[<-HR.out]; exact Np.aP λh=>by rw[fY] at h; cases h.1.1.1.1);clear fY;go_wp2_with fail;go_ret;exact⟨aj HX.out.symm,ak.out⟩
 | true=>
  have iJ:=jq fY;have ho:=Np.VZone.inOrder fY;have HO:=jq ho;have qN:=fY;unfold Np.fm at qN;simp only[Bool.and_eq_true] at qN;have HV:Hid (∀ x∈l,Np.aG x.set.name=true):=jq (λx hx=>Dp (Np.C9 qN.2 x hx));have mw:Hid (∀ x∈l,x.set.name≠[]):=jq ho.name;clear fY qN ho;go_wp2_with fail;refine (Wg a _ l _ (HD.out.later aV bR ak.out)).mono ?_;rintro e w3 ⟨rfl,ah⟩;have dP:=ah.size;have av:=jq (ak.out.trans (ah.mono (by omega)));replace c0:w3.cell? ⟨w.heap.size,0,none⟩=some (.string a):=(ah.cell (by dsimp only; omega)).trans c0;replace c1:w3.cell? ⟨w.heap.size,1,none⟩=some (.slice A l.length c):=(ah.cell (by dsimp only; omega)).trans c1;clear ah
  cases F8:Np.yes (Np.ApexH a.data.toList l) with
  | false=>
   have HX:Hid (r=false):=jq (by rw[<-HR.out]; exact Np.aP λh=>rJ F8 h.1.1.1.2);clear F8;go_wp2_with fail;go_ret;exact⟨aj HX.out.symm,av.out⟩
  | true=>
   have HQ3:=jq (Np.eE.1 F8);clear F8;go_wp2_with fail;refine (UD a _ l cu mw.out _ (HD.out.later aV bR av.out)).mono ?_;rintro e w4 ⟨rfl,am⟩;have ga:=am.size;have bD:=jq (av.out.trans (am.mono (by omega)));replace c0:w4.cell? ⟨w.heap.size,0,none⟩=some (.string a):=(am.cell (by dsimp only; omega)).trans c0;replace c1:w4.cell? ⟨w.heap.size,1,none⟩=some (.slice A l.length c):=(am.cell (by dsimp only; omega)).trans c1;clear am
   cases Fw:Np.yes (Np.AK l) with
   | false=>
    have HX:Hid (r=false):=jq (by rw[<-HR.out]; exact Np.aP λh=>rJ Fw h.1.1.2);clear Fw;go_wp2_with fail;go_ret;exact⟨aj HX.out.symm,bD.out⟩
   | true=>
    have HQ4:=jq (Np.eE.1 Fw);clear Fw;go_wp2_with fail;refine (Vn a _ l cu HO.out HV.out _ (HD.out.later aV bR bD.out)).mono ?_;rintro e w5 ⟨rfl,aA⟩;have kF:=aA.size;have ca:=jq (bD.out.trans (aA.mono (by omega)));replace c0:w5.cell? ⟨w.heap.size,0,none⟩=some (.string a):=(aA.cell (by dsimp only; omega)).trans c0;replace c1:w5.cell? ⟨w.heap.size,1,none⟩=some (.slice A l.length c):=(aA.cell (by dsimp only; omega)).trans c1;clear aA
    cases ES:Np.yes (Np.qD l (Np.ef ⟨a.data.toList,l⟩)) with
    | false=>
     have HX:Hid (r=false):=jq (by rw[<-HR.out]; exact Np.aP λh=>rJ ES h.1.2);clear ES;go_wp2_with fail;go_ret;exact⟨aj HX.out.symm,ca.out⟩
    | true=>
     have KJ:=jq (Np.eE.1 ES);clear ES;go_wp2_with fail;refine (Vo a _ l cu HO.out HV.out _ (HD.out.later aV bR ca.out)).mono ?_;rintro e w6 ⟨rfl,aW⟩;have gP:=aW.size;have cY:=jq (ca.out.trans (aW.mono (by omega)));replace c0:w6.cell? ⟨w.heap.size,0,none⟩=some (.string a):=(aW.cell (by dsimp only; omega)).trans c0;replace c1:w6.cell? ⟨w.heap.size,1,none⟩=some (.slice A l.length c):=(aW.cell (by dsimp only; omega)).trans c1;clear aW
     cases sL:Np.yes (Np.AR a.data.toList l (Np.ef ⟨a.data.toList,l⟩)) with
     | false=>
      have HX:Hid (r=false):=jq (by rw[<-HR.out]; exact Np.aP λh=>rJ sL h.2);clear sL;go_wp2_with fail;go_ret;exact⟨aj HX.out.symm,cY.out⟩
     | true=>
      have KH:=jq (Np.eE.1 sL);clear sL;go_wp2_with fail;go_ret;exact⟨aj (by rw[<-HR.out]; exact (Np.bO ⟨⟨⟨⟨iJ.out,HQ3.out⟩,HQ4.out⟩,KJ.out⟩,KH.out⟩).symm),cY.out⟩
end
end Go.Proofs.YtbfbobfbgabjiaaGreatDoor
