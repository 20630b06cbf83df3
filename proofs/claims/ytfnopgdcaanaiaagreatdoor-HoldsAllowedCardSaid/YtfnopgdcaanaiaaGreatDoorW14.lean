/- Parts of the proof. No condition. -/
import Derived.Test.YtfnopgdcaanaiaaGreatDoorW09
import Derived.Test.YtfnopgdcaanaiaaGreatDoorW10
import Derived.Test.YtfnopgdcaanaiaaGreatDoorW11
import Derived.Test.YtfnopgdcaanaiaaGreatDoorW12
set_option linter.all false
set_option maxRecDepth 100000
set_option maxHeartbeats 8000000
namespace Go.Proofs.YtfnopgdcaanaiaaGreatDoor
open Go.Proofs.Tryz
section
open Go.RowKit
theorem L8{a b c:List UInt8}(h1:Np.aH a b<=0)(h2:Np.aH b c<=0):Np.aH a c<=0:=by
 by_cases e1:Np.aH a b=0
 ·rw[Np.fx.zero _ _ e1];exact h2
 ·by_cases e2:Np.aH b c=0
  ·rw[<-Np.fx.zero _ _ e2];exact h1
  ·exact Int.le_of_lt (Np.fx.trans a b c (by omega) (by omega))
theorem Uf{a b c:List UInt8}(h1:0<Np.aH a c)(h2:Np.aH a b<0):0<Np.aH b c:=by
 have h3:=Np.fx.anti' _ _ h1;have h4:=Np.fx.trans _ _ _ h3 h2;exact Np.fx.anti _ _ h4
theorem Ex{bs:List (List UInt8)}{n i:Nat}(hi:i<n):bs++List.replicate (n - i) []=bs ++ [[]]++List.replicate (n - (i+1)) []:=by
 rw[show n - i=(n - (i+1))+1 by omega,List.replicate_succ,List.append_assoc];rfl
theorem PQ{bs:List (List UInt8)}{n i:Nat}{b:List UInt8}(hb:bs.length=i)(hi:i<n):(bs++List.replicate (n - i) []).set i b=bs ++ [b]++List.replicate (n - (i+1)) []:=by
 rw[show n - i=(n - (i+1))+1 by omega,List.replicate_succ,List.set_append_right _ _ (by omega),hb,Nat.sub_self,List.set_cons_zero,List.append_assoc];rfl
def EU(n0 Bs:Nat)(w1:World)(z:Np.Zone)(H:List (List UInt8))(vk vi:Value)(wr:World):Prop:=
 ∃ (i k:Nat) (bs:List (List UInt8)),i<=z.sets.length/\k<=H.length/\vi = .int .i64 i/\vk = .int .i64 k/\bs.length=i/\Hid (Below Bs w1 wr)/\Hid (fC wr Bs (bs++List.replicate (z.sets.length - i) []))/\Bs<wr.heap.size/\n0<=Bs/\
   Hid (∀ (j:Nat) (x:Np.Signed) (b:List UInt8),z.sets[j]?=some x->bs[j]?=some b->Np.je (Np.cR z) x.set.name b)/\Hid (∀ (j:Nat) (y:List UInt8) (x:Np.Signed),j<k->H[j]?=some y->z.sets[i]?=some x->Np.aH y x.set.name<=0)
theorem PG(a:ByteArray)(v:Value)(l:List Np.Signed)(cg:l.length<=20000)(ho:Np.InOrder ⟨a.data.toList,l⟩)(hv:∀ x∈l,Np.aA x.set.name=true)(w:World)(hd:SlR bP 5 w w.heap.size v l) :
 Calls prog 237 #[.agg #[.string a,v]] w (wR RTx 1 w (Np.ea ⟨a.data.toList,l⟩)):=by
 have HD:=jq hd;obtain⟨A,c,rfl,bq,bN⟩:=ak hd;have HW:Hid (∀ o,Below w.heap.size w (w.alloc o)):=jq (λo=>(vQ _ w).alloc (bQ _) _);have HO:=jq ho;have HV:=jq hv;have gq:Hid (∀ x∈Np.er (Np.cP a.data.toList l),Np.aA x=true):=jq (λx hx=>by
  have hx:=Ih _ x hx;unfold Np.cP at hx;obtain⟨y,hy,rfl⟩:=List.mem_map.1 hx;exact hv y (List.mem_filter.1 hy).1)
 have Lc:Hid (∀ (n:List UInt8) (k:Nat),k<=(Np.er (Np.cP a.data.toList l)).length->(∀ j x,j<k->(Np.er (Np.cP a.data.toList l))[j]?=some x->Np.aH x n<=0)->(∀ j x,k<=j->(Np.er (Np.cP a.data.toList l))[j]?=some x->0<Np.aH x n)->Np.je (Np.cR ⟨a.data.toList,l⟩) n (Np.jp (Np.er (Np.cP a.data.toList l)) k n)):=jq (λn k hk h1 h2=>Np.aeZ ho hk h1 h2);have SK:Hid ((Np.er (Np.cP a.data.toList l)).Pairwise λa b=>Np.aH a b<0):=jq (Np.Nt ho).1.sorted;have hhl:(Np.er (Np.cP a.data.toList l)).length<=20000:=by
  have h1:=Nv (Np.cP a.data.toList l) (Np.cP a.data.toList l).length;rw[List.take_length] at h1;have h2:(Np.cP a.data.toList l).length<=l.length:=by
   unfold Np.cP;rw[List.length_map];exact List.length_filter_le _ _
  omega
 clear hd ho;go_enter func237,ntmps237;go_wp2_with fail;refine (afQ a _ l cg hv _ (HD.out.later bH dH (HW.out _))).mono ?_;rintro e w1 ⟨vh,rfl,IQ,aB⟩;have bk:w.heap.size<w1.heap.size:=by have:=aB.size;simp at this;omega
 have c1:w1.cell? ⟨w.heap.size,1,none⟩=some (.slice A l.length c):=by rw[aB.cell (by simp)];go_simp
 have aq:=jq ((HW.out _).trans (aB.mono (by simp)));clear aB hv;generalize Np.er (Np.cP a.data.toList l)=H at *;obtain⟨Ah,ch,rfl,hch,aHK⟩:=ak IQ;have HH:=jq IQ;clear IQ;have gD:=Jd l.length cg;have HZ:Hid (∀ j,j<l.length->(madeCells #[Value.string ⟨#[]⟩] l.length)[j]?=some (.string ⟨#[]⟩)):=jq (λj hj=>Jc _ _ hj);generalize madeCells #[Value.string ⟨#[]⟩] l.length=Z at gD HZ;go_wp2_with fail;obtain⟨Bs,pB⟩:=aCQ w1.heap.size;obtain⟨w2,aj⟩:=aCQ (w1.alloc (.cells Z 9));have ae:Below Bs w1 w2:=by rw[<-aj,<-pB];exact (vQ _ _).alloc (bQ _) _
 have aK:Bs<w2.heap.size:=by rw[<-aj];simp;omega
 have zp:Hid (fC w2 Bs ([]++List.replicate (l.length - 0) [])):=jq (λj x hx=>by
  rw[List.nil_append,Nat.sub_zero,List.getElem?_replicate] at hx;split at hx
  ·rename_i hj
   cases hx
   refine⟨⟨#[]⟩,rfl,by decide,?_,?_⟩
   ·rw[<-aj,<-pB];simp[go_sem];exact HZ.out j hj
   ·rw[<-aj,<-pB];simp[go_sem]
  ·cases hx)
 have ai:=jq ae;rw[aj,pB];clear aj ae gD HZ;go_loopw [5,6] (λvk vi wr=>EU w.heap.size Bs w1 ⟨a.data.toList,l⟩ H vk vi wr) (λ_ i _=>l.length - (intOf i).toNat)
 case atStart=>exact⟨0,0,[],jQ _,jQ _,rfl,rfl,rfl,ai,zp,aK,by omega,jq (λj x b _ hb=>by simp at hb),jq (λj y x hj=>by omega)⟩
 case round=>
  obtain⟨i,k,bs,hi,hk,rfl,rfl,bD,HB,HR,uV,NR,HT,HK⟩:=hrel;have hi:i<=l.length:=hi;have d1:wr.cell? ⟨w.heap.size,1,none⟩=some (.slice A l.length c):=aBX HB.out c1;have az:Hid (Below w.heap.size w wr):=aBY aq HB.out;have dJ:w.heap.size<wr.heap.size:=by omega
  by_cases aa:i<l.length
  ·obtain⟨x,ac⟩:∃ x,l[i]?=some x:=⟨_,aQ aa⟩;obtain⟨b,o,c',sn,dv,sv,hA,bR,_,ar,cZ,aO,bh,f0,f1,f2,f3,f4⟩:=fR (HD.out.keep bH az.out) ac
   cases hA
   have HX:=jq ac;have aS:=jq ar;have XC:sn.size<=60:=by have:=so (HV.out x (gQ ac));rw[<-ar,aX] at this;exact this
   have nE:(0:Int)<=(i:Int):=by omega
   have qE:(i:Int)<(l.length:Int):=by omega
   have aB:b<wr.heap.size:=by omega
   have re:Hid (∀ (j:Nat) (y:List UInt8),j<k->H[j]?=some y->Np.aH y sn.data.toList<=0):=jq (λj y hj hy=>by rw[ar];exact HK.out j y x hj hy ac);clear ac ar aO bh f1 f2 f3 f4 HK;go_wp2_with fail;obtain⟨wo,rfl⟩:=aCY wr;go_loopw [5] (λvk wr=>∃ k:Nat,k<=H.length/\vk = .int .i64 k/\Hid (Below wo.heap.size wo wr)/\Hid (∀ (j:Nat) (y:List UInt8),j<k->H[j]?=some y->Np.aH y sn.data.toList<=0)) (λk _=>H.length - (intOf k).toNat)
   case atStart=>exact⟨k,hk,rfl,jq (vQ _ _),re⟩
   case round=>
    obtain⟨k,hk,rfl,ui,y9⟩:=hrel;have tO:=ui.out.size;have Rh:Hid (SlR RTx 1 wr w1.heap.size (.slice Ah H.length ch) H):=jq ((HH.out.keep nT (HB.out.aDQ)).keep nT (ui.out.aDQ));by_cases mv:k<H.length
    ·obtain⟨y,eq⟩:∃ y,H[k]?=some y:=⟨_,aQ mv⟩;obtain⟨b2,o2,sy,rfl,xV,gU,aNX,g0⟩:=qX Rh.out eq;have aNJ:sy.size<=60:=by have:=so (gq.out y (gQ eq));rw[<-gU,aX] at this;exact this
     have HY:=jq eq;have sP:=jq gU;have bV:(0:Int)<=(k:Int):=by omega
     have bT:(k:Int)<(H.length:Int):=by omega
     clear eq gU;go_wp2_with fail;refine (Jo sy sn (by omega) (by omega) _).mono ?_;rintro e w6 ⟨rfl,aR⟩;have du:=jq aR;have iq:=aR.size;clear aR;by_cases gH:Np.aH sy.data.toList sn.data.toList<=0
     ·have HN:Hid (∀ (j:Nat) (y:List UInt8),j<k+1->H[j]?=some y->Np.aH y sn.data.toList<=0):=jq (λj z hj hz=>by
       by_cases e:j=k
       ·subst e;rw[HY.out] at hz;cases hz;rw[<-sP.out];exact gH
       ·exact y9.out j z (by omega) hz)
      go_wp2_with fail;go_roundw
      case rel=>exact⟨k+1,by omega,by go_num,jq (ui.out.trans (du.out.mono ui.out.size)),jq HN.out⟩
      case measure=>simp[intOf] <;> omega
     ·have nY:Hid (∀ (j:Nat) (y:List UInt8),k<=j->H[j]?=some y->0<Np.aH y sn.data.toList):=jq (λj z hj hz=>by
       by_cases e:j=k
       ·subst e;rw[HY.out] at hz;cases hz;rw[<-sP.out];omega
       ·obtain⟨h1,e1⟩:=cQ.1 HY.out;obtain⟨h2,e2⟩:=cQ.1 hz
        have:=List.pairwise_iff_getElem.1 SK.out k j h1 h2 (by omega)
        rw[e1,e2] at this;exact Uf (by rw[<-sP.out];omega) this)
      have l5:Hid (∀ W',Below Bs w1 W'->Bs<W'.heap.size->fC W' Bs (bs ++ [Np.jp H k sn.data.toList]++List.replicate (l.length - (i+1)) [])->EU w.heap.size Bs w1 ⟨a.data.toList,l⟩ H (.int .i64 k) (.int .i64 (i+1)) W'):=jq (λW' h1 h2 h3=>by
       refine⟨i+1,k,bs ++ [Np.jp H k sn.data.toList],by show i+1<=l.length;omega,hk,by go_num,rfl,by simp[bD],jq h1,jq h3,h2,NR,jq λj x' b' hx' hb'=>?_,jq λj y x' hj hy hx'=>?_⟩
       ·have hx':l[j]?=some x':=hx';by_cases e:j<i
        ·rw[List.getElem?_append_left (by omega)] at hb';exact HT.out j x' b' hx' hb'
        ·have ml:j=i:=by have:=(cQ.1 hb').1;simp at this;omega
         subst ml;rw[HX.out] at hx';cases hx';rw[oQ (by omega),bD,Nat.sub_self] at hb'
         cases hb'
         rw[<-aS.out];exact Lc.out _ k hk y9.out nY.out
       ·obtain⟨q1,e1⟩:=cQ.1 HX.out;have hx':l[i+1]?=some x':=hx';obtain⟨q2,e2⟩:=cQ.1 hx';have h4:=HO.out.names (show i<i+1 by omega) q2;dsimp only at h4;rw[e1,e2,<-aS.out] at h4;exact L8 (y9.out j y hj hy) h4)
      have nj:=jq (ui.out.trans (du.out.mono ui.out.size));have yT:Hid (Below Bs w1 w6):=aBY HB nj.out;have Am:Bs<w6.heap.size:=by have:=nj.out.size;omega
      have ng:Hid (fC w6 Bs (bs++List.replicate (l.length - i) [])):=jq (HR.out.keep nj.out (by omega));by_cases gC:k=0
      ·have jj:decide ((0:Int)<(k:Int))=false:=by simp;omega
       have jk:decide (0<k)=false:=by simp;omega
       have oq:Hid (Np.jp H k sn.data.toList = []):=jq (by unfold Np.jp;rw[Qc (by omega)]);clear gC;go_wp2_with fail;go_roundw
       case rel=>exact l5.out _ yT.out Am (by rw[oq.out,<-Ex aa];exact ng.out)
       case measure=>simp[intOf] <;> omega
      ·obtain⟨m,mw⟩:∃ m,k=m+1:=⟨k - 1,by omega⟩;obtain⟨z,ji⟩:∃ z,H[m]?=some z:=⟨_,aQ (by omega)⟩;obtain⟨b3,o3,sz,Dd,VT,lj,II,g3⟩:=qX ((HH.out.keep nT (HB.out.aDQ)).keep nT (nj.out.aDQ)) ji;have XH:sz.size<=60:=by have:=so (gq.out z (gQ ji));rw[<-lj,aX] at this;exact this
       have BK:z≠[]:=λe=>by have:=gq.out z (gQ ji);rw[e] at this;exact absurd this (by decide)
       have Fy:Hid (Np.inL (Np.eG sn.data.toList) (Np.eG sz.data.toList)=Np.bi sn.data.toList z):=jq (by rw[lj];exact Np.yn BK);have oq:Hid (Np.jp H k sn.data.toList=if Np.bi sn.data.toList z=true then z else []):=jq (by unfold Np.jp;rw[mw,show m+1 - 1=m by omega,ji];simp);have iM:=jq lj;have jj:decide ((0:Int)<(k:Int))=true:=by simp;omega
       have jk:decide (0<k)=true:=by simp;omega
       have ah:IntKind.i64.wrap ((k:Int) - 1)=(m:Int):=by rw[IntWalk.i64_in _ (by omega)];omega
       have kp:(0:Int)<=(m:Int):=by omega
       have vv:(m:Int)<(H.length:Int):=by omega
       clear ji lj mw gC BK;simp only[Option.some.injEq,Addr.mk.injEq,and_true] at Dd;obtain⟨rfl,rfl⟩:=Dd;go_wp2_with fail;refine (BV sn sz (by omega) (by omega) _).mono ?_;rw[Fy.out];rintro e w7 ⟨rfl,ep⟩;have cr:=jq ep;have nN:=ep.size;clear ep;have yU:Hid (Below Bs w1 w7):=aBY yT cr.out;have An:Bs<w7.heap.size:=by omega
       have uC:Hid (fC w7 Bs (bs++List.replicate (l.length - i) [])):=jq (ng.out.keep cr.out (by omega));have g37:w7.cell? ⟨b2,o2+m,none⟩=some (.string sz):=aBX cr.out g3;obtain⟨s0,_,_,iW,la⟩:=uC.out i [] (by rw[oQ (by omega),bD,Nat.sub_self,List.getElem?_replicate,Qb (by omega)])
       cases hu:Np.bi sn.data.toList z with
       | true=>
        have fm:Hid (Np.jp H k sn.data.toList=sz.data.toList):=jq (by rw[oq.out,hu,Qb rfl,iM.out]);clear hu;go_wp2_with fail;go_roundw
        case rel=>exact l5.out _ (yU.out.setCell (by simp) _) (by simpa using An) (by rw[fm.out,<-PQ bD aa];exact uC.out.store (by rw[List.length_append,List.length_replicate];omega) sz II)
        case measure=>simp[intOf] <;> omega
       | false=>
        have fm:Hid (Np.jp H k sn.data.toList = []):=jq (by rw[oq.out,hu];rfl);clear hu;go_wp2_with fail;go_roundw
        case rel=>exact l5.out _ yU.out An (by rw[fm.out,<-Ex aa];exact uC.out)
        case measure=>simp[intOf] <;> omega
    ·have nY:Hid (∀ (j:Nat) (y:List UInt8),k<=j->H[j]?=some y->0<Np.aH y sn.data.toList):=jq (λj z hj hz=>by have:=(cQ.1 hz).1;omega);have mx:decide ((k:Int)<(H.length:Int))=false:=by simp;omega
     have l5:Hid (∀ W',Below Bs w1 W'->Bs<W'.heap.size->fC W' Bs (bs ++ [Np.jp H k sn.data.toList]++List.replicate (l.length - (i+1)) [])->EU w.heap.size Bs w1 ⟨a.data.toList,l⟩ H (.int .i64 k) (.int .i64 (i+1)) W'):=jq (λW' h1 h2 h3=>by
      refine⟨i+1,k,bs ++ [Np.jp H k sn.data.toList],by show i+1<=l.length;omega,hk,by go_num,rfl,by simp[bD],jq h1,jq h3,h2,NR,jq λj x' b' hx' hb'=>?_,jq λj y x' hj hy hx'=>?_⟩
      ·have hx':l[j]?=some x':=hx';by_cases e:j<i
       ·rw[List.getElem?_append_left (by omega)] at hb';exact HT.out j x' b' hx' hb'
       ·have ml:j=i:=by have:=(cQ.1 hb').1;simp at this;omega
        subst ml;rw[HX.out] at hx';cases hx';rw[oQ (by omega),bD,Nat.sub_self] at hb'
        cases hb'
        rw[<-aS.out];exact Lc.out _ k hk y9.out nY.out
      ·obtain⟨q1,e1⟩:=cQ.1 HX.out;have hx':l[i+1]?=some x':=hx';obtain⟨q2,e2⟩:=cQ.1 hx';have h4:=HO.out.names (show i<i+1 by omega) q2;dsimp only at h4;rw[e1,e2,<-aS.out] at h4;exact L8 (y9.out j y hj hy) h4)
     have nj:=jq (ui.out);have yT:Hid (Below Bs w1 wr):=aBY HB nj.out;have Am:Bs<wr.heap.size:=by have:=nj.out.size;omega
     have ng:Hid (fC wr Bs (bs++List.replicate (l.length - i) [])):=jq (HR.out.keep nj.out (by omega));by_cases gC:k=0
     ·have jj:decide ((0:Int)<(k:Int))=false:=by simp;omega
      have jk:decide (0<k)=false:=by simp;omega
      have oq:Hid (Np.jp H k sn.data.toList = []):=jq (by unfold Np.jp;rw[Qc (by omega)]);clear gC;go_wp2_with fail;go_roundw
      case rel=>exact l5.out _ yT.out Am (by rw[oq.out,<-Ex aa];exact ng.out)
      case measure=>simp[intOf] <;> omega
     ·obtain⟨m,mw⟩:∃ m,k=m+1:=⟨k - 1,by omega⟩;obtain⟨z,ji⟩:∃ z,H[m]?=some z:=⟨_,aQ (by omega)⟩;obtain⟨b3,o3,sz,Dd,VT,lj,II,g3⟩:=qX ((HH.out.keep nT (HB.out.aDQ)).keep nT (nj.out.aDQ)) ji;have XH:sz.size<=60:=by have:=so (gq.out z (gQ ji));rw[<-lj,aX] at this;exact this
      have BK:z≠[]:=λe=>by have:=gq.out z (gQ ji);rw[e] at this;exact absurd this (by decide)
      have Fy:Hid (Np.inL (Np.eG sn.data.toList) (Np.eG sz.data.toList)=Np.bi sn.data.toList z):=jq (by rw[lj];exact Np.yn BK);have oq:Hid (Np.jp H k sn.data.toList=if Np.bi sn.data.toList z=true then z else []):=jq (by unfold Np.jp;rw[mw,show m+1 - 1=m by omega,ji];simp);have iM:=jq lj;have jj:decide ((0:Int)<(k:Int))=true:=by simp;omega
      have jk:decide (0<k)=true:=by simp;omega
      have ah:IntKind.i64.wrap ((k:Int) - 1)=(m:Int):=by rw[IntWalk.i64_in _ (by omega)];omega
      have kp:(0:Int)<=(m:Int):=by omega
      have vv:(m:Int)<(H.length:Int):=by omega
      clear ji lj mw gC BK;subst Dd;go_wp2_with fail;refine (BV sn sz (by omega) (by omega) _).mono ?_;rw[Fy.out];rintro e w7 ⟨rfl,ep⟩;have cr:=jq ep;have nN:=ep.size;clear ep;have yU:Hid (Below Bs w1 w7):=aBY yT cr.out;have An:Bs<w7.heap.size:=by omega
      have uC:Hid (fC w7 Bs (bs++List.replicate (l.length - i) [])):=jq (ng.out.keep cr.out (by omega));have g37:w7.cell? ⟨b3,o3+m,none⟩=some (.string sz):=aBX cr.out g3;obtain⟨s0,_,_,iW,la⟩:=uC.out i [] (by rw[oQ (by omega),bD,Nat.sub_self,List.getElem?_replicate,Qb (by omega)])
      cases hu:Np.bi sn.data.toList z with
      | true=>
       have fm:Hid (Np.jp H k sn.data.toList=sz.data.toList):=jq (by rw[oq.out,hu,Qb rfl,iM.out]);clear hu;go_wp2_with fail;go_roundw
       case rel=>exact l5.out _ (yU.out.setCell (by simp) _) (by simpa using An) (by rw[fm.out,<-PQ bD aa];exact uC.out.store (by rw[List.length_append,List.length_replicate];omega) sz II)
       case measure=>simp[intOf] <;> omega
      | false=>
       have fm:Hid (Np.jp H k sn.data.toList = []):=jq (by rw[oq.out,hu];rfl);clear hu;go_wp2_with fail;go_roundw
       case rel=>exact l5.out _ yU.out An (by rw[fm.out,<-Ex aa];exact uC.out)
       case measure=>simp[intOf] <;> omega
  ·have Ig:i=l.length:=by omega
   have HE:Hid (SlR RTx 1 wr wr.heap.size (.slice (some ⟨Bs,0,none⟩) l.length l.length) (Np.ea ⟨a.data.toList,l⟩)):=jq (by
    have h1:=HR.out;have e:l.length - i=0:=by omega
    dsimp only at h1;rw[e,List.replicate_zero,List.append_nil] at h1;have h2:=h1.slr uV (by omega);have h3:=Np.TC HO.out (B:=bs) (by rw[bD];exact Ig) HT.out;rw[<-h3];rw[bD,Ig] at h2;exact h2)
   clear Ig;go_wp2_with fail;go_ret;exact⟨_,rfl,HE.out,az.out⟩
theorem aeY(a:ByteArray)(v:Value)(l:List Np.Signed)(cg:l.length<=20000)(ho:Np.InOrder ⟨a.data.toList,l⟩)(hv:∀ x∈l,Np.aA x.set.name=true)(w:World)(hd:SlR bP 5 w w.heap.size v l) :
 Calls prog 162 #[.agg #[.string a,v]] w (aFQ w.heap.size w (.bool (Np.yes (Np.pY l (Np.ea ⟨a.data.toList,l⟩))))):=by
 obtain⟨B,hB⟩:=aCQ (Np.ea ⟨a.data.toList,l⟩);have jE:B.length=l.length:=by rw[<-hB];exact Np.sX _
 obtain⟨r,hr⟩:=aCQ (Np.yes (Np.pY l (Np.ea ⟨a.data.toList,l⟩)));rw[hr];rw[hB] at hr;have HR:=jq hr;have fy:=jq jE;have dE:=jq hB;have HD:=jq hd;have HO:=jq ho;have HV:=jq hv;obtain⟨A,c,rfl,bq,bN⟩:=ak hd;clear hr hd ho hv hB jE;have HW:Hid (∀ o,Below w.heap.size w (w.alloc o)):=jq (λo=>(vQ _ w).alloc (bQ _) _);go_enter func162,ntmps162;go_wp2_with fail;refine (PG a _ l cg HO.out HV.out _ (HD.out.later bH dH (HW.out _))).mono ?_;rintro e w1 ⟨bv,rfl,il,aB⟩;have eh:w.heap.size<w1.heap.size:=by have:=aB.size;simp at this;omega
 have c1':w1.cell? ⟨w.heap.size,1,none⟩=some (.slice A l.length c):=by rw[aB.cell (by simp)];go_simp
 have aq:=jq ((HW.out _).trans (aB.mono (by simp)));obtain⟨A2,c2,rfl,fF,eK⟩:=ak il;rw[dE.out] at fF eK il |-;rw[fy.out] at fF eK il |-;have ph:=jq il;clear aB il;go_wp2_with fail;go_loopw [4] (λi wr=>∃ k:Nat,k<=l.length/\i = .int .i64 k/\Hid (Below w1.heap.size w1 wr)/\Hid (∀ j x b,j<k->l[j]?=some x->B[j]?=some b->Np.jY x.set b)) (λi _=>l.length - (intOf i).toNat)
 case atStart=>exact⟨0,jQ _,rfl,jq (vQ _ _),jq (λj x b hj=>by omega)⟩
 case round=>
  obtain⟨k,hk,rfl,HB,HA⟩:=hrel;have an:=HB.out.size;have az:=aBY aq HB.out;have d1:wr.cell? ⟨w.heap.size,1,none⟩=some (.slice A l.length c):=aBX HB.out c1';by_cases aa:k<l.length
  ·obtain⟨x,ac⟩:∃ x,l[k]?=some x:=⟨_,aQ aa⟩;obtain⟨bb,dU⟩:∃ bb,B[k]?=some bb:=⟨_,aQ (by rw[fy.out];omega)⟩;obtain⟨b,o,c',sn,dv,sv,hA,bR,_,ar,cZ,aO,bh,e0,e1,e2,e3,e4⟩:=fR (HD.out.keep bH az.out) ac
   cases hA
   obtain⟨b2,o2,sb,rfl,xV,lP,IH,g0⟩:=qX (ph.out.keep nT HB.out) dU;have HN:Hid (Np.jY x.set bb->∀ j x b,j<k+1->l[j]?=some x->B[j]?=some b->Np.jY x.set b):=jq (λh j x b hj hx hb=>by
    by_cases e:j=k
    ·subst e;rw[ac] at hx;rw[dU] at hb;cases hx;cases hb;exact h
    ·exact HA.out j x b (by omega) hx hb)
   have HF:Hid (¬ Np.jY x.set bb->r=false):=jq (λh=>by
    rw[<-HR.out];exact Np.aC λq=>h (q k _ _ ac dU))
   clear ac dU;obtain⟨Ad,cd,rfl,_,_⟩:=ak aO;obtain⟨As,cs,rfl,_,_⟩:=ak bh;have hcell:wr.cell? ⟨w.heap.size,1,none⟩=some (.slice (some ⟨b,o,none⟩) l.length c):=aBX HB.out c1';have dJ:w.heap.size<wr.heap.size:=by omega
   have aB:b<wr.heap.size:=by omega
   have ae:b2<wr.heap.size:=by omega
   have aY:Hid (∀ o,Below w1.heap.size w1 (wr.alloc o)):=jq (λo=>HB.out.alloc HB.out.size _);have mS:Hid (∀ o,Below w.heap.size w (wr.alloc o)):=jq (λo=>az.out.alloc (by omega) _);have bV:(0:Int)<=(k:Int):=by omega
   have bT:(k:Int)<(l.length:Int):=by omega
   have aS:=jq ar;have fl:=jq lP;obtain⟨ty,dC⟩:=aCQ x.set.type;have di:=jq dC;rw[dC] at e1;clear ar lP aO bh dC e4;by_cases dM:bb = []
   ·obtain rfl:sb=⟨#[]⟩:=mR (by rw[fl.out,dM]);have bl:=jq (Md (x:=x.set) dM);clear dM;by_cases h6:ty=6
    ·have HX:Hid (r=false):=jq (HF.out λh=>(bl.out.1 h) (di.out.trans h6));subst h6;go_wp2_with fail;go_quiet (fail);obtain⟨w2,aj⟩:=aCQ ((wr.alloc (.cells #[.string sn,.int .i64 6,.int .i64 x.set.life,.slice Ad x.set.data.length cd] 26)).drewN nq);rw[aj];have cT:Below wr.heap.size wr w2:=by rw[<-aj];exact below_drewN ((vQ _ _).alloc (bQ _) _) _
     have p1:w2.cell? ⟨wr.heap.size,1,none⟩=some (.int .i64 6):=by rw[<-aj];simp[go_sem]
     have g02:w2.cell? ⟨b2,o2+k,none⟩=some (.string ⟨#[]⟩):=aBX cT g0;have eV:=jq (HB.out.trans (cT.mono HB.out.size));have pu:=aBY az cT;clear cT aj g0;go_wp2_with fail;go_ret;exact⟨ag HX.out.symm,pu.out⟩
    ·have HX:=jq (HN.out (bl.out.2 λh=>h6 (di.out.symm.trans h)));have h6':(ty == 6)=false:=by simpa using h6
     clear h6;go_wp2_with fail;go_quiet (fail);obtain⟨w2,aj⟩:=aCQ ((wr.alloc (.cells #[.string sn,.int .i64 ty,.int .i64 x.set.life,.slice Ad x.set.data.length cd] 26)).drewN nq);rw[aj];have cT:Below wr.heap.size wr w2:=by rw[<-aj];exact below_drewN ((vQ _ _).alloc (bQ _) _) _
     have p1:w2.cell? ⟨wr.heap.size,1,none⟩=some (.int .i64 ty):=by rw[<-aj];simp[go_sem]
     have g02:w2.cell? ⟨b2,o2+k,none⟩=some (.string ⟨#[]⟩):=aBX cT g0;have eV:=jq (HB.out.trans (cT.mono HB.out.size));have pu:=aBY az cT;clear cT aj g0;go_wp2_with fail;go_roundw
     case rel=>exact⟨k+1,by omega,by go_num,jq eV.out,jq HX.out⟩
     case measure=>simp[intOf] <;> omega
   ·have yf:(sb.toList == [])=false:=by rw[dQ,fl.out];simpa using dM
    by_cases jh:bb=x.set.name
    ·have Hm:(sn.toList == sb.toList)=true:=by rw[dQ,dQ,fl.out,aS.out];simpa using jh.symm
     have bl:=jq (Me (x:=x.set) dM jh);clear dM jh;by_cases ht:ty=2\/ty=6\/ty=8\/ty=1
     ·have HX:=jq (HN.out (bl.out.2 (by rw[di.out];exact ht)));rcases ht with rfl | rfl | rfl | rfl
      ·skip
       go_wp2_with fail;go_quiet (fail);obtain⟨w2,aj⟩:=aCQ ((wr.alloc (.cells #[.string sn,.int .i64 2,.int .i64 x.set.life,.slice Ad x.set.data.length cd] 26)).drewN nq);rw[aj];have cT:Below wr.heap.size wr w2:=by rw[<-aj];exact below_drewN ((vQ _ _).alloc (bQ _) _) _
       have p1:w2.cell? ⟨wr.heap.size,1,none⟩=some (.int .i64 2):=by rw[<-aj];simp[go_sem]
       have g02:w2.cell? ⟨b2,o2+k,none⟩=some (.string sb):=aBX cT g0;have eV:=jq (HB.out.trans (cT.mono HB.out.size));have pu:=aBY az cT;clear cT aj g0;go_wp2_with fail;go_roundw
       case rel=>exact⟨k+1,by omega,by go_num,jq eV.out,jq HX.out⟩
       case measure=>simp[intOf] <;> omega
      ·skip
       go_wp2_with fail;go_quiet (fail);obtain⟨w2,aj⟩:=aCQ ((wr.alloc (.cells #[.string sn,.int .i64 6,.int .i64 x.set.life,.slice Ad x.set.data.length cd] 26)).drewN nq);rw[aj];have cT:Below wr.heap.size wr w2:=by rw[<-aj];exact below_drewN ((vQ _ _).alloc (bQ _) _) _
       have p1:w2.cell? ⟨wr.heap.size,1,none⟩=some (.int .i64 6):=by rw[<-aj];simp[go_sem]
       have g02:w2.cell? ⟨b2,o2+k,none⟩=some (.string sb):=aBX cT g0;have eV:=jq (HB.out.trans (cT.mono HB.out.size));have pu:=aBY az cT;clear cT aj g0;go_wp2_with fail;go_roundw
       case rel=>exact⟨k+1,by omega,by go_num,jq eV.out,jq HX.out⟩
       case measure=>simp[intOf] <;> omega
      ·skip
       go_wp2_with fail;go_quiet (fail);obtain⟨w2,aj⟩:=aCQ ((wr.alloc (.cells #[.string sn,.int .i64 8,.int .i64 x.set.life,.slice Ad x.set.data.length cd] 26)).drewN nq);rw[aj];have cT:Below wr.heap.size wr w2:=by rw[<-aj];exact below_drewN ((vQ _ _).alloc (bQ _) _) _
       have p1:w2.cell? ⟨wr.heap.size,1,none⟩=some (.int .i64 8):=by rw[<-aj];simp[go_sem]
       have g02:w2.cell? ⟨b2,o2+k,none⟩=some (.string sb):=aBX cT g0;have eV:=jq (HB.out.trans (cT.mono HB.out.size));have pu:=aBY az cT;clear cT aj g0;go_wp2_with fail;go_roundw
       case rel=>exact⟨k+1,by omega,by go_num,jq eV.out,jq HX.out⟩
       case measure=>simp[intOf] <;> omega
      ·skip
       go_wp2_with fail;go_quiet (fail);obtain⟨w2,aj⟩:=aCQ ((wr.alloc (.cells #[.string sn,.int .i64 1,.int .i64 x.set.life,.slice Ad x.set.data.length cd] 26)).drewN nq);rw[aj];have cT:Below wr.heap.size wr w2:=by rw[<-aj];exact below_drewN ((vQ _ _).alloc (bQ _) _) _
       have p1:w2.cell? ⟨wr.heap.size,1,none⟩=some (.int .i64 1):=by rw[<-aj];simp[go_sem]
       have g02:w2.cell? ⟨b2,o2+k,none⟩=some (.string sb):=aBX cT g0;have eV:=jq (HB.out.trans (cT.mono HB.out.size));have pu:=aBY az cT;clear cT aj g0;go_wp2_with fail;go_roundw
       case rel=>exact⟨k+1,by omega,by go_num,jq eV.out,jq HX.out⟩
       case measure=>simp[intOf] <;> omega
     ·have HX:Hid (r=false):=jq (HF.out λh=>ht (by have:=bl.out.1 h;rwa [di.out] at this));have t1:(ty != 2)=true:=by simp;omega
      have t2:(ty != 6)=true:=by simp;omega
      have t3:(ty != 8)=true:=by simp;omega
      have t4:(ty != 1)=true:=by simp;omega
      clear ht;go_wp2_with fail;go_quiet (fail);obtain⟨w2,aj⟩:=aCQ ((wr.alloc (.cells #[.string sn,.int .i64 ty,.int .i64 x.set.life,.slice Ad x.set.data.length cd] 26)).drewN nq);rw[aj];have cT:Below wr.heap.size wr w2:=by rw[<-aj];exact below_drewN ((vQ _ _).alloc (bQ _) _) _
      have p1:w2.cell? ⟨wr.heap.size,1,none⟩=some (.int .i64 ty):=by rw[<-aj];simp[go_sem]
      have g02:w2.cell? ⟨b2,o2+k,none⟩=some (.string sb):=aBX cT g0;have eV:=jq (HB.out.trans (cT.mono HB.out.size));have pu:=aBY az cT;clear cT aj g0;go_wp2_with fail;go_ret;exact⟨ag HX.out.symm,pu.out⟩
    ·have Hm:(sn.toList == sb.toList)=false:=by rw[dQ,dQ,fl.out,aS.out];simpa using λe:x.set.name=bb=>jh e.symm
     have bl:=jq (Mf (x:=x.set) dM jh);clear dM jh;by_cases ht:ty=1
     ·have HX:=jq (HN.out (bl.out.2 (by rw[di.out];exact ht)));subst ht;go_wp2_with fail;go_quiet (fail);obtain⟨w2,aj⟩:=aCQ ((wr.alloc (.cells #[.string sn,.int .i64 1,.int .i64 x.set.life,.slice Ad x.set.data.length cd] 26)).drewN nq);rw[aj];have cT:Below wr.heap.size wr w2:=by rw[<-aj];exact below_drewN ((vQ _ _).alloc (bQ _) _) _
      have p1:w2.cell? ⟨wr.heap.size,1,none⟩=some (.int .i64 1):=by rw[<-aj];simp[go_sem]
      have g02:w2.cell? ⟨b2,o2+k,none⟩=some (.string sb):=aBX cT g0;have eV:=jq (HB.out.trans (cT.mono HB.out.size));have pu:=aBY az cT;clear cT aj g0;go_wp2_with fail;go_roundw
      case rel=>exact⟨k+1,by omega,by go_num,jq eV.out,jq HX.out⟩
      case measure=>simp[intOf] <;> omega
     ·have HX:Hid (r=false):=jq (HF.out λh=>ht (by have:=bl.out.1 h;rwa [di.out] at this));have t4:(ty != 1)=true:=by simpa using ht
      clear ht;go_wp2_with fail;go_quiet (fail);obtain⟨w2,aj⟩:=aCQ ((wr.alloc (.cells #[.string sn,.int .i64 ty,.int .i64 x.set.life,.slice Ad x.set.data.length cd] 26)).drewN nq);rw[aj];have cT:Below wr.heap.size wr w2:=by rw[<-aj];exact below_drewN ((vQ _ _).alloc (bQ _) _) _
      have p1:w2.cell? ⟨wr.heap.size,1,none⟩=some (.int .i64 ty):=by rw[<-aj];simp[go_sem]
      have g02:w2.cell? ⟨b2,o2+k,none⟩=some (.string sb):=aBX cT g0;have eV:=jq (HB.out.trans (cT.mono HB.out.size));have pu:=aBY az cT;clear cT aj g0;go_wp2_with fail;go_ret;exact⟨ag HX.out.symm,pu.out⟩
  ·go_wp2_with fail;go_ret;refine⟨ag ?_,az.out⟩;rw[<-HR.out];exact (Np.ba λi x b hx hb=>HA.out i x b (by have:=(cQ.1 hx).1;omega) hx hb).symm
def oz(w:World)(B:Nat)(xs:List Value):Prop:=∀ j x,xs[j]?=some x->w.cell? ⟨B,j,none⟩=some x/\w.frozen? ⟨B,j,none⟩=false
theorem oz.keep{w w':World}{B n:Nat}{xs:List Value}(h:oz w B xs)(hb:Below n w w')(hB:B<n):oz w' B xs:=λj x hx=>by
 obtain⟨h3,h4⟩:=h j x hx;exact⟨(hb.cell (p:=⟨B,j,none⟩) hB).trans h3,(hb.frozen (p:=⟨B,j,none⟩) hB).trans h4⟩
theorem oz.store{w:World}{B:Nat}{xs:List Value}(h:oz w B xs){k:Nat}(hk:k<xs.length)(u:Value):oz (w.setCell ⟨B,k,none⟩ u) B (xs.set k u):=λj x hx=>by
 rw[List.getElem?_set] at hx;by_cases Be:k=j
 ·subst Be;rw[Qb rfl,Qb hk] at hx
  cases hx
  obtain⟨h3,h4⟩:=h k _ (aQ hk);exact⟨by simp[World.cell?_setCell_same,h3],(World.frozen?_setCell _ _ _ _).trans h4⟩
 ·rw[Qc Be] at hx;obtain⟨h3,h4⟩:=h j x hx;exact⟨by rw[xQ _ _ _ _ (by simp <;> omega)];exact h3,(World.frozen?_setCell _ _ _ _).trans h4⟩
def zN(_:World)(_:Nat)(e:List Value)(x:Bool):Prop:=e = [.bool x]
theorem aaZ:dL zN:=λ_ _ _ _ _ h _=>h
theorem oz.slr{w:World}{B:Nat}{xs:List Bool}(h:oz w B (xs.map Value.bool))(hB:B<w.heap.size)(hl:xs.length<=140737488355328):SlR zN 1 w w.heap.size (.slice (some ⟨B,0,none⟩) xs.length xs.length) xs:=
 ⟨_,_,rfl,bQ _,hl,λj x hx=>by
  obtain⟨h3,_⟩:=h j (.bool x) (by rw[List.getElem?_map,hx];rfl);refine⟨B,0,[.bool x],rfl,hB,rfl,λi v hv=>?_,rfl⟩
  match i,hv with
  | 0,hv=>cases hv;simpa using h3⟩
theorem TG{w:World}{B n c:Nat}{A:Option Addr}{xs:List Bool}(h:SlR zN 1 w B (.slice A n c) xs){k:Nat}{x:Bool}(hx:xs[k]?=some x):∃ (b o:Nat),A=some ⟨b,o,none⟩/\b<B/\w.cell? ⟨b,o+k,none⟩=some (.bool x):=by
 obtain⟨A',c',hv,hc,_,he⟩:=h;simp only[Value.slice.injEq] at hv;obtain⟨rfl,_,_⟩:=hv;obtain⟨b,o,e,rfl,hb,_,hce,rfl⟩:=he k x hx;exact⟨b,o,rfl,hb,by have:=hce 0 _ rfl;simpa using this⟩
theorem Y2(n j:Nat)(hj:j<n):(madeCells #[Value.bool false] n)[j]?=some (.bool false):=by
 unfold madeCells;simp[hj,Nat.mod_one]
theorem Tryz.infoBoolZ:(prog.info? 4).map (λi=>(i.zero,i.size,i.bytes))=some (some (.bool false),1,1):=by kernel_rfl
theorem Y3(n:Nat)(hn:n<=20000)(w:World):(Instr.makeSlice 237 (.int .i64 n) (.int .i64 n)).run prog w = .ok (.slice (some ⟨w.heap.size,0,none⟩) n n) (w.alloc (.cells (madeCells #[Value.bool false] n) 4)):=by
 obtain⟨i,hi,hp⟩:=Option.map_eq_some_iff.1 Tryz.infoBoolZ;simp only[Prod.mk.injEq] at hp;obtain⟨hz,hs,hb⟩:=hp
 have:=run_make (P:=prog) w 237 4 i (.bool false) underlying237 hi hz .i64 .i64 n n (by omega) (Int.le_refl _) (by rw[hb];omega) (by omega)
 rw[hs] at this;simpa [Value.cells] using this
def Np.nS(x:Np.Signed)(b:List UInt8):Bool:=b == []||(x.set.type != 2&&x.set.type != 1)
def Np.mM(l:List Np.Signed)(B:List (List UInt8)):List Bool:=(l.zip B).map λp=>Np.nS p.1 p.2
theorem Pf{l:List Np.Signed}{B:List (List UInt8)}{k:Nat}{x:Np.Signed}{b:List UInt8}(hx:l[k]?=some x)(hb:B[k]?=some b):(Np.mM l B)[k]?=some (Np.nS x b):=by
 unfold Np.mM;rw[List.getElem?_map,(List.getElem?_zip_eq_some (z:=(x,b))).2 ⟨hx,hb⟩];rfl
theorem agJ(a:ByteArray)(v:Value)(l:List Np.Signed)(cg:l.length<=20000)(ho:Np.InOrder ⟨a.data.toList,l⟩)(hv:∀ x∈l,Np.aA x.set.name=true)(w:World)(hd:SlR bP 5 w w.heap.size v l) :
 Calls prog 238 #[.agg #[.string a,v]] w (wR zN 1 w (Np.mM l (Np.ea ⟨a.data.toList,l⟩))):=by
 obtain⟨B,hB⟩:=aCQ (Np.ea ⟨a.data.toList,l⟩);have jE:B.length=l.length:=by rw[<-hB];exact Np.sX _
 have HB':=jq hB;have fy:=jq jE;have l9:Hid ((Np.mM l B).length=l.length):=jq (by unfold Np.mM;rw[List.length_map,List.length_zip,jE,Nat.min_self]);have HD:=jq hd;have HO:=jq ho;have HV:=jq hv;obtain⟨A,c,rfl,bq,bN⟩:=ak hd;rw[hB];clear hd ho hv hB jE;have HW:Hid (∀ o,Below w.heap.size w (w.alloc o)):=jq (λo=>(vQ _ w).alloc (bQ _) _);go_enter func238,ntmps238;go_wp2_with fail;refine (PG a _ l cg HO.out HV.out _ (HD.out.later bH dH (HW.out _))).mono ?_;rintro e w1 ⟨bv,rfl,il,aB⟩;have eh:w.heap.size<w1.heap.size:=by have:=aB.size;simp at this;omega
 have c1':w1.cell? ⟨w.heap.size,1,none⟩=some (.slice A l.length c):=by rw[aB.cell (by simp)];go_simp
 have aq:=jq ((HW.out _).trans (aB.mono (by simp)));obtain⟨A2,c2,rfl,fF,eK⟩:=ak il;rw[HB'.out] at fF eK il |-;rw[fy.out] at fF eK il |-;have ph:=jq il;clear aB il;have gD:=Y3 l.length cg;have HZ:Hid (∀ j,j<l.length->(madeCells #[Value.bool false] l.length)[j]?=some (.bool false)):=jq (λj hj=>Y2 _ _ hj);generalize madeCells #[Value.bool false] l.length=Z at gD HZ;go_wp2_with fail;obtain⟨Bs,pB⟩:=aCQ w1.heap.size;obtain⟨w2,aj⟩:=aCQ (w1.alloc (.cells Z 4));have ae:Below Bs w1 w2:=by rw[<-aj,<-pB];exact (vQ _ _).alloc (bQ _) _
 have aK:Bs<w2.heap.size:=by rw[<-aj];simp;omega
 have zp:Hid (oz w2 Bs (((Np.mM l B).take 0).map Value.bool++List.replicate (l.length - 0) (Value.bool false))):=jq (λj x hx=>by
  rw[List.take_zero,List.map_nil,List.nil_append,Nat.sub_zero,List.getElem?_replicate] at hx;split at hx
  ·rename_i hj
   cases hx
   refine⟨?_,?_⟩
   ·rw[<-aj,<-pB];simp[go_sem];exact HZ.out j hj
   ·rw[<-aj,<-pB];simp[go_sem]
  ·cases hx)
 have ai:=jq ae;rw[aj,pB];clear aj ae gD HZ;go_loopw [5] (λi wr=>∃ k:Nat,k<=l.length/\i = .int .i64 k/\Hid (Below Bs w1 wr)/\Bs<wr.heap.size/\Hid (oz wr Bs (((Np.mM l B).take k).map Value.bool++List.replicate (l.length - k) (Value.bool false)))) (λi _=>l.length - (intOf i).toNat)
 case atStart=>exact⟨0,jQ _,rfl,ai,aK,zp⟩
 case round=>
  obtain⟨k,hk,rfl,HB,uV,HR⟩:=hrel;have d1:wr.cell? ⟨w.heap.size,1,none⟩=some (.slice A l.length c):=aBX HB.out c1';have az:Hid (Below w.heap.size w wr):=aBY aq HB.out;have dJ:w.heap.size<wr.heap.size:=by omega
  by_cases aa:k<l.length
  ·obtain⟨x,ac⟩:∃ x,l[k]?=some x:=⟨_,aQ aa⟩;obtain⟨bb,dU⟩:∃ bb,B[k]?=some bb:=⟨_,aQ (by rw[fy.out];omega)⟩;obtain⟨b,o,c',sn,dv,sv,hA,bR,_,ar,cZ,aO,bh,f0,f1,f2,f3,f4⟩:=fR (HD.out.keep bH az.out) ac
   cases hA
   obtain⟨b2,o2,sb,rfl,xV,lP,IH,g0⟩:=qX ((ph.out.keep nT (HB.out.aDQ))) dU;have fl:=jq lP;have bV:(0:Int)<=(k:Int):=by omega
   have bT:(k:Int)<(l.length:Int):=by omega
   have aB:b<wr.heap.size:=by omega
   have bO:Hid (∀ q,Np.nS x bb=q->∀ W,oz W Bs (((Np.mM l B).take k).map Value.bool++List.replicate (l.length - k) (Value.bool false))->oz (W.setCell ⟨Bs,k,none⟩ (.bool q)) Bs (((Np.mM l B).take (k+1)).map Value.bool++List.replicate (l.length - (k+1)) (Value.bool false))):=jq (λq hq W hW=>by
    obtain⟨WP,he⟩:=cQ.1 (Pf ac dU);have h1:=hW.store (k:=k) (by rw[List.length_append,List.length_map,List.length_take,List.length_replicate,l9.out];omega) (.bool q);have h2:(((Np.mM l B).take k).map Value.bool++List.replicate (l.length - k) (Value.bool false)).set k (Value.bool q)=((Np.mM l B).take (k+1)).map Value.bool++List.replicate (l.length - (k+1)) (Value.bool false):=by
     rw[show l.length - k=(l.length - (k+1))+1 by omega,List.replicate_succ,List.set_append_right _ _ (by rw[List.length_map,List.length_take];omega),List.length_map,List.length_take,l9.out,show k - min k l.length=0 by omega,List.set_cons_zero,fQ WP,he,hq,List.map_append,List.append_assoc];rfl
    rw[h2] at h1;exact h1)
   obtain⟨iW,la⟩:=HR.out k (Value.bool false) (by rw[oQ (by rw[List.length_map,List.length_take];omega),List.length_map,List.length_take,l9.out,show k - min k l.length=0 by omega,List.getElem?_replicate,Qb (by omega)]);obtain⟨ty,dC⟩:=aCQ x.set.type;have l7:Hid (∀ q,(bb == []||(ty != 2&&ty != 1))=q->Np.nS x bb=q):=jq (λq h=>by unfold Np.nS;rw[dC];exact h);rw[dC] at f1;clear ac dU ar lP aO bh dC f2 f3 f4;by_cases dM:bb = []
   ·obtain rfl:sb=⟨#[]⟩:=mR (by rw[fl.out,dM]);have HX:=jq (bO.out true (l7.out true (by simp[dM])));clear dM;go_wp2_with fail;go_roundw
    case rel=>exact⟨k+1,by omega,by go_num,jq (HB.out.setCell (by simp) _),by simpa using uV,jq (HX.out _ HR.out)⟩
    case measure=>simp[intOf] <;> omega
   ·have yf:(sb.toList == [])=false:=by rw[dQ,fl.out];simpa using dM
    by_cases h2:ty=2
    ·have HX:=jq (bO.out false (l7.out false (by simp[dM,h2])));subst h2;clear dM;go_wp2_with fail;go_roundw
     case rel=>exact⟨k+1,by omega,by go_num,jq (HB.out.setCell (by simp) _),by simpa using uV,jq (HX.out _ HR.out)⟩
     case measure=>simp[intOf] <;> omega
    ·by_cases h1:ty=1
     ·have HX:=jq (bO.out false (l7.out false (by simp[dM,h1])));subst h1;clear dM;go_wp2_with fail;go_roundw
      case rel=>exact⟨k+1,by omega,by go_num,jq (HB.out.setCell (by simp) _),by simpa using uV,jq (HX.out _ HR.out)⟩
      case measure=>simp[intOf] <;> omega
     ·have HX:=jq (bO.out true (l7.out true (by simp[h1,h2])));have t1:(ty != 2)=true:=by simpa using h2
      have t2:(ty != 1)=true:=by simpa using h1
      clear dM h1 h2;go_wp2_with fail;go_roundw
      case rel=>exact⟨k+1,by omega,by go_num,jq (HB.out.setCell (by simp) _),by simpa using uV,jq (HX.out _ HR.out)⟩
      case measure=>simp[intOf] <;> omega
  ·have HE:Hid (SlR zN 1 wr wr.heap.size (.slice (some ⟨Bs,0,none⟩) l.length l.length) (Np.mM l B)):=jq (by
    have h1:=HR.out;rw[kQ (by rw[l9.out];omega),show l.length - k=0 by omega,List.replicate_zero,List.append_nil] at h1;have h2:=h1.slr uV (by rw[l9.out];omega);rw[l9.out] at h2;exact h2)
   go_wp2_with fail;go_ret;exact⟨_,rfl,HE.out,az.out⟩
theorem Pg{x:Np.Signed}{b:List UInt8} : (Np.nS x b=false)↔(b≠[]/\(x.set.type=2\/x.set.type=1)):=by
 unfold Np.nS;by_cases h0:b = [] <;> by_cases h2:x.set.type=2 <;> by_cases h1:x.set.type=1 <;> simp[h0,h2,h1]
def Np.yN(a:List UInt8)(l:List Np.Signed)(B:List (List UInt8)):Prop:=∀ (k:Nat) (x:Np.Signed) (b:List UInt8),l[k]?=some x->B[k]?=some b->Np.dY a x.sigs/\(Np.nS x b=false->x.sigs = [])
theorem aeX(a:ByteArray)(v:Value)(l:List Np.Signed)(cg:l.length<=20000)(ho:Np.InOrder ⟨a.data.toList,l⟩)(hv:∀ x∈l,Np.aA x.set.name=true)(w:World)(hd:SlR bP 5 w w.heap.size v l) :
 Calls prog 163 #[.agg #[.string a,v]] w (aFQ w.heap.size w (.bool (Np.yes (Np.yN a.data.toList l (Np.ea ⟨a.data.toList,l⟩))))):=by
 obtain⟨B,hB⟩:=aCQ (Np.ea ⟨a.data.toList,l⟩);have jE:B.length=l.length:=by rw[<-hB];exact Np.sX _
 rw[hB];obtain⟨r,hr⟩:=aCQ (Np.yes (Np.yN a.data.toList l B));rw[hr];have HR:=jq hr;have HB':=jq hB;have fy:=jq jE;have l9:Hid ((Np.mM l B).length=l.length):=jq (by unfold Np.mM;rw[List.length_map,List.length_zip,jE,Nat.min_self]);have HD:=jq hd;have HO:=jq ho;have HV:=jq hv;obtain⟨A,c,rfl,bq,bN⟩:=ak hd;clear hd ho hv hB jE hr;have HW:Hid (∀ o,Below w.heap.size w (w.alloc o)):=jq (λo=>(vQ _ w).alloc (bQ _) _);go_enter func163,ntmps163;go_wp2_with fail;refine (agJ a _ l cg HO.out HV.out _ (HD.out.later bH dH (HW.out _))).mono ?_;rintro e w1 ⟨bv,rfl,il,aB⟩;have eh:w.heap.size<w1.heap.size:=by have:=aB.size;simp at this;omega
 have c0':w1.cell? ⟨w.heap.size,0,none⟩=some (.string a):=by rw[aB.cell (by simp)];go_simp
 have c1':w1.cell? ⟨w.heap.size,1,none⟩=some (.slice A l.length c):=by rw[aB.cell (by simp)];go_simp
 have aq:=jq ((HW.out _).trans (aB.mono (by simp)));obtain⟨A2,c2,rfl,fF,eK⟩:=ak il;rw[HB'.out] at fF eK il |-;rw[l9.out] at fF eK il |-;have ph:=jq il;clear aB il;go_wp2_with fail;go_loopw [4] (λi wr=>∃ k:Nat,k<=l.length/\i = .int .i64 k/\Hid (Below w1.heap.size w1 wr)/\Hid (∀ (j:Nat) (x:Np.Signed) (b:List UInt8),j<k->l[j]?=some x->B[j]?=some b->Np.dY a.data.toList x.sigs/\(Np.nS x b=false->x.sigs = []))) (λi _=>l.length - (intOf i).toNat)
 case atStart=>exact⟨0,jQ _,rfl,jq (vQ _ _),jq (λj x b hj=>by omega)⟩
 case round=>
  obtain⟨k,hk,rfl,HB,HA⟩:=hrel;have an:=HB.out.size;have az:=aBY aq HB.out;have d0:wr.cell? ⟨w.heap.size,0,none⟩=some (.string a):=aBX HB.out c0';have d1:wr.cell? ⟨w.heap.size,1,none⟩=some (.slice A l.length c):=aBX HB.out c1';have dJ:w.heap.size<wr.heap.size:=by omega
  by_cases aa:k<l.length
  ·obtain⟨x,ac⟩:∃ x,l[k]?=some x:=⟨_,aQ aa⟩;obtain⟨bb,dU⟩:∃ bb,B[k]?=some bb:=⟨_,aQ (by rw[fy.out];omega)⟩;obtain⟨b,o,c',sn,dv,sv,hA,bR,_,ar,cZ,aO,bh,f0,f1,f2,f3,f4⟩:=fR (HD.out.keep bH az.out) ac
   cases hA
   obtain⟨As,cs,rfl,_,_⟩:=ak bh;obtain⟨b2,o2,rfl,xV,g0⟩:=TG (ph.out.keep aaZ HB.out) (Pf ac dU);have HN:Hid (Np.dY a.data.toList x.sigs->(Np.nS x bb=false->x.sigs = [])->∀ (j:Nat) (y:Np.Signed) (b:List UInt8),j<k+1->l[j]?=some y->B[j]?=some b->Np.dY a.data.toList y.sigs/\(Np.nS y b=false->y.sigs = [])):=jq (λh1 h2 j y b hj hy hb=>by
    by_cases e:j=k
    ·subst e;rw[ac] at hy;rw[dU] at hb;cases hy;cases hb;exact⟨h1,h2⟩
    ·exact HA.out j y b (by omega) hy hb)
   have HF:Hid (¬ (Np.dY a.data.toList x.sigs/\(Np.nS x bb=false->x.sigs = []))->r=false):=jq (λh=>by
    rw[<-HR.out];exact Np.aC λq=>h (q k _ _ ac dU))
   have bV:(0:Int)<=(k:Int):=by omega
   have bT:(k:Int)<(l.length:Int):=by omega
   have aB:b<wr.heap.size:=by omega
   have ae:b2<wr.heap.size:=by omega
   have qD:∀ (g:bE wr) (p:Addr),p.block<wr.heap.size->g.w.cell? p=wr.cell? p:=λg p h=>g.cell p h;obtain⟨bf,Hk⟩:=aCQ (Np.yes (Np.dY a.data.toList x.sigs));have dI:=jq Hk;have ci:∀ g:bE wr,Calls prog 151 #[.slice As x.sigs.length cs,.string a] g.w λe w'=>e = .returned (.bool bf)/\Below g.w.heap.size g.w w':=λg=>by
    rw[<-Hk];exact PJ a _ x.sigs g.w ((bh.keep dD (g.below.aDQ)).more eu (by have:=g.size;omega))
   have HC:=jq ci;obtain⟨ow,how⟩:=aCQ (Np.nS x bb);have iw:=jq how;rw[how] at g0;clear ac dU ar aO bh Hk ci how f0 f1 f2 f3
   cases bf with
   | false=>
    have HX:Hid (r=false):=jq (HF.out λh=>by have:=Np.ba h.1;rw[dI.out] at this;cases this);go_wp2_with fail;refine aEK ?_
    repeat (go_big_quiet_step ((go_at_call 151;exact Calls.grow_of (HC.out _))))
    refine wpQuiet_nil ?_;rintro _ ⟨g,rfl⟩;go_wp2_with fail;go_ret;exact⟨ag HX.out.symm,az.out.trans (g.below.aDQ)⟩
   | true=>
    have n7:Hid (Np.dY a.data.toList x.sigs):=jq (Np.fj.1 dI.out)
    cases ow with
    | true=>
     have HX:=jq (HN.out n7.out (λh=>by rw[iw.out] at h;cases h));go_wp2_with fail;refine aEK ?_
     repeat (go_big_quiet_step ((go_at_call 151;exact Calls.grow_of (HC.out _))))
     refine wpQuiet_nil ?_;rintro _ ⟨g,rfl⟩;go_wp2_with fail;go_roundw
     case rel=>exact⟨k+1,by omega,by go_num,aBY HB g.below,jq HX.out⟩
     case measure=>simp[intOf] <;> omega
    | false=>
     obtain⟨N,hN⟩:=aCQ x.sigs.length;have gG:=jq hN;rw[hN] at f4 HC;clear hN;by_cases h0:N=0
     ·have HX:=jq (HN.out n7.out (λ_=>rQ (gG.out.trans h0)));subst h0;go_wp2_with fail;refine aEK ?_
      repeat (go_big_quiet_step ((go_at_call 151;exact Calls.grow_of (HC.out _))))
      refine wpQuiet_nil ?_;rintro _ ⟨g,rfl⟩;go_wp2_with fail;go_roundw
      case rel=>exact⟨k+1,by omega,by go_num,aBY HB g.below,jq HX.out⟩
      case measure=>simp[intOf] <;> omega
     ·have HX:Hid (r=false):=jq (HF.out λh=>h0 (by have:=h.2 iw.out;rw[this] at gG;exact gG.out.symm));have hp:decide ((0:Int)<(N:Int))=true:=by simp;omega
      have hp2:decide (0<N)=true:=by simp;omega
      clear h0;go_wp2_with fail;refine aEK ?_
      repeat (go_big_quiet_step ((go_at_call 151;exact Calls.grow_of (HC.out _))))
      refine wpQuiet_nil ?_;rintro _ ⟨g,rfl⟩;go_wp2_with fail;go_ret;exact⟨ag HX.out.symm,az.out.trans (g.below.aDQ)⟩
  ·go_wp2_with fail;go_ret;refine⟨ag ?_,az.out⟩;rw[<-HR.out];exact (Np.ba λi x b hx hb=>HA.out i x b (by have:=(cQ.1 hx).1;omega) hx hb).symm
theorem alX{z:Np.Zone}(cg:z.sets.length<=20000):Np.RZoneOk z↔((((Np.fh z=true/\Np.ApexH z.apex z.sets)/\Np.zS z.sets)/\Np.pY z.sets (Np.ea z))/\Np.yN z.apex z.sets (Np.ea z)):=by
 constructor
 ·intro h;refine⟨⟨⟨⟨h.right,h.start,h.server,h.fits⟩,λk x hx p h0 hp he=>?_⟩,h.cuts⟩,λk x b hx hb=>⟨h.form x (gQ hx),λho=>?_⟩⟩
  ·obtain⟨hk,rfl⟩:=cQ.1 hx;obtain⟨bT,rfl⟩:=cQ.1 hp;obtain⟨m,rfl⟩:∃ m,k=m+1:=⟨k - 1,by omega⟩;exact h.three m hk he
  ·obtain⟨h1,h2⟩:=Pg.1 ho;exact h.sigs k x b hx hb h1 h2
 ·rintro⟨⟨⟨⟨h1,h2⟩,h3⟩,h4⟩,h5⟩;have bD:=Np.sX z;refine⟨h1,cg,h2.start,h2.server,h2.fits,λi hi he=>?_,h4,λk x b hx hb jh ht=>(h5 k x b hx hb).2 (Pg.2 ⟨jh,ht⟩),λx hx=>?_⟩
  ·exact h3 (i+1) _ (aQ hi) _ (by omega) (aQ (by omega)) he
  ·obtain⟨k,hk,rfl⟩:=nQ.1 hx;exact (h5 k _ _ (aQ hk) (aQ (by omega))).1
theorem ahX(a:ByteArray)(ha:a.size<=140737488355328)(v:Value)(l:List Np.Signed)(cg:l.length<=20000)(w:World)(hd:SlR bP 5 w w.heap.size v l) :
 Calls prog 89 #[.agg #[.string a,v]] w (aFQ w.heap.size w (.bool (Np.yes (Np.VZone ⟨a.data.toList,l⟩)))):=by
 obtain⟨r,hr⟩:=aCQ (Np.yes (Np.VZone ⟨a.data.toList,l⟩));rw[hr];have HR:Hid (Np.yes ((((Np.fh ⟨a.data.toList,l⟩=true/\Np.ApexH a.data.toList l)/\Np.zS l)/\Np.pY l (Np.ea ⟨a.data.toList,l⟩))/\Np.yN a.data.toList l (Np.ea ⟨a.data.toList,l⟩))=r):=jq (by
  rw[<-hr,Np.sw (Np.awQ _)];exact (Np.sw (alX (z:=⟨a.data.toList,l⟩) cg)).symm)
 have HD:=jq hd;obtain⟨A,c,rfl,bq,bN⟩:=ak hd;clear hr hd;have HW:Hid (∀ o,Below w.heap.size w (w.alloc o)):=jq (λo=>(vQ _ w).alloc (bQ _) _);go_enter func89,ntmps89;go_wp2_with fail;obtain⟨w1,ah⟩:=aCQ (w.alloc (.cells #[.string a,.slice A l.length c] 44));have c0:w1.cell? ⟨w.heap.size,0,none⟩=some (.string a):=by rw[<-ah];simp[go_sem]
 have c1:w1.cell? ⟨w.heap.size,1,none⟩=some (.slice A l.length c):=by rw[<-ah];simp[go_sem]
 have bk:w1.heap.size=w.heap.size+1:=by rw[<-ah];simp
 have aq:Hid (Below w.heap.size w w1):=jq (by rw[<-ah];exact HW.out _);rw[ah];clear ah;refine (agZ a ha _ l cg _ (HD.out.later bH dH aq.out)).mono ?_;rintro e w2 ⟨rfl,ae⟩;have aK:=ae.size;have ai:=aBY aq ae;replace c0:=aBX ae c0;replace c1:=aBX ae c1;clear ae
 cases eM:Np.fh ⟨a.data.toList,l⟩ with
 | false=>
  have HX:Hid (r=false):=jq (by rw[<-HR.out];exact Np.aC λh=>by rw[eM] at h;cases h.1.1.1.1);clear eM;go_wp2_with fail;go_ret;exact⟨ag HX.out.symm,ai.out⟩
 | true=>
  have ix:=jq eM;have ho:=Np.VZone.inOrder eM;have HO:=jq ho;have qI:=eM;unfold Np.fh at qI;simp only[Bool.and_eq_true] at qI;have HV:Hid (∀ x∈l,Np.aA x.set.name=true):=jq (λx hx=>EM (Np.Da qI.2 x hx));have lD:Hid (∀ x∈l,x.set.name≠[]):=jq ho.name;clear eM qI ho;go_wp2_with fail;refine (ahK a _ l _ (HD.out.later bH dH ai.out)).mono ?_;rintro e w3 ⟨rfl,al⟩;have eF:=al.size;have am:=aBY ai al;replace c0:=aBX al c0;replace c1:=aBX al c1;clear al
  cases DU:Np.yes (Np.ApexH a.data.toList l) with
  | false=>
   have HX:Hid (r=false):=jq (by rw[<-HR.out];exact Np.aC λh=>sB DU h.1.1.1.2);clear DU;go_wp2_with fail;go_ret;exact⟨ag HX.out.symm,am.out⟩
  | true=>
   have Ss:=jq (Np.fj.1 DU);clear DU;go_wp2_with fail;refine (ahZ a _ l cg lD.out _ (HD.out.later bH dH am.out)).mono ?_;rintro e w4 ⟨rfl,aw⟩;have fd:=aw.size;have aP:=aBY am aw;replace c0:=aBX aw c0;replace c1:=aBX aw c1;clear aw
   cases DV:Np.yes (Np.zS l) with
   | false=>
    have HX:Hid (r=false):=jq (by rw[<-HR.out];exact Np.aC λh=>sB DV h.1.1.2);clear DV;go_wp2_with fail;go_ret;exact⟨ag HX.out.symm,aP.out⟩
   | true=>
    have St:=jq (Np.fj.1 DV);clear DV;go_wp2_with fail;refine (aeY a _ l cg HO.out HV.out _ (HD.out.later bH dH aP.out)).mono ?_;rintro e w5 ⟨rfl,aJ⟩;have iJ:=aJ.size;have cm:=aBY aP aJ;replace c0:=aBX aJ c0;replace c1:=aBX aJ c1;clear aJ
    cases DW:Np.yes (Np.pY l (Np.ea ⟨a.data.toList,l⟩)) with
    | false=>
     have HX:Hid (r=false):=jq (by rw[<-HR.out];exact Np.aC λh=>sB DW h.1.2);clear DW;go_wp2_with fail;go_ret;exact⟨ag HX.out.symm,cm.out⟩
    | true=>
     have FZ:=jq (Np.fj.1 DW);clear DW;go_wp2_with fail;refine (aeX a _ l cg HO.out HV.out _ (HD.out.later bH dH cm.out)).mono ?_;rintro e w6 ⟨rfl,aR⟩;have iq:=aR.size;have du:=aBY cm aR;replace c0:=aBX aR c0;replace c1:=aBX aR c1;clear aR
     cases rP:Np.yes (Np.yN a.data.toList l (Np.ea ⟨a.data.toList,l⟩)) with
     | false=>
      have HX:Hid (r=false):=jq (by rw[<-HR.out];exact Np.aC λh=>sB rP h.2);clear rP;go_wp2_with fail;go_ret;exact⟨ag HX.out.symm,du.out⟩
     | true=>
      have F0:=jq (Np.fj.1 rP);clear rP;go_wp2_with fail;go_ret;exact⟨ag (by rw[<-HR.out];exact (Np.ba ⟨⟨⟨⟨ix.out,Ss.out⟩,St.out⟩,FZ.out⟩,F0.out⟩).symm),du.out⟩
end
end Go.Proofs.YtfnopgdcaanaiaaGreatDoor
