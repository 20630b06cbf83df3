/- Parts of the proof. No condition. -/
import Derived.Test.YtfnopgdcaanaiaaGreatDoorV10
import Derived.Test.YtfnopgdcaanaiaaGreatDoorV11
import Derived.Test.YtfnopgdcaanaiaaGreatDoorV12
import Derived.Test.YtfnopgdcaanaiaaGreatDoorV13
set_option linter.all false
set_option maxRecDepth 100000
set_option maxHeartbeats 8000000
namespace Go.Proofs.YtfnopgdcaanaiaaGreatDoor
open Go.Proofs.Tryz
section
open Go.RowKit
theorem MG{a b c:List UInt8}(h1:Np.aI a b<=0)(h2:Np.aI b c<=0):Np.aI a c<=0:=by
 by_cases e1:Np.aI a b=0
 ·rw[Np.eY.zero _ _ e1];exact h2
 ·by_cases e2:Np.aI b c=0
  ·rw[<-Np.eY.zero _ _ e2];exact h1
  ·exact Int.le_of_lt (Np.eY.trans a b c (by omega) (by omega))
theorem Ve{a b c:List UInt8}(h1:0<Np.aI a c)(h2:Np.aI a b<0):0<Np.aI b c:=by
 have h3:=Np.eY.anti' _ _ h1;have h4:=Np.eY.trans _ _ _ h3 h2;exact Np.eY.anti _ _ h4
theorem EW{bs:List (List UInt8)}{n i:Nat}(hi:i<n):bs++List.replicate (n - i) []=bs ++ [[]]++List.replicate (n - (i+1)) []:=by
 rw[show n - i=(n - (i+1))+1 by omega,List.replicate_succ,List.append_assoc];rfl
theorem QI{bs:List (List UInt8)}{n i:Nat}{b:List UInt8}(hb:bs.length=i)(hi:i<n):(bs++List.replicate (n - i) []).set i b=bs ++ [b]++List.replicate (n - (i+1)) []:=by
 rw[show n - i=(n - (i+1))+1 by omega,List.replicate_succ,List.set_append_right _ _ (by omega),hb,Nat.sub_self,List.set_cons_zero,List.append_assoc];rfl
def Fj(n0 Bs:Nat)(w1:World)(z:Np.Zone)(H:List (List UInt8))(vk vi:Value)(wr:World):Prop:=
 ∃ (i k:Nat) (bs:List (List UInt8)),i<=z.sets.length/\k<=H.length/\vi = .int .i64 i/\vk = .int .i64 k/\bs.length=i/\Hid (Below Bs w1 wr)/\Hid (fp wr Bs (bs++List.replicate (z.sets.length - i) []))/\Bs<wr.heap.size/\n0<=Bs/\
   Hid (∀ (j:Nat) (x:Np.Signed) (b:List UInt8),z.sets[j]?=some x->bs[j]?=some b->Np.jx (Np.cS z) x.set.name b)/\Hid (∀ (j:Nat) (y:List UInt8) (x:Np.Signed),j<k->H[j]?=some y->z.sets[i]?=some x->Np.aI y x.set.name<=0)
theorem Qu(a:ByteArray)(v:Value)(l:List Np.Signed)(bw:l.length<=20000)(ho:Np.InOrder ⟨a.data.toList,l⟩)(hv:∀ x∈l,Np.aG x.set.name=true)(w:World)(hd:SlR cV 5 w w.heap.size v l) :
 Calls prog 237 #[.agg #[.string a,v]] w (xd RTx 1 w (Np.ej ⟨a.data.toList,l⟩)):=by
 have HD:=jq hd;obtain⟨A,c,rfl,be,bC⟩:=aj hd;have HW:Hid (∀ o,Below w.heap.size w (w.alloc o)):=jq (λo=>(vQ _ w).alloc (bQ _) _);have HO:=jq ho;have HV:=jq hv;have kx:Hid (∀ x∈Np.el (Np.cR a.data.toList l),Np.aG x=true):=jq (λx hx=>by
  have hx:=IJ _ x hx;unfold Np.cR at hx;obtain⟨y,hy,rfl⟩:=List.mem_map.1 hx;exact hv y (List.mem_filter.1 hy).1)
 have LW:Hid (∀ (n:List UInt8) (k:Nat),k<=(Np.el (Np.cR a.data.toList l)).length->(∀ j x,j<k->(Np.el (Np.cR a.data.toList l))[j]?=some x->Np.aI x n<=0)->(∀ j x,k<=j->(Np.el (Np.cR a.data.toList l))[j]?=some x->0<Np.aI x n)->Np.jx (Np.cS ⟨a.data.toList,l⟩) n (Np.jJ (Np.el (Np.cR a.data.toList l)) k n)):=jq (λn k hk h1 h2=>Np.ajQ ho hk h1 h2);have TW:Hid ((Np.el (Np.cR a.data.toList l)).Pairwise λa b=>Np.aI a b<0):=jq (Np.Og ho).1.sorted;have hhl:(Np.el (Np.cR a.data.toList l)).length<=20000:=by
  have h1:=Oi (Np.cR a.data.toList l) (Np.cR a.data.toList l).length;rw[List.take_length] at h1;have h2:(Np.cR a.data.toList l).length<=l.length:=by
   unfold Np.cR;rw[List.length_map];exact List.length_filter_le _ _
  omega
 clear hd ho;go_enter func237,ntmps237;go_wp2_with fail;refine (akK a _ l bw hv _ (HD.out.later bU fD (HW.out _))).mono ?_;rintro e w1 ⟨vh,rfl,Jj,aq⟩;have ba:w.heap.size<w1.heap.size:=by have:=aq.size;simp at this;omega
 have c1:w1.cell? ⟨w.heap.size,1,none⟩=some (.slice A l.length c):=by rw[aq.cell (by simp)];go_simp
 have am:=jq ((HW.out _).trans (aq.mono (by simp)));clear aq hv;generalize Np.el (Np.cR a.data.toList l)=H at *;obtain⟨Ah,ch,rfl,hch,aPX⟩:=aj Jj;have HH:=jq Jj;clear Jj;have gK:=JF l.length bw;have HZ:Hid (∀ j,j<l.length->(madeCells #[Value.string ⟨#[]⟩] l.length)[j]?=some (.string ⟨#[]⟩)):=jq (λj hj=>JE _ _ hj);generalize madeCells #[Value.string ⟨#[]⟩] l.length=Z at gK HZ;go_wp2_with fail;obtain⟨Bs,pw⟩:=aJZ w1.heap.size;obtain⟨w2,ag⟩:=aJZ (w1.alloc (.cells Z 9));have ac:Below Bs w1 w2:=by rw[<-ag,<-pw];exact (vQ _ _).alloc (bQ _) _
 have aN:Bs<w2.heap.size:=by rw[<-ag];simp;omega
 have zD:Hid (fp w2 Bs ([]++List.replicate (l.length - 0) [])):=jq (λj x hx=>by
  rw[List.nil_append,Nat.sub_zero,List.getElem?_replicate] at hx;split at hx
  ·rename_i hj
   cases hx
   refine⟨⟨#[]⟩,rfl,by decide,?_,?_⟩
   ·rw[<-ag,<-pw];simp[go_sem];exact HZ.out j hj
   ·rw[<-ag,<-pw];simp[go_sem]
  ·cases hx)
 have ah:=jq ac;rw[ag,pw];clear ag ac gK HZ;go_loopw [5,6] (λvk vi wr=>Fj w.heap.size Bs w1 ⟨a.data.toList,l⟩ H vk vi wr) (λ_ i _=>l.length - (intOf i).toNat)
 case atStart=>exact⟨0,0,[],jQ _,jQ _,rfl,rfl,rfl,ah,zD,aN,by omega,jq (λj x b _ hb=>by simp at hb),jq (λj y x hj=>by omega)⟩
 case round=>
  obtain⟨i,k,bs,hi,hk,rfl,rfl,bB,HB,HR,vr,OF,HT,HK⟩:=hrel;have hi:i<=l.length:=hi;have d1:wr.cell? ⟨w.heap.size,1,none⟩=some (.slice A l.length c):=aIZ HB.out c1;have aD:Hid (Below w.heap.size w wr):=aIX am HB.out;have bR:w.heap.size<wr.heap.size:=by omega
  by_cases aa:i<l.length
  ·obtain⟨x,ab⟩:∃ x,l[i]?=some x:=⟨_,aQ aa⟩;obtain⟨b,o,c',sn,dv,sv,hA,bj,_,ay,cC,aT,aR,f0,f1,f2,f3,f4⟩:=fE (HD.out.keep bU aD.out) ab
   cases hA
   have HX:=jq ab;have aW:=jq ay;have Yj:sn.size<=60:=by have:=qY (HV.out x (gQ ab));rw[<-ay,bk] at this;exact this
   have jh:(0:Int)<=(i:Int):=by omega
   have rM:(i:Int)<(l.length:Int):=by omega
   have aq:b<wr.heap.size:=by omega
   have uH:Hid (∀ (j:Nat) (y:List UInt8),j<k->H[j]?=some y->Np.aI y sn.data.toList<=0):=jq (λj y hj hy=>by rw[ay];exact HK.out j y x hj hy ab);clear ab ay aT aR f1 f2 f3 f4 HK;go_wp2_with fail;obtain⟨wo,rfl⟩:=aKQ wr;go_loopw [5] (λvk wr=>∃ k:Nat,k<=H.length/\vk = .int .i64 k/\Hid (Below wo.heap.size wo wr)/\Hid (∀ (j:Nat) (y:List UInt8),j<k->H[j]?=some y->Np.aI y sn.data.toList<=0)) (λk _=>H.length - (intOf k).toNat)
   case atStart=>exact⟨k,hk,rfl,jq (vQ _ _),uH⟩
   case round=>
    obtain⟨k,hk,rfl,uy,zj⟩:=hrel;have ub:=uy.out.size;have R3:Hid (SlR RTx 1 wr w1.heap.size (.slice Ah H.length ch) H):=jq ((HH.out.keep mS (HB.out.aKZ)).keep mS (uy.out.aKZ));by_cases mI:k<H.length
    ·obtain⟨y,bX⟩:∃ y,H[k]?=some y:=⟨_,aQ mI⟩;obtain⟨b2,o2,sy,rfl,yi,iC,aXY,g0⟩:=pW R3.out bX;have aXK:sy.size<=60:=by have:=qY (kx.out y (gQ bX));rw[<-iC,bk] at this;exact this
     have HY:=jq bX;have sX:=jq iC;have bF:(0:Int)<=(k:Int):=by omega
     have bL:(k:Int)<(H.length:Int):=by omega
     clear bX iC;go_wp2_with fail;refine (JU sy sn (by omega) (by omega) _).mono ?_;rintro e w6 ⟨rfl,aL⟩;have dj:=jq aL;have kf:=aL.size;clear aL;by_cases eV:Np.aI sy.data.toList sn.data.toList<=0
     ·have HN:Hid (∀ (j:Nat) (y:List UInt8),j<k+1->H[j]?=some y->Np.aI y sn.data.toList<=0):=jq (λj z hj hz=>by
       by_cases e:j=k
       ·subst e;rw[HY.out] at hz;cases hz;rw[<-sX.out];exact eV
       ·exact zj.out j z (by omega) hz)
      go_wp2_with fail;go_roundw
      case rel=>exact⟨k+1,by omega,by go_num,jq (uy.out.trans (dj.out.mono uy.out.size)),jq HN.out⟩
      case measure=>simp[intOf] <;> omega
     ·have FW:Hid (∀ (j:Nat) (y:List UInt8),k<=j->H[j]?=some y->0<Np.aI y sn.data.toList):=jq (λj z hj hz=>by
       by_cases e:j=k
       ·subst e;rw[HY.out] at hz;cases hz;rw[<-sX.out];omega
       ·obtain⟨h1,e1⟩:=cQ.1 HY.out;obtain⟨h2,e2⟩:=cQ.1 hz
        have:=List.pairwise_iff_getElem.1 TW.out k j h1 h2 (by omega)
        rw[e1,e2] at this;exact Ve (by rw[<-sX.out];omega) this)
      have mi:Hid (∀ W',Below Bs w1 W'->Bs<W'.heap.size->fp W' Bs (bs ++ [Np.jJ H k sn.data.toList]++List.replicate (l.length - (i+1)) [])->Fj w.heap.size Bs w1 ⟨a.data.toList,l⟩ H (.int .i64 k) (.int .i64 (i+1)) W'):=jq (λW' h1 h2 h3=>by
       refine⟨i+1,k,bs ++ [Np.jJ H k sn.data.toList],by show i+1<=l.length;omega,hk,by go_num,rfl,by simp[bB],jq h1,jq h3,h2,OF,jq λj x' b' hx' hb'=>?_,jq λj y x' hj hy hx'=>?_⟩
       ·have hx':l[j]?=some x':=hx';by_cases e:j<i
        ·rw[List.getElem?_append_left (by omega)] at hb';exact HT.out j x' b' hx' hb'
        ·have Bm:j=i:=by have:=(cQ.1 hb').1;simp at this;omega
         subst Bm;rw[HX.out] at hx';cases hx';rw[oQ (by omega),bB,Nat.sub_self] at hb'
         cases hb'
         rw[<-aW.out];exact LW.out _ k hk zj.out FW.out
       ·obtain⟨q1,e1⟩:=cQ.1 HX.out;have hx':l[i+1]?=some x':=hx';obtain⟨q2,e2⟩:=cQ.1 hx';have h4:=HO.out.names (show i<i+1 by omega) q2;dsimp only at h4;rw[e1,e2,<-aW.out] at h4;exact MG (zj.out j y hj hy) h4)
      have rr:=jq (uy.out.trans (dj.out.mono uy.out.size));have y9:Hid (Below Bs w1 w6):=aIX HB rr.out;have vq:Bs<w6.heap.size:=by have:=rr.out.size;omega
      have kw:Hid (fp w6 Bs (bs++List.replicate (l.length - i) [])):=jq (HR.out.keep rr.out (by omega));by_cases ji:k=0
      ·have gU:decide ((0:Int)<(k:Int))=false:=by simp;omega
       have iz:decide (0<k)=false:=by simp;omega
       have qk:Hid (Np.jJ H k sn.data.toList = []):=jq (by unfold Np.jJ;rw[Qc (by omega)]);clear ji;go_wp2_with fail;go_roundw
       case rel=>exact mi.out _ y9.out vq (by rw[qk.out,<-EW aa];exact kw.out)
       case measure=>simp[intOf] <;> omega
      ·obtain⟨m,mJ⟩:∃ m,k=m+1:=⟨k - 1,by omega⟩;obtain⟨z,jC⟩:∃ z,H[m]?=some z:=⟨_,aQ (by omega)⟩;obtain⟨b3,o3,sz,DC,WO,lC,Jc,g3⟩:=pW ((HH.out.keep mS (HB.out.aKZ)).keep mS (rr.out.aKZ)) jC;have Yn:sz.size<=60:=by have:=qY (kx.out z (gQ jC));rw[<-lC,bk] at this;exact this
       have B4:z≠[]:=λe=>by have:=kx.out z (gQ jC);rw[e] at this;exact absurd this (by decide)
       have FZ:Hid (Np.inL (Np.eI sn.data.toList) (Np.eI sz.data.toList)=Np.bq sn.data.toList z):=jq (by rw[lC];exact Np.B5 B4);have qk:Hid (Np.jJ H k sn.data.toList=if Np.bq sn.data.toList z=true then z else []):=jq (by unfold Np.jJ;rw[mJ,show m+1 - 1=m by omega,jC];simp);have xM:=jq lC;have gU:decide ((0:Int)<(k:Int))=true:=by simp;omega
       have iz:decide (0<k)=true:=by simp;omega
       have ai:IntKind.i64.wrap ((k:Int) - 1)=(m:Int):=by rw[IntWalk.i64_in _ (by omega)];omega
       have jD:(0:Int)<=(m:Int):=by omega
       have rO:(m:Int)<(H.length:Int):=by omega
       clear jC lC mJ ji B4;simp only[Option.some.injEq,Addr.mk.injEq,and_true] at DC;obtain⟨rfl,rfl⟩:=DC;go_wp2_with fail;refine (ES sn sz (by omega) (by omega) _).mono ?_;rw[FZ.out];rintro e w7 ⟨rfl,cW⟩;have fG:=jq cW;have qG:=cW.size;clear cW;have rb:Hid (Below Bs w1 w7):=aIX y9 fG.out;have An:Bs<w7.heap.size:=by omega
       have uT:Hid (fp w7 Bs (bs++List.replicate (l.length - i) [])):=jq (kw.out.keep fG.out (by omega));have g37:w7.cell? ⟨b2,o2+m,none⟩=some (.string sz):=aIZ fG.out g3;obtain⟨s0,_,_,iW,oG⟩:=uT.out i [] (by rw[oQ (by omega),bB,Nat.sub_self,List.getElem?_replicate,Qb (by omega)])
       cases hu:Np.bq sn.data.toList z with
       | true=>
        have ir:Hid (Np.jJ H k sn.data.toList=sz.data.toList):=jq (by rw[qk.out,hu,Qb rfl,xM.out]);clear hu;go_wp2_with fail;go_roundw
        case rel=>exact mi.out _ (rb.out.setCell (by simp) _) (by simpa using An) (by rw[ir.out,<-QI bB aa];exact uT.out.store (by rw[List.length_append,List.length_replicate];omega) sz Jc)
        case measure=>simp[intOf] <;> omega
       | false=>
        have ir:Hid (Np.jJ H k sn.data.toList = []):=jq (by rw[qk.out,hu];rfl);clear hu;go_wp2_with fail;go_roundw
        case rel=>exact mi.out _ rb.out An (by rw[ir.out,<-EW aa];exact uT.out)
        case measure=>simp[intOf] <;> omega
    ·have FW:Hid (∀ (j:Nat) (y:List UInt8),k<=j->H[j]?=some y->0<Np.aI y sn.data.toList):=jq (λj z hj hz=>by have:=(cQ.1 hz).1;omega);have oM:decide ((k:Int)<(H.length:Int))=false:=by simp;omega
     have mi:Hid (∀ W',Below Bs w1 W'->Bs<W'.heap.size->fp W' Bs (bs ++ [Np.jJ H k sn.data.toList]++List.replicate (l.length - (i+1)) [])->Fj w.heap.size Bs w1 ⟨a.data.toList,l⟩ H (.int .i64 k) (.int .i64 (i+1)) W'):=jq (λW' h1 h2 h3=>by
      refine⟨i+1,k,bs ++ [Np.jJ H k sn.data.toList],by show i+1<=l.length;omega,hk,by go_num,rfl,by simp[bB],jq h1,jq h3,h2,OF,jq λj x' b' hx' hb'=>?_,jq λj y x' hj hy hx'=>?_⟩
      ·have hx':l[j]?=some x':=hx';by_cases e:j<i
       ·rw[List.getElem?_append_left (by omega)] at hb';exact HT.out j x' b' hx' hb'
       ·have Bm:j=i:=by have:=(cQ.1 hb').1;simp at this;omega
        subst Bm;rw[HX.out] at hx';cases hx';rw[oQ (by omega),bB,Nat.sub_self] at hb'
        cases hb'
        rw[<-aW.out];exact LW.out _ k hk zj.out FW.out
      ·obtain⟨q1,e1⟩:=cQ.1 HX.out;have hx':l[i+1]?=some x':=hx';obtain⟨q2,e2⟩:=cQ.1 hx';have h4:=HO.out.names (show i<i+1 by omega) q2;dsimp only at h4;rw[e1,e2,<-aW.out] at h4;exact MG (zj.out j y hj hy) h4)
     have rr:=jq (uy.out);have y9:Hid (Below Bs w1 wr):=aIX HB rr.out;have vq:Bs<wr.heap.size:=by have:=rr.out.size;omega
     have kw:Hid (fp wr Bs (bs++List.replicate (l.length - i) [])):=jq (HR.out.keep rr.out (by omega));by_cases ji:k=0
     ·have gU:decide ((0:Int)<(k:Int))=false:=by simp;omega
      have iz:decide (0<k)=false:=by simp;omega
      have qk:Hid (Np.jJ H k sn.data.toList = []):=jq (by unfold Np.jJ;rw[Qc (by omega)]);clear ji;go_wp2_with fail;go_roundw
      case rel=>exact mi.out _ y9.out vq (by rw[qk.out,<-EW aa];exact kw.out)
      case measure=>simp[intOf] <;> omega
     ·obtain⟨m,mJ⟩:∃ m,k=m+1:=⟨k - 1,by omega⟩;obtain⟨z,jC⟩:∃ z,H[m]?=some z:=⟨_,aQ (by omega)⟩;obtain⟨b3,o3,sz,DC,WO,lC,Jc,g3⟩:=pW ((HH.out.keep mS (HB.out.aKZ)).keep mS (rr.out.aKZ)) jC;have Yn:sz.size<=60:=by have:=qY (kx.out z (gQ jC));rw[<-lC,bk] at this;exact this
      have B4:z≠[]:=λe=>by have:=kx.out z (gQ jC);rw[e] at this;exact absurd this (by decide)
      have FZ:Hid (Np.inL (Np.eI sn.data.toList) (Np.eI sz.data.toList)=Np.bq sn.data.toList z):=jq (by rw[lC];exact Np.B5 B4);have qk:Hid (Np.jJ H k sn.data.toList=if Np.bq sn.data.toList z=true then z else []):=jq (by unfold Np.jJ;rw[mJ,show m+1 - 1=m by omega,jC];simp);have xM:=jq lC;have gU:decide ((0:Int)<(k:Int))=true:=by simp;omega
      have iz:decide (0<k)=true:=by simp;omega
      have ai:IntKind.i64.wrap ((k:Int) - 1)=(m:Int):=by rw[IntWalk.i64_in _ (by omega)];omega
      have jD:(0:Int)<=(m:Int):=by omega
      have rO:(m:Int)<(H.length:Int):=by omega
      clear jC lC mJ ji B4;subst DC;go_wp2_with fail;refine (ES sn sz (by omega) (by omega) _).mono ?_;rw[FZ.out];rintro e w7 ⟨rfl,cW⟩;have fG:=jq cW;have qG:=cW.size;clear cW;have rb:Hid (Below Bs w1 w7):=aIX y9 fG.out;have An:Bs<w7.heap.size:=by omega
      have uT:Hid (fp w7 Bs (bs++List.replicate (l.length - i) [])):=jq (kw.out.keep fG.out (by omega));have g37:w7.cell? ⟨b3,o3+m,none⟩=some (.string sz):=aIZ fG.out g3;obtain⟨s0,_,_,iW,oG⟩:=uT.out i [] (by rw[oQ (by omega),bB,Nat.sub_self,List.getElem?_replicate,Qb (by omega)])
      cases hu:Np.bq sn.data.toList z with
      | true=>
       have ir:Hid (Np.jJ H k sn.data.toList=sz.data.toList):=jq (by rw[qk.out,hu,Qb rfl,xM.out]);clear hu;go_wp2_with fail;go_roundw
       case rel=>exact mi.out _ (rb.out.setCell (by simp) _) (by simpa using An) (by rw[ir.out,<-QI bB aa];exact uT.out.store (by rw[List.length_append,List.length_replicate];omega) sz Jc)
       case measure=>simp[intOf] <;> omega
      | false=>
       have ir:Hid (Np.jJ H k sn.data.toList = []):=jq (by rw[qk.out,hu];rfl);clear hu;go_wp2_with fail;go_roundw
       case rel=>exact mi.out _ rb.out An (by rw[ir.out,<-EW aa];exact uT.out)
       case measure=>simp[intOf] <;> omega
  ·have II:i=l.length:=by omega
   have HE:Hid (SlR RTx 1 wr wr.heap.size (.slice (some ⟨Bs,0,none⟩) l.length l.length) (Np.ej ⟨a.data.toList,l⟩)):=jq (by
    have h1:=HR.out;have e:l.length - i=0:=by omega
    dsimp only at h1;rw[e,List.replicate_zero,List.append_nil] at h1;have h2:=h1.slr vr (by omega);have h3:=Np.UN HO.out (B:=bs) (by rw[bB];exact II) HT.out;rw[<-h3];rw[bB,II] at h2;exact h2)
   clear II;go_wp2_with fail;go_ret;exact⟨_,rfl,HE.out,aD.out⟩
theorem akZ(a:ByteArray)(v:Value)(l:List Np.Signed)(bw:l.length<=20000)(ho:Np.InOrder ⟨a.data.toList,l⟩)(hv:∀ x∈l,Np.aG x.set.name=true)(w:World)(hd:SlR cV 5 w w.heap.size v l) :
 Calls prog 162 #[.agg #[.string a,v]] w (aOJ w.heap.size w (.bool (Np.yes (Np.pZ l (Np.ej ⟨a.data.toList,l⟩))))):=by
 obtain⟨B,hB⟩:=aJZ (Np.ej ⟨a.data.toList,l⟩);have jZ:B.length=l.length:=by rw[<-hB];exact Np.tg _
 obtain⟨r,hr⟩:=aJZ (Np.yes (Np.pZ l (Np.ej ⟨a.data.toList,l⟩)));rw[hr];rw[hB] at hr;have HR:=jq hr;have eK:=jq jZ;have dl:=jq hB;have HD:=jq hd;have HO:=jq ho;have HV:=jq hv;obtain⟨A,c,rfl,be,bC⟩:=aj hd;clear hr hd ho hv hB jZ;have HW:Hid (∀ o,Below w.heap.size w (w.alloc o)):=jq (λo=>(vQ _ w).alloc (bQ _) _);go_enter func162,ntmps162;go_wp2_with fail;refine (Qu a _ l bw HO.out HV.out _ (HD.out.later bU fD (HW.out _))).mono ?_;rintro e w1 ⟨bv,rfl,ix,aq⟩;have cI:w.heap.size<w1.heap.size:=by have:=aq.size;simp at this;omega
 have c1':w1.cell? ⟨w.heap.size,1,none⟩=some (.slice A l.length c):=by rw[aq.cell (by simp)];go_simp
 have am:=jq ((HW.out _).trans (aq.mono (by simp)));obtain⟨A2,c2,rfl,dV,dJ⟩:=aj ix;rw[dl.out] at dV dJ ix |-;rw[eK.out] at dV dJ ix |-;have pb:=jq ix;clear aq ix;go_wp2_with fail;go_loopw [4] (λi wr=>∃ k:Nat,k<=l.length/\i = .int .i64 k/\Hid (Below w1.heap.size w1 wr)/\Hid (∀ j x b,j<k->l[j]?=some x->B[j]?=some b->Np.mb x.set b)) (λi _=>l.length - (intOf i).toNat)
 case atStart=>exact⟨0,jQ _,rfl,jq (vQ _ _),jq (λj x b hj=>by omega)⟩
 case round=>
  obtain⟨k,hk,rfl,HB,HA⟩:=hrel;have al:=HB.out.size;have aD:=aIX am HB.out;have d1:wr.cell? ⟨w.heap.size,1,none⟩=some (.slice A l.length c):=aIZ HB.out c1';by_cases aa:k<l.length
  ·obtain⟨x,ab⟩:∃ x,l[k]?=some x:=⟨_,aQ aa⟩;obtain⟨bb,dO⟩:∃ bb,B[k]?=some bb:=⟨_,aQ (by rw[eK.out];omega)⟩;obtain⟨b,o,c',sn,dv,sv,hA,bj,_,ay,cC,aT,aR,e0,e1,e2,e3,e4⟩:=fE (HD.out.keep bU aD.out) ab
   cases hA
   obtain⟨b2,o2,sb,rfl,yi,pS,Jb,g0⟩:=pW (pb.out.keep mS HB.out) dO;have HN:Hid (Np.mb x.set bb->∀ j x b,j<k+1->l[j]?=some x->B[j]?=some b->Np.mb x.set b):=jq (λh j x b hj hx hb=>by
    by_cases e:j=k
    ·subst e;rw[ab] at hx;rw[dO] at hb;cases hx;cases hb;exact h
    ·exact HA.out j x b (by omega) hx hb)
   have HF:Hid (¬ Np.mb x.set bb->r=false):=jq (λh=>by
    rw[<-HR.out];exact Np.aS λq=>h (q k _ _ ab dO))
   clear ab dO;obtain⟨Ad,cd,rfl,_,_⟩:=aj aT;obtain⟨As,cs,rfl,_,_⟩:=aj aR;have hcell:wr.cell? ⟨w.heap.size,1,none⟩=some (.slice (some ⟨b,o,none⟩) l.length c):=aIZ HB.out c1';have bR:w.heap.size<wr.heap.size:=by omega
   have aq:b<wr.heap.size:=by omega
   have ac:b2<wr.heap.size:=by omega
   have bi:Hid (∀ o,Below w1.heap.size w1 (wr.alloc o)):=jq (λo=>HB.out.alloc HB.out.size _);have o8:Hid (∀ o,Below w.heap.size w (wr.alloc o)):=jq (λo=>aD.out.alloc (by omega) _);have bF:(0:Int)<=(k:Int):=by omega
   have bL:(k:Int)<(l.length:Int):=by omega
   have aW:=jq ay;have er:=jq pS;obtain⟨ty,fB⟩:=aJZ x.set.type;have fK:=jq fB;rw[fB] at e1;clear ay pS aT aR fB e4;by_cases dN:bb = []
   ·obtain rfl:sb=⟨#[]⟩:=mT (by rw[er.out,dN]);have bG:=jq (MK (x:=x.set) dN);clear dN;by_cases h6:ty=6
    ·have HX:Hid (r=false):=jq (HF.out λh=>(bG.out.1 h) (fK.out.trans h6));subst h6;go_wp2_with fail;go_quiet (fail);obtain⟨w2,ag⟩:=aJZ ((wr.alloc (.cells #[.string sn,.int .i64 6,.int .i64 x.set.life,.slice Ad x.set.data.length cd] 26)).drewN nq);rw[ag];have cU:Below wr.heap.size wr w2:=by rw[<-ag];exact below_drewN ((vQ _ _).alloc (bQ _) _) _
     have p1:w2.cell? ⟨wr.heap.size,1,none⟩=some (.int .i64 6):=by rw[<-ag];simp[go_sem]
     have g02:w2.cell? ⟨b2,o2+k,none⟩=some (.string ⟨#[]⟩):=aIZ cU g0;have fk:=jq (HB.out.trans (cU.mono HB.out.size));have pq:=aIX aD cU;clear cU ag g0;go_wp2_with fail;go_ret;exact⟨ae HX.out.symm,pq.out⟩
    ·have HX:=jq (HN.out (bG.out.2 λh=>h6 (fK.out.symm.trans h)));have h6':(ty == 6)=false:=by simpa using h6
     clear h6;go_wp2_with fail;go_quiet (fail);obtain⟨w2,ag⟩:=aJZ ((wr.alloc (.cells #[.string sn,.int .i64 ty,.int .i64 x.set.life,.slice Ad x.set.data.length cd] 26)).drewN nq);rw[ag];have cU:Below wr.heap.size wr w2:=by rw[<-ag];exact below_drewN ((vQ _ _).alloc (bQ _) _) _
     have p1:w2.cell? ⟨wr.heap.size,1,none⟩=some (.int .i64 ty):=by rw[<-ag];simp[go_sem]
     have g02:w2.cell? ⟨b2,o2+k,none⟩=some (.string ⟨#[]⟩):=aIZ cU g0;have fk:=jq (HB.out.trans (cU.mono HB.out.size));have pq:=aIX aD cU;clear cU ag g0;go_wp2_with fail;go_roundw
     case rel=>exact⟨k+1,by omega,by go_num,jq fk.out,jq HX.out⟩
     case measure=>simp[intOf] <;> omega
   ·have BB:(sb.toList == [])=false:=by rw[dQ,er.out];simpa using dN
    by_cases jA:bb=x.set.name
    ·have Ip:(sn.toList == sb.toList)=true:=by rw[dQ,dQ,er.out,aW.out];simpa using jA.symm
     have bG:=jq (ML (x:=x.set) dN jA);clear dN jA;by_cases ht:ty=2\/ty=6\/ty=8\/ty=1
     ·have HX:=jq (HN.out (bG.out.2 (by rw[fK.out];exact ht)));rcases ht with rfl | rfl | rfl | rfl
      ·skip
       go_wp2_with fail;go_quiet (fail);obtain⟨w2,ag⟩:=aJZ ((wr.alloc (.cells #[.string sn,.int .i64 2,.int .i64 x.set.life,.slice Ad x.set.data.length cd] 26)).drewN nq);rw[ag];have cU:Below wr.heap.size wr w2:=by rw[<-ag];exact below_drewN ((vQ _ _).alloc (bQ _) _) _
       have p1:w2.cell? ⟨wr.heap.size,1,none⟩=some (.int .i64 2):=by rw[<-ag];simp[go_sem]
       have g02:w2.cell? ⟨b2,o2+k,none⟩=some (.string sb):=aIZ cU g0;have fk:=jq (HB.out.trans (cU.mono HB.out.size));have pq:=aIX aD cU;clear cU ag g0;go_wp2_with fail;go_roundw
       case rel=>exact⟨k+1,by omega,by go_num,jq fk.out,jq HX.out⟩
       case measure=>simp[intOf] <;> omega
      ·skip
       go_wp2_with fail;go_quiet (fail);obtain⟨w2,ag⟩:=aJZ ((wr.alloc (.cells #[.string sn,.int .i64 6,.int .i64 x.set.life,.slice Ad x.set.data.length cd] 26)).drewN nq);rw[ag];have cU:Below wr.heap.size wr w2:=by rw[<-ag];exact below_drewN ((vQ _ _).alloc (bQ _) _) _
       have p1:w2.cell? ⟨wr.heap.size,1,none⟩=some (.int .i64 6):=by rw[<-ag];simp[go_sem]
       have g02:w2.cell? ⟨b2,o2+k,none⟩=some (.string sb):=aIZ cU g0;have fk:=jq (HB.out.trans (cU.mono HB.out.size));have pq:=aIX aD cU;clear cU ag g0;go_wp2_with fail;go_roundw
       case rel=>exact⟨k+1,by omega,by go_num,jq fk.out,jq HX.out⟩
       case measure=>simp[intOf] <;> omega
      ·skip
       go_wp2_with fail;go_quiet (fail);obtain⟨w2,ag⟩:=aJZ ((wr.alloc (.cells #[.string sn,.int .i64 8,.int .i64 x.set.life,.slice Ad x.set.data.length cd] 26)).drewN nq);rw[ag];have cU:Below wr.heap.size wr w2:=by rw[<-ag];exact below_drewN ((vQ _ _).alloc (bQ _) _) _
       have p1:w2.cell? ⟨wr.heap.size,1,none⟩=some (.int .i64 8):=by rw[<-ag];simp[go_sem]
       have g02:w2.cell? ⟨b2,o2+k,none⟩=some (.string sb):=aIZ cU g0;have fk:=jq (HB.out.trans (cU.mono HB.out.size));have pq:=aIX aD cU;clear cU ag g0;go_wp2_with fail;go_roundw
       case rel=>exact⟨k+1,by omega,by go_num,jq fk.out,jq HX.out⟩
       case measure=>simp[intOf] <;> omega
      ·skip
       go_wp2_with fail;go_quiet (fail);obtain⟨w2,ag⟩:=aJZ ((wr.alloc (.cells #[.string sn,.int .i64 1,.int .i64 x.set.life,.slice Ad x.set.data.length cd] 26)).drewN nq);rw[ag];have cU:Below wr.heap.size wr w2:=by rw[<-ag];exact below_drewN ((vQ _ _).alloc (bQ _) _) _
       have p1:w2.cell? ⟨wr.heap.size,1,none⟩=some (.int .i64 1):=by rw[<-ag];simp[go_sem]
       have g02:w2.cell? ⟨b2,o2+k,none⟩=some (.string sb):=aIZ cU g0;have fk:=jq (HB.out.trans (cU.mono HB.out.size));have pq:=aIX aD cU;clear cU ag g0;go_wp2_with fail;go_roundw
       case rel=>exact⟨k+1,by omega,by go_num,jq fk.out,jq HX.out⟩
       case measure=>simp[intOf] <;> omega
     ·have HX:Hid (r=false):=jq (HF.out λh=>ht (by have:=bG.out.1 h;rwa [fK.out] at this));have t1:(ty != 2)=true:=by simp;omega
      have t2:(ty != 6)=true:=by simp;omega
      have t3:(ty != 8)=true:=by simp;omega
      have t4:(ty != 1)=true:=by simp;omega
      clear ht;go_wp2_with fail;go_quiet (fail);obtain⟨w2,ag⟩:=aJZ ((wr.alloc (.cells #[.string sn,.int .i64 ty,.int .i64 x.set.life,.slice Ad x.set.data.length cd] 26)).drewN nq);rw[ag];have cU:Below wr.heap.size wr w2:=by rw[<-ag];exact below_drewN ((vQ _ _).alloc (bQ _) _) _
      have p1:w2.cell? ⟨wr.heap.size,1,none⟩=some (.int .i64 ty):=by rw[<-ag];simp[go_sem]
      have g02:w2.cell? ⟨b2,o2+k,none⟩=some (.string sb):=aIZ cU g0;have fk:=jq (HB.out.trans (cU.mono HB.out.size));have pq:=aIX aD cU;clear cU ag g0;go_wp2_with fail;go_ret;exact⟨ae HX.out.symm,pq.out⟩
    ·have Ip:(sn.toList == sb.toList)=false:=by rw[dQ,dQ,er.out,aW.out];simpa using λe:x.set.name=bb=>jA e.symm
     have bG:=jq (MM (x:=x.set) dN jA);clear dN jA;by_cases ht:ty=1
     ·have HX:=jq (HN.out (bG.out.2 (by rw[fK.out];exact ht)));subst ht;go_wp2_with fail;go_quiet (fail);obtain⟨w2,ag⟩:=aJZ ((wr.alloc (.cells #[.string sn,.int .i64 1,.int .i64 x.set.life,.slice Ad x.set.data.length cd] 26)).drewN nq);rw[ag];have cU:Below wr.heap.size wr w2:=by rw[<-ag];exact below_drewN ((vQ _ _).alloc (bQ _) _) _
      have p1:w2.cell? ⟨wr.heap.size,1,none⟩=some (.int .i64 1):=by rw[<-ag];simp[go_sem]
      have g02:w2.cell? ⟨b2,o2+k,none⟩=some (.string sb):=aIZ cU g0;have fk:=jq (HB.out.trans (cU.mono HB.out.size));have pq:=aIX aD cU;clear cU ag g0;go_wp2_with fail;go_roundw
      case rel=>exact⟨k+1,by omega,by go_num,jq fk.out,jq HX.out⟩
      case measure=>simp[intOf] <;> omega
     ·have HX:Hid (r=false):=jq (HF.out λh=>ht (by have:=bG.out.1 h;rwa [fK.out] at this));have t4:(ty != 1)=true:=by simpa using ht
      clear ht;go_wp2_with fail;go_quiet (fail);obtain⟨w2,ag⟩:=aJZ ((wr.alloc (.cells #[.string sn,.int .i64 ty,.int .i64 x.set.life,.slice Ad x.set.data.length cd] 26)).drewN nq);rw[ag];have cU:Below wr.heap.size wr w2:=by rw[<-ag];exact below_drewN ((vQ _ _).alloc (bQ _) _) _
      have p1:w2.cell? ⟨wr.heap.size,1,none⟩=some (.int .i64 ty):=by rw[<-ag];simp[go_sem]
      have g02:w2.cell? ⟨b2,o2+k,none⟩=some (.string sb):=aIZ cU g0;have fk:=jq (HB.out.trans (cU.mono HB.out.size));have pq:=aIX aD cU;clear cU ag g0;go_wp2_with fail;go_ret;exact⟨ae HX.out.symm,pq.out⟩
  ·go_wp2_with fail;go_ret;refine⟨ae ?_,aD.out⟩;rw[<-HR.out];exact (Np.cu λi x b hx hb=>HA.out i x b (by have:=(cQ.1 hx).1;omega) hx hb).symm
def ot(w:World)(B:Nat)(xs:List Value):Prop:=∀ j x,xs[j]?=some x->w.cell? ⟨B,j,none⟩=some x/\w.frozen? ⟨B,j,none⟩=false
theorem ot.keep{w w':World}{B n:Nat}{xs:List Value}(h:ot w B xs)(hb:Below n w w')(hB:B<n):ot w' B xs:=λj x hx=>by
 obtain⟨h3,h4⟩:=h j x hx;exact⟨(hb.cell (p:=⟨B,j,none⟩) hB).trans h3,(hb.frozen (p:=⟨B,j,none⟩) hB).trans h4⟩
theorem ot.store{w:World}{B:Nat}{xs:List Value}(h:ot w B xs){k:Nat}(hk:k<xs.length)(u:Value):ot (w.setCell ⟨B,k,none⟩ u) B (xs.set k u):=λj x hx=>by
 rw[List.getElem?_set] at hx;by_cases Bt:k=j
 ·subst Bt;rw[Qb rfl,Qb hk] at hx
  cases hx
  obtain⟨h3,h4⟩:=h k _ (aQ hk);exact⟨by simp[World.cell?_setCell_same,h3],(World.frozen?_setCell _ _ _ _).trans h4⟩
 ·rw[Qc Bt] at hx;obtain⟨h3,h4⟩:=h j x hx;exact⟨by rw[xQ _ _ _ _ (by simp <;> omega)];exact h3,(World.frozen?_setCell _ _ _ _).trans h4⟩
def zR(_:World)(_:Nat)(e:List Value)(x:Bool):Prop:=e = [.bool x]
theorem agJ:dH zR:=λ_ _ _ _ _ h _=>h
theorem ot.slr{w:World}{B:Nat}{xs:List Bool}(h:ot w B (xs.map Value.bool))(hB:B<w.heap.size)(hl:xs.length<=140737488355328):SlR zR 1 w w.heap.size (.slice (some ⟨B,0,none⟩) xs.length xs.length) xs:=
 ⟨_,_,rfl,bQ _,hl,λj x hx=>by
  obtain⟨h3,_⟩:=h j (.bool x) (by rw[List.getElem?_map,hx];rfl);refine⟨B,0,[.bool x],rfl,hB,rfl,λi v hv=>?_,rfl⟩
  match i,hv with
  | 0,hv=>cases hv;simpa using h3⟩
theorem UQ{w:World}{B n c:Nat}{A:Option Addr}{xs:List Bool}(h:SlR zR 1 w B (.slice A n c) xs){k:Nat}{x:Bool}(hx:xs[k]?=some x):∃ (b o:Nat),A=some ⟨b,o,none⟩/\b<B/\w.cell? ⟨b,o+k,none⟩=some (.bool x):=by
 obtain⟨A',c',hv,hc,_,he⟩:=h;simp only[Value.slice.injEq] at hv;obtain⟨rfl,_,_⟩:=hv;obtain⟨b,o,e,rfl,hb,_,hce,rfl⟩:=he k x hx;exact⟨b,o,rfl,hb,by have:=hce 0 _ rfl;simpa using this⟩
theorem Zy(n j:Nat)(hj:j<n):(madeCells #[Value.bool false] n)[j]?=some (.bool false):=by
 unfold madeCells;simp[hj,Nat.mod_one]
theorem Tryz.infoBoolZ:(prog.info? 4).map (λi=>(i.zero,i.size,i.bytes))=some (some (.bool false),1,1):=by kernel_rfl
theorem Zz(n:Nat)(hn:n<=20000)(w:World):(Instr.makeSlice 237 (.int .i64 n) (.int .i64 n)).run prog w = .ok (.slice (some ⟨w.heap.size,0,none⟩) n n) (w.alloc (.cells (madeCells #[Value.bool false] n) 4)):=by
 obtain⟨i,hi,hp⟩:=Option.map_eq_some_iff.1 Tryz.infoBoolZ;simp only[Prod.mk.injEq] at hp;obtain⟨hz,hs,hb⟩:=hp
 have:=run_make (P:=prog) w 237 4 i (.bool false) underlying237 hi hz .i64 .i64 n n (by omega) (Int.le_refl _) (by rw[hb];omega) (by omega)
 rw[hs] at this;simpa [Value.cells] using this
def Np.nN(x:Np.Signed)(b:List UInt8):Bool:=b == []||(x.set.type != 2&&x.set.type != 1)
def Np.mP(l:List Np.Signed)(B:List (List UInt8)):List Bool:=(l.zip B).map λp=>Np.nN p.1 p.2
theorem PZ{l:List Np.Signed}{B:List (List UInt8)}{k:Nat}{x:Np.Signed}{b:List UInt8}(hx:l[k]?=some x)(hb:B[k]?=some b):(Np.mP l B)[k]?=some (Np.nN x b):=by
 unfold Np.mP;rw[List.getElem?_map,(List.getElem?_zip_eq_some (z:=(x,b))).2 ⟨hx,hb⟩];rfl
theorem alY(a:ByteArray)(v:Value)(l:List Np.Signed)(bw:l.length<=20000)(ho:Np.InOrder ⟨a.data.toList,l⟩)(hv:∀ x∈l,Np.aG x.set.name=true)(w:World)(hd:SlR cV 5 w w.heap.size v l) :
 Calls prog 238 #[.agg #[.string a,v]] w (xd zR 1 w (Np.mP l (Np.ej ⟨a.data.toList,l⟩))):=by
 obtain⟨B,hB⟩:=aJZ (Np.ej ⟨a.data.toList,l⟩);have jZ:B.length=l.length:=by rw[<-hB];exact Np.tg _
 have HB':=jq hB;have eK:=jq jZ;have fJ:Hid ((Np.mP l B).length=l.length):=jq (by unfold Np.mP;rw[List.length_map,List.length_zip,jZ,Nat.min_self]);have HD:=jq hd;have HO:=jq ho;have HV:=jq hv;obtain⟨A,c,rfl,be,bC⟩:=aj hd;rw[hB];clear hd ho hv hB jZ;have HW:Hid (∀ o,Below w.heap.size w (w.alloc o)):=jq (λo=>(vQ _ w).alloc (bQ _) _);go_enter func238,ntmps238;go_wp2_with fail;refine (Qu a _ l bw HO.out HV.out _ (HD.out.later bU fD (HW.out _))).mono ?_;rintro e w1 ⟨bv,rfl,ix,aq⟩;have cI:w.heap.size<w1.heap.size:=by have:=aq.size;simp at this;omega
 have c1':w1.cell? ⟨w.heap.size,1,none⟩=some (.slice A l.length c):=by rw[aq.cell (by simp)];go_simp
 have am:=jq ((HW.out _).trans (aq.mono (by simp)));obtain⟨A2,c2,rfl,dV,dJ⟩:=aj ix;rw[HB'.out] at dV dJ ix |-;rw[eK.out] at dV dJ ix |-;have pb:=jq ix;clear aq ix;have gK:=Zz l.length bw;have HZ:Hid (∀ j,j<l.length->(madeCells #[Value.bool false] l.length)[j]?=some (.bool false)):=jq (λj hj=>Zy _ _ hj);generalize madeCells #[Value.bool false] l.length=Z at gK HZ;go_wp2_with fail;obtain⟨Bs,pw⟩:=aJZ w1.heap.size;obtain⟨w2,ag⟩:=aJZ (w1.alloc (.cells Z 4));have ac:Below Bs w1 w2:=by rw[<-ag,<-pw];exact (vQ _ _).alloc (bQ _) _
 have aN:Bs<w2.heap.size:=by rw[<-ag];simp;omega
 have zD:Hid (ot w2 Bs (((Np.mP l B).take 0).map Value.bool++List.replicate (l.length - 0) (Value.bool false))):=jq (λj x hx=>by
  rw[List.take_zero,List.map_nil,List.nil_append,Nat.sub_zero,List.getElem?_replicate] at hx;split at hx
  ·rename_i hj
   cases hx
   refine⟨?_,?_⟩
   ·rw[<-ag,<-pw];simp[go_sem];exact HZ.out j hj
   ·rw[<-ag,<-pw];simp[go_sem]
  ·cases hx)
 have ah:=jq ac;rw[ag,pw];clear ag ac gK HZ;go_loopw [5] (λi wr=>∃ k:Nat,k<=l.length/\i = .int .i64 k/\Hid (Below Bs w1 wr)/\Bs<wr.heap.size/\Hid (ot wr Bs (((Np.mP l B).take k).map Value.bool++List.replicate (l.length - k) (Value.bool false)))) (λi _=>l.length - (intOf i).toNat)
 case atStart=>exact⟨0,jQ _,rfl,ah,aN,zD⟩
 case round=>
  obtain⟨k,hk,rfl,HB,vr,HR⟩:=hrel;have d1:wr.cell? ⟨w.heap.size,1,none⟩=some (.slice A l.length c):=aIZ HB.out c1';have aD:Hid (Below w.heap.size w wr):=aIX am HB.out;have bR:w.heap.size<wr.heap.size:=by omega
  by_cases aa:k<l.length
  ·obtain⟨x,ab⟩:∃ x,l[k]?=some x:=⟨_,aQ aa⟩;obtain⟨bb,dO⟩:∃ bb,B[k]?=some bb:=⟨_,aQ (by rw[eK.out];omega)⟩;obtain⟨b,o,c',sn,dv,sv,hA,bj,_,ay,cC,aT,aR,f0,f1,f2,f3,f4⟩:=fE (HD.out.keep bU aD.out) ab
   cases hA
   obtain⟨b2,o2,sb,rfl,yi,pS,Jb,g0⟩:=pW ((pb.out.keep mS (HB.out.aKZ))) dO;have er:=jq pS;have bF:(0:Int)<=(k:Int):=by omega
   have bL:(k:Int)<(l.length:Int):=by omega
   have aq:b<wr.heap.size:=by omega
   have dR:Hid (∀ q,Np.nN x bb=q->∀ W,ot W Bs (((Np.mP l B).take k).map Value.bool++List.replicate (l.length - k) (Value.bool false))->ot (W.setCell ⟨Bs,k,none⟩ (.bool q)) Bs (((Np.mP l B).take (k+1)).map Value.bool++List.replicate (l.length - (k+1)) (Value.bool false))):=jq (λq hq W hW=>by
    obtain⟨XH,he⟩:=cQ.1 (PZ ab dO);have h1:=hW.store (k:=k) (by rw[List.length_append,List.length_map,List.length_take,List.length_replicate,fJ.out];omega) (.bool q);have h2:(((Np.mP l B).take k).map Value.bool++List.replicate (l.length - k) (Value.bool false)).set k (Value.bool q)=((Np.mP l B).take (k+1)).map Value.bool++List.replicate (l.length - (k+1)) (Value.bool false):=by
     rw[show l.length - k=(l.length - (k+1))+1 by omega,List.replicate_succ,List.set_append_right _ _ (by rw[List.length_map,List.length_take];omega),List.length_map,List.length_take,fJ.out,show k - min k l.length=0 by omega,List.set_cons_zero,fQ XH,he,hq,List.map_append,List.append_assoc];rfl
    rw[h2] at h1;exact h1)
   obtain⟨iW,oG⟩:=HR.out k (Value.bool false) (by rw[oQ (by rw[List.length_map,List.length_take];omega),List.length_map,List.length_take,fJ.out,show k - min k l.length=0 by omega,List.getElem?_replicate,Qb (by omega)]);obtain⟨ty,fB⟩:=aJZ x.set.type;have gb:Hid (∀ q,(bb == []||(ty != 2&&ty != 1))=q->Np.nN x bb=q):=jq (λq h=>by unfold Np.nN;rw[fB];exact h);rw[fB] at f1;clear ab dO ay pS aT aR fB f2 f3 f4;by_cases dN:bb = []
   ·obtain rfl:sb=⟨#[]⟩:=mT (by rw[er.out,dN]);have HX:=jq (dR.out true (gb.out true (by simp[dN])));clear dN;go_wp2_with fail;go_roundw
    case rel=>exact⟨k+1,by omega,by go_num,jq (HB.out.setCell (by simp) _),by simpa using vr,jq (HX.out _ HR.out)⟩
    case measure=>simp[intOf] <;> omega
   ·have BB:(sb.toList == [])=false:=by rw[dQ,er.out];simpa using dN
    by_cases h2:ty=2
    ·have HX:=jq (dR.out false (gb.out false (by simp[dN,h2])));subst h2;clear dN;go_wp2_with fail;go_roundw
     case rel=>exact⟨k+1,by omega,by go_num,jq (HB.out.setCell (by simp) _),by simpa using vr,jq (HX.out _ HR.out)⟩
     case measure=>simp[intOf] <;> omega
    ·by_cases h1:ty=1
     ·have HX:=jq (dR.out false (gb.out false (by simp[dN,h1])));subst h1;clear dN;go_wp2_with fail;go_roundw
      case rel=>exact⟨k+1,by omega,by go_num,jq (HB.out.setCell (by simp) _),by simpa using vr,jq (HX.out _ HR.out)⟩
      case measure=>simp[intOf] <;> omega
     ·have HX:=jq (dR.out true (gb.out true (by simp[h1,h2])));have t1:(ty != 2)=true:=by simpa using h2
      have t2:(ty != 1)=true:=by simpa using h1
      clear dN h1 h2;go_wp2_with fail;go_roundw
      case rel=>exact⟨k+1,by omega,by go_num,jq (HB.out.setCell (by simp) _),by simpa using vr,jq (HX.out _ HR.out)⟩
      case measure=>simp[intOf] <;> omega
  ·have HE:Hid (SlR zR 1 wr wr.heap.size (.slice (some ⟨Bs,0,none⟩) l.length l.length) (Np.mP l B)):=jq (by
    have h1:=HR.out;rw[kQ (by rw[fJ.out];omega),show l.length - k=0 by omega,List.replicate_zero,List.append_nil] at h1;have h2:=h1.slr vr (by rw[fJ.out];omega);rw[fJ.out] at h2;exact h2)
   go_wp2_with fail;go_ret;exact⟨_,rfl,HE.out,aD.out⟩
theorem P0{x:Np.Signed}{b:List UInt8} : (Np.nN x b=false)↔(b≠[]/\(x.set.type=2\/x.set.type=1)):=by
 unfold Np.nN;by_cases h0:b = [] <;> by_cases h2:x.set.type=2 <;> by_cases h1:x.set.type=1 <;> simp[h0,h2,h1]
def Np.yZ(a:List UInt8)(l:List Np.Signed)(B:List (List UInt8)):Prop:=∀ (k:Nat) (x:Np.Signed) (b:List UInt8),l[k]?=some x->B[k]?=some b->Np.gH a x.sigs/\(Np.nN x b=false->x.sigs = [])
theorem akQ(a:ByteArray)(v:Value)(l:List Np.Signed)(bw:l.length<=20000)(ho:Np.InOrder ⟨a.data.toList,l⟩)(hv:∀ x∈l,Np.aG x.set.name=true)(w:World)(hd:SlR cV 5 w w.heap.size v l) :
 Calls prog 163 #[.agg #[.string a,v]] w (aOJ w.heap.size w (.bool (Np.yes (Np.yZ a.data.toList l (Np.ej ⟨a.data.toList,l⟩))))):=by
 obtain⟨B,hB⟩:=aJZ (Np.ej ⟨a.data.toList,l⟩);have jZ:B.length=l.length:=by rw[<-hB];exact Np.tg _
 rw[hB];obtain⟨r,hr⟩:=aJZ (Np.yes (Np.yZ a.data.toList l B));rw[hr];have HR:=jq hr;have HB':=jq hB;have eK:=jq jZ;have fJ:Hid ((Np.mP l B).length=l.length):=jq (by unfold Np.mP;rw[List.length_map,List.length_zip,jZ,Nat.min_self]);have HD:=jq hd;have HO:=jq ho;have HV:=jq hv;obtain⟨A,c,rfl,be,bC⟩:=aj hd;clear hd ho hv hB jZ hr;have HW:Hid (∀ o,Below w.heap.size w (w.alloc o)):=jq (λo=>(vQ _ w).alloc (bQ _) _);go_enter func163,ntmps163;go_wp2_with fail;refine (alY a _ l bw HO.out HV.out _ (HD.out.later bU fD (HW.out _))).mono ?_;rintro e w1 ⟨bv,rfl,ix,aq⟩;have cI:w.heap.size<w1.heap.size:=by have:=aq.size;simp at this;omega
 have c0':w1.cell? ⟨w.heap.size,0,none⟩=some (.string a):=by rw[aq.cell (by simp)];go_simp
 have c1':w1.cell? ⟨w.heap.size,1,none⟩=some (.slice A l.length c):=by rw[aq.cell (by simp)];go_simp
 have am:=jq ((HW.out _).trans (aq.mono (by simp)));obtain⟨A2,c2,rfl,dV,dJ⟩:=aj ix;rw[HB'.out] at dV dJ ix |-;rw[fJ.out] at dV dJ ix |-;have pb:=jq ix;clear aq ix;go_wp2_with fail;go_loopw [4] (λi wr=>∃ k:Nat,k<=l.length/\i = .int .i64 k/\Hid (Below w1.heap.size w1 wr)/\Hid (∀ (j:Nat) (x:Np.Signed) (b:List UInt8),j<k->l[j]?=some x->B[j]?=some b->Np.gH a.data.toList x.sigs/\(Np.nN x b=false->x.sigs = []))) (λi _=>l.length - (intOf i).toNat)
 case atStart=>exact⟨0,jQ _,rfl,jq (vQ _ _),jq (λj x b hj=>by omega)⟩
 case round=>
  obtain⟨k,hk,rfl,HB,HA⟩:=hrel;have al:=HB.out.size;have aD:=aIX am HB.out;have d0:wr.cell? ⟨w.heap.size,0,none⟩=some (.string a):=aIZ HB.out c0';have d1:wr.cell? ⟨w.heap.size,1,none⟩=some (.slice A l.length c):=aIZ HB.out c1';have bR:w.heap.size<wr.heap.size:=by omega
  by_cases aa:k<l.length
  ·obtain⟨x,ab⟩:∃ x,l[k]?=some x:=⟨_,aQ aa⟩;obtain⟨bb,dO⟩:∃ bb,B[k]?=some bb:=⟨_,aQ (by rw[eK.out];omega)⟩;obtain⟨b,o,c',sn,dv,sv,hA,bj,_,ay,cC,aT,aR,f0,f1,f2,f3,f4⟩:=fE (HD.out.keep bU aD.out) ab
   cases hA
   obtain⟨As,cs,rfl,_,_⟩:=aj aR;obtain⟨b2,o2,rfl,yi,g0⟩:=UQ (pb.out.keep agJ HB.out) (PZ ab dO);have HN:Hid (Np.gH a.data.toList x.sigs->(Np.nN x bb=false->x.sigs = [])->∀ (j:Nat) (y:Np.Signed) (b:List UInt8),j<k+1->l[j]?=some y->B[j]?=some b->Np.gH a.data.toList y.sigs/\(Np.nN y b=false->y.sigs = [])):=jq (λh1 h2 j y b hj hy hb=>by
    by_cases e:j=k
    ·subst e;rw[ab] at hy;rw[dO] at hb;cases hy;cases hb;exact⟨h1,h2⟩
    ·exact HA.out j y b (by omega) hy hb)
   have HF:Hid (¬ (Np.gH a.data.toList x.sigs/\(Np.nN x bb=false->x.sigs = []))->r=false):=jq (λh=>by
    rw[<-HR.out];exact Np.aS λq=>h (q k _ _ ab dO))
   have bF:(0:Int)<=(k:Int):=by omega
   have bL:(k:Int)<(l.length:Int):=by omega
   have aq:b<wr.heap.size:=by omega
   have ac:b2<wr.heap.size:=by omega
   have nA:∀ (g:bO wr) (p:Addr),p.block<wr.heap.size->g.w.cell? p=wr.cell? p:=λg p h=>g.cell p h;obtain⟨bf,gi⟩:=aJZ (Np.yes (Np.gH a.data.toList x.sigs));have ra:=jq gi;have cB:∀ g:bO wr,Calls prog 151 #[.slice As x.sigs.length cs,.string a] g.w λe w'=>e = .returned (.bool bf)/\Below g.w.heap.size g.w w':=λg=>by
    rw[<-gi];exact amK a _ x.sigs g.w ((aR.keep bH (g.below.aKZ)).more cE (by have:=g.size;omega))
   have HC:=jq cB;obtain⟨ow,how⟩:=aJZ (Np.nN x bb);have iH:=jq how;rw[how] at g0;clear ab dO ay aT aR gi cB how f0 f1 f2 f3
   cases bf with
   | false=>
    have HX:Hid (r=false):=jq (HF.out λh=>by have:=Np.cu h.1;rw[ra.out] at this;cases this);go_wp2_with fail;refine aMQ ?_
    repeat (go_big_quiet_step ((go_at_call 151;exact Calls.grow_of (HC.out _))))
    refine wpQuiet_nil ?_;rintro _ ⟨g,rfl⟩;go_wp2_with fail;go_ret;exact⟨ae HX.out.symm,aD.out.trans (g.below.aKZ)⟩
   | true=>
    have Lb:Hid (Np.gH a.data.toList x.sigs):=jq (Np.f8.1 ra.out)
    cases ow with
    | true=>
     have HX:=jq (HN.out Lb.out (λh=>by rw[iH.out] at h;cases h));go_wp2_with fail;refine aMQ ?_
     repeat (go_big_quiet_step ((go_at_call 151;exact Calls.grow_of (HC.out _))))
     refine wpQuiet_nil ?_;rintro _ ⟨g,rfl⟩;go_wp2_with fail;go_roundw
     case rel=>exact⟨k+1,by omega,by go_num,aIX HB g.below,jq HX.out⟩
     case measure=>simp[intOf] <;> omega
    | false=>
     obtain⟨N,hN⟩:=aJZ x.sigs.length;have cw:=jq hN;rw[hN] at f4 HC;clear hN;by_cases h0:N=0
     ·have HX:=jq (HN.out Lb.out (λ_=>rQ (cw.out.trans h0)));subst h0;go_wp2_with fail;refine aMQ ?_
      repeat (go_big_quiet_step ((go_at_call 151;exact Calls.grow_of (HC.out _))))
      refine wpQuiet_nil ?_;rintro _ ⟨g,rfl⟩;go_wp2_with fail;go_roundw
      case rel=>exact⟨k+1,by omega,by go_num,aIX HB g.below,jq HX.out⟩
      case measure=>simp[intOf] <;> omega
     ·have HX:Hid (r=false):=jq (HF.out λh=>h0 (by have:=h.2 iH.out;rw[this] at cw;exact cw.out.symm));have hp:decide ((0:Int)<(N:Int))=true:=by simp;omega
      have hp2:decide (0<N)=true:=by simp;omega
      clear h0;go_wp2_with fail;refine aMQ ?_
      repeat (go_big_quiet_step ((go_at_call 151;exact Calls.grow_of (HC.out _))))
      refine wpQuiet_nil ?_;rintro _ ⟨g,rfl⟩;go_wp2_with fail;go_ret;exact⟨ae HX.out.symm,aD.out.trans (g.below.aKZ)⟩
  ·go_wp2_with fail;go_ret;refine⟨ae ?_,aD.out⟩;rw[<-HR.out];exact (Np.cu λi x b hx hb=>HA.out i x b (by have:=(cQ.1 hx).1;omega) hx hb).symm
theorem arJ{z:Np.Zone}(bw:z.sets.length<=20000):Np.RZoneOk z↔((((Np.eX z=true/\Np.ApexH z.apex z.sets)/\Np.zW z.sets)/\Np.pZ z.sets (Np.ej z))/\Np.yZ z.apex z.sets (Np.ej z)):=by
 constructor
 ·intro h;refine⟨⟨⟨⟨h.right,h.start,h.server,h.fits⟩,λk x hx p h0 hp he=>?_⟩,h.cuts⟩,λk x b hx hb=>⟨h.form x (gQ hx),λho=>?_⟩⟩
  ·obtain⟨hk,rfl⟩:=cQ.1 hx;obtain⟨bL,rfl⟩:=cQ.1 hp;obtain⟨m,rfl⟩:∃ m,k=m+1:=⟨k - 1,by omega⟩;exact h.three m hk he
  ·obtain⟨h1,h2⟩:=P0.1 ho;exact h.sigs k x b hx hb h1 h2
 ·rintro⟨⟨⟨⟨h1,h2⟩,h3⟩,h4⟩,h5⟩;have bB:=Np.tg z;refine⟨h1,bw,h2.start,h2.server,h2.fits,λi hi he=>?_,h4,λk x b hx hb jA ht=>(h5 k x b hx hb).2 (P0.2 ⟨jA,ht⟩),λx hx=>?_⟩
  ·exact h3 (i+1) _ (aQ hi) _ (by omega) (aQ (by omega)) he
  ·obtain⟨k,hk,rfl⟩:=nQ.1 hx;exact (h5 k _ _ (aQ hk) (aQ (by omega))).1
theorem anY(a:ByteArray)(ha:a.size<=140737488355328)(v:Value)(l:List Np.Signed)(bw:l.length<=20000)(w:World)(hd:SlR cV 5 w w.heap.size v l) :
 Calls prog 89 #[.agg #[.string a,v]] w (aOJ w.heap.size w (.bool (Np.yes (Np.VZone ⟨a.data.toList,l⟩)))):=by
 obtain⟨r,hr⟩:=aJZ (Np.yes (Np.VZone ⟨a.data.toList,l⟩));rw[hr];have HR:Hid (Np.yes ((((Np.eX ⟨a.data.toList,l⟩=true/\Np.ApexH a.data.toList l)/\Np.zW l)/\Np.pZ l (Np.ej ⟨a.data.toList,l⟩))/\Np.yZ a.data.toList l (Np.ej ⟨a.data.toList,l⟩))=r):=jq (by
  rw[<-hr,Np.uo (Np.aCZ _)];exact (Np.uo (arJ (z:=⟨a.data.toList,l⟩) bw)).symm)
 have HD:=jq hd;obtain⟨A,c,rfl,be,bC⟩:=aj hd;clear hr hd;have HW:Hid (∀ o,Below w.heap.size w (w.alloc o)):=jq (λo=>(vQ _ w).alloc (bQ _) _);go_enter func89,ntmps89;go_wp2_with fail;obtain⟨w1,ai⟩:=aJZ (w.alloc (.cells #[.string a,.slice A l.length c] 44));have c0:w1.cell? ⟨w.heap.size,0,none⟩=some (.string a):=by rw[<-ai];simp[go_sem]
 have c1:w1.cell? ⟨w.heap.size,1,none⟩=some (.slice A l.length c):=by rw[<-ai];simp[go_sem]
 have ba:w1.heap.size=w.heap.size+1:=by rw[<-ai];simp
 have am:Hid (Below w.heap.size w w1):=jq (by rw[<-ai];exact HW.out _);rw[ai];clear ai;refine (alX a ha _ l bw _ (HD.out.later bU fD am.out)).mono ?_;rintro e w2 ⟨rfl,ac⟩;have aN:=ac.size;have ah:=aIX am ac;replace c0:=aIZ ac c0;replace c1:=aIZ ac c1;clear ac
 cases eD:Np.eX ⟨a.data.toList,l⟩ with
 | false=>
  have HX:Hid (r=false):=jq (by rw[<-HR.out];exact Np.aS λh=>by rw[eD] at h;cases h.1.1.1.1);clear eD;go_wp2_with fail;go_ret;exact⟨ae HX.out.symm,ah.out⟩
 | true=>
  have iI:=jq eD;have ho:=Np.VZone.inOrder eD;have HO:=jq ho;have qC:=eD;unfold Np.eX at qC;simp only[Bool.and_eq_true] at qC;have HV:Hid (∀ x∈l,Np.aG x.set.name=true):=jq (λx hx=>Fb (Np.Dz qC.2 x hx));have lK:Hid (∀ x∈l,x.set.name≠[]):=jq ho.name;clear eD qC ho;go_wp2_with fail;refine (anX a _ l _ (HD.out.later bU fD ah.out)).mono ?_;rintro e w3 ⟨rfl,ak⟩;have gV:=ak.size;have aA:=aIX ah ak;replace c0:=aIZ ak c0;replace c1:=aIZ ak c1;clear ak
  cases Eh:Np.yes (Np.ApexH a.data.toList l) with
  | false=>
   have HX:Hid (r=false):=jq (by rw[<-HR.out];exact Np.aS λh=>sI Eh h.1.1.1.2);clear Eh;go_wp2_with fail;go_ret;exact⟨ae HX.out.symm,aA.out⟩
  | true=>
   have TG:=jq (Np.f8.1 Eh);clear Eh;go_wp2_with fail;refine (anJ a _ l bw lK.out _ (HD.out.later bU fD aA.out)).mono ?_;rintro e w4 ⟨rfl,ar⟩;have jm:=ar.size;have b7:=aIX aA ar;replace c0:=aIZ ar c0;replace c1:=aIZ ar c1;clear ar
   cases Ei:Np.yes (Np.zW l) with
   | false=>
    have HX:Hid (r=false):=jq (by rw[<-HR.out];exact Np.aS λh=>sI Ei h.1.1.2);clear Ei;go_wp2_with fail;go_ret;exact⟨ae HX.out.symm,b7.out⟩
   | true=>
    have TH:=jq (Np.f8.1 Ei);clear Ei;go_wp2_with fail;refine (akZ a _ l bw HO.out HV.out _ (HD.out.later bU fD b7.out)).mono ?_;rintro e w5 ⟨rfl,av⟩;have kT:=av.size;have cG:=aIX b7 av;replace c0:=aIZ av c0;replace c1:=aIZ av c1;clear av
    cases Ej:Np.yes (Np.pZ l (Np.ej ⟨a.data.toList,l⟩)) with
    | false=>
     have HX:Hid (r=false):=jq (by rw[<-HR.out];exact Np.aS λh=>sI Ej h.1.2);clear Ej;go_wp2_with fail;go_ret;exact⟨ae HX.out.symm,cG.out⟩
    | true=>
     have Gy:=jq (Np.f8.1 Ej);clear Ej;go_wp2_with fail;refine (akQ a _ l bw HO.out HV.out _ (HD.out.later bU fD cG.out)).mono ?_;rintro e w6 ⟨rfl,aL⟩;have kf:=aL.size;have dj:=aIX cG aL;replace c0:=aIZ aL c0;replace c1:=aIZ aL c1;clear aL
     cases rY:Np.yes (Np.yZ a.data.toList l (Np.ej ⟨a.data.toList,l⟩)) with
     | false=>
      have HX:Hid (r=false):=jq (by rw[<-HR.out];exact Np.aS λh=>sI rY h.2);clear rY;go_wp2_with fail;go_ret;exact⟨ae HX.out.symm,dj.out⟩
     | true=>
      have Gz:=jq (Np.f8.1 rY);clear rY;go_wp2_with fail;go_ret;exact⟨ae (by rw[<-HR.out];exact (Np.cu ⟨⟨⟨⟨iI.out,TG.out⟩,TH.out⟩,Gy.out⟩,Gz.out⟩).symm),dj.out⟩
end
end Go.Proofs.YtfnopgdcaanaiaaGreatDoor
