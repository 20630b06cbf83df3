/- Parts of the proof. No condition. -/
import Derived.Test.YtfnopgdcaanaiaaGreatDoorT10
set_option linter.all false
set_option maxRecDepth 100000
set_option maxHeartbeats 8000000
namespace Go.Proofs.YtfnopgdcaanaiaaGreatDoor
open Go.Proofs.Tryz
section
open Go.RowKit
theorem Xd(a:ByteArray)(v bv:Value)(l:List Np.Signed)(B:List (List UInt8))(o6:B.length=l.length)(w:World)(hd:SlR cU 5 w w.heap.size v l)(jF:SlR RTx 1 w w.heap.size bv B) :
 Calls prog 203 #[.agg #[.string a,v,bv]] w (agQ w.heap.size w (.bool (Np.yes (Np.uC l B)))):=by
 obtain⟨r,hr⟩:=abY (Np.yes (Np.uC l B));rw[hr];have HR:=jq hr;have fE:=jq o6;have HD:=jq hd;have tV:=jq jF;obtain⟨A,c,rfl,aT,cu⟩:=ar hd;obtain⟨A2,c2,rfl,dZ,fZ⟩:=ar jF;rw[o6] at dZ fZ tV |-;clear hr hd jF o6;have HW:Hid (∀ o,Below w.heap.size w (w.alloc o)):=jq (λo=>(vQ _ w).alloc (bQ _) _);go_enter func203,ntmps203;go_wp2_with fail;obtain⟨w1,am⟩:=abY (w.alloc (.cells #[.string a,.slice A l.length c,.slice A2 l.length c2] 265));have c2':w1.cell? ⟨w.heap.size,2,none⟩=some (.slice A2 l.length c2):=by rw[<-am];simp[go_sem]
 have cP:w.heap.size<w1.heap.size:=by rw[<-am];simp
 have aD:Hid (Below w.heap.size w w1):=jq (by rw[<-am];exact HW.out _);rw[am];clear am;go_loopw [11] (λi wr=>∃ k:Nat,k<=l.length/\i = .int .i64 k/\Hid (Below w1.heap.size w1 wr)/\Hid (∀ j x b,j<k->l[j]?=some x->B[j]?=some b->(b≠[]->x.set.type=2\/x.set.type=1->x.sigs = []))) (λi _=>l.length - (intOf i).toNat)
 case atStart=>exact⟨0,jQ _,rfl,jq (vQ _ _),jq (λj x b hj=>by omega)⟩
 case round=>
  obtain⟨k,hk,rfl,HB,HA⟩:=hrel;have ag:=HB.out.size;have bp:=aaK aD HB.out;by_cases aa:k<l.length
  ·obtain⟨x,ac⟩:∃ x,l[k]?=some x:=⟨_,aQ aa⟩;obtain⟨bb,fw⟩:∃ bb,B[k]?=some bb:=⟨_,aQ (by rw[fE.out];omega)⟩;obtain⟨b,o,c',sn,dv,sv,hA,du,_,aP,eT,be,aY,e0,e1,e2,e3,e4⟩:=iV (HD.out.keep da bp.out) ac
   cases hA
   obtain⟨b2,o2,sb,rfl,R2,qY,TD,g0⟩:=Fd (tV.out.keep Bq bp.out) fw;have HN:Hid ((bb≠[]->x.set.type=2\/x.set.type=1->x.sigs = [])->∀ j x b,j<k+1->l[j]?=some x->B[j]?=some b->(b≠[]->x.set.type=2\/x.set.type=1->x.sigs = [])):=jq (λh j x b hj hx hb=>by
    by_cases e:j=k
    ·subst e;rw[ac] at hx;rw[fw] at hb;cases hx;cases hb;exact h
    ·exact HA.out j x b (by omega) hx hb)
   have HF:Hid (¬ (bb≠[]->x.set.type=2\/x.set.type=1->x.sigs = [])->r=false):=jq (λh=>by
    rw[<-HR.out];exact Np.bP λq=>h (q k _ _ ac fw))
   clear ac fw;obtain⟨Ad,cd,rfl,_,_⟩:=ar be;obtain⟨As,cs,rfl,_,_⟩:=ar aY;have hcell:wr.cell? ⟨w.heap.size,2,none⟩=some (.slice (some ⟨b2,o2,none⟩) l.length c2):=aaJ HB.out c2';have cg:w.heap.size<wr.heap.size:=by omega
   have aq:b<wr.heap.size:=by omega
   have ab:b2<wr.heap.size:=by omega
   have ca:Hid (∀ o,Below w1.heap.size w1 (wr.alloc o)):=jq (λo=>HB.out.alloc HB.out.size _);have nd:Hid (∀ o,Below w.heap.size w (wr.alloc o)):=jq (λo=>bp.out.alloc (by omega) _);have cN:(0:Int)<=(k:Int):=by omega
   have cO:(k:Int)<(l.length:Int):=by omega
   have cK:=jq aP;have gz:=jq qY;obtain⟨ty,gH⟩:=abY x.set.type;have jw:=jq gH;rw[gH] at e1;clear aP qY be aY gH;by_cases jf:bb = []
   ·obtain rfl:sb=⟨#[]⟩:=mY (by rw[gz.out,jf]);have HX:=jq (HN.out (λh=>absurd jf h));clear jf;go_wp2_with fail;go_roundw
    case rel=>exact⟨k+1,by omega,by go_num,jq (ca.out _),jq HX.out⟩
    case measure=>simp[intOf] <;> omega
   ·have Ej:(sb.toList == [])=false:=by rw[dQ,gz.out];simpa using jf
    have MX:=jq jf;clear jf;by_cases ht:ty=2\/ty=1
    ·by_cases nT:x.sigs.length=0
     ·have HX:=jq (HN.out (λ_ _=>rQ nT));rw[nT] at e4;clear nT;rcases ht with rfl | rfl
      all_goals
       go_wp2_with fail;go_roundw
       case rel=>exact⟨k+1,by omega,by go_num,jq (ca.out _),jq HX.out⟩
       case measure=>simp[intOf] <;> omega
     ·have HX:Hid (r=false):=jq (HF.out λh=>nT (by rw[h MX.out (by rw[jw.out];exact ht)];rfl));have abK:0<x.sigs.length:=by omega
      have abX:(0:Int)<(x.sigs.length:Int):=by omega
      clear nT;rcases ht with rfl | rfl
      all_goals
       go_wp2_with fail;go_ret;exact⟨aj HX.out.symm,nd.out _⟩
    ·have HX:=jq (HN.out (λ_ h=>absurd (by rw[jw.out] at h;exact h) ht));have t1:(ty == 2)=false:=by simp;omega
     have t2:(ty == 1)=false:=by simp;omega
     clear ht;go_wp2_with fail;go_roundw
     case rel=>exact⟨k+1,by omega,by go_num,jq (ca.out _),jq HX.out⟩
     case measure=>simp[intOf] <;> omega
  ·go_wp2_with fail;go_ret;refine⟨aj ?_,bp.out⟩;rw[<-HR.out];exact (Np.dz λi x b hx hb=>HA.out i x b (by have:=(cQ.1 hx).1;omega) hx hb).symm
theorem Q0(a:ByteArray)(v:Value)(A2:Option Addr)(n2 c2:Nat)(l:List Np.Signed)(w:World)(hd:SlR cU 5 w w.heap.size v l) :
 Calls prog 204 #[.agg #[.string a,v,.slice A2 n2 c2]] w (agQ w.heap.size w (.bool (Np.yes (∀ x∈l,Np.fF a.data.toList x.sigs)))):=by
 obtain⟨r,hr⟩:=abY (Np.yes (∀ x∈l,Np.fF a.data.toList x.sigs));rw[hr];have HR:=jq hr;have HD:=jq hd;obtain⟨A,c,rfl,aT,cu⟩:=ar hd;clear hr hd;have HW:Hid (∀ o,Below w.heap.size w (w.alloc o)):=jq (λo=>(vQ _ w).alloc (bQ _) _);go_enter func204,ntmps204;go_wp2_with fail;obtain⟨w1,am⟩:=abY (w.alloc (.cells #[.string a,.slice A l.length c,.slice A2 n2 c2] 265));have c2':w1.cell? ⟨w.heap.size,0,none⟩=some (.string a):=by rw[<-am];simp[go_sem]
 have cP:w.heap.size<w1.heap.size:=by rw[<-am];simp
 have aD:Hid (Below w.heap.size w w1):=jq (by rw[<-am];exact HW.out _);rw[am];clear am;go_loopw [10] (λi wr=>∃ k:Nat,k<=l.length/\i = .int .i64 k/\Hid (Below w1.heap.size w1 wr)/\Hid (∀ j x,j<k->l[j]?=some x->Np.fF a.data.toList x.sigs)) (λi _=>l.length - (intOf i).toNat)
 case atStart=>exact⟨0,jQ _,rfl,jq (vQ _ _),jq (λj x hj=>by omega)⟩
 case round=>
  obtain⟨k,hk,rfl,HB,HA⟩:=hrel;have ag:=HB.out.size;have bp:=aaK aD HB.out;by_cases aa:k<l.length
  ·obtain⟨x,ac⟩:∃ x,l[k]?=some x:=⟨_,aQ aa⟩;obtain⟨b,o,c',sn,dv,sv,hA,du,_,aP,eT,be,aY,e0,e1,e2,e3,e4⟩:=iV (HD.out.keep da bp.out) ac
   cases hA
   have HN:Hid (Np.fF a.data.toList x.sigs->∀ j x,j<k+1->l[j]?=some x->Np.fF a.data.toList x.sigs):=jq (λh j y hj hy=>by
    by_cases e:j=k
    ·subst e;rw[ac] at hy;cases hy;exact h
    ·exact HA.out j y (by omega) hy)
   have HF:Hid (¬ Np.fF a.data.toList x.sigs->r=false):=jq (λh=>by
    rw[<-HR.out];exact Np.bP λq=>h (q x (gQ ac)))
   clear ac;obtain⟨Ad,cd,rfl,_,_⟩:=ar be;obtain⟨As,cs,rfl,_,_⟩:=ar aY;have hcell:wr.cell? ⟨w.heap.size,0,none⟩=some (.string a):=aaJ HB.out c2';have rV:=jq (aY.more cZ (show w.heap.size<=wr.heap.size by omega));have cg:w.heap.size<wr.heap.size:=by omega
   have aq:b<wr.heap.size:=by omega
   have ca:Hid (∀ o,Below w1.heap.size w1 (wr.alloc o)):=jq (λo=>HB.out.alloc HB.out.size _);have nd:Hid (∀ o,Below w.heap.size w (wr.alloc o)):=jq (λo=>bp.out.alloc (by omega) _);have cN:(0:Int)<=(k:Int):=by omega
   have cO:(k:Int)<(l.length:Int):=by omega
   have cK:=jq aP;clear aP be aY;go_wp2_with fail;refine (Ud a _ x.sigs _ (rV.out.later cC cZ ((vQ _ _).alloc (bQ _) _))).mono ?_;rintro e w2 ⟨rfl,hb⟩;have ai:Hid (Below wr.heap.size wr w2):=jq (((vQ _ _).alloc (bQ _) _).trans (hb.mono (by simp)));clear hb
   cases hf:Np.yes (Np.fF a.data.toList x.sigs) with
   | true=>
    have HX:=jq (HN.out (Np.iz.1 hf));clear hf;go_wp2_with fail;go_roundw
    case rel=>exact⟨k+1,by omega,by go_num,jq (HB.out.trans (ai.out.mono HB.out.size)),jq HX.out⟩
    case measure=>simp[intOf] <;> omega
   | false=>
    have HX:=jq (HF.out λh=>by rw[Np.dz h] at hf;cases hf);clear hf;go_wp2_with fail;go_ret;exact⟨aj HX.out.symm,bp.out.trans (ai.out.acJ)⟩
  ·go_wp2_with fail;go_ret;refine⟨aj ?_,bp.out⟩;rw[<-HR.out];refine (Np.dz λx hx=>?_).symm;obtain⟨j,hj,rfl⟩:=nQ.1 hx;exact HA.out j _ (by omega) (aQ hj)
structure Np.ApexH(a:List UInt8)(l:List Np.Signed):Prop where
 start:Np.kJ l a 4
 server:Np.kJ l a 2
 fits:∀ x∈l,Np.lD x.set.type (x.set.name == a)=true
theorem PE(a:ByteArray)(ha:a.size<=140737488355328)(na:Np.aG a.data.toList=true)(v:Value)(l:List Np.Signed)(dG:l.length<=20000)(hv:∀ x∈l,Np.aG x.set.name=true)(hs:Np.qy l)(w:World)(hd:SlR cU 5 w w.heap.size v l) :
 Calls prog 199 #[.agg #[.string a,v]] w (agQ w.heap.size w (.bool (Np.yes (Np.ApexH a.data.toList l)))):=by
 obtain⟨r,hr⟩:=abY (Np.yes (Np.ApexH a.data.toList l));rw[hr];have HR:=jq hr;have HV:=jq hv;have HS:=jq hs;have HD:=jq hd;have NA:=jq na;obtain⟨A,c,rfl,aT,cu⟩:=ar hd;clear hr hv hs hd na;have HW:Hid (∀ o o',Below w.heap.size w ((w.alloc o).alloc o')):=jq (λo o'=>((vQ _ w).alloc (bQ _) _).alloc (by simp) _);go_enter func199,ntmps199;go_wp2_with fail;obtain⟨w1,am⟩:=abY ((w.alloc (.cells #[.string a,.slice A l.length c] 263)).alloc (.cells #[.int .i64 4,.int .i64 2] 3));have c0:w1.cell? ⟨w.heap.size,0,none⟩=some (.string a):=by rw[<-am];simp[go_sem]
 have c1:w1.cell? ⟨w.heap.size,1,none⟩=some (.slice A l.length c):=by rw[<-am];simp[go_sem]
 have c2:w1.cell? ⟨w.heap.size+1,0,none⟩=some (.int .i64 4):=by rw[<-am];simp[go_sem]
 have c3:w1.cell? ⟨w.heap.size+1,1,none⟩=some (.int .i64 2):=by rw[<-am];simp[go_sem]
 have cP:w1.heap.size=w.heap.size+2:=by rw[<-am];simp
 have aD:Hid (Below w.heap.size w w1):=jq (by rw[<-am];exact HW.out _ _);rw[am];clear am;go_loopw [11] (λi wr=>Hid (Below w1.heap.size w1 wr)/\(i = .int .i64 0\/(i = .int .i64 1/\Hid (Np.kJ l a.data.toList 4))\/(i = .int .i64 2/\Hid (Np.kJ l a.data.toList 4)/\Hid (Np.kJ l a.data.toList 2)))) (λi _=>2 - (intOf i).toNat)
 case atStart=>exact⟨jq (vQ _ _),.inl rfl⟩
 case round=>
  obtain⟨HB,hi⟩:=hrel;have ag:=HB.out.size;obtain⟨bc,bf⟩:=oU HB.out;have d0:wr.cell? ⟨w.heap.size,0,none⟩=some (.string a):=by rw[bc _ _ (by omega)];exact c0
  have d1:wr.cell? ⟨w.heap.size,1,none⟩=some (.slice A l.length c):=by rw[bc _ _ (by omega)];exact c1
  have d2:wr.cell? ⟨w.heap.size+1,0,none⟩=some (.int .i64 4):=by rw[bc _ _ (by omega)];exact c2
  have d3:wr.cell? ⟨w.heap.size+1,1,none⟩=some (.int .i64 2):=by rw[bc _ _ (by omega)];exact c3
  clear bc bf;have bp:=aaK aD HB.out;have B5:=jq ((HD.out.keep da bp.out).more gm (show w.heap.size<=wr.heap.size by omega));have cg:w.heap.size+1<wr.heap.size:=by omega
  have R7:w.heap.size<wr.heap.size:=by omega
  rcases hi with rfl | ⟨rfl,H4⟩ | ⟨rfl,H4,H2⟩
  ·go_wp2_with fail;refine (Io a _ l dG HV.out HS.out a ha 4 NA.out _ B5.out).mono ?_;rintro e w2 ⟨rfl,hb⟩;have ai:=jq hb;have aC:=hb.size;clear hb
   cases hk:Np.yes (Np.kJ l a.data.toList 4) with
   | true=>
    have HK:=jq hk;clear hk;go_wp2_with fail;go_roundw
    case rel=>exact⟨jq (HB.out.trans (ai.out.mono HB.out.size)),.inr (.inl ⟨by go_num,jq (Np.iz.1 HK.out)⟩)⟩
    case measure=>simp[intOf] <;> omega
   | false=>
    have HK:=jq hk;clear hk;go_wp2_with fail;go_ret;refine⟨aj ?_,bp.out.trans (ai.out.acJ)⟩;rw[<-HR.out];refine (Np.bP λh=>?_).symm
    have:=Np.dz h.start
    rw[HK.out] at this
    cases this
  ·go_wp2_with fail;refine (Io a _ l dG HV.out HS.out a ha 2 NA.out _ B5.out).mono ?_;rintro e w2 ⟨rfl,hb⟩;have ai:=jq hb;have aC:=hb.size;clear hb
   cases hk:Np.yes (Np.kJ l a.data.toList 2) with
   | true=>
    have HK:=jq hk;clear hk;go_wp2_with fail;go_roundw
    case rel=>exact⟨jq (HB.out.trans (ai.out.mono HB.out.size)),.inr (.inr ⟨by go_num,H4,jq (Np.iz.1 HK.out)⟩)⟩
    case measure=>simp[intOf] <;> omega
   | false=>
    have HK:=jq hk;clear hk;go_wp2_with fail;go_ret;refine⟨aj ?_,bp.out.trans (ai.out.acJ)⟩;rw[<-HR.out];refine (Np.bP λh=>?_).symm
    have:=Np.dz h.server
    rw[HK.out] at this
    cases this
  ·go_wp2_with fail;clear d2 d3 c0 c1 c2 c3;obtain⟨w5,rfl⟩:=acQ wr;go_loopw [32] (λi wx=>∃ k:Nat,k<=l.length/\i = .int .i64 k/\Hid (Below w5.heap.size w5 wx)/\Hid (∀ j x,j<k->l[j]?=some x->Np.lD x.set.type (x.set.name == a.data.toList)=true)) (λi _=>l.length - (intOf i).toNat)
   case atStart=>exact⟨0,jQ _,rfl,jq (vQ _ _),jq (λj g hj=>by omega)⟩
   case round=>
    obtain⟨k,hk,rfl,HX,HA⟩:=hrel;by_cases aa:k<l.length
    ·have ac:=aQ aa;obtain⟨b,o,c',sn,dv,sv,hA,du,_,aP,eT,be,aY,e0,e1,e2,e3,e4⟩:=iV (B5.out.keep da HX.out) ac
     cases hA
     generalize hx:l[k]=x at *;clear hx;obtain⟨Ad,cd,rfl,_,_⟩:=ar be;obtain⟨As,cs,rfl,_,_⟩:=ar aY;have jL:=HX.out.size;have g0:wr.cell? ⟨w.heap.size,0,none⟩=some (.string a):=by rw[HX.out.cell (by simpa using R7)];exact d0
     have dX:w.heap.size<wr.heap.size:=by omega
     have heq:(sn.toList == a.toList)=(x.set.name == a.data.toList):=by rw[dQ,dQ,aP]
     have ue:Hid (Np.lD x.set.type (x.set.name == a.data.toList)=true->∀ j y,j<k+1->l[j]?=some y->Np.lD y.set.type (y.set.name == a.data.toList)=true):=jq (λh j y hj hy=>by
      by_cases e:j=k
      ·subst e;rw[ac] at hy;cases hy;exact h
      ·exact HA.out j y (by omega) hy)
     have NR:Hid (Np.lD x.set.type (x.set.name == a.data.toList)=false->r=false):=jq (λh=>by
      rw[<-HR.out];exact Np.bP λq=>by have:=q.fits x (gQ ac);rw[h] at this;cases this)
     have ca:Hid (∀ o,Below w5.heap.size w5 (wr.alloc o)):=jq (λo=>HX.out.alloc HX.out.size _);generalize (x.set.name == a.data.toList)=bb at *;clear ac aP be aY
     cases hf:Np.lD x.set.type bb with
     | true=>
      have HF:=jq hf;go_wp2_with (go_at_call 271;refine (Ip _ _ _).mono ?_;rintro e w' ⟨rfl,rfl⟩);go_roundw
      case rel=>exact⟨k+1,by omega,by go_num,jq (ca.out _),jq (ue.out HF.out)⟩
      case measure=>simp[intOf] <;> omega
     | false=>
      have HF:=jq hf;go_wp2_with (go_at_call 271;refine (Ip _ _ _).mono ?_;rintro e w' ⟨rfl,rfl⟩);go_ret;exact⟨aj (NR.out HF.out).symm,bp.out.trans ((ca.out _).acJ)⟩
    ·go_wp2_with fail;go_ret;refine⟨aj ?_,bp.out.trans (HX.out.acJ)⟩;rw[<-HR.out];refine (Np.dz ⟨H4.out,H2.out,λx hx=>?_⟩).symm;obtain⟨j,hj,rfl⟩:=nQ.1 hx;exact HA.out j _ (by omega) (aQ hj)
def cD(base:Nat)(w:World)(v:Value)(ps:List (List UInt8)):Prop:=w.ownsRow base 9 1 v ps.length (ps.map aM)
theorem cD.form{base:Nat}{w:World}{v:Value}{ps:List (List UInt8)}(h:cD base w v ps):∃ A c,v = .slice A ps.length c:=jr h
theorem cD.alloc{base:Nat}{w:World}{v:Value}{ps:List (List UInt8)}(h:cD base w v ps)(o:Obj):cD base (w.alloc o) v ps:=World.ownsRow.alloc h o
theorem cD.keep{base:Nat}{w w':World}{v:Value}{ps:List (List UInt8)}(h:cD base w v ps)(hb:Below w.heap.size w w'):cD base w' v ps:=bY h (λg hg=>hb.block g (h.lt g hg).2)
theorem cD.slr{base:Nat}{w:World}{v:Value}{ps:List (List UInt8)}(h:cD base w v ps)(hl:ps.length<=140737488355328)(ag:∀ x∈ps,x.length<=140737488355328):SlR RTx 1 w w.heap.size v ps:=by
 refine Bu (sz:=1) (e:=9) (base:=base) (λx=>[aM x]) (λ_ _=>rfl) ?_ hl (λx hx=>⟨⟨x.toArray⟩,by simp,ag x hx,rfl⟩)
 have:w.ownsRow base 9 1 v ps.length (ps.map aM):=h
 simpa [ES] using this
section
variable {ops:Array Oper} {rest:List Oper} {o:Oper} {a:Act} {Q:Exit->Act->World->Prop}
theorem YC(w:World)(fh:o.guard=none)(s x:Operand)(ho:o.op = .call { callee:=.builtin .append,args:=#[s,x],argTypes:=#[116,116] })
 (base:Nat) (v:Value) (ps:List (List UInt8)) (hs:a.eval s=v) (hown:cD base w v ps) (blk:Nat) (y:List UInt8) (hx:a.eval x = .slice (some ⟨blk,0,none⟩) 1 1) (hc:w.cell? ⟨blk,0,none⟩=some (aM y)) (hlen:ps.length<=100000) (bL:base<=w.heap.size)
 (h:∀ v' w',cD base w' v' (ps ++ [y])->Below base w w'->wpList prog ops Q rest (a.put o.dst v') w'):wpList prog ops Q (o::rest) a w:=by
 obtain⟨i0,hi,bd,aK,aC⟩:=info_parts Tryz.infoStr;refine wpList_append_own_at w fh s x 116 ho base 9 i0 (.string ⟨#[]⟩) 1 16 underlying116 hi bd aK aC rfl (by decide) v ps.length (ps.map aM) hs hown ⟨blk,0,none⟩ 1 1 [aM y] hx rfl ?_ (by simp[Value.oneCell']) (by unfold maxLen;omega) (by omega) bL ?_
 ·intro j u hj
  cases j with
  | zero=>simp at hj;subst hj;simpa [Addr.add] using hc
  | succ j=>simp at hj
 ·intro v' w' ho' hg _ _;refine h v' w' ?_ ((vQ _ _).grown hg bL (λk hk=>(hown.lt k hk).1));have e:(ps ++ [y]).length=ps.length+1:=by simp
  unfold cD;rw[e,List.map_append];exact ho'
end
theorem Ym{x:List UInt8}(h:Np.aG x=true):x.length<=60:=by
 unfold Np.aG at h;split at h
 ·rename_i e;rw[e];decide
 ·split at h
  ·cases h
  ·omega



end
end Go.Proofs.YtfnopgdcaanaiaaGreatDoor
