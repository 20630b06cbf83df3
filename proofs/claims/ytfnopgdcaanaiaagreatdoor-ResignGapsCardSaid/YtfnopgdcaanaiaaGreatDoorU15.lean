/- Parts of the proof. No condition. -/
import Derived.Test.YtfnopgdcaanaiaaGreatDoorU08
import Derived.Test.YtfnopgdcaanaiaaGreatDoorU10
set_option linter.all false
set_option maxRecDepth 100000
set_option maxHeartbeats 8000000
namespace Go.Proofs.YtfnopgdcaanaiaaGreatDoor
open Go.Proofs.Tryz
section
open Go.RowKit
theorem YS(a:ByteArray)(v bv:Value)(l:List Np.Signed)(B:List (List UInt8))(iM:B.length=l.length)(w:World)(hd:SlR cA 5 w w.heap.size v l)(l4:SlR RTx 1 w w.heap.size bv B) :
 Calls prog 203 #[.agg #[.string a,v,bv]] w (aeJ w.heap.size w (.bool (Np.yes (Np.xJ l B)))):=by
 obtain⟨r,hr⟩:=abK (Np.yes (Np.xJ l B));rw[hr];have HR:=jq hr;have eT:=jq iM;have HD:=jq hd;have nw:=jq l4;obtain⟨A,c,rfl,aW,bh⟩:=aj hd;obtain⟨A2,c2,rfl,db,cY⟩:=aj l4;rw[iM] at db cY nw |-;clear hr hd l4 iM;have HW:Hid (∀ o,Below w.heap.size w (w.alloc o)):=jq (λo=>(vQ _ w).alloc (bQ _) _);go_enter func203,ntmps203;go_wp2_with fail;obtain⟨w1,ak⟩:=abK (w.alloc (.cells #[.string a,.slice A l.length c,.slice A2 l.length c2] 265));have c2':w1.cell? ⟨w.heap.size,2,none⟩=some (.slice A2 l.length c2):=by rw[<-ak];simp[go_sem]
 have bU:w.heap.size<w1.heap.size:=by rw[<-ak];simp
 have ar:Hid (Below w.heap.size w w1):=jq (by rw[<-ak];exact HW.out _);rw[ak];clear ak;go_loopw [11] (λi wr=>∃ k:Nat,k<=l.length/\i = .int .i64 k/\Hid (Below w1.heap.size w1 wr)/\Hid (∀ j x b,j<k->l[j]?=some x->B[j]?=some b->(b≠[]->x.set.type=2\/x.set.type=1->x.sigs = []))) (λi _=>l.length - (intOf i).toNat)
 case atStart=>exact⟨0,jQ _,rfl,jq (vQ _ _),jq (λj x b hj=>by omega)⟩
 case round=>
  obtain⟨k,hk,rfl,HB,HA⟩:=hrel;have al:=HB.out.size;have az:=abJ ar HB.out;by_cases aa:k<l.length
  ·obtain⟨x,ac⟩:∃ x,l[k]?=some x:=⟨_,aQ aa⟩;obtain⟨bb,dw⟩:∃ bb,B[k]?=some bb:=⟨_,aQ (by rw[eT.out];omega)⟩;obtain⟨b,o,c',sn,dv,sv,hA,bp,_,aw,cE,aR,aN,e0,e1,e2,e3,e4⟩:=fk (HD.out.keep bI az.out) ac
   cases hA
   obtain⟨b2,o2,sb,rfl,uW,kB,Gq,g0⟩:=pa (nw.out.keep mv az.out) dw;have HN:Hid ((bb≠[]->x.set.type=2\/x.set.type=1->x.sigs = [])->∀ j x b,j<k+1->l[j]?=some x->B[j]?=some b->(b≠[]->x.set.type=2\/x.set.type=1->x.sigs = [])):=jq (λh j x b hj hx hb=>by
    by_cases e:j=k
    ·subst e;rw[ac] at hx;rw[dw] at hb;cases hx;cases hb;exact h
    ·exact HA.out j x b (by omega) hx hb)
   have HF:Hid (¬ (bb≠[]->x.set.type=2\/x.set.type=1->x.sigs = [])->r=false):=jq (λh=>by
    rw[<-HR.out];exact Np.aK λq=>h (q k _ _ ac dw))
   clear ac dw;obtain⟨Ad,cd,rfl,_,_⟩:=aj aR;obtain⟨As,cs,rfl,_,_⟩:=aj aN;have hcell:wr.cell? ⟨w.heap.size,2,none⟩=some (.slice (some ⟨b2,o2,none⟩) l.length c2):=abZ HB.out c2';have bO:w.heap.size<wr.heap.size:=by omega
   have an:b<wr.heap.size:=by omega
   have ab:b2<wr.heap.size:=by omega
   have ba:Hid (∀ o,Below w1.heap.size w1 (wr.alloc o)):=jq (λo=>HB.out.alloc HB.out.size _);have nv:Hid (∀ o,Below w.heap.size w (wr.alloc o)):=jq (λo=>az.out.alloc (by omega) _);have bL:(0:Int)<=(k:Int):=by omega
   have bY:(k:Int)<(l.length:Int):=by omega
   have aS:=jq aw;have el:=jq kB;obtain⟨ty,eD⟩:=abK x.set.type;have eJ:=jq eD;rw[eD] at e1;clear aw kB aR aN eD;by_cases bT:bb = []
   ·obtain rfl:sb=⟨#[]⟩:=jD (by rw[el.out,bT]);have HX:=jq (HN.out (λh=>absurd bT h));clear bT;go_wp2_with fail;go_roundw
    case rel=>exact⟨k+1,by omega,by go_num,jq (ba.out _),jq HX.out⟩
    case measure=>simp[intOf] <;> omega
   ·have zg:(sb.toList == [])=false:=by rw[dQ,el.out];simpa using bT
    have kS:=jq bT;clear bT;by_cases ht:ty=2\/ty=1
    ·by_cases rn:x.sigs.length=0
     ·have HX:=jq (HN.out (λ_ _=>rQ rn));rw[rn] at e4;clear rn;rcases ht with rfl | rfl
      all_goals
       go_wp2_with fail;go_roundw
       case rel=>exact⟨k+1,by omega,by go_num,jq (ba.out _),jq HX.out⟩
       case measure=>simp[intOf] <;> omega
     ·have HX:Hid (r=false):=jq (HF.out λh=>rn (by rw[h kS.out (by rw[eJ.out];exact ht)];rfl));have UI:0<x.sigs.length:=by omega
      have aqQ:(0:Int)<(x.sigs.length:Int):=by omega
      clear rn;rcases ht with rfl | rfl
      all_goals
       go_wp2_with fail;go_ret;exact⟨ae HX.out.symm,nv.out _⟩
    ·have HX:=jq (HN.out (λ_ h=>absurd (by rw[eJ.out] at h;exact h) ht));have t1:(ty == 2)=false:=by simp;omega
     have t2:(ty == 1)=false:=by simp;omega
     clear ht;go_wp2_with fail;go_roundw
     case rel=>exact⟨k+1,by omega,by go_num,jq (ba.out _),jq HX.out⟩
     case measure=>simp[intOf] <;> omega
  ·go_wp2_with fail;go_ret;refine⟨ae ?_,az.out⟩;rw[<-HR.out];exact (Np.bS λi x b hx hb=>HA.out i x b (by have:=(cQ.1 hx).1;omega) hx hb).symm
theorem Ss(a:ByteArray)(v:Value)(A2:Option Addr)(n2 c2:Nat)(l:List Np.Signed)(w:World)(hd:SlR cA 5 w w.heap.size v l) :
 Calls prog 204 #[.agg #[.string a,v,.slice A2 n2 c2]] w (aeJ w.heap.size w (.bool (Np.yes (∀ x∈l,Np.fp a.data.toList x.sigs)))):=by
 obtain⟨r,hr⟩:=abK (Np.yes (∀ x∈l,Np.fp a.data.toList x.sigs));rw[hr];have HR:=jq hr;have HD:=jq hd;obtain⟨A,c,rfl,aW,bh⟩:=aj hd;clear hr hd;have HW:Hid (∀ o,Below w.heap.size w (w.alloc o)):=jq (λo=>(vQ _ w).alloc (bQ _) _);go_enter func204,ntmps204;go_wp2_with fail;obtain⟨w1,ak⟩:=abK (w.alloc (.cells #[.string a,.slice A l.length c,.slice A2 n2 c2] 265));have c2':w1.cell? ⟨w.heap.size,0,none⟩=some (.string a):=by rw[<-ak];simp[go_sem]
 have bU:w.heap.size<w1.heap.size:=by rw[<-ak];simp
 have ar:Hid (Below w.heap.size w w1):=jq (by rw[<-ak];exact HW.out _);rw[ak];clear ak;go_loopw [10] (λi wr=>∃ k:Nat,k<=l.length/\i = .int .i64 k/\Hid (Below w1.heap.size w1 wr)/\Hid (∀ j x,j<k->l[j]?=some x->Np.fp a.data.toList x.sigs)) (λi _=>l.length - (intOf i).toNat)
 case atStart=>exact⟨0,jQ _,rfl,jq (vQ _ _),jq (λj x hj=>by omega)⟩
 case round=>
  obtain⟨k,hk,rfl,HB,HA⟩:=hrel;have al:=HB.out.size;have az:=abJ ar HB.out;by_cases aa:k<l.length
  ·obtain⟨x,ac⟩:∃ x,l[k]?=some x:=⟨_,aQ aa⟩;obtain⟨b,o,c',sn,dv,sv,hA,bp,_,aw,cE,aR,aN,e0,e1,e2,e3,e4⟩:=fk (HD.out.keep bI az.out) ac
   cases hA
   have HN:Hid (Np.fp a.data.toList x.sigs->∀ j x,j<k+1->l[j]?=some x->Np.fp a.data.toList x.sigs):=jq (λh j y hj hy=>by
    by_cases e:j=k
    ·subst e;rw[ac] at hy;cases hy;exact h
    ·exact HA.out j y (by omega) hy)
   have HF:Hid (¬ Np.fp a.data.toList x.sigs->r=false):=jq (λh=>by
    rw[<-HR.out];exact Np.aK λq=>h (q x (gQ ac)))
   clear ac;obtain⟨Ad,cd,rfl,_,_⟩:=aj aR;obtain⟨As,cs,rfl,_,_⟩:=aj aN;have hcell:wr.cell? ⟨w.heap.size,0,none⟩=some (.string a):=abZ HB.out c2';have ot:=jq (aN.more dU (show w.heap.size<=wr.heap.size by omega));have bO:w.heap.size<wr.heap.size:=by omega
   have an:b<wr.heap.size:=by omega
   have ba:Hid (∀ o,Below w1.heap.size w1 (wr.alloc o)):=jq (λo=>HB.out.alloc HB.out.size _);have nv:Hid (∀ o,Below w.heap.size w (wr.alloc o)):=jq (λo=>az.out.alloc (by omega) _);have bL:(0:Int)<=(k:Int):=by omega
   have bY:(k:Int)<(l.length:Int):=by omega
   have aS:=jq aw;clear aw aR aN;go_wp2_with fail;refine (VC a _ x.sigs _ (ot.out.later cT dU ((vQ _ _).alloc (bQ _) _))).mono ?_;rintro e w2 ⟨rfl,hb⟩;have ai:Hid (Below wr.heap.size wr w2):=jq (((vQ _ _).alloc (bQ _) _).trans (hb.mono (by simp)));clear hb
   cases hf:Np.yes (Np.fp a.data.toList x.sigs) with
   | true=>
    have HX:=jq (HN.out (Np.fo.1 hf));clear hf;go_wp2_with fail;go_roundw
    case rel=>exact⟨k+1,by omega,by go_num,jq (HB.out.trans (ai.out.mono HB.out.size)),jq HX.out⟩
    case measure=>simp[intOf] <;> omega
   | false=>
    have HX:=jq (HF.out λh=>by rw[Np.bS h] at hf;cases hf);clear hf;go_wp2_with fail;go_ret;exact⟨ae HX.out.symm,az.out.trans (ai.out.acQ)⟩
  ·go_wp2_with fail;go_ret;refine⟨ae ?_,az.out⟩;rw[<-HR.out];refine (Np.bS λx hx=>?_).symm;obtain⟨j,hj,rfl⟩:=nQ.1 hx;exact HA.out j _ (by omega) (aQ hj)
structure Np.ApexH(a:List UInt8)(l:List Np.Signed):Prop where
 start:Np.iN l a 4
 server:Np.iN l a 2
 fits:∀ x∈l,Np.iK x.set.type (x.set.name == a)=true
theorem Q6(a:ByteArray)(ha:a.size<=140737488355328)(na:Np.aD a.data.toList=true)(v:Value)(l:List Np.Signed)(bn:l.length<=20000)(hv:∀ x∈l,Np.aD x.set.name=true)(hs:Np.sY l)(w:World)(hd:SlR cA 5 w w.heap.size v l) :
 Calls prog 199 #[.agg #[.string a,v]] w (aeJ w.heap.size w (.bool (Np.yes (Np.ApexH a.data.toList l)))):=by
 obtain⟨r,hr⟩:=abK (Np.yes (Np.ApexH a.data.toList l));rw[hr];have HR:=jq hr;have HV:=jq hv;have HS:=jq hs;have HD:=jq hd;have NA:=jq na;obtain⟨A,c,rfl,aW,bh⟩:=aj hd;clear hr hv hs hd na;have HW:Hid (∀ o o',Below w.heap.size w ((w.alloc o).alloc o')):=jq (λo o'=>((vQ _ w).alloc (bQ _) _).alloc (by simp) _);go_enter func199,ntmps199;go_wp2_with fail;obtain⟨w1,ak⟩:=abK ((w.alloc (.cells #[.string a,.slice A l.length c] 263)).alloc (.cells #[.int .i64 4,.int .i64 2] 3));have c0:w1.cell? ⟨w.heap.size,0,none⟩=some (.string a):=by rw[<-ak];simp[go_sem]
 have c1:w1.cell? ⟨w.heap.size,1,none⟩=some (.slice A l.length c):=by rw[<-ak];simp[go_sem]
 have c2:w1.cell? ⟨w.heap.size+1,0,none⟩=some (.int .i64 4):=by rw[<-ak];simp[go_sem]
 have c3:w1.cell? ⟨w.heap.size+1,1,none⟩=some (.int .i64 2):=by rw[<-ak];simp[go_sem]
 have bU:w1.heap.size=w.heap.size+2:=by rw[<-ak];simp
 have ar:Hid (Below w.heap.size w w1):=jq (by rw[<-ak];exact HW.out _ _);rw[ak];clear ak;go_loopw [11] (λi wr=>Hid (Below w1.heap.size w1 wr)/\(i = .int .i64 0\/(i = .int .i64 1/\Hid (Np.iN l a.data.toList 4))\/(i = .int .i64 2/\Hid (Np.iN l a.data.toList 4)/\Hid (Np.iN l a.data.toList 2)))) (λi _=>2 - (intOf i).toNat)
 case atStart=>exact⟨jq (vQ _ _),.inl rfl⟩
 case round=>
  obtain⟨HB,hi⟩:=hrel;have al:=HB.out.size;obtain⟨bc,bf⟩:=qT HB.out;have d0:wr.cell? ⟨w.heap.size,0,none⟩=some (.string a):=by rw[bc _ _ (by omega)];exact c0
  have d1:wr.cell? ⟨w.heap.size,1,none⟩=some (.slice A l.length c):=by rw[bc _ _ (by omega)];exact c1
  have d2:wr.cell? ⟨w.heap.size+1,0,none⟩=some (.int .i64 4):=by rw[bc _ _ (by omega)];exact c2
  have d3:wr.cell? ⟨w.heap.size+1,1,none⟩=some (.int .i64 2):=by rw[bc _ _ (by omega)];exact c3
  clear bc bf;have az:=abJ ar HB.out;have DX:=jq ((HD.out.keep bI az.out).more eF (show w.heap.size<=wr.heap.size by omega));have bO:w.heap.size+1<wr.heap.size:=by omega
  have Tx:w.heap.size<wr.heap.size:=by omega
  rcases hi with rfl | ⟨rfl,H4⟩ | ⟨rfl,H4,H2⟩
  ·go_wp2_with fail;refine (Kp a _ l bn HV.out HS.out a ha 4 NA.out _ DX.out).mono ?_;rintro e w2 ⟨rfl,hb⟩;have ai:=jq hb;have aO:=hb.size;clear hb
   cases hk:Np.yes (Np.iN l a.data.toList 4) with
   | true=>
    have HK:=jq hk;clear hk;go_wp2_with fail;go_roundw
    case rel=>exact⟨jq (HB.out.trans (ai.out.mono HB.out.size)),.inr (.inl ⟨by go_num,jq (Np.fo.1 HK.out)⟩)⟩
    case measure=>simp[intOf] <;> omega
   | false=>
    have HK:=jq hk;clear hk;go_wp2_with fail;go_ret;refine⟨ae ?_,az.out.trans (ai.out.acQ)⟩;rw[<-HR.out];refine (Np.aK λh=>?_).symm
    have:=Np.bS h.start
    rw[HK.out] at this
    cases this
  ·go_wp2_with fail;refine (Kp a _ l bn HV.out HS.out a ha 2 NA.out _ DX.out).mono ?_;rintro e w2 ⟨rfl,hb⟩;have ai:=jq hb;have aO:=hb.size;clear hb
   cases hk:Np.yes (Np.iN l a.data.toList 2) with
   | true=>
    have HK:=jq hk;clear hk;go_wp2_with fail;go_roundw
    case rel=>exact⟨jq (HB.out.trans (ai.out.mono HB.out.size)),.inr (.inr ⟨by go_num,H4,jq (Np.fo.1 HK.out)⟩)⟩
    case measure=>simp[intOf] <;> omega
   | false=>
    have HK:=jq hk;clear hk;go_wp2_with fail;go_ret;refine⟨ae ?_,az.out.trans (ai.out.acQ)⟩;rw[<-HR.out];refine (Np.aK λh=>?_).symm
    have:=Np.bS h.server
    rw[HK.out] at this
    cases this
  ·go_wp2_with fail;clear d2 d3 c0 c1 c2 c3;obtain⟨w5,rfl⟩:=abX wr;go_loopw [32] (λi wx=>∃ k:Nat,k<=l.length/\i = .int .i64 k/\Hid (Below w5.heap.size w5 wx)/\Hid (∀ j x,j<k->l[j]?=some x->Np.iK x.set.type (x.set.name == a.data.toList)=true)) (λi _=>l.length - (intOf i).toNat)
   case atStart=>exact⟨0,jQ _,rfl,jq (vQ _ _),jq (λj g hj=>by omega)⟩
   case round=>
    obtain⟨k,hk,rfl,HX,HA⟩:=hrel;by_cases aa:k<l.length
    ·have ac:=aQ aa;obtain⟨b,o,c',sn,dv,sv,hA,bp,_,aw,cE,aR,aN,e0,e1,e2,e3,e4⟩:=fk (DX.out.keep bI HX.out) ac
     cases hA
     generalize hx:l[k]=x at *;clear hx;obtain⟨Ad,cd,rfl,_,_⟩:=aj aR;obtain⟨As,cs,rfl,_,_⟩:=aj aN;have ml:=HX.out.size;have g0:wr.cell? ⟨w.heap.size,0,none⟩=some (.string a):=by rw[HX.out.cell (by simpa using Tx)];exact d0
     have eN:w.heap.size<wr.heap.size:=by omega
     have heq:(sn.toList == a.toList)=(x.set.name == a.data.toList):=by rw[dQ,dQ,aw]
     have sC:Hid (Np.iK x.set.type (x.set.name == a.data.toList)=true->∀ j y,j<k+1->l[j]?=some y->Np.iK y.set.type (y.set.name == a.data.toList)=true):=jq (λh j y hj hy=>by
      by_cases e:j=k
      ·subst e;rw[ac] at hy;cases hy;exact h
      ·exact HA.out j y (by omega) hy)
     have D0:Hid (Np.iK x.set.type (x.set.name == a.data.toList)=false->r=false):=jq (λh=>by
      rw[<-HR.out];exact Np.aK λq=>by have:=q.fits x (gQ ac);rw[h] at this;cases this)
     have ba:Hid (∀ o,Below w5.heap.size w5 (wr.alloc o)):=jq (λo=>HX.out.alloc HX.out.size _);generalize (x.set.name == a.data.toList)=bb at *;clear ac aw aR aN
     cases hf:Np.iK x.set.type bb with
     | true=>
      have HF:=jq hf;go_wp2_with (go_at_call 271;refine (Kq _ _ _).mono ?_;rintro e w' ⟨rfl,rfl⟩);go_roundw
      case rel=>exact⟨k+1,by omega,by go_num,jq (ba.out _),jq (sC.out HF.out)⟩
      case measure=>simp[intOf] <;> omega
     | false=>
      have HF:=jq hf;go_wp2_with (go_at_call 271;refine (Kq _ _ _).mono ?_;rintro e w' ⟨rfl,rfl⟩);go_ret;exact⟨ae (D0.out HF.out).symm,az.out.trans ((ba.out _).acQ)⟩
    ·go_wp2_with fail;go_ret;refine⟨ae ?_,az.out.trans (HX.out.acQ)⟩;rw[<-HR.out];refine (Np.bS ⟨H4.out,H2.out,λx hx=>?_⟩).symm;obtain⟨j,hj,rfl⟩:=nQ.1 hx;exact HA.out j _ (by omega) (aQ hj)
def bV(base:Nat)(w:World)(v:Value)(ps:List (List UInt8)):Prop:=w.ownsRow base 9 1 v ps.length (ps.map ay)
theorem bV.form{base:Nat}{w:World}{v:Value}{ps:List (List UInt8)}(h:bV base w v ps):∃ A c,v = .slice A ps.length c:=qz h
theorem bV.alloc{base:Nat}{w:World}{v:Value}{ps:List (List UInt8)}(h:bV base w v ps)(o:Obj):bV base (w.alloc o) v ps:=World.ownsRow.alloc h o
theorem bV.keep{base:Nat}{w w':World}{v:Value}{ps:List (List UInt8)}(h:bV base w v ps)(hb:Below w.heap.size w w'):bV base w' v ps:=cM h (λg hg=>hb.block g (h.lt g hg).2)
theorem bV.slr{base:Nat}{w:World}{v:Value}{ps:List (List UInt8)}(h:bV base w v ps)(hl:ps.length<=140737488355328)(al:∀ x∈ps,x.length<=140737488355328):SlR RTx 1 w w.heap.size v ps:=by
 refine Ai (sz:=1) (e:=9) (base:=base) (λx=>[ay x]) (λ_ _=>rfl) ?_ hl (λx hx=>⟨⟨x.toArray⟩,by simp,al x hx,rfl⟩)
 have:w.ownsRow base 9 1 v ps.length (ps.map ay):=h
 simpa [CN] using this
section
variable {ops:Array Oper} {rest:List Oper} {o:Oper} {a:Act} {Q:Exit->Act->World->Prop}
theorem wn(w:World)(fJ:o.guard=none)(s x:Operand)(ho:o.op = .call { callee:=.builtin .append,args:=#[s,x],argTypes:=#[116,116] })
 (base:Nat) (v:Value) (ps:List (List UInt8)) (hs:a.eval s=v) (hown:bV base w v ps) (blk:Nat) (y:List UInt8) (hx:a.eval x = .slice (some ⟨blk,0,none⟩) 1 1) (hc:w.cell? ⟨blk,0,none⟩=some (ay y)) (hlen:ps.length<=100000) (cW:base<=w.heap.size)
 (h:∀ v' w',bV base w' v' (ps ++ [y])->Below base w w'->wpList prog ops Q rest (a.put o.dst v') w'):wpList prog ops Q (o::rest) a w:=by
 obtain⟨i0,hi,dI,bg,aO⟩:=info_parts Tryz.infoStr;refine wpList_append_own_at w fJ s x 116 ho base 9 i0 (.string ⟨#[]⟩) 1 16 underlying116 hi dI bg aO rfl (by decide) v ps.length (ps.map ay) hs hown ⟨blk,0,none⟩ 1 1 [ay y] hx rfl ?_ (by simp[Value.oneCell']) (by unfold maxLen;omega) (by omega) cW ?_
 ·intro j u hj
  cases j with
  | zero=>simp at hj;subst hj;simpa [Addr.add] using hc
  | succ j=>simp at hj
 ·intro v' w' ho' hg _ _;refine h v' w' ?_ ((vQ _ _).grown hg cW (λk hk=>(hown.lt k hk).1));have e:(ps ++ [y]).length=ps.length+1:=by simp
  unfold bV;rw[e,List.map_append];exact ho'
end
theorem XY(a:ByteArray)(v:Value)(l:List Np.Signed)(bn:l.length<=20000)(w:World)(hd:SlR cA 5 w w.heap.size v l) :
 Calls prog 349 #[.agg #[.string a,v]] w (uh RTx 1 w (Np.ci a.data.toList l)):=by
 have HD:=jq hd;obtain⟨A,c,rfl,aW,bh⟩:=aj hd;clear hd;have kT:Hid (∀ k,(Np.ci a.data.toList (l.take k)).length<=20000):=jq (λk=>by
  unfold Np.ci;rw[List.length_map];exact yQ (List.length_filter_le _ _) (by rw[List.length_take];omega))
 have HW:Hid (∀ o,Below w.heap.size w (w.alloc o)):=jq (λo=>(vQ _ w).alloc (bQ _) _);have uz:Hid (∀ x∈Np.ci a.data.toList l,x.length<=140737488355328):=jq (λx hx=>by
  unfold Np.ci at hx;obtain⟨y,hy,rfl⟩:=List.mem_map.1 hx;obtain⟨j,hj,rfl⟩:=nQ.1 (List.mem_filter.1 hy).1;obtain⟨_,_,_,s,_,_,_,_,_,hs,hz,_⟩:=fk HD.out (aQ hj);rw[<-hs,aX];exact hz)
 go_enter func349,ntmps349;go_wp2_with fail;obtain⟨w1,ak⟩:=abK (w.alloc (.cells #[.string a,.slice A l.length c] 44));have c0:w1.cell? ⟨w.heap.size,0,none⟩=some (.string a):=by rw[<-ak];simp[go_sem]
 have c1:w1.cell? ⟨w.heap.size,1,none⟩=some (.slice A l.length c):=by rw[<-ak];simp[go_sem]
 have bg:w1.heap.size=w.heap.size+1:=by rw[<-ak];simp
 have ar:Hid (Below w.heap.size w w1):=jq (by rw[<-ak];exact HW.out _);rw[ak];clear ak;go_loopw [3,4] (λvo i wr=>∃ (k:Nat),k<=l.length/\i = .int .i64 k/\Hid (Below w1.heap.size w1 wr)/\Hid (bV w1.heap.size wr vo (Np.ci a.data.toList (l.take k)))) (λ_ i _=>l.length - (intOf i).toNat)
 case atStart=>exact⟨0,jQ _,rfl,jq (vQ _ _),jq ⟨by simp,.inl ⟨rfl,rfl⟩⟩⟩
 case round=>
  obtain⟨k,hk,rfl,HB,HO⟩:=hrel;have al:=HB.out.size;have d0:wr.cell? ⟨w.heap.size,0,none⟩=some (.string a):=abZ HB.out c0;have d1:wr.cell? ⟨w.heap.size,1,none⟩=some (.slice A l.length c):=abZ HB.out c1;have az:=abJ ar HB.out;have bO:w.heap.size<wr.heap.size:=by omega
  by_cases aa:k<l.length
  ·obtain⟨x,ac⟩:∃ x,l[k]?=some x:=⟨_,aQ aa⟩;obtain⟨b,o,c',sn,dv,sv,hA,bp,_,aw,cE,aR,aN,f0,f1,f2,f3,f4⟩:=fk (HD.out.keep bI az.out) ac
   cases hA
   obtain⟨Ad,cd,rfl,_,_⟩:=aj aR;have HT:Hid (Np.ci a.data.toList (l.take (k+1))=if x.set.type=2/\x.set.name≠a.data.toList then Np.ci a.data.toList (l.take k) ++ [x.set.name] else Np.ci a.data.toList (l.take k)):=jq (by
    obtain⟨hl,he⟩:=cQ.1 ac;rw[fQ hl,Np.R0,he])
   have aS:=jq aw;have bL:(0:Int)<=(k:Int):=by omega
   have bY:(k:Int)<(l.length:Int):=by omega
   have an:b<wr.heap.size:=by omega
   have ba:Hid (∀ o,Below w1.heap.size w1 (wr.alloc o)):=jq (λo=>HB.out.alloc HB.out.size _);have jL:=jq (kT.out k);clear ac aw aR aN f4;by_cases h2:x.set.type=2
   ·have ab:(x.set.type == 2)=true:=by simpa using h2
    by_cases hn:x.set.name=a.data.toList
    ·have gS:(!sn.toList == a.toList)=false:=by rw[dQ,dQ,aS.out,hn];simp
     have jK:=jq (HT.out.trans (Qc λh=>h.2 hn));clear h2 hn;go_wp2_with fail;go_roundw
     case rel=>exact⟨k+1,by omega,by go_num,jq (ba.out _),jq (by rw[jK.out];exact HO.out.alloc _)⟩
     case measure=>simp[intOf] <;> omega
    ·have gS:(!sn.toList == a.toList)=true:=by rw[dQ,dQ,aS.out];simpa using hn
     have jK:=jq (HT.out.trans (Qb ⟨h2,hn⟩));clear h2 hn;go_wp2_with (at_builtin;refine wn _ rfl _ _ rfl w1.heap.size _ (Np.ci a.data.toList (l.take k)) rfl ((HO.out.alloc _).alloc _) (wr.heap.size+1) sn.data.toList (by simp[go_sem]) (by simp[go_sem]) (by have:=jL.out;omega) (by simp;omega) ?_;intro v5 w5 fd aF;have H5:=jq (And.intro fd aF);clear fd aF);go_roundw
     case rel=>exact⟨k+1,by omega,by go_num,jq (((ba.out _).alloc (by simp;omega) _).trans H5.out.2),jq (by rw[jK.out,<-aS.out];exact H5.out.1)⟩
     case measure=>simp[intOf] <;> omega
   ·have ab:(x.set.type == 2)=false:=by simpa using h2
    have jK:=jq (HT.out.trans (Qc λh=>h2 h.1));clear h2;go_wp2_with fail;go_roundw
    case rel=>exact⟨k+1,by omega,by go_num,jq (ba.out _),jq (by rw[jK.out];exact HO.out.alloc _)⟩
    case measure=>simp[intOf] <;> omega
  ·have HE:Hid (l.take k=l):=jq (kQ (by omega));go_wp2_with fail;go_ret;refine⟨_,rfl,?_,az.out⟩;have h1:=HO.out;have h2:=kT.out k;rw[HE.out] at h1 h2;exact h1.slr (by omega) uz.out
theorem Ll(l:List (List UInt8)):∀ k,(Np.dG (l.take k)).length<=k:=by
 intro k;have key:∀ (r o:List (List UInt8)),(r.foldl Np.mS o).length<=o.length+r.length:=by
  intro r
  induction r with
  | nil=>intro o;simp
  | cons c r ih=>
   intro o;have h1:(Np.mS o c).length<=o.length+1:=by
    unfold Np.mS
    cases o.getLast? with
    | none=>simp
    | some q=>dsimp only;split <;> simp
   have:=ih (Np.mS o c)
   rw[List.foldl_cons,List.length_cons];omega
 have:=key (l.take k) []
 rw[List.length_take] at this;unfold Np.dG;simp at this;omega
theorem F6(l:List (List UInt8)):∀ x∈Np.dG l,x∈l:=by
 have key:∀ (r o:List (List UInt8)),∀ x∈r.foldl Np.mS o,x∈o\/x∈r:=by
  intro r
  induction r with
  | nil=>intro o x hx;exact .inl hx
  | cons c r ih=>
   intro o x hx;rcases ih _ x hx with h | h
   ·unfold Np.mS at h
    cases hg:o.getLast? with
    | none=>rw[hg] at h;simp at h;exact .inr (by simp[h])
    | some q=>
     rw[hg] at h;dsimp only at h;split at h
     ·exact .inl h
     ·rcases List.mem_append.1 h with h | h
      ·exact .inl h
      ·simp at h;exact .inr (by simp[h])
   ·exact .inr (mQ _ h)
 intro x hx;rcases key l [] x hx with h | h
 ·cases h
 ·exact h
theorem qC{x:List UInt8}(h:Np.aD x=true):x.length<=60:=by
 unfold Np.aD at h;split at h
 ·rename_i e;rw[e];decide
 ·split at h
  ·cases h
  ·omega
theorem X5(a:ByteArray)(v:Value)(l:List Np.Signed)(bn:l.length<=20000)(hv:∀ x∈l,Np.aD x.set.name=true)(w:World)(hd:SlR cA 5 w w.heap.size v l) :
 Calls prog 305 #[.agg #[.string a,v]] w (uh RTx 1 w (Np.dG (Np.ci a.data.toList l))):=by
 have HD:=jq hd;obtain⟨A,c,rfl,aW,bh⟩:=aj hd;have HW:Hid (∀ o,Below w.heap.size w (w.alloc o)):=jq (λo=>(vQ _ w).alloc (bQ _) _);have sT:Hid (∀ x∈Np.ci a.data.toList l,Np.aD x=true):=jq (λx hx=>by
  unfold Np.ci at hx;obtain⟨y,hy,rfl⟩:=List.mem_map.1 hx;exact hv y (List.mem_filter.1 hy).1)
 clear hd hv;go_enter func305,ntmps305;go_wp2_with fail;refine (XY a _ l bn _ (HD.out.later bI eF (HW.out _))).mono ?_;rintro e w1 ⟨vc,rfl,Gv,an⟩;have bg:w.heap.size<w1.heap.size:=by have:=an.size;simp at this;omega
 have ar:=jq ((HW.out _).trans (an.mono (by simp)));clear an;have im:(Np.ci a.data.toList l).length<=20000:=by
  unfold Np.ci;rw[List.length_map];exact yQ (List.length_filter_le _ _) bn
 generalize Np.ci a.data.toList l=cs at *;obtain⟨Ac,cc,rfl,re,ahX⟩:=aj Gv;have HC:=jq Gv;clear Gv;go_wp2_with fail;go_loopw [4,5] (λvo i wr=>∃ (k:Nat),k<=cs.length/\i = .int .i64 k/\Hid (Below w1.heap.size w1 wr)/\Hid (bV w1.heap.size wr vo (Np.dG (cs.take k)))) (λ_ i _=>cs.length - (intOf i).toNat)
 case atStart=>exact⟨0,jQ _,rfl,jq (vQ _ _),jq ⟨by simp,.inl ⟨rfl,rfl⟩⟩⟩
 case round=>
  obtain⟨k,hk,rfl,HB,HO⟩:=hrel;have al:=HB.out.size;have az:=abJ ar HB.out;have uB:Hid (∀ x∈Np.dG (cs.take k),x.length<=140737488355328):=jq (λx hx=>by
   have:=qC (sT.out x (List.mem_of_mem_take (F6 _ x hx)))
   omega)
  have jL:Hid ((Np.dG (cs.take k)).length<=20000):=jq (by have:=Ll cs k;omega);by_cases aa:k<cs.length
  ·obtain⟨x,ac⟩:∃ x,cs[k]?=some x:=⟨_,aQ aa⟩;obtain⟨b,o,sn,rfl,bp,aw,cE,f0⟩:=pa (HC.out.keep mv HB.out) ac;have QD:Hid (Np.aD x=true):=jq (sT.out x (gQ ac));have HT:Hid (Np.dG (cs.take (k+1))=Np.mS (Np.dG (cs.take k)) x):=jq (by
    obtain⟨hl,he⟩:=cQ.1 ac;rw[fQ hl,Np.Li,he])
   have aS:=jq aw;have bL:(0:Int)<=(k:Int):=by omega
   have bY:(k:Int)<(cs.length:Int):=by omega
   have an:b<wr.heap.size:=by omega
   have nP:∀ (g:bi wr) (p:Addr),p.block<wr.heap.size->g.w.cell? p=wr.cell? p:=λg p h=>g.cell p h;have Eo:=jq (HO.out.slr (by have:=jL.out;omega) uB.out);have P9:Hid (∀ y∈Np.dG (cs.take k),Np.aD y=true):=jq (λy hy=>sT.out y (List.mem_of_mem_take (F6 _ y hy)));clear ac aw;generalize Np.dG (cs.take k)=out at *;obtain⟨Ao,co,rfl⟩:=HO.out.form;by_cases h0:out.length=0
   ·obtain rfl:out = []:=rQ h0;have jK:Hid (Np.dG (cs.take (k+1)) = [] ++ [x]):=jq (by rw[HT.out];rfl);clear h0;go_wp2_with fail;refine adX ?_
    repeat (go_big_quiet_step (fail))
    refine wpQuiet_nil ?_;rintro _ ⟨g,rfl⟩;have HG:=jq g.below;have iq:=g.size;have fg:g.w.cell? ⟨b,o+k,none⟩=some (.string sn):=(nP g _ an).trans f0;have Er:=jq (HO.out.keep g.below);generalize g.w=w2 at *;go_wp2_with (at_builtin;refine wn _ rfl _ _ rfl w1.heap.size _ [] rfl (Er.out.alloc _) w2.heap.size sn.data.toList (by simp[go_sem]) (by simp[go_sem]) (by simp) (by simp;omega) ?_;intro v5 w5 fd aF;have H5:=jq (And.intro fd aF);clear fd aF);go_roundw
    case rel=>exact⟨k+1,by omega,by go_num,jq (((HB.out.trans (HG.out.acQ)).alloc (by omega) _).trans H5.out.2),jq (by rw[jK.out,<-aS.out];exact H5.out.1)⟩
    case measure=>simp[intOf] <;> omega
   ·obtain⟨n,hn⟩:∃ n,out.length=n+1:=⟨out.length - 1,by omega⟩;obtain⟨q,hq⟩:∃ q,out[n]?=some q:=⟨_,aQ (by omega)⟩;obtain⟨b2,o2,sq,rfl,uW,jt,arK,g0⟩:=pa Eo.out hq;have y8:out.getLast?=some q:=by rw[List.getLast?_eq_getElem?,hn];exact hq
    have jK:Hid (Np.dG (cs.take (k+1))=if Np.aZ x q=true then out else out ++ [x]):=jq (by rw[HT.out,Np.mS,y8]);have Jm:Hid (Np.aD q=true):=jq (P9.out q (gQ hq));obtain⟨bu,FM⟩:=abK (Np.aZ x q);have bE:∀ g:bi wr,Calls prog 222 #[.string sn,.string sq] g.w λe w'=>e = .returned (.bool bu)/\Below g.w.heap.size g.w w':=λg=>by
     have jr:q≠[]:=λe=>by have:=Jm.out;rw[e] at this;exact absurd this (by decide)
     rw[<-FM,<-Np.zM jr,<-aS.out,<-jt];have s1:=qC QD.out;have s2:=qC Jm.out;rw[<-aS.out,aX] at s1;rw[<-jt,aX] at s2;exact C2 sn sq (by omega) (by omega) _
    have jH:=jq bE;have wG:=jq FM;obtain⟨N,hN⟩:=abK out.length;have HN:=jq hN;have tI:((N:Int) == 0)=false:=by rw[beq_eq_false_iff_ne];omega
    have ak:IntKind.i64.wrap ((N:Int) - 1)=(n:Int):=by rw[IntWalk.i64_in _ (by have:=jL.out;omega)];omega
    have lw:(0:Int)<=(n:Int):=by omega
    have p9:(n:Int)<(N:Int):=by omega
    have xk:Hid (bV w1.heap.size wr (.slice (some ⟨b2,o2,none⟩) N co) out):=jq (by rw[<-hN];exact HO.out);rw[hN];clear hn hq jt y8 bE FM h0 hN
    cases bu with
    | true=>
     have wV:=jq (jK.out.trans (Qb wG.out));go_wp2_with fail;refine adX ?_
     repeat (go_big_quiet_step ((go_at_call 222;exact Calls.grow_of (jH.out _))))
     refine wpQuiet_nil ?_;rintro _ ⟨g,rfl⟩;go_wp2_with fail;go_roundw
     case rel=>exact⟨k+1,by omega,by go_num,abJ HB g.below,jq (by rw[wV.out];exact xk.out.keep g.below)⟩
     case measure=>simp[intOf] <;> omega
    | false=>
     have wV:=jq (jK.out.trans (Qc (by rw[wG.out];simp)));go_wp2_with fail;refine adX ?_
     repeat (go_big_quiet_step ((go_at_call 222;exact Calls.grow_of (jH.out _))))
     refine wpQuiet_nil ?_;rintro _ ⟨g,rfl⟩;have HG:=jq g.below;have iq:=g.size;have fg:g.w.cell? ⟨b,o+k,none⟩=some (.string sn):=(nP g _ an).trans f0;have Er:=jq (xk.out.keep g.below);clear nP;generalize g.w=w2 at *;go_wp2_with (at_builtin;refine wn _ rfl _ _ rfl w1.heap.size _ out rfl (Er.out.alloc _) w2.heap.size sn.data.toList (by simp[go_sem]) (by simp[go_sem]) (by have:=jL.out;omega) (by simp;omega) ?_;intro v5 w5 fd aF;have H5:=jq (And.intro fd aF);clear fd aF);go_roundw
     case rel=>exact⟨k+1,by omega,by go_num,jq (((HB.out.trans (HG.out.acQ)).alloc (by omega) _).trans H5.out.2),jq (by rw[wV.out,<-aS.out];exact H5.out.1)⟩
     case measure=>simp[intOf] <;> omega
  ·have HE:Hid (cs.take k=cs):=jq (kQ (by omega));go_wp2_with fail;go_ret;refine⟨_,rfl,?_,az.out⟩;have h1:=HO.out;have h2:=jL.out;have h3:=uB.out;rw[HE.out] at h1 h2 h3;exact h1.slr (by omega) h3
theorem J7{a b c:List UInt8}(h1:Np.aH a b<=0)(h2:Np.aH b c<=0):Np.aH a c<=0:=by
 by_cases e1:Np.aH a b=0
 ·rw[Np.ej.zero _ _ e1];exact h2
 ·by_cases e2:Np.aH b c=0
  ·rw[<-Np.ej.zero _ _ e2];exact h1
  ·exact Int.le_of_lt (Np.ej.trans a b c (by omega) (by omega))
theorem RJ{a b c:List UInt8}(h1:0<Np.aH a c)(h2:Np.aH a b<0):0<Np.aH b c:=by
 have h3:=Np.ej.anti' _ _ h1;have h4:=Np.ej.trans _ _ _ h3 h2;exact Np.ej.anti _ _ h4
theorem C6{bs:List (List UInt8)}{n i:Nat}(hi:i<n):bs++List.replicate (n - i) []=bs ++ [[]]++List.replicate (n - (i+1)) []:=by
 rw[show n - i=(n - (i+1))+1 by omega,List.replicate_succ,List.append_assoc];rfl
theorem NB{bs:List (List UInt8)}{n i:Nat}{b:List UInt8}(hb:bs.length=i)(hi:i<n):(bs++List.replicate (n - i) []).set i b=bs ++ [b]++List.replicate (n - (i+1)) []:=by
 rw[show n - i=(n - (i+1))+1 by omega,List.replicate_succ,List.set_append_right _ _ (by omega),hb,Nat.sub_self,List.set_cons_zero,List.append_assoc];rfl
def Dv(n0 Bs:Nat)(w1:World)(z:Np.Zone)(H:List (List UInt8))(vk vi:Value)(wr:World):Prop:=
 ∃ (i k:Nat) (bs:List (List UInt8)),i<=z.sets.length/\k<=H.length/\vi = .int .i64 i/\vk = .int .i64 k/\bs.length=i/\Hid (Below Bs w1 wr)/\Hid (er wr Bs (bs++List.replicate (z.sets.length - i) []))/\Bs<wr.heap.size/\n0<=Bs/\
   Hid (∀ (j:Nat) (x:Np.Signed) (b:List UInt8),z.sets[j]?=some x->bs[j]?=some b->Np.ik (Np.cj z) x.set.name b)/\Hid (∀ (j:Nat) (y:List UInt8) (x:Np.Signed),j<k->H[j]?=some y->z.sets[i]?=some x->Np.aH y x.set.name<=0)
theorem No(a:ByteArray)(v:Value)(l:List Np.Signed)(bn:l.length<=20000)(ho:Np.InOrder ⟨a.data.toList,l⟩)(hv:∀ x∈l,Np.aD x.set.name=true)(w:World)(hd:SlR cA 5 w w.heap.size v l) :
 Calls prog 237 #[.agg #[.string a,v]] w (uh RTx 1 w (Np.dE ⟨a.data.toList,l⟩)):=by
 have HD:=jq hd;obtain⟨A,c,rfl,aW,bh⟩:=aj hd;have HW:Hid (∀ o,Below w.heap.size w (w.alloc o)):=jq (λo=>(vQ _ w).alloc (bQ _) _);have HO:=jq ho;have HV:=jq hv;have pG:Hid (∀ x∈Np.dG (Np.ci a.data.toList l),Np.aD x=true):=jq (λx hx=>by
  have hx:=F6 _ x hx;unfold Np.ci at hx;obtain⟨y,hy,rfl⟩:=List.mem_map.1 hx;exact hv y (List.mem_filter.1 hy).1)
 have Ji:Hid (∀ (n:List UInt8) (k:Nat),k<=(Np.dG (Np.ci a.data.toList l)).length->(∀ j x,j<k->(Np.dG (Np.ci a.data.toList l))[j]?=some x->Np.aH x n<=0)->(∀ j x,k<=j->(Np.dG (Np.ci a.data.toList l))[j]?=some x->0<Np.aH x n)->Np.ik (Np.cj ⟨a.data.toList,l⟩) n (Np.iC (Np.dG (Np.ci a.data.toList l)) k n)):=jq (λn k hk h1 h2=>Np.XX ho hk h1 h2);have Qx:Hid ((Np.dG (Np.ci a.data.toList l)).Pairwise λa b=>Np.aH a b<0):=jq (Np.Lj ho).1.sorted;have hhl:(Np.dG (Np.ci a.data.toList l)).length<=20000:=by
  have h1:=Ll (Np.ci a.data.toList l) (Np.ci a.data.toList l).length;rw[List.take_length] at h1;have h2:(Np.ci a.data.toList l).length<=l.length:=by
   unfold Np.ci;rw[List.length_map];exact List.length_filter_le _ _
  omega
 clear hd ho;go_enter func237,ntmps237;go_wp2_with fail;refine (X5 a _ l bn hv _ (HD.out.later bI eF (HW.out _))).mono ?_;rintro e w1 ⟨vh,rfl,Gw,an⟩;have bg:w.heap.size<w1.heap.size:=by have:=an.size;simp at this;omega
 have c1:w1.cell? ⟨w.heap.size,1,none⟩=some (.slice A l.length c):=by rw[an.cell (by simp)];go_simp
 have ar:=jq ((HW.out _).trans (an.mono (by simp)));clear an hv;generalize Np.dG (Np.ci a.data.toList l)=H at *;obtain⟨Ah,ch,rfl,hch,ajK⟩:=aj Gw;have HH:=jq Gw;clear Gw;have fu:=GR l.length bn;have HZ:Hid (∀ j,j<l.length->(madeCells #[Value.string ⟨#[]⟩] l.length)[j]?=some (.string ⟨#[]⟩)):=jq (λj hj=>GQ _ _ hj);generalize madeCells #[Value.string ⟨#[]⟩] l.length=Z at fu HZ;go_wp2_with fail;obtain⟨Bs,nI⟩:=abK w1.heap.size;obtain⟨w2,ag⟩:=abK (w1.alloc (.cells Z 9));have ab:Below Bs w1 w2:=by rw[<-ag,<-nI];exact (vQ _ _).alloc (bQ _) _
 have aO:Bs<w2.heap.size:=by rw[<-ag];simp;omega
 have xp:Hid (er w2 Bs ([]++List.replicate (l.length - 0) [])):=jq (λj x hx=>by
  rw[List.nil_append,Nat.sub_zero,List.getElem?_replicate] at hx;split at hx
  ·rename_i hj
   cases hx
   refine⟨⟨#[]⟩,rfl,by decide,?_,?_⟩
   ·rw[<-ag,<-nI];simp[go_sem];exact HZ.out j hj
   ·rw[<-ag,<-nI];simp[go_sem]
  ·cases hx)
 have ai:=jq ab;rw[ag,nI];clear ag ab fu HZ;go_loopw [5,6] (λvk vi wr=>Dv w.heap.size Bs w1 ⟨a.data.toList,l⟩ H vk vi wr) (λ_ i _=>l.length - (intOf i).toNat)
 case atStart=>exact⟨0,0,[],jQ _,jQ _,rfl,rfl,rfl,ai,xp,aO,by omega,jq (λj x b _ hb=>by simp at hb),jq (λj y x hj=>by omega)⟩
 case round=>
  obtain⟨i,k,bs,hi,hk,rfl,rfl,bq,HB,HR,tf,LG,HT,HK⟩:=hrel;have hi:i<=l.length:=hi;have d1:wr.cell? ⟨w.heap.size,1,none⟩=some (.slice A l.length c):=abZ HB.out c1;have az:Hid (Below w.heap.size w wr):=abJ ar HB.out;have bO:w.heap.size<wr.heap.size:=by omega
  by_cases aa:i<l.length
  ·obtain⟨x,ac⟩:∃ x,l[i]?=some x:=⟨_,aQ aa⟩;obtain⟨b,o,c',sn,dv,sv,hA,bp,_,aw,cE,aR,aN,f0,f1,f2,f3,f4⟩:=fk (HD.out.keep bI az.out) ac
   cases hA
   have HX:=jq ac;have aS:=jq aw;have UZ:sn.size<=60:=by have:=qC (HV.out x (gQ ac));rw[<-aw,aX] at this;exact this
   have lw:(0:Int)<=(i:Int):=by omega
   have p9:(i:Int)<(l.length:Int):=by omega
   have an:b<wr.heap.size:=by omega
   have sE:Hid (∀ (j:Nat) (y:List UInt8),j<k->H[j]?=some y->Np.aH y sn.data.toList<=0):=jq (λj y hj hy=>by rw[aw];exact HK.out j y x hj hy ac);clear ac aw aR aN f1 f2 f3 f4 HK;go_wp2_with fail;obtain⟨wo,rfl⟩:=abX wr;go_loopw [5] (λvk wr=>∃ k:Nat,k<=H.length/\vk = .int .i64 k/\Hid (Below wo.heap.size wo wr)/\Hid (∀ (j:Nat) (y:List UInt8),j<k->H[j]?=some y->Np.aH y sn.data.toList<=0)) (λk _=>H.length - (intOf k).toNat)
   case atStart=>exact⟨k,hk,rfl,jq (vQ _ _),sE⟩
   case round=>
    obtain⟨k,hk,rfl,sr,wW⟩:=hrel;have rO:=sr.out.size;have O5:Hid (SlR RTx 1 wr w1.heap.size (.slice Ah H.length ch) H):=jq ((HH.out.keep mv (HB.out.acQ)).keep mv (sr.out.acQ));by_cases lA:k<H.length
    ·obtain⟨y,cn⟩:∃ y,H[k]?=some y:=⟨_,aQ lA⟩;obtain⟨b2,o2,sy,rfl,uW,ju,arX,g0⟩:=pa O5.out cn;have arJ:sy.size<=60:=by have:=qC (pG.out y (gQ cn));rw[<-ju,aX] at this;exact this
     have HY:=jq cn;have uA:=jq ju;have bL:(0:Int)<=(k:Int):=by omega
     have bY:(k:Int)<(H.length:Int):=by omega
     clear cn ju;go_wp2_with fail;refine (GZ sy sn (by omega) (by omega) _).mono ?_;rintro e w6 ⟨rfl,aV⟩;have cF:=jq aV;have ke:=aV.size;clear aV;by_cases ee:Np.aH sy.data.toList sn.data.toList<=0
     ·have HN:Hid (∀ (j:Nat) (y:List UInt8),j<k+1->H[j]?=some y->Np.aH y sn.data.toList<=0):=jq (λj z hj hz=>by
       by_cases e:j=k
       ·subst e;rw[HY.out] at hz;cases hz;rw[<-uA.out];exact ee
       ·exact wW.out j z (by omega) hz)
      go_wp2_with fail;go_roundw
      case rel=>exact⟨k+1,by omega,by go_num,jq (sr.out.trans (cF.out.mono sr.out.size)),jq HN.out⟩
      case measure=>simp[intOf] <;> omega
     ·have D4:Hid (∀ (j:Nat) (y:List UInt8),k<=j->H[j]?=some y->0<Np.aH y sn.data.toList):=jq (λj z hj hz=>by
       by_cases e:j=k
       ·subst e;rw[HY.out] at hz;cases hz;rw[<-uA.out];omega
       ·obtain⟨h1,e1⟩:=cQ.1 HY.out;obtain⟨h2,e2⟩:=cQ.1 hz
        have:=List.pairwise_iff_getElem.1 Qx.out k j h1 h2 (by omega)
        rw[e1,e2] at this;exact RJ (by rw[<-uA.out];omega) this)
      have kW:Hid (∀ W',Below Bs w1 W'->Bs<W'.heap.size->er W' Bs (bs ++ [Np.iC H k sn.data.toList]++List.replicate (l.length - (i+1)) [])->Dv w.heap.size Bs w1 ⟨a.data.toList,l⟩ H (.int .i64 k) (.int .i64 (i+1)) W'):=jq (λW' h1 h2 h3=>by
       refine⟨i+1,k,bs ++ [Np.iC H k sn.data.toList],by show i+1<=l.length;omega,hk,by go_num,rfl,by simp[bq],jq h1,jq h3,h2,LG,jq λj x' b' hx' hb'=>?_,jq λj y x' hj hy hx'=>?_⟩
       ·have hx':l[j]?=some x':=hx';by_cases e:j<i
        ·rw[List.getElem?_append_left (by omega)] at hb';exact HT.out j x' b' hx' hb'
        ·have yR:j=i:=by have:=(cQ.1 hb').1;simp at this;omega
         subst yR;rw[HX.out] at hx';cases hx';rw[oQ (by omega),bq,Nat.sub_self] at hb'
         cases hb'
         rw[<-aS.out];exact Ji.out _ k hk wW.out D4.out
       ·obtain⟨q1,e1⟩:=cQ.1 HX.out;have hx':l[i+1]?=some x':=hx';obtain⟨q2,e2⟩:=cQ.1 hx';have h4:=HO.out.names (show i<i+1 by omega) q2;dsimp only at h4;rw[e1,e2,<-aS.out] at h4;exact J7 (wW.out j y hj hy) h4)
      have pI:=jq (sr.out.trans (cF.out.mono sr.out.size));have wH:Hid (Below Bs w1 w6):=abJ HB pI.out;have rb:Bs<w6.heap.size:=by have:=pI.out.size;omega
      have ki:Hid (er w6 Bs (bs++List.replicate (l.length - i) [])):=jq (HR.out.keep pI.out (by omega));by_cases gU:k=0
      ·have iu:decide ((0:Int)<(k:Int))=false:=by simp;omega
       have gV:decide (0<k)=false:=by simp;omega
       have ou:Hid (Np.iC H k sn.data.toList = []):=jq (by unfold Np.iC;rw[Qc (by omega)]);clear gU;go_wp2_with fail;go_roundw
       case rel=>exact kW.out _ wH.out rb (by rw[ou.out,<-C6 aa];exact ki.out)
       case measure=>simp[intOf] <;> omega
      ·obtain⟨m,lB⟩:∃ m,k=m+1:=⟨k - 1,by omega⟩;obtain⟨z,iq⟩:∃ z,H[m]?=some z:=⟨_,aQ (by omega)⟩;obtain⟨b3,o3,sz,BT,Tu,j9,CB,g3⟩:=pa ((HH.out.keep mv (HB.out.acQ)).keep mv (pI.out.acQ)) iq;have U4:sz.size<=60:=by have:=qC (pG.out z (gQ iq));rw[<-j9,aX] at this;exact this
       have zK:z≠[]:=λe=>by have:=pG.out z (gQ iq);rw[e] at this;exact absurd this (by decide)
       have D6:Hid (Np.inL (Np.dS sn.data.toList) (Np.dS sz.data.toList)=Np.aZ sn.data.toList z):=jq (by rw[j9];exact Np.zM zK);have ou:Hid (Np.iC H k sn.data.toList=if Np.aZ sn.data.toList z=true then z else []):=jq (by unfold Np.iC;rw[lB,show m+1 - 1=m by omega,iq];simp);have uB:=jq j9;have iu:decide ((0:Int)<(k:Int))=true:=by simp;omega
       have gV:decide (0<k)=true:=by simp;omega
       have ak:IntKind.i64.wrap ((k:Int) - 1)=(m:Int):=by rw[IntWalk.i64_in _ (by omega)];omega
       have iS:(0:Int)<=(m:Int):=by omega
       have rl:(m:Int)<(H.length:Int):=by omega
       clear iq j9 lB gU zK;simp only[Option.some.injEq,Addr.mk.injEq,and_true] at BT;obtain⟨rfl,rfl⟩:=BT;go_wp2_with fail;refine (C2 sn sz (by omega) (by omega) _).mono ?_;rw[D6.out];rintro e w7 ⟨rfl,du⟩;have iF:=jq du;have rN:=du.size;clear du;have su:Hid (Below Bs w1 w7):=abJ wH iF.out;have ya:Bs<w7.heap.size:=by omega
       have sN:Hid (er w7 Bs (bs++List.replicate (l.length - i) [])):=jq (ki.out.keep iF.out (by omega));have g37:w7.cell? ⟨b2,o2+m,none⟩=some (.string sz):=abZ iF.out g3;obtain⟨s0,_,_,gW,iP⟩:=sN.out i [] (by rw[oQ (by omega),bq,Nat.sub_self,List.getElem?_replicate,Qb (by omega)])
       cases hu:Np.aZ sn.data.toList z with
       | true=>
        have gJ:Hid (Np.iC H k sn.data.toList=sz.data.toList):=jq (by rw[ou.out,hu,Qb rfl,uB.out]);clear hu;go_wp2_with fail;go_roundw
        case rel=>exact kW.out _ (su.out.setCell (by simp) _) (by simpa using ya) (by rw[gJ.out,<-NB bq aa];exact sN.out.store (by rw[List.length_append,List.length_replicate];omega) sz CB)
        case measure=>simp[intOf] <;> omega
       | false=>
        have gJ:Hid (Np.iC H k sn.data.toList = []):=jq (by rw[ou.out,hu];rfl);clear hu;go_wp2_with fail;go_roundw
        case rel=>exact kW.out _ su.out ya (by rw[gJ.out,<-C6 aa];exact sN.out)
        case measure=>simp[intOf] <;> omega
    ·have D4:Hid (∀ (j:Nat) (y:List UInt8),k<=j->H[j]?=some y->0<Np.aH y sn.data.toList):=jq (λj z hj hz=>by have:=(cQ.1 hz).1;omega);have mT:decide ((k:Int)<(H.length:Int))=false:=by simp;omega
     have kW:Hid (∀ W',Below Bs w1 W'->Bs<W'.heap.size->er W' Bs (bs ++ [Np.iC H k sn.data.toList]++List.replicate (l.length - (i+1)) [])->Dv w.heap.size Bs w1 ⟨a.data.toList,l⟩ H (.int .i64 k) (.int .i64 (i+1)) W'):=jq (λW' h1 h2 h3=>by
      refine⟨i+1,k,bs ++ [Np.iC H k sn.data.toList],by show i+1<=l.length;omega,hk,by go_num,rfl,by simp[bq],jq h1,jq h3,h2,LG,jq λj x' b' hx' hb'=>?_,jq λj y x' hj hy hx'=>?_⟩
      ·have hx':l[j]?=some x':=hx';by_cases e:j<i
       ·rw[List.getElem?_append_left (by omega)] at hb';exact HT.out j x' b' hx' hb'
       ·have yR:j=i:=by have:=(cQ.1 hb').1;simp at this;omega
        subst yR;rw[HX.out] at hx';cases hx';rw[oQ (by omega),bq,Nat.sub_self] at hb'
        cases hb'
        rw[<-aS.out];exact Ji.out _ k hk wW.out D4.out
      ·obtain⟨q1,e1⟩:=cQ.1 HX.out;have hx':l[i+1]?=some x':=hx';obtain⟨q2,e2⟩:=cQ.1 hx';have h4:=HO.out.names (show i<i+1 by omega) q2;dsimp only at h4;rw[e1,e2,<-aS.out] at h4;exact J7 (wW.out j y hj hy) h4)
     have pI:=jq (sr.out);have wH:Hid (Below Bs w1 wr):=abJ HB pI.out;have rb:Bs<wr.heap.size:=by have:=pI.out.size;omega
     have ki:Hid (er wr Bs (bs++List.replicate (l.length - i) [])):=jq (HR.out.keep pI.out (by omega));by_cases gU:k=0
     ·have iu:decide ((0:Int)<(k:Int))=false:=by simp;omega
      have gV:decide (0<k)=false:=by simp;omega
      have ou:Hid (Np.iC H k sn.data.toList = []):=jq (by unfold Np.iC;rw[Qc (by omega)]);clear gU;go_wp2_with fail;go_roundw
      case rel=>exact kW.out _ wH.out rb (by rw[ou.out,<-C6 aa];exact ki.out)
      case measure=>simp[intOf] <;> omega
     ·obtain⟨m,lB⟩:∃ m,k=m+1:=⟨k - 1,by omega⟩;obtain⟨z,iq⟩:∃ z,H[m]?=some z:=⟨_,aQ (by omega)⟩;obtain⟨b3,o3,sz,BT,Tu,j9,CB,g3⟩:=pa ((HH.out.keep mv (HB.out.acQ)).keep mv (pI.out.acQ)) iq;have U4:sz.size<=60:=by have:=qC (pG.out z (gQ iq));rw[<-j9,aX] at this;exact this
      have zK:z≠[]:=λe=>by have:=pG.out z (gQ iq);rw[e] at this;exact absurd this (by decide)
      have D6:Hid (Np.inL (Np.dS sn.data.toList) (Np.dS sz.data.toList)=Np.aZ sn.data.toList z):=jq (by rw[j9];exact Np.zM zK);have ou:Hid (Np.iC H k sn.data.toList=if Np.aZ sn.data.toList z=true then z else []):=jq (by unfold Np.iC;rw[lB,show m+1 - 1=m by omega,iq];simp);have uB:=jq j9;have iu:decide ((0:Int)<(k:Int))=true:=by simp;omega
      have gV:decide (0<k)=true:=by simp;omega
      have ak:IntKind.i64.wrap ((k:Int) - 1)=(m:Int):=by rw[IntWalk.i64_in _ (by omega)];omega
      have iS:(0:Int)<=(m:Int):=by omega
      have rl:(m:Int)<(H.length:Int):=by omega
      clear iq j9 lB gU zK;subst BT;go_wp2_with fail;refine (C2 sn sz (by omega) (by omega) _).mono ?_;rw[D6.out];rintro e w7 ⟨rfl,du⟩;have iF:=jq du;have rN:=du.size;clear du;have su:Hid (Below Bs w1 w7):=abJ wH iF.out;have ya:Bs<w7.heap.size:=by omega
      have sN:Hid (er w7 Bs (bs++List.replicate (l.length - i) [])):=jq (ki.out.keep iF.out (by omega));have g37:w7.cell? ⟨b3,o3+m,none⟩=some (.string sz):=abZ iF.out g3;obtain⟨s0,_,_,gW,iP⟩:=sN.out i [] (by rw[oQ (by omega),bq,Nat.sub_self,List.getElem?_replicate,Qb (by omega)])
      cases hu:Np.aZ sn.data.toList z with
      | true=>
       have gJ:Hid (Np.iC H k sn.data.toList=sz.data.toList):=jq (by rw[ou.out,hu,Qb rfl,uB.out]);clear hu;go_wp2_with fail;go_roundw
       case rel=>exact kW.out _ (su.out.setCell (by simp) _) (by simpa using ya) (by rw[gJ.out,<-NB bq aa];exact sN.out.store (by rw[List.length_append,List.length_replicate];omega) sz CB)
       case measure=>simp[intOf] <;> omega
      | false=>
       have gJ:Hid (Np.iC H k sn.data.toList = []):=jq (by rw[ou.out,hu];rfl);clear hu;go_wp2_with fail;go_roundw
       case rel=>exact kW.out _ su.out ya (by rw[gJ.out,<-C6 aa];exact sN.out)
       case measure=>simp[intOf] <;> omega
  ·have F5:i=l.length:=by omega
   have HE:Hid (SlR RTx 1 wr wr.heap.size (.slice (some ⟨Bs,0,none⟩) l.length l.length) (Np.dE ⟨a.data.toList,l⟩)):=jq (by
    have h1:=HR.out;have e:l.length - i=0:=by omega
    dsimp only at h1;rw[e,List.replicate_zero,List.append_nil] at h1;have h2:=h1.slr tf (by omega);have h3:=Np.Ri HO.out (B:=bs) (by rw[bq];exact F5) HT.out;rw[<-h3];rw[bq,F5] at h2;exact h2)
   clear F5;go_wp2_with fail;go_ret;exact⟨_,rfl,HE.out,az.out⟩
theorem X4(a:ByteArray)(v:Value)(l:List Np.Signed)(bn:l.length<=20000)(ho:Np.InOrder ⟨a.data.toList,l⟩)(hv:∀ x∈l,Np.aD x.set.name=true)(w:World)(hd:SlR cA 5 w w.heap.size v l) :
 Calls prog 162 #[.agg #[.string a,v]] w (aeJ w.heap.size w (.bool (Np.yes (Np.n9 l (Np.dE ⟨a.data.toList,l⟩))))):=by
 obtain⟨B,hB⟩:=abK (Np.dE ⟨a.data.toList,l⟩);have iM:B.length=l.length:=by rw[<-hB];exact Np.qU _
 obtain⟨r,hr⟩:=abK (Np.yes (Np.n9 l (Np.dE ⟨a.data.toList,l⟩)));rw[hr];rw[hB] at hr;have HR:=jq hr;have eT:=jq iM;have dp:=jq hB;have HD:=jq hd;have HO:=jq ho;have HV:=jq hv;obtain⟨A,c,rfl,aW,bh⟩:=aj hd;clear hr hd ho hv hB iM;have HW:Hid (∀ o,Below w.heap.size w (w.alloc o)):=jq (λo=>(vQ _ w).alloc (bQ _) _);go_enter func162,ntmps162;go_wp2_with fail;refine (No a _ l bn HO.out HV.out _ (HD.out.later bI eF (HW.out _))).mono ?_;rintro e w1 ⟨bv,rfl,gd,an⟩;have bU:w.heap.size<w1.heap.size:=by have:=an.size;simp at this;omega
 have c1':w1.cell? ⟨w.heap.size,1,none⟩=some (.slice A l.length c):=by rw[an.cell (by simp)];go_simp
 have ar:=jq ((HW.out _).trans (an.mono (by simp)));obtain⟨A2,c2,rfl,db,cY⟩:=aj gd;rw[dp.out] at db cY gd |-;rw[eT.out] at db cY gd |-;have nw:=jq gd;clear an gd;go_wp2_with fail;go_loopw [4] (λi wr=>∃ k:Nat,k<=l.length/\i = .int .i64 k/\Hid (Below w1.heap.size w1 wr)/\Hid (∀ j x b,j<k->l[j]?=some x->B[j]?=some b->Np.kR x.set b)) (λi _=>l.length - (intOf i).toNat)
 case atStart=>exact⟨0,jQ _,rfl,jq (vQ _ _),jq (λj x b hj=>by omega)⟩
 case round=>
  obtain⟨k,hk,rfl,HB,HA⟩:=hrel;have al:=HB.out.size;have az:=abJ ar HB.out;have d1:wr.cell? ⟨w.heap.size,1,none⟩=some (.slice A l.length c):=abZ HB.out c1';by_cases aa:k<l.length
  ·obtain⟨x,ac⟩:∃ x,l[k]?=some x:=⟨_,aQ aa⟩;obtain⟨bb,dw⟩:∃ bb,B[k]?=some bb:=⟨_,aQ (by rw[eT.out];omega)⟩;obtain⟨b,o,c',sn,dv,sv,hA,bp,_,aw,cE,aR,aN,e0,e1,e2,e3,e4⟩:=fk (HD.out.keep bI az.out) ac
   cases hA
   obtain⟨b2,o2,sb,rfl,uW,kB,Gq,g0⟩:=pa (nw.out.keep mv HB.out) dw;have HN:Hid (Np.kR x.set bb->∀ j x b,j<k+1->l[j]?=some x->B[j]?=some b->Np.kR x.set b):=jq (λh j x b hj hx hb=>by
    by_cases e:j=k
    ·subst e;rw[ac] at hx;rw[dw] at hb;cases hx;cases hb;exact h
    ·exact HA.out j x b (by omega) hx hb)
   have HF:Hid (¬ Np.kR x.set bb->r=false):=jq (λh=>by
    rw[<-HR.out];exact Np.aK λq=>h (q k _ _ ac dw))
   clear ac dw;obtain⟨Ad,cd,rfl,_,_⟩:=aj aR;obtain⟨As,cs,rfl,_,_⟩:=aj aN;have hcell:wr.cell? ⟨w.heap.size,1,none⟩=some (.slice (some ⟨b,o,none⟩) l.length c):=abZ HB.out c1';have bO:w.heap.size<wr.heap.size:=by omega
   have an:b<wr.heap.size:=by omega
   have ab:b2<wr.heap.size:=by omega
   have ba:Hid (∀ o,Below w1.heap.size w1 (wr.alloc o)):=jq (λo=>HB.out.alloc HB.out.size _);have nv:Hid (∀ o,Below w.heap.size w (wr.alloc o)):=jq (λo=>az.out.alloc (by omega) _);have bL:(0:Int)<=(k:Int):=by omega
   have bY:(k:Int)<(l.length:Int):=by omega
   have aS:=jq aw;have el:=jq kB;obtain⟨ty,eD⟩:=abK x.set.type;have eJ:=jq eD;rw[eD] at e1;clear aw kB aR aN eD e4;by_cases bT:bb = []
   ·obtain rfl:sb=⟨#[]⟩:=jD (by rw[el.out,bT]);have bk:=jq (Kb (x:=x.set) bT);clear bT;by_cases h6:ty=6
    ·have HX:Hid (r=false):=jq (HF.out λh=>(bk.out.1 h) (eJ.out.trans h6));subst h6;go_wp2_with fail;go_quiet (fail);obtain⟨w2,ag⟩:=abK ((wr.alloc (.cells #[.string sn,.int .i64 6,.int .i64 x.set.life,.slice Ad x.set.data.length cd] 26)).drewN nq);rw[ag];have cm:Below wr.heap.size wr w2:=by rw[<-ag];exact below_drewN ((vQ _ _).alloc (bQ _) _) _
     have p1:w2.cell? ⟨wr.heap.size,1,none⟩=some (.int .i64 6):=by rw[<-ag];simp[go_sem]
     have g02:w2.cell? ⟨b2,o2+k,none⟩=some (.string ⟨#[]⟩):=abZ cm g0;have em:=jq (HB.out.trans (cm.mono HB.out.size));have nD:=abJ az cm;clear cm ag g0;go_wp2_with fail;go_ret;exact⟨ae HX.out.symm,nD.out⟩
    ·have HX:=jq (HN.out (bk.out.2 λh=>h6 (eJ.out.symm.trans h)));have h6':(ty == 6)=false:=by simpa using h6
     clear h6;go_wp2_with fail;go_quiet (fail);obtain⟨w2,ag⟩:=abK ((wr.alloc (.cells #[.string sn,.int .i64 ty,.int .i64 x.set.life,.slice Ad x.set.data.length cd] 26)).drewN nq);rw[ag];have cm:Below wr.heap.size wr w2:=by rw[<-ag];exact below_drewN ((vQ _ _).alloc (bQ _) _) _
     have p1:w2.cell? ⟨wr.heap.size,1,none⟩=some (.int .i64 ty):=by rw[<-ag];simp[go_sem]
     have g02:w2.cell? ⟨b2,o2+k,none⟩=some (.string ⟨#[]⟩):=abZ cm g0;have em:=jq (HB.out.trans (cm.mono HB.out.size));have nD:=abJ az cm;clear cm ag g0;go_wp2_with fail;go_roundw
     case rel=>exact⟨k+1,by omega,by go_num,jq em.out,jq HX.out⟩
     case measure=>simp[intOf] <;> omega
   ·have zg:(sb.toList == [])=false:=by rw[dQ,el.out];simpa using bT
    by_cases gS:bb=x.set.name
    ·have B8:(sn.toList == sb.toList)=true:=by rw[dQ,dQ,el.out,aS.out];simpa using gS.symm
     have bk:=jq (Kc (x:=x.set) bT gS);clear bT gS;by_cases ht:ty=2\/ty=6\/ty=8\/ty=1
     ·have HX:=jq (HN.out (bk.out.2 (by rw[eJ.out];exact ht)));rcases ht with rfl | rfl | rfl | rfl
      ·skip
       go_wp2_with fail;go_quiet (fail);obtain⟨w2,ag⟩:=abK ((wr.alloc (.cells #[.string sn,.int .i64 2,.int .i64 x.set.life,.slice Ad x.set.data.length cd] 26)).drewN nq);rw[ag];have cm:Below wr.heap.size wr w2:=by rw[<-ag];exact below_drewN ((vQ _ _).alloc (bQ _) _) _
       have p1:w2.cell? ⟨wr.heap.size,1,none⟩=some (.int .i64 2):=by rw[<-ag];simp[go_sem]
       have g02:w2.cell? ⟨b2,o2+k,none⟩=some (.string sb):=abZ cm g0;have em:=jq (HB.out.trans (cm.mono HB.out.size));have nD:=abJ az cm;clear cm ag g0;go_wp2_with fail;go_roundw
       case rel=>exact⟨k+1,by omega,by go_num,jq em.out,jq HX.out⟩
       case measure=>simp[intOf] <;> omega
      ·skip
       go_wp2_with fail;go_quiet (fail);obtain⟨w2,ag⟩:=abK ((wr.alloc (.cells #[.string sn,.int .i64 6,.int .i64 x.set.life,.slice Ad x.set.data.length cd] 26)).drewN nq);rw[ag];have cm:Below wr.heap.size wr w2:=by rw[<-ag];exact below_drewN ((vQ _ _).alloc (bQ _) _) _
       have p1:w2.cell? ⟨wr.heap.size,1,none⟩=some (.int .i64 6):=by rw[<-ag];simp[go_sem]
       have g02:w2.cell? ⟨b2,o2+k,none⟩=some (.string sb):=abZ cm g0;have em:=jq (HB.out.trans (cm.mono HB.out.size));have nD:=abJ az cm;clear cm ag g0;go_wp2_with fail;go_roundw
       case rel=>exact⟨k+1,by omega,by go_num,jq em.out,jq HX.out⟩
       case measure=>simp[intOf] <;> omega
      ·skip
       go_wp2_with fail;go_quiet (fail);obtain⟨w2,ag⟩:=abK ((wr.alloc (.cells #[.string sn,.int .i64 8,.int .i64 x.set.life,.slice Ad x.set.data.length cd] 26)).drewN nq);rw[ag];have cm:Below wr.heap.size wr w2:=by rw[<-ag];exact below_drewN ((vQ _ _).alloc (bQ _) _) _
       have p1:w2.cell? ⟨wr.heap.size,1,none⟩=some (.int .i64 8):=by rw[<-ag];simp[go_sem]
       have g02:w2.cell? ⟨b2,o2+k,none⟩=some (.string sb):=abZ cm g0;have em:=jq (HB.out.trans (cm.mono HB.out.size));have nD:=abJ az cm;clear cm ag g0;go_wp2_with fail;go_roundw
       case rel=>exact⟨k+1,by omega,by go_num,jq em.out,jq HX.out⟩
       case measure=>simp[intOf] <;> omega
      ·skip
       go_wp2_with fail;go_quiet (fail);obtain⟨w2,ag⟩:=abK ((wr.alloc (.cells #[.string sn,.int .i64 1,.int .i64 x.set.life,.slice Ad x.set.data.length cd] 26)).drewN nq);rw[ag];have cm:Below wr.heap.size wr w2:=by rw[<-ag];exact below_drewN ((vQ _ _).alloc (bQ _) _) _
       have p1:w2.cell? ⟨wr.heap.size,1,none⟩=some (.int .i64 1):=by rw[<-ag];simp[go_sem]
       have g02:w2.cell? ⟨b2,o2+k,none⟩=some (.string sb):=abZ cm g0;have em:=jq (HB.out.trans (cm.mono HB.out.size));have nD:=abJ az cm;clear cm ag g0;go_wp2_with fail;go_roundw
       case rel=>exact⟨k+1,by omega,by go_num,jq em.out,jq HX.out⟩
       case measure=>simp[intOf] <;> omega
     ·have HX:Hid (r=false):=jq (HF.out λh=>ht (by have:=bk.out.1 h;rwa [eJ.out] at this));have t1:(ty != 2)=true:=by simp;omega
      have t2:(ty != 6)=true:=by simp;omega
      have t3:(ty != 8)=true:=by simp;omega
      have t4:(ty != 1)=true:=by simp;omega
      clear ht;go_wp2_with fail;go_quiet (fail);obtain⟨w2,ag⟩:=abK ((wr.alloc (.cells #[.string sn,.int .i64 ty,.int .i64 x.set.life,.slice Ad x.set.data.length cd] 26)).drewN nq);rw[ag];have cm:Below wr.heap.size wr w2:=by rw[<-ag];exact below_drewN ((vQ _ _).alloc (bQ _) _) _
      have p1:w2.cell? ⟨wr.heap.size,1,none⟩=some (.int .i64 ty):=by rw[<-ag];simp[go_sem]
      have g02:w2.cell? ⟨b2,o2+k,none⟩=some (.string sb):=abZ cm g0;have em:=jq (HB.out.trans (cm.mono HB.out.size));have nD:=abJ az cm;clear cm ag g0;go_wp2_with fail;go_ret;exact⟨ae HX.out.symm,nD.out⟩
    ·have B8:(sn.toList == sb.toList)=false:=by rw[dQ,dQ,el.out,aS.out];simpa using λe:x.set.name=bb=>gS e.symm
     have bk:=jq (Kd (x:=x.set) bT gS);clear bT gS;by_cases ht:ty=1
     ·have HX:=jq (HN.out (bk.out.2 (by rw[eJ.out];exact ht)));subst ht;go_wp2_with fail;go_quiet (fail);obtain⟨w2,ag⟩:=abK ((wr.alloc (.cells #[.string sn,.int .i64 1,.int .i64 x.set.life,.slice Ad x.set.data.length cd] 26)).drewN nq);rw[ag];have cm:Below wr.heap.size wr w2:=by rw[<-ag];exact below_drewN ((vQ _ _).alloc (bQ _) _) _
      have p1:w2.cell? ⟨wr.heap.size,1,none⟩=some (.int .i64 1):=by rw[<-ag];simp[go_sem]
      have g02:w2.cell? ⟨b2,o2+k,none⟩=some (.string sb):=abZ cm g0;have em:=jq (HB.out.trans (cm.mono HB.out.size));have nD:=abJ az cm;clear cm ag g0;go_wp2_with fail;go_roundw
      case rel=>exact⟨k+1,by omega,by go_num,jq em.out,jq HX.out⟩
      case measure=>simp[intOf] <;> omega
     ·have HX:Hid (r=false):=jq (HF.out λh=>ht (by have:=bk.out.1 h;rwa [eJ.out] at this));have t4:(ty != 1)=true:=by simpa using ht
      clear ht;go_wp2_with fail;go_quiet (fail);obtain⟨w2,ag⟩:=abK ((wr.alloc (.cells #[.string sn,.int .i64 ty,.int .i64 x.set.life,.slice Ad x.set.data.length cd] 26)).drewN nq);rw[ag];have cm:Below wr.heap.size wr w2:=by rw[<-ag];exact below_drewN ((vQ _ _).alloc (bQ _) _) _
      have p1:w2.cell? ⟨wr.heap.size,1,none⟩=some (.int .i64 ty):=by rw[<-ag];simp[go_sem]
      have g02:w2.cell? ⟨b2,o2+k,none⟩=some (.string sb):=abZ cm g0;have em:=jq (HB.out.trans (cm.mono HB.out.size));have nD:=abJ az cm;clear cm ag g0;go_wp2_with fail;go_ret;exact⟨ae HX.out.symm,nD.out⟩
  ·go_wp2_with fail;go_ret;refine⟨ae ?_,az.out⟩;rw[<-HR.out];exact (Np.bS λi x b hx hb=>HA.out i x b (by have:=(cQ.1 hx).1;omega) hx hb).symm
theorem Nr(t:Int)(b:Bool)(w:World) :
 Calls prog 236 #[.int .i64 t,.bool b] w (aeY w (.bool (Np.iK t b))):=by
 by_cases h3:t=3
 ·subst h3
  cases b
  all_goals
   go_enter func236,ntmps236;go_wp2_with fail;go_ret;exact⟨rfl,rfl⟩
 ·by_cases h6:t=6
  ·subst h6
   cases b
   all_goals
    go_enter func236,ntmps236;go_wp2_with fail;go_ret;exact⟨rfl,rfl⟩
  ·by_cases h4:t=4
   ·subst h4
    cases b
    all_goals
     go_enter func236,ntmps236;go_wp2_with fail;go_ret;exact⟨rfl,rfl⟩
   ·by_cases h7:t=7
    ·subst h7
     cases b
     all_goals
      go_enter func236,ntmps236;go_wp2_with fail;go_ret;exact⟨rfl,rfl⟩
    ·have HF:Hid (Np.iK t b=true):=jq (by unfold Np.iK;rw[Qc (by omega),Qc (by omega)]);have g3:(t != 3)=true:=by simpa using h3
     have g6:(t != 6)=true:=by simpa using h6
     have g4:(t != 4)=true:=by simpa using h4
     have g7:(t != 7)=true:=by simpa using h7
     rw[HF.out];clear h3 h6 h4 h7
     cases b
     all_goals
      go_enter func236,ntmps236;go_wp2_with fail;go_ret;exact⟨rfl,rfl⟩
def Np.atI(l:List Np.Signed)(n:List UInt8)(t:Int):Int:=match l.findIdx? λx=>(x.set.name == n)&&decide (x.set.type=t) with | none=>-1 | some i=>i
theorem JP{l:List Np.Signed}{n:List UInt8}{t:Int}(h:∀ (j:Nat) (x:Np.Signed),l[j]?=some x->¬ (x.set.name=n/\x.set.type=t)):Np.atI l n t = -1:=by
 unfold Np.atI
 have:l.findIdx? (λx=>(x.set.name == n)&&decide (x.set.type=t))=none:=by
  rw[List.findIdx?_eq_none_iff];intro x hx;obtain⟨j,hj,rfl⟩:=nQ.1 hx
  have:=h j _ (aQ hj)
  rw[Bool.and_eq_false_iff];by_cases e:l[j].set.name=n
  ·right;simpa using λe2=>this ⟨e,e2⟩
  ·left;simpa using e
 rw[this]
theorem Rf{l:List Np.Signed}{n:List UInt8}{t:Int}{k:Nat}{x:Np.Signed}(hx:l[k]?=some x)(he:x.set.name=n/\x.set.type=t)(h:∀ (j:Nat) (y:Np.Signed),j<k->l[j]?=some y->¬ (y.set.name=n/\y.set.type=t)):Np.atI l n t=k:=by
 unfold Np.atI;obtain⟨hk,rfl⟩:=cQ.1 hx
 have:l.findIdx? (λx=>(x.set.name == n)&&decide (x.set.type=t))=some k:=by
  rw[List.findIdx?_eq_some_iff_getElem];refine⟨hk,by simp[he.1,he.2],λj hj=>?_⟩
  have:=h j _ hj (aQ (by omega))
  simpa using this
 rw[this]
theorem JO(l:List Np.Signed)(n:List UInt8)(t:Int):(Np.atI l n t<0)↔¬ Np.iN l n t:=by
 by_cases h:Np.iN l n t
 ·obtain⟨x,hx,h1,h2⟩:=h;refine⟨λaa=>?_,λhn=>absurd ⟨x,hx,h1,h2⟩ hn⟩;unfold Np.atI at aa
  cases hf:l.findIdx? (λx=>(x.set.name == n)&&decide (x.set.type=t)) with
  | none=>
   rw[List.findIdx?_eq_none_iff] at hf
   have:=hf x hx
   simp[h1,h2] at this
  | some i=>rw[hf] at aa;dsimp only at aa;omega
 ·refine⟨λ_=>h,λ_=>?_⟩;rw[JP (λj x hx he=>h ⟨x,gQ hx,he⟩)];decide
theorem Nn(a:ByteArray)(v:Value)(l:List Np.Signed)(q:ByteArray)(t:Int)(w:World)(hd:SlR cA 5 w w.heap.size v l) :
 Calls prog 235 #[.agg #[.string a,v],.agg #[.string q,.int .i64 t]] w (aeJ w.heap.size w (.int .i64 (Np.atI l q.data.toList t))):=by
 obtain⟨r,hr⟩:=abK (Np.atI l q.data.toList t);rw[hr];have HR:=jq hr;have HD:=jq hd;obtain⟨A,c,rfl,aW,bh⟩:=aj hd;clear hr hd;have HW:Hid (∀ o o',Below w.heap.size w ((w.alloc o).alloc o')):=jq (λo o'=>((vQ _ w).alloc (bQ _) _).alloc (by simp) _);go_enter func235,ntmps235;go_wp2_with fail;obtain⟨w1,ak⟩:=abK ((w.alloc (.cells #[.string a,.slice A l.length c] 44)).alloc (.cells #[.string q,.int .i64 t] 31));have c1:w1.cell? ⟨w.heap.size,1,none⟩=some (.slice A l.length c):=by rw[<-ak];simp[go_sem]
 have q0:w1.cell? ⟨w.heap.size+1,0,none⟩=some (.string q):=by rw[<-ak];simp[go_sem]
 have q1:w1.cell? ⟨w.heap.size+1,1,none⟩=some (.int .i64 t):=by rw[<-ak];simp[go_sem]
 have bg:w1.heap.size=w.heap.size+2:=by rw[<-ak];simp
 have ar:Hid (Below w.heap.size w w1):=jq (by rw[<-ak];exact HW.out _ _);rw[ak];clear ak;go_loopw [5] (λi wr=>∃ k:Nat,k<=l.length/\i = .int .i64 k/\Hid (Below w1.heap.size w1 wr)/\Hid (∀ j x,j<k->l[j]?=some x->¬ (x.set.name=q.data.toList/\x.set.type=t))) (λi _=>l.length - (intOf i).toNat)
 case atStart=>exact⟨0,jQ _,rfl,jq (vQ _ _),jq (λj g hj=>by omega)⟩
 case round=>
  obtain⟨k,hk,rfl,HB,HA⟩:=hrel;have al:=HB.out.size;have d1:wr.cell? ⟨w.heap.size,1,none⟩=some (.slice A l.length c):=abZ HB.out c1;have e0:wr.cell? ⟨w.heap.size+1,0,none⟩=some (.string q):=abZ HB.out q0;have e1:wr.cell? ⟨w.heap.size+1,1,none⟩=some (.int .i64 t):=abZ HB.out q1;have az:=abJ ar HB.out;have bO:w.heap.size+1<wr.heap.size:=by omega
  by_cases aa:k<l.length
  ·obtain⟨x,ac⟩:∃ x,l[k]?=some x:=⟨_,aQ aa⟩;obtain⟨b,o,c',sn,dv,sv,hA,bp,_,aw,cE,aR,aN,f0,f1,f2,f3,f4⟩:=fk (HD.out.keep bI az.out) ac
   cases hA
   have HX:=jq ac;have aS:=jq aw;have cJ:Hid (¬ (x.set.name=q.data.toList/\x.set.type=t)->∀ j y,j<k+1->l[j]?=some y->¬ (y.set.name=q.data.toList/\y.set.type=t)):=jq (λh j y hj hy=>by
    by_cases e:j=k
    ·subst e;rw[ac] at hy;cases hy;exact h
    ·exact HA.out j y (by omega) hy)
   have bL:(0:Int)<=(k:Int):=by omega
   have bY:(k:Int)<(l.length:Int):=by omega
   have an:b<wr.heap.size:=by omega
   obtain⟨b1,Tr⟩:=abK (sn.toList == q.toList);obtain⟨b2,Ts⟩:=abK (x.set.type == t);have H1:Hid (b1=true↔x.set.name=q.data.toList):=jq (by rw[<-Tr,dQ,dQ,aw,beq_iff_eq]);have H2:Hid (b2=true↔x.set.type=t):=jq (by rw[<-Ts,beq_iff_eq]);clear ac aw aR aN f2 f3 f4
   cases b1 with
   | false=>
    have HN:=jq (cJ.out λh=>by have:=H1.out.2 h.1;cases this);go_wp2_with fail;go_quiet (fail);go_wp2_with fail;go_roundw
    case rel=>exact⟨k+1,by omega,by go_num,jq (below_drewN HB.out _),jq HN.out⟩
    case measure=>simp[intOf] <;> omega
   | true=>
    cases b2 with
    | false=>
     have HN:=jq (cJ.out λh=>by have:=H2.out.2 h.2;cases this);go_wp2_with fail;go_quiet (fail);go_wp2_with fail;go_roundw
     case rel=>exact⟨k+1,by omega,by go_num,jq (below_drewN HB.out _),jq HN.out⟩
     case measure=>simp[intOf] <;> omega
    | true=>
     have HF:Hid (r=k):=jq (by rw[<-HR.out];exact Rf HX.out ⟨H1.out.1 rfl,H2.out.1 rfl⟩ HA.out);go_wp2_with fail;go_quiet (fail);go_wp2_with fail;go_ret;exact⟨gE HF.out.symm,below_drewN az.out _⟩
  ·have HF:Hid (r = -1):=jq (by rw[<-HR.out];exact JP λj x hx=>HA.out j x (by have:=(cQ.1 hx).1;omega) hx);go_wp2_with fail;go_ret;exact⟨gE HF.out.symm,az.out⟩
theorem Yj(a:ByteArray)(v:Value)(l:List Np.Signed)(w:World)(hd:SlR cA 5 w w.heap.size v l) :
 Calls prog 160 #[.agg #[.string a,v]] w (aeJ w.heap.size w (.bool (Np.yes (Np.ApexH a.data.toList l)))):=by
 obtain⟨r,hr⟩:=abK (Np.yes (Np.ApexH a.data.toList l));rw[hr];have HR:=jq hr;have HD:=jq hd;obtain⟨A,c,rfl,aW,bh⟩:=aj hd;clear hr hd;have HW:Hid (∀ o,Below w.heap.size w (w.alloc o)):=jq (λo=>(vQ _ w).alloc (bQ _) _);go_enter func160,ntmps160;go_wp2_with fail;obtain⟨w1,ak⟩:=abK (w.alloc (.cells #[.string a,.slice A l.length c] 44));have c0:w1.cell? ⟨w.heap.size,0,none⟩=some (.string a):=by rw[<-ak];simp[go_sem]
 have c1:w1.cell? ⟨w.heap.size,1,none⟩=some (.slice A l.length c):=by rw[<-ak];simp[go_sem]
 have bg:w1.heap.size=w.heap.size+1:=by rw[<-ak];simp
 have ar:Hid (Below w.heap.size w w1):=jq (by rw[<-ak];exact HW.out _);rw[ak];clear ak;refine (Nn a _ l a 4 _ (HD.out.later bI eF ar.out)).mono ?_;rintro e w2 ⟨rfl,ab⟩;have aO:=ab.size;have ai:=abJ ar ab;replace c0:=abZ ab c0;replace c1:=abZ ab c1;clear ab;obtain⟨i4,F4⟩:=abK (Np.atI l a.data.toList 4);have H4:Hid (i4<0↔¬ Np.iN l a.data.toList 4):=jq (by rw[<-F4];exact JO _ _ _);rw[F4];clear F4;by_cases h4:i4<0
 ·have HX:Hid (r=false):=jq (by rw[<-HR.out];exact Np.aK λh=>H4.out.1 h4 h.start);go_wp2_with fail;go_ret;exact⟨ae HX.out.symm,ai.out⟩
 ·have PO:Hid (Np.iN l a.data.toList 4):=jq (Classical.not_not.1 λh=>h4 (H4.out.2 h));go_wp2_with fail;refine (Nn a _ l a 2 _ (HD.out.later bI eF ai.out)).mono ?_;rintro e w3 ⟨rfl,ah⟩;have fW:=ah.size;have aB:=abJ ai ah;replace c0:=abZ ah c0;replace c1:=abZ ah c1;clear ah;obtain⟨i2,tw⟩:=abK (Np.atI l a.data.toList 2);have H2:Hid (i2<0↔¬ Np.iN l a.data.toList 2):=jq (by rw[<-tw];exact JO _ _ _);rw[tw];clear tw;by_cases h2:i2<0
  ·have HX:Hid (r=false):=jq (by rw[<-HR.out];exact Np.aK λh=>H2.out.1 h2 h.server);go_wp2_with fail;go_ret;exact⟨ae HX.out.symm,aB.out⟩
  ·have wV:Hid (Np.iN l a.data.toList 2):=jq (Classical.not_not.1 λh=>h2 (H2.out.2 h));go_wp2_with fail;go_loopw [3] (λi wr=>∃ k:Nat,k<=l.length/\i = .int .i64 k/\Hid (Below w3.heap.size w3 wr)/\Hid (∀ j x,j<k->l[j]?=some x->Np.iK x.set.type (x.set.name == a.data.toList)=true)) (λi _=>l.length - (intOf i).toNat)
   case atStart=>exact⟨0,jQ _,rfl,jq (vQ _ _),jq (λj g hj=>by omega)⟩
   case round=>
    obtain⟨k,hk,rfl,HB,HA⟩:=hrel;have al:=HB.out.size;have d0:wr.cell? ⟨w.heap.size,0,none⟩=some (.string a):=abZ HB.out c0;have d1:wr.cell? ⟨w.heap.size,1,none⟩=some (.slice A l.length c):=abZ HB.out c1;have az:=abJ aB HB.out;have bO:w.heap.size<wr.heap.size:=by omega
    by_cases aa:k<l.length
    ·obtain⟨x,ac⟩:∃ x,l[k]?=some x:=⟨_,aQ aa⟩;obtain⟨b,o,c',sn,dv,sv,hA,bp,_,aw,cE,aR,aN,f0,f1,f2,f3,f4⟩:=fk (HD.out.keep bI az.out) ac
     cases hA
     have bL:(0:Int)<=(k:Int):=by omega
     have bY:(k:Int)<(l.length:Int):=by omega
     have an:b<wr.heap.size:=by omega
     have heq:(sn.toList == a.toList)=(x.set.name == a.data.toList):=by rw[dQ,dQ,aw]
     have sC:Hid (Np.iK x.set.type (x.set.name == a.data.toList)=true->∀ j y,j<k+1->l[j]?=some y->Np.iK y.set.type (y.set.name == a.data.toList)=true):=jq (λh j y hj hy=>by
      by_cases e:j=k
      ·subst e;rw[ac] at hy;cases hy;exact h
      ·exact HA.out j y (by omega) hy)
     have D0:Hid (Np.iK x.set.type (x.set.name == a.data.toList)=false->r=false):=jq (λh=>by
      rw[<-HR.out];exact Np.aK λq=>by have:=q.fits x (gQ ac);rw[h] at this;cases this)
     generalize (x.set.name == a.data.toList)=bb at *;clear ac aw aR aN f2 f3 f4
     cases hf:Np.iK x.set.type bb with
     | true=>
      have HF:=jq (sC.out hf);have bE:∀ w,Calls prog 236 #[.int .i64 x.set.type,.bool bb] w (aeY w (.bool true)):=λw=>by rw[<-hf];exact Nr _ _ _
      have HC:=jq bE;rw[<-heq] at bE;have dJ:=jq bE;clear hf bE heq;go_wp2_with fail;go_quiet (first | (go_at_call 236;exact Calls.quiet_of_same (Calls.still_same (dJ.out _))) | (go_at_call 236;exact Calls.quiet_of_same (Calls.still_same (HC.out _))));go_wp2_with fail;go_roundw
      case rel=>exact⟨k+1,by omega,by go_num,jq (below_drewN HB.out _),jq HF.out⟩
      case measure=>simp[intOf] <;> omega
     | false=>
      have HF:=jq (D0.out hf);have bE:∀ w,Calls prog 236 #[.int .i64 x.set.type,.bool bb] w (aeY w (.bool false)):=λw=>by rw[<-hf];exact Nr _ _ _
      have HC:=jq bE;rw[<-heq] at bE;have dJ:=jq bE;clear hf bE heq;go_wp2_with fail;go_quiet (first | (go_at_call 236;exact Calls.quiet_of_same (Calls.still_same (dJ.out _))) | (go_at_call 236;exact Calls.quiet_of_same (Calls.still_same (HC.out _))));go_wp2_with fail;go_ret;exact⟨ae HF.out.symm,below_drewN az.out _⟩
    ·go_wp2_with fail;go_ret;refine⟨ae ?_,az.out⟩;rw[<-HR.out];refine (Np.bS ⟨PO.out,wV.out,λx hx=>?_⟩).symm;obtain⟨j,hj,rfl⟩:=nQ.1 hx;exact HA.out j _ (by omega) (aQ hj)
end
end Go.Proofs.YtfnopgdcaanaiaaGreatDoor
