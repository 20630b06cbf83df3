/- Parts of the proof. No condition. -/
import Derived.Test.YtfnopgdcaanaiaaGreatDoorT10
set_option linter.all false
set_option maxRecDepth 100000
set_option maxHeartbeats 8000000
namespace Go.Proofs.YtfnopgdcaanaiaaGreatDoor
open Go.Proofs.Tryz
section
open Go.RowKit
def Np.tP(l:List Np.Signed)(k:Nat)(x:Np.Signed):Prop:=x.set.type=3->(∀ p,0<k->l[k - 1]?=some p->p.set.name≠x.set.name)/\∀ n,l[k+1]?=some n->n.set.name=x.set.name->n.set.type=8
def Np.tR(l:List Np.Signed):Prop:=∀ k x,l[k]?=some x->Np.tP l k x
theorem Py(a:ByteArray)(v:Value)(A2:Option Addr)(n2 c2:Nat)(l:List Np.Signed)(dG:l.length<=20000)(w:World)(hd:SlR cU 5 w w.heap.size v l) :
 Calls prog 201 #[.agg #[.string a,v,.slice A2 n2 c2]] w (agQ w.heap.size w (.bool (Np.yes (Np.tR l)))):=by
 obtain⟨r,hr⟩:=abY (Np.yes (Np.tR l));rw[hr];have HR:=jq hr;have HD:=jq hd;obtain⟨A,c,rfl,aT,cu⟩:=ar hd;clear hr hd;have HW:Hid (∀ o,Below w.heap.size w (w.alloc o)):=jq (λo=>(vQ _ w).alloc (bQ _) _);go_enter func201,ntmps201;go_wp2_with fail;obtain⟨w1,am⟩:=abY (w.alloc (.cells #[.string a,.slice A l.length c,.slice A2 n2 c2] 265));have c2':w1.cell? ⟨w.heap.size,1,none⟩=some (.slice A l.length c):=by rw[<-am];simp[go_sem]
 have cP:w.heap.size<w1.heap.size:=by rw[<-am];simp
 have aD:Hid (Below w.heap.size w w1):=jq (by rw[<-am];exact HW.out _);rw[am];clear am;go_loopw [10] (λi wr=>∃ k:Nat,k<=l.length/\i = .int .i64 k/\Hid (Below w1.heap.size w1 wr)/\Hid (∀ j x,j<k->l[j]?=some x->Np.tP l j x)) (λi _=>l.length - (intOf i).toNat)
 case atStart=>exact⟨0,jQ _,rfl,jq (vQ _ _),jq (λj x hj=>by omega)⟩
 case round=>
  obtain⟨k,hk,rfl,HB,HA⟩:=hrel;have ag:=HB.out.size;have bp:=aaK aD HB.out;by_cases aa:k<l.length
  ·obtain⟨x,ac⟩:∃ x,l[k]?=some x:=⟨_,aQ aa⟩;obtain⟨b,o,c',sn,dv,sv,hA,du,_,aP,eT,be,aY,e0,e1,e2,e3,e4⟩:=iV (HD.out.keep da bp.out) ac
   cases hA
   have HN:Hid (Np.tP l k x->∀ j x,j<k+1->l[j]?=some x->Np.tP l j x):=jq (λh j y hj hy=>by
    by_cases e:j=k
    ·subst e;rw[ac] at hy;cases hy;exact h
    ·exact HA.out j y (by omega) hy)
   have HF:Hid (¬ Np.tP l k x->r=false):=jq (λh=>by
    rw[<-HR.out];exact Np.bP λq=>h (q k x ac))
   have Gv:Hid (∀ (m:Nat) (y:Np.Signed),l[m]?=some y->∃ (sy:ByteArray),sy.data.toList=y.set.name/\wr.cell? ⟨b,o+m * 5,none⟩=some (.string sy)/\wr.cell? ⟨b,o+m * 5+1,none⟩=some (.int .i64 y.set.type)):=jq (λm y hy=>by
    obtain⟨b9,o9,c9,sy,dv9,sv9,hA,_,_,wE,_,_,_,q0,q1,_⟩:=iV (HD.out.keep da bp.out) hy;simp only[Value.slice.injEq,Option.some.injEq,Addr.mk.injEq,and_true,true_and] at hA;obtain⟨⟨rfl,rfl⟩,-⟩:=hA;exact⟨sy,wE,q0,q1⟩)
   clear ac;obtain⟨Ad,cd,rfl,_,_⟩:=ar be;obtain⟨As,cs,rfl,_,_⟩:=ar aY;have hcell:wr.cell? ⟨w.heap.size,1,none⟩=some (.slice (some ⟨b,o,none⟩) l.length c):=aaJ HB.out c2';have cg:w.heap.size<wr.heap.size:=by omega
   have aq:b<wr.heap.size:=by omega
   have ca:Hid (∀ o,Below w1.heap.size w1 (wr.alloc o)):=jq (λo=>HB.out.alloc HB.out.size _);have nd:Hid (∀ o,Below w.heap.size w (wr.alloc o)):=jq (λo=>bp.out.alloc (by omega) _);have cN:(0:Int)<=(k:Int):=by omega
   have cO:(k:Int)<(l.length:Int):=by omega
   have cK:=jq aP;obtain⟨ty,gH⟩:=abY x.set.type;have jw:=jq gH;rw[gH] at e1;clear aP be aY gH;by_cases h3:ty=3
   ·obtain⟨w2,az⟩:=abY (wr.alloc (.cells #[.string sn,.int .i64 ty,.int .i64 x.set.life,.slice Ad x.set.data.length cd,.slice As x.sigs.length cs] 42));subst h3;have t3:((3:Int) != 3)=false:=by decide
    have R3:∃ q:Bool,Hid (q=true↔∃ p,0<k/\l[k - 1]?=some p/\p.set.name=x.set.name)/\((k=0/\q=false)\/∃ (m:Nat) (y:Np.Signed) (sy:ByteArray),k=m+1/\wr.cell? ⟨b,o+m * 5,none⟩=some (.string sy)/\(sy.toList == sn.toList)=q):=by
     by_cases qR:k=0
     ·exact⟨false,jq ⟨λh=>(by cases h),λ⟨p,h,_⟩=>(by omega)⟩,.inl ⟨qR,rfl⟩⟩
     ·obtain⟨m,rfl⟩:∃ m,k=m+1:=⟨k - 1,by omega⟩;obtain⟨y,hy⟩:∃ y,l[m]?=some y:=⟨_,aQ (by omega)⟩;obtain⟨sy,wE,q0,q1⟩:=Gv.out m y hy;refine⟨_,jq ?_,.inr ⟨m,y,sy,rfl,q0,rfl⟩⟩;rw[dQ,dQ,wE,cK.out,beq_iff_eq];constructor
      ·intro h;exact⟨y,by omega,by simpa using hy,h⟩
      ·rintro⟨p,_,hp,h⟩;rw[show m+1 - 1=m by omega,hy] at hp
       cases hp;exact h
    have zN:∃ q1 q2:Bool,Hid (∀ n,l[k+1]?=some n->(q1=true↔n.set.name=x.set.name)/\(q2=true↔n.set.type≠8))/\((l.length=k+1/\q1=false)\/∃ (y:Np.Signed) (sy:ByteArray) (ny:Int),k+1<l.length/\wr.cell? ⟨b,o+(k+1) * 5,none⟩=some (.string sy)/\wr.cell? ⟨b,o+(k+1) * 5+1,none⟩=some (.int .i64 ny)/\(sy.toList == sn.toList)=q1/\(ny != 8)=q2):=by
     by_cases nR:l.length=k+1
     ·exact⟨false,false,jq (λn hn=>by have:=(cQ.1 hn).1;omega),.inl ⟨nR,rfl⟩⟩
     ·obtain⟨y,hy⟩:∃ y,l[k+1]?=some y:=⟨_,aQ (by omega)⟩;obtain⟨sy,wE,q0,q1⟩:=Gv.out (k+1) y hy;refine⟨_,_,jq (λn hn=>?_),.inr ⟨y,sy,y.set.type,by omega,q0,q1,rfl,rfl⟩⟩;rw[hy] at hn;cases hn;rw[dQ,dQ,wE,cK.out,beq_iff_eq];exact⟨Iff.rfl,by simp⟩
    clear az w2;obtain⟨qb,GL,J1⟩:=R3;obtain⟨q1,q2,yE,ji⟩:=zN;have xU:Hid (∀ o n,Below w1.heap.size w1 ((wr.alloc o).drewN n)):=jq (λo n=>below_drewN (HB.out.alloc HB.out.size _) _);have BM:Hid (∀ o n,Below w.heap.size w ((wr.alloc o).drewN n)):=jq (λo n=>below_drewN (bp.out.alloc (by omega) _) _);have Ar:∀ o' n,(wr.alloc o').drewN n=(wr.alloc o').drewN n:=λ_ _=>rfl;clear Ar
    cases qb with
    | true=>
     have HX:Hid (r=false):=jq (HF.out λh=>by
      obtain⟨p,Tn,hp,he⟩:=GL.out.1 rfl;exact (h jw.out).1 p Tn hp he)
     rcases J1 with ⟨_,h⟩ | ⟨m,y,sy,Eb,g0,Tq⟩
     ·cases h
     ·have nU:decide ((0:Int)<(k:Int))=true:=by simp;omega
      have qV:decide (0<k)=true:=by simp;omega
      have TL:IntKind.i64.wrap ((k:Int) - 1)=(m:Int):=by rw[IntWalk.i64_in _ (by omega)];omega
      have TM:(k:Int) - 1=(m:Int):=by omega
      have pm:(0:Int)<=(m:Int):=by omega
      have Ab:(m:Int)<(l.length:Int):=by omega
      clear Eb;go_wp2_with fail;go_quiet (fail);go_wp2_with fail;go_ret;exact⟨aj HX.out.symm,BM.out _ _⟩
    | false=>
     have ay:Hid (∀ p,0<k->l[k - 1]?=some p->p.set.name≠x.set.name):=jq (λp h0 hp he=>by
      have:=GL.out.2 ⟨p,h0,hp,he⟩
      cases this)
     rcases J1 with ⟨qR,_⟩ | ⟨m,y,sy,Eb,g0,Tq⟩
     ·have nU:decide ((0:Int)<(k:Int))=false:=by simp;omega
      have qV:decide (0<k)=false:=by simp;omega
      clear qR;go_wp2_with fail;go_quiet (fail);go_wp2_with fail;obtain⟨w4,bT⟩:=abY ((wr.alloc (.cells #[.string sn,.int .i64 3,.int .i64 x.set.life,.slice Ad x.set.data.length cd,.slice As x.sigs.length cs] 42)).drewN nq);rw[bT];have qs:Hid (Below w1.heap.size w1 w4):=jq (by rw[<-bT];exact xU.out _ _);have CO:Hid (Below w.heap.size w w4):=jq (by rw[<-bT];exact BM.out _ _);have ah:Below wr.heap.size wr w4:=by rw[<-bT];exact below_drewN ((vQ _ _).alloc (bQ _) _) _
      have n4:w4.cell? ⟨wr.heap.size,0,none⟩=some (.string sn):=by rw[<-bT];simp[go_sem]
      have qJ:w4.cell? ⟨w.heap.size,1,none⟩=some (.slice (some ⟨b,o,none⟩) l.length c):=aaJ ah hcell;rcases ji with ⟨nR,rfl⟩ | ⟨y',sy',ny,nR,k0,k1,vS,mE⟩
      ·have HX:=jq (HN.out (λ_=>⟨ay.out,λn hn=>by have:=(cQ.1 hn).1;omega⟩));have aA:decide ((k:Int)+1<(l.length:Int))=false:=by simp;omega
       have cF:decide (k+1<l.length)=false:=by simp;omega
       clear nR;clear ah bT;go_wp2_with fail;go_quiet (fail);go_wp2_with fail;go_roundw
       case rel=>exact⟨k+1,by omega,by go_num,jq (below_drewN qs.out _),jq HX.out⟩
       case measure=>simp[intOf] <;> omega
      ·have k04:w4.cell? ⟨b,o+(k+1) * 5,none⟩=some (.string sy'):=aaJ ah k0;have k14:w4.cell? ⟨b,o+(k+1) * 5+1,none⟩=some (.int .i64 ny):=aaJ ah k1;obtain⟨j,hj⟩:=abY (k+1);have ha:IntKind.i64.wrap ((k:Int)+1)=(j:Int):=by rw[IntWalk.i64_in _ (by omega)];omega
       have RU:(k:Int)+1=(j:Int):=by omega
       have aA:decide ((j:Int)<(l.length:Int))=true:=by simp;omega
       have cF:decide (j<l.length)=true:=by simp;omega
       have Ac:(0:Int)<=(j:Int):=by omega
       have Ae:(j:Int)<(l.length:Int):=by omega
       rw[hj] at k04 k14 yE;have HJ:=jq hj;have aI:b<w4.heap.size:=by have:=ah.size;omega
       clear ah bT k0 k1 hj nR;obtain⟨n,hn⟩:∃ n,l[j]?=some n:=⟨_,aQ (by omega)⟩;have nt:=jq (yE.out n hn);have fT:=jq hn;clear hn
       cases q1 with
       | false=>
        have HX:=jq (HN.out (λ_=>⟨ay.out,λn' hn' he=>by
         rw[HJ.out,fT.out] at hn';cases hn'
         have:=nt.out.1.2 he
         cases this⟩))
        go_wp2_with fail;go_quiet (fail);go_wp2_with fail;go_roundw
        case rel=>exact⟨k+1,by omega,by go_num,jq (below_drewN qs.out _),jq HX.out⟩
        case measure=>simp[intOf] <;> omega
       | true=>
        cases q2 with
        | false=>
         have HX:=jq (HN.out (λ_=>⟨ay.out,λn' hn' _=>by
          rw[HJ.out,fT.out] at hn';cases hn';refine Decidable.not_not.1 λh8=>?_
          have:=nt.out.2.2 h8
          cases this⟩))
         go_wp2_with fail;go_quiet (fail);go_wp2_with fail;go_roundw
         case rel=>exact⟨k+1,by omega,by go_num,jq (below_drewN qs.out _),jq HX.out⟩
         case measure=>simp[intOf] <;> omega
        | true=>
         have HX:Hid (r=false):=jq (HF.out λh=>(nt.out.2.1 rfl) ((h jw.out).2 n (by rw[HJ.out];exact fT.out) (nt.out.1.1 rfl)));go_wp2_with fail;go_quiet (fail);go_wp2_with fail;go_ret;exact⟨aj HX.out.symm,below_drewN CO.out _⟩
     ·have nU:decide ((0:Int)<(k:Int))=true:=by simp;omega
      have qV:decide (0<k)=true:=by simp;omega
      have TL:IntKind.i64.wrap ((k:Int) - 1)=(m:Int):=by rw[IntWalk.i64_in _ (by omega)];omega
      have TM:(k:Int) - 1=(m:Int):=by omega
      have pm:(0:Int)<=(m:Int):=by omega
      have Ab:(m:Int)<(l.length:Int):=by omega
      clear Eb;go_wp2_with fail;go_quiet (fail);go_wp2_with fail;obtain⟨w4,bT⟩:=abY ((wr.alloc (.cells #[.string sn,.int .i64 3,.int .i64 x.set.life,.slice Ad x.set.data.length cd,.slice As x.sigs.length cs] 42)).drewN nq);rw[bT];have qs:Hid (Below w1.heap.size w1 w4):=jq (by rw[<-bT];exact xU.out _ _);have CO:Hid (Below w.heap.size w w4):=jq (by rw[<-bT];exact BM.out _ _);have ah:Below wr.heap.size wr w4:=by rw[<-bT];exact below_drewN ((vQ _ _).alloc (bQ _) _) _
      have n4:w4.cell? ⟨wr.heap.size,0,none⟩=some (.string sn):=by rw[<-bT];simp[go_sem]
      have qJ:w4.cell? ⟨w.heap.size,1,none⟩=some (.slice (some ⟨b,o,none⟩) l.length c):=aaJ ah hcell;rcases ji with ⟨nR,rfl⟩ | ⟨y',sy',ny,nR,k0,k1,vS,mE⟩
      ·have HX:=jq (HN.out (λ_=>⟨ay.out,λn hn=>by have:=(cQ.1 hn).1;omega⟩));have aA:decide ((k:Int)+1<(l.length:Int))=false:=by simp;omega
       have cF:decide (k+1<l.length)=false:=by simp;omega
       clear nR;clear ah bT;go_wp2_with fail;go_quiet (fail);go_wp2_with fail;go_roundw
       case rel=>exact⟨k+1,by omega,by go_num,jq (below_drewN qs.out _),jq HX.out⟩
       case measure=>simp[intOf] <;> omega
      ·have k04:w4.cell? ⟨b,o+(k+1) * 5,none⟩=some (.string sy'):=aaJ ah k0;have k14:w4.cell? ⟨b,o+(k+1) * 5+1,none⟩=some (.int .i64 ny):=aaJ ah k1;obtain⟨j,hj⟩:=abY (k+1);have ha:IntKind.i64.wrap ((k:Int)+1)=(j:Int):=by rw[IntWalk.i64_in _ (by omega)];omega
       have RU:(k:Int)+1=(j:Int):=by omega
       have aA:decide ((j:Int)<(l.length:Int))=true:=by simp;omega
       have cF:decide (j<l.length)=true:=by simp;omega
       have Ac:(0:Int)<=(j:Int):=by omega
       have Ae:(j:Int)<(l.length:Int):=by omega
       rw[hj] at k04 k14 yE;have HJ:=jq hj;have aI:b<w4.heap.size:=by have:=ah.size;omega
       clear ah bT k0 k1 hj nR;obtain⟨n,hn⟩:∃ n,l[j]?=some n:=⟨_,aQ (by omega)⟩;have nt:=jq (yE.out n hn);have fT:=jq hn;clear hn
       cases q1 with
       | false=>
        have HX:=jq (HN.out (λ_=>⟨ay.out,λn' hn' he=>by
         rw[HJ.out,fT.out] at hn';cases hn'
         have:=nt.out.1.2 he
         cases this⟩))
        go_wp2_with fail;go_quiet (fail);go_wp2_with fail;go_roundw
        case rel=>exact⟨k+1,by omega,by go_num,jq (below_drewN qs.out _),jq HX.out⟩
        case measure=>simp[intOf] <;> omega
       | true=>
        cases q2 with
        | false=>
         have HX:=jq (HN.out (λ_=>⟨ay.out,λn' hn' _=>by
          rw[HJ.out,fT.out] at hn';cases hn';refine Decidable.not_not.1 λh8=>?_
          have:=nt.out.2.2 h8
          cases this⟩))
         go_wp2_with fail;go_quiet (fail);go_wp2_with fail;go_roundw
         case rel=>exact⟨k+1,by omega,by go_num,jq (below_drewN qs.out _),jq HX.out⟩
         case measure=>simp[intOf] <;> omega
        | true=>
         have HX:Hid (r=false):=jq (HF.out λh=>(nt.out.2.1 rfl) ((h jw.out).2 n (by rw[HJ.out];exact fT.out) (nt.out.1.1 rfl)));go_wp2_with fail;go_quiet (fail);go_wp2_with fail;go_ret;exact⟨aj HX.out.symm,below_drewN CO.out _⟩
   ·have HX:=jq (HN.out (λh=>absurd (jw.out.symm.trans h) h3));have h3':(ty != 3)=true:=by simpa using h3
    clear h3;go_wp2_with fail;go_roundw
    case rel=>exact⟨k+1,by omega,by go_num,jq (ca.out _),jq HX.out⟩
    case measure=>simp[intOf] <;> omega
  ·go_wp2_with fail;go_ret;refine⟨aj ?_,bp.out⟩;rw[<-HR.out];exact (Np.dz λi x hx=>HA.out i x (by have:=(cQ.1 hx).1;omega) hx).symm


theorem iG.fresh(b:Nat)(r:Option Nat)(W:World)(T:TypeId)(ns:List Int)(hb:b<W.heap.size)(hr:∀ k,r=some k->k<W.heap.size):iG b r (W.alloc (.cells (ns.map (Value.int .i64)).toArray T)) (.slice (some ⟨W.heap.size,0,none⟩) ns.length ns.length) ns:=by
 refine⟨_,_,rfl,bQ _,λi x hx=>⟨W.heap.size,0,rfl,by simp,by omega,λe=>by have:=hr _ e;omega,?_⟩⟩;rw[World.cell?_alloc_new];simp[hx]
structure KeyS(s:Np.Signed):Prop where
 name:s.set.name.length<=1000
 type:0<=s.set.type/\s.set.type<=1000000000
 life:0<=s.set.life/\s.set.life<=1000000000
 few:s.set.data.length<=100
 data:∀ d∈s.set.data,d.text.length<=1000/\(0<=d.n/\d.n<=1000000000)/\0<=d.m/\d.m<=1000000000
 fewS:s.sigs.length<=100
 sigs:∀ g∈s.sigs,g.zone.length<=1000/\(0<=g.key/\g.key<=1000000000)/\(0<=g.alg/\g.alg<=1000000000)/\(0<=g.frm/\g.frm<=1000000000)/\(0<=g.til/\g.til<=1000000000)/\0<=g.sum/\g.sum<18446744073709551616
def jW(f:List (List UInt8))(d:List Np.Datum):List UInt8:=Np.eL (f++d.flatMap Np.oY)
def jX(f:List (List UInt8))(g:List Np.Sig):List UInt8:=Np.eL (f++g.flatMap Np.om)
theorem Pv{f:List (List UInt8)}{d:List Np.Datum}{k:Nat}{x:Np.Datum}(hx:d[k]?=some x):jW f (d.take (k+1))=jW f (d.take k)++Np.eL (x.text :: [x.n,x.m].map Np.bA):=by
 obtain⟨hl,he⟩:=cQ.1 hx;rw[fQ hl,he];unfold jW;rw[List.flatMap_append,<-List.append_assoc,QI];rfl
theorem Pw{f:List (List UInt8)}{d:List Np.Sig}{k:Nat}{x:Np.Sig}(hx:d[k]?=some x):jX f (d.take (k+1))=jX f (d.take k)++Np.eL (x.zone :: [x.key,x.alg,x.frm,x.til].map Np.bA)++Np.eL (Np.bA x.sum::([]:List Int).map Np.bA):=by
 obtain⟨hl,he⟩:=cQ.1 hx;rw[fQ hl,he];unfold jX;simp[Np.eL,Np.om]
theorem zh{s:List UInt8}{ns:List Int}(hs:s.length<=1000)(hn:ns.length<=4)(h:∀ n∈ns,n<=1000000000):(Np.eL (s::ns.map Np.bA)).length<=1900:=by
 have:=Lg ns s (λn hm=>by have:=h n hm;omega)
 rw[EY] at this;omega
theorem XF(s:ByteArray)(ty life:Int)(dv sv:Value)(d:List Np.Datum)(g:List Np.Sig)(w:World)(hP:fG w)(hK:KeyS ⟨⟨s.data.toList,ty,life,d⟩,g⟩)(hd:SlR bI 3 w w.heap.size dv d)(hg:SlR cr 6 w w.heap.size sv g) :
 Calls prog 139 #[.agg #[.string s,.int .i64 ty,.int .i64 life,dv,sv]] w λe w'=>e = .returned (aM (Np.gL ⟨⟨s.data.toList,ty,life,d⟩,g⟩))/\Below w.heap.size w w':=by
 have HK:=jq hK;have HD:=jq hd;have HG:=jq hg;have HP:=jq hP;have DJ:=hP.lt;have Cj:Hid (∀ f,f = [s.data.toList,Np.bA ty,Np.bA life,Np.bA d.length]->jX (f++d.flatMap Np.oY) g=Np.gL ⟨⟨s.data.toList,ty,life,d⟩,g⟩):=jq (λf hf=>by subst hf;unfold jX Np.gL Np.uK;rw[List.append_assoc]);have yp:Hid (Np.eL (s.data.toList :: [ty,life,(d.length:Int)].map Np.bA)=jW [s.data.toList,Np.bA ty,Np.bA life,Np.bA d.length] []):=jq (by simp[jW]);have ag:s.size<=1000:=by have:=hK.name;rw[<-bG];exact this
 have vt:d.length<=100:=hK.few;have nM:g.length<=100:=hK.fewS;obtain⟨A1,c1,rfl,_,_⟩:=ar hd;obtain⟨A2,c2,rfl,_,_⟩:=ar hg;obtain⟨n1,co⟩:=abY d.length;obtain⟨n2,dj⟩:=abY g.length;rw[co] at HD Cj yp vt |-;rw[dj] at HG nM |-;have Gs:=jq co;have iD:=jq dj;clear co dj hd hg hK hP;obtain⟨f0,nK⟩:∃ f0,[s.data.toList,Np.bA ty,Np.bA life,Np.bA n1]=f0:=⟨_,rfl⟩;have lu:=jq (Cj.out f0 nK.symm);rw[nK] at yp;clear nK Cj;obtain⟨X,hX⟩:=abY w.heap.size;obtain⟨Y,hY⟩:=abY (X+1);obtain⟨W0,dg⟩:=abY (w.alloc (.cells #[.string s,.int .i64 ty,.int .i64 life,.slice A1 n1 c1,.slice A2 n2 c2] 42));have bd:W0.heap.size=Y:=by rw[<-dg,<-hY,<-hX];simp
 obtain⟨W1,aw⟩:=abY (W0.alloc (.cells #[.pointer none,.slice none 0 0] 198));have bW:Below X w W0:=by rw[<-dg];exact (vQ _ _).alloc (Nat.le_of_eq hX.symm) _
 have aq:Below Y W0 W1:=by rw[<-aw];exact (vQ _ _).alloc (Nat.le_of_eq bd.symm) _
 have aK:W1.heap.size=Y+1:=by rw[<-aw,<-bd];simp
 have MZ:Hid (Bld 198 Y Y none [] W1):=jq (by rw[<-aw,<-bd];exact Bld.fresh _ _);have k0:W1.cell? ⟨X,0,none⟩=some (.string s):=aaJ aq (by rw[<-dg,<-hX];simp[go_sem]);have k1:W1.cell? ⟨X,1,none⟩=some (.int .i64 ty):=aaJ aq (by rw[<-dg,<-hX];simp[go_sem]);have k2:W1.cell? ⟨X,2,none⟩=some (.int .i64 life):=aaJ aq (by rw[<-dg,<-hX];simp[go_sem]);have k3:W1.cell? ⟨X,3,none⟩=some (.slice A1 n1 c1):=aaJ aq (by rw[<-dg,<-hX];simp[go_sem]);have k4:W1.cell? ⟨X,4,none⟩=some (.slice A2 n2 c2):=aaJ aq (by rw[<-dg,<-hX];simp[go_sem]);obtain⟨W2,DN⟩:=abY (W1.alloc (.cells #[.int .i64 ty,.int .i64 life,.int .i64 (n1:Int)] 3));have ab:Below W1.heap.size W1 W2:=by rw[<-DN];exact (vQ _ _).alloc (bQ _) _
 have OG:Hid (iG Y none W2 (.slice (some ⟨Y+1,0,none⟩) 3 3) [ty,life,(n1:Int)]):=jq (by rw[<-DN,<-aK];exact iG.fresh Y none W1 _ [ty,life,(n1:Int)] (by omega) (λk h=>by cases h));have bg:Hid (Below Y W0 W2):=jq (aq.trans (ab.acJ));have bp:=jq bW;have p9:=jq ab;have IZ:X<W1.heap.size:=by omega
 have RS:Y<W1.heap.size:=by omega
 clear bW aq ab;rw[hX] at HD HG DJ |-;go_enter func139,ntmps139;go_wp2_with fail;have aC:Y+1<=W2.heap.size:=by have:=p9.out.size;omega
 have j3:=aaJ p9.out k3;have j4:=aaJ p9.out k4;have OO:Hid (fG W2):=jq (HP.out.keepAt (bp.out.trans (bg.out.acJ)) (by omega));clear k0 k1 k2 k3 k4 dg aw DN hX IZ RS;have qm:Hid (∀ n∈[ty,life,(n1:Int)],0<=n/\n<=1000000000):=jq (λn hn=>by
  have h1:=HK.out.type;have h2:=HK.out.life;dsimp only at h1 h2;simp only[List.mem_cons,Qh,or_false] at hn;rcases hn with rfl | rfl | rfl <;> omega)
 refine (Bg Y Y none [] s _ _ W2 (MZ.out.keep p9.out) OG.out (λn hn=>by have:=qm.out n hn;omega) (by simp) (by omega) (by simp) (by omega) OO.out (by omega)).mono ?_;rintro e w3 ⟨rfl,r3,gE,bM⟩;rw[yp.out] at gE;have ae:Below Y W2 w3:=bM.below (bQ _) (λk h=>by cases h) (by omega);have On:Hid (Bld 198 Y Y r3 (jW f0 []) w3):=jq (by simpa using gE);have gh:=ae.size;have i3:=aaJ ae j3;have i4:=aaJ ae j4;have ay:Hid (Below X w w3):=jq (bp.out.trans ((bg.out.trans ae).acJ));have ox:Hid ((jW f0 []).length<=2000):=jq (by
  rw[<-yp.out]
  have:=zh (s:=s.data.toList) (ns:=[ty,life,(n1:Int)]) HK.out.name (by simp) (λn hn=>(qm.out n hn).2)
  omega)
 clear gE bM ae j3 j4;go_wp2_with fail;go_loopw [30] (λi wr=>∃ (k:Nat) (r:Option Nat),k<=n1/\i = .int .i64 k/\Y+1<=wr.heap.size/\Hid (Bld 198 Y Y r (jW f0 (d.take k)) wr)/\Hid (Below Y w3 wr)/\Hid ((jW f0 (d.take k)).length<=2000 * (k+1))) (λi _=>n1 - (intOf i).toNat)
 case atStart=>exact⟨0,r3,jQ _,rfl,by omega,by simpa using On,jq (vQ _ _),by simpa using ox⟩
 case round=>
  obtain⟨k,r,hk,rfl,RT,HL,bH,HA⟩:=hrel;have HB:=aaK ay bH.out;have q3:=aaJ bH.out i3;have q4:=aaJ bH.out i4;by_cases aa:k<n1
  ·obtain⟨x,ac⟩:∃ x,d[k]?=some x:=⟨_,aQ (by rw[Gs.out];exact aa)⟩;obtain⟨b,o,c',t,hA,du,_,ht,Ey,g0,g1,g2⟩:=QB (HD.out.keep bq HB.out) ac;simp only[Value.slice.injEq] at hA;obtain⟨rfl,-,rfl⟩:=hA;have HT:=jq (Pv (f:=f0) ac);have HX:=jq (HK.out.data x (gQ ac));have CK:=jq ht;have tf:t.size<=1000:=by rw[<-bG,ht];exact HX.out.1
   clear ac ht Ey;have cN:(0:Int)<=(k:Int):=by omega
   have cO:(k:Int)<(n1:Int):=by omega
   obtain⟨w4,bT⟩:=abY (wr.alloc (.cells #[.string t,.int .i64 x.n,.int .i64 x.m] 128));have gX:w4.heap.size=wr.heap.size+1:=by rw[<-bT];simp
   have ah:Below wr.heap.size wr w4:=by rw[<-bT];exact (vQ _ _).alloc (bQ _) _
   have p0:w4.cell? ⟨wr.heap.size,0,none⟩=some (.string t):=by rw[<-bT];simp[go_sem]
   have p1:w4.cell? ⟨wr.heap.size,1,none⟩=some (.int .i64 x.n):=by rw[<-bT];simp[go_sem]
   have p2:w4.cell? ⟨wr.heap.size,2,none⟩=some (.int .i64 x.m):=by rw[<-bT];simp[go_sem]
   obtain⟨w5,aB⟩:=abY (w4.alloc (.cells #[.int .i64 x.n,.int .i64 x.m] 3));have aA:Below w4.heap.size w4 w5:=by rw[<-aB];exact (vQ _ _).alloc (bQ _) _
   have lK:Below wr.heap.size wr w5:=ah.trans (aA.acJ);have rR:Hid (iG Y r w5 (.slice (some ⟨wr.heap.size+1,0,none⟩) 2 2) [x.n,x.m]):=jq (by rw[<-aB,<-gX];exact iG.fresh Y r w4 _ [x.n,x.m] (by omega) (λk h=>by have:=(HL.out.row.2.2 k h).2;omega));have oI:=jq (HL.out.keep lK);have oM:Hid (fG w5):=jq (HP.out.keepAt (HB.out.trans (lK.acJ)) DJ);have jo:=lK.size;have rH:=jq lK;clear ah aA lK;go_wp2_with fail;clear bT aB p0 p1 p2;refine (Bg Y Y r _ t _ _ w5 oI.out rR.out (λn hn=>by
    have h1:=HX.out.2;simp only[List.mem_cons,Qh,or_false] at hn;rcases hn with rfl | rfl <;> omega) (by have:=HA.out;omega) (by omega) (by simp) (by omega) oM.out (by omega)).mono ?_
   rw[CK.out,<-HT.out];rintro e w6 ⟨rfl,r6,vK,kU⟩;have aI:Below Y w5 w6:=kU.below (bQ _) (λk h=>(oI.out.row.2.2 k h).1) (by omega);have H6:=jq (And.intro vK (bH.out.trans ((rH.out.acJ).trans aI)));have kj:=aI.size;have eI:Hid ((jW f0 (d.take (k+1))).length<=2000 * (k+1+1)):=jq (by
    rw[HT.out,List.length_append]
    have:=HA.out
    have:=zh (s:=x.text) (ns:=[x.n,x.m]) HX.out.1 (by simp) (λn hn=>by
     have h1:=HX.out.2;simp only[List.mem_cons,Qh,or_false] at hn;rcases hn with rfl | rfl <;> omega)
    omega)
   clear vK kU aI;go_wp2_with fail;go_roundw
   case rel=>exact⟨k+1,r6,by omega,by go_num,by omega,jq H6.out.1,jq H6.out.2,eI⟩
   case measure=>simp[intOf] <;> omega
  ·have jU:Hid (d.take k=d):=jq (kQ (by rw[Gs.out];omega));have MG:Hid ((jW f0 d).length<=202000):=jq (by have:=HA.out;rw[jU.out] at this;omega);rw[jU.out] at HL;go_wp2_with fail;clear aa hk;obtain⟨wo,rfl⟩:=acQ wr;obtain⟨f1,qL⟩:=abY (f0++d.flatMap Np.oY);have uk:=jq lu.out;rw[qL] at uk;have Ou:Hid (Bld 198 Y Y r (jX f1 []) wo):=jq (by have:=HL.out;unfold jW at this;rw[qL] at this;simpa [jX] using this);have HAS:Hid ((jX f1 []).length<=202000):=jq (by have:=MG.out;unfold jW at this;rw[qL] at this;simpa [jX] using this);clear qL;go_loopw [47] (λi wr=>∃ (k:Nat) (r:Option Nat),k<=n2/\i = .int .i64 k/\Y+1<=wr.heap.size/\Hid (Bld 198 Y Y r (jX f1 (g.take k)) wr)/\Hid (Below Y wo wr)/\Hid ((jX f1 (g.take k)).length<=202000+4000 * k)) (λi _=>n2 - (intOf i).toNat)
   case atStart=>exact⟨0,r,jQ _,rfl,by omega,by simpa using Ou,jq (vQ _ _),by simpa using HAS⟩
   case round=>
    obtain⟨k,r,hk,rfl,RT,HL,eY,HA⟩:=hrel;have HC:=aaK HB eY.out;have s4:=aaJ eY.out q4;by_cases aa:k<n2
    ·obtain⟨x,ac⟩:∃ x,g[k]?=some x:=⟨_,aQ (by rw[iD.out];exact aa)⟩;obtain⟨b,o,c',t,hA,du,ht,Ey,g0,g1,g2,g3,g4,g5⟩:=xz (HG.out.keep cC HC.out) ac;simp only[Value.slice.injEq] at hA;obtain⟨rfl,-,rfl⟩:=hA;have HT:=jq (Pw (f:=f1) ac);have HX:=jq (HK.out.sigs x (gQ ac));have CK:=jq ht;have tf:t.size<=1000:=by rw[<-bG,ht];exact HX.out.1
     clear ac ht Ey;have cN:(0:Int)<=(k:Int):=by omega
     have cO:(k:Int)<(n2:Int):=by omega
     have rY:Hid (∀ n∈[x.key,x.alg,x.frm,x.til],0<=n/\n<=1000000000):=jq (λn hn=>by
      have h1:=HX.out.2;simp only[List.mem_cons,Qh,or_false] at hn;rcases hn with rfl | rfl | rfl | rfl <;> omega)
     obtain⟨w4,bT⟩:=abY (wr.alloc (.cells #[.string t,.int .i64 x.key,.int .i64 x.alg,.int .i64 x.frm,.int .i64 x.til,.int .u64 x.sum] 50));have gX:w4.heap.size=wr.heap.size+1:=by rw[<-bT];simp
     have ah:Below wr.heap.size wr w4:=by rw[<-bT];exact (vQ _ _).alloc (bQ _) _
     have p0:w4.cell? ⟨wr.heap.size,0,none⟩=some (.string t):=by rw[<-bT];simp[go_sem]
     have p1:w4.cell? ⟨wr.heap.size,1,none⟩=some (.int .i64 x.key):=by rw[<-bT];simp[go_sem]
     have p2:w4.cell? ⟨wr.heap.size,2,none⟩=some (.int .i64 x.alg):=by rw[<-bT];simp[go_sem]
     have p3:w4.cell? ⟨wr.heap.size,3,none⟩=some (.int .i64 x.frm):=by rw[<-bT];simp[go_sem]
     have p4:w4.cell? ⟨wr.heap.size,4,none⟩=some (.int .i64 x.til):=by rw[<-bT];simp[go_sem]
     have p5:w4.cell? ⟨wr.heap.size,5,none⟩=some (.int .u64 x.sum):=by rw[<-bT];simp[go_sem]
     obtain⟨w5,aB⟩:=abY (w4.alloc (.cells #[.int .i64 x.key,.int .i64 x.alg,.int .i64 x.frm,.int .i64 x.til] 3));have aA:Below w4.heap.size w4 w5:=by rw[<-aB];exact (vQ _ _).alloc (bQ _) _
     have lK:Below wr.heap.size wr w5:=ah.trans (aA.acJ);have rR:Hid (iG Y r w5 (.slice (some ⟨wr.heap.size+1,0,none⟩) 4 4) [x.key,x.alg,x.frm,x.til]):=jq (by rw[<-aB,<-gX];exact iG.fresh Y r w4 _ [x.key,x.alg,x.frm,x.til] (by omega) (λk h=>by have:=(HL.out.row.2.2 k h).2;omega));have o5:=aaJ aA p5;have nu:Hid (∀ k,r=some k->k<wr.heap.size):=jq (λk h=>(HL.out.row.2.2 k h).2);have oI:=jq (HL.out.keep lK);have oM:Hid (fG w5):=jq (HP.out.keepAt (HC.out.trans (lK.acJ)) DJ);have jo:=lK.size;have afY:=aA.size;have rH:=jq lK;clear ah aA lK;go_wp2_with fail;clear bT aB p0 p1 p2 p3 p4 p5;refine (Bg Y Y r _ t _ _ w5 oI.out rR.out (λn hn=>by have:=rY.out n hn;omega) (by have:=HA.out;omega) (by omega) (by simp) (by omega) oM.out (by omega)).mono ?_;rw[CK.out];rintro e w6 ⟨rfl,r6,vK,kU⟩;have aI:Below Y w5 w6:=kU.below (bQ _) (λk h=>(oI.out.row.2.2 k h).1) (by omega);have FY:Hid ((Np.eL (x.zone :: [x.key,x.alg,x.frm,x.til].map Np.bA)).length<=1900):=jq (zh HX.out.1 (by simp) (λn hn=>(rY.out n hn).2));have t5:=(kU.cell (k:=wr.heap.size) (by omega) (by omega) (λe=>by have:=nu.out _ e;omega) 5).trans o5;have Oo:=jq vK;have R0:=jq (eY.out.trans ((rH.out.acJ).trans aI));have kj:=aI.size;have GD:Hid (fG w6):=jq (oM.out.keepAt aI (by omega));clear vK kU aI o5;go_wp2_with fail;refine (Q1 x.sum HX.out.2.2.2.2.2.1 HX.out.2.2.2.2.2.2 w6 GD.out).mono ?_;rintro e w7 ⟨rfl,cF⟩;have tk:=cF.size;have yu:=jq (Oo.out.keep cF);have OP:=jq (GD.out.keep cF);have fD:=aaK R0 cF;have yF:Hid ((⟨(Np.bA x.sum).toArray⟩:ByteArray).size<=100):=jq (by rw[<-bG];have:=uI HX.out.2.2.2.2.2.2;simp;omega);clear cF t5;go_wp2_with fail;refine (Bg Y Y r6 _ ⟨(Np.bA x.sum).toArray⟩ _ [] w7 yu.out (iG.nil _ _ _) (λn hn=>by cases hn) (by have:=HA.out;have:=FY.out;rw[List.length_append];omega) (by have:=yF.out;omega) (by simp) (by omega) OP.out (by omega)).mono ?_;rintro e w8 ⟨rfl,r8,JI,Eu⟩;have dW:Below Y w7 w8:=Eu.below (bQ _) (λk h=>(yu.out.row.2.2 k h).1) (by omega);have rg:=dW.size;have H8:Hid (Bld 198 Y Y r8 (jX f1 (g.take (k+1))) w8/\Below Y wo w8):=jq ⟨by rw[HT.out];simpa using JI,fD.out.trans dW⟩;have pY:Hid ((jX f1 (g.take (k+1))).length<=202000+4000 * (k+1)):=jq (by
      rw[HT.out,List.length_append,List.length_append]
      have:=HA.out
      have:=FY.out
      have:=zh (s:=Np.bA x.sum) (ns:=[]) (by have:=uI HX.out.2.2.2.2.2.2;omega) (by simp) (λn hn=>by cases hn)
      omega)
     clear JI Eu dW;go_wp2_with fail;go_roundw
     case rel=>exact⟨k+1,r8,by omega,by go_num,by omega,jq H8.out.1,jq H8.out.2,pY⟩
     case measure=>simp[intOf] <;> omega
    ·have jU:Hid (g.take k=g):=jq (kQ (by rw[iD.out];omega));rw[jU.out] at HL;go_wp2_with fail;refine (Xq Y Y _ wr HL.out.read).mono ?_;rw[uk.out];rintro e w9 ⟨rfl,_,bi⟩;have eb:=aaK HC bi;clear bi;go_wp2_with fail;go_ret;exact⟨rfl,eb.out⟩

def TxK(Y Z E n:Nat)(l:List UInt8)(w:World):Prop:=l.length<=n/\Z<w.heap.size/\Y<Z/\(E<w.heap.size/\E≠Y)/\w.cell? ⟨Z,0,none⟩=some (.func (.func 128) #[] #[.pointer (some ⟨Y,0,none⟩)])/\∃ r,Bld 198 Y Y r l w/\r≠some Z/\r≠some E
theorem TxK.keep{Y Z E n:Nat}{l:List UInt8}{w w':World}(h:TxK Y Z E n l w)(hb:Below w.heap.size w w'):TxK Y Z E n l w':=by
 obtain⟨h1,h2,h3,h7,h4,r,h5,h6⟩:=h;exact⟨h1,lQ h2 hb.size,h3,⟨lQ h7.1 hb.size,h7.2⟩,(hb.cell (p:=⟨Z,0,none⟩) h2).trans h4,r,h5.keep hb,h6⟩
theorem TxK.more{Y Z E n m:Nat}{l:List UInt8}{w:World}(h:TxK Y Z E n l w)(hn:n<=m):TxK Y Z E m l w:=⟨yQ h.1 hn,h.2⟩
theorem TxK.fresh{Y Z E n:Nat}{l:List UInt8}{w w':World}(h:TxK Y Z E n l w)(hb:Below w.heap.size w w')(hz:w.heap.size<w'.heap.size):TxK Y Z w.heap.size n l w':=by
 obtain⟨h1,h2,h3,h7,h4,r,h5,h6,_⟩:=h;exact⟨h1,lQ h2 hb.size,h3,⟨hz,by omega⟩,(hb.cell (p:=⟨Z,0,none⟩) h2).trans h4,r,h5.keep hb,h6,λe=>by have:=(h5.row.2.2 _ e).2;omega⟩
theorem TxK.back{Y Z E n:Nat}{l:List UInt8}{w:World}(h:TxK Y Z E n l w):TxK Y Z Z n l w:=by
 obtain⟨h1,h2,h3,h7,h4,r,h5,h6,_⟩:=h;exact⟨h1,h2,h3,⟨h2,by omega⟩,h4,r,h5,h6,h6⟩
theorem TxK.step{Y Z E n m:Nat}{l l':List UInt8}{w w':World}(h:TxK Y Z E n l w)(hl:l'.length<=m){r:Option Nat}(hr:Bld 198 Y Y r l w)(hz:r≠some Z)(he:r≠some E){r':Option Nat}(hb:Bld 198 Y Y r' l' w')(hs:BS Y r w r' w'):TxK Y Z E m l' w'/\w'.heap[E]?=w.heap[E]?/\Below Y w w':=by
 obtain⟨h1,h2,h3,h7,h4,_⟩:=h;exact⟨⟨hl,lQ h2 hs.size,h3,⟨lQ h7.1 hs.size,h7.2⟩,(hs.cell h2 (by omega) hz 0).trans h4,r',hb,hs.free h2 hz,hs.free h7.1 he⟩,hs.keep E h7.1 h7.2 he,hs.below (bQ _) (λk hk=>(hr.row.2.2 k hk).1) (by have:=hr.row.2.1;omega)⟩

end
end Go.Proofs.YtfnopgdcaanaiaaGreatDoor
