/- Parts of the proof. No condition. -/
import Derived.Lib.LazyBuf
import Derived.Test.YtfnopgdcaanaiaaGreatDoorM06
set_option linter.all false
set_option maxRecDepth 100000
set_option maxHeartbeats 8000000
namespace Go.Proofs.YtfnopgdcaanaiaaGreatDoor
open Go.Proofs.Tryz
section
open Go.RowKit
theorem qz{w:World}{B n c:Nat}{A:Option Addr}{xs:List (List UInt8)}(h:SlR RTx 1 w B (.slice A n c) xs){k:Nat}{x:List UInt8}(hx:xs[k]?=some x):∃ (b o:Nat) (s:ByteArray),A=some ⟨b,o,none⟩/\b<B/\s.data.toList=x/\s.size<=140737488355328/\w.cell? ⟨b,o+k,none⟩=some (.string s):=by
 obtain⟨A',c',hv,hc,_,he⟩:=h;simp only[Value.slice.injEq] at hv;obtain⟨rfl,_,_⟩:=hv;obtain⟨b,o,e,rfl,hb,_,hce,s,h1,h2,rfl⟩:=he k x hx;exact⟨b,o,s,rfl,hb,h1,h2,by have:=hce 0 _ rfl;simpa using this⟩
def Np.qB(l:List Np.Signed)(B:List (List UInt8)):Prop:=∀ (i:Nat) (x:Np.Signed) (b:List UInt8),l[i]?=some x->B[i]?=some b->Np.kI x.set b
def Np.Bm(l:List Np.Signed)(B:List (List UInt8)):Prop:=∀ (i:Nat) (x:Np.Signed) (b:List UInt8),l[i]?=some x->B[i]?=some b->b≠[]->x.set.type=2\/x.set.type=1->x.sigs = []
theorem Og{x:Np.DSet}{b:List UInt8}(hb:b = []):Np.kI x b↔x.type≠6:=by
 subst hb;exact⟨λh=>h.1 rfl,λh=>⟨λ_=>h,λh2=>absurd rfl h2,λh2=>absurd rfl h2⟩⟩
theorem Oh{x:Np.DSet}{b:List UInt8}(hb:b≠[])(he:b=x.name):Np.kI x b↔(x.type=2\/x.type=6\/x.type=8\/x.type=1):=
 ⟨λh=>h.2.1 hb he,λh=>⟨λh2=>absurd h2 hb,λ_ _=>h,λ_ h2=>absurd he h2⟩⟩
theorem Oi{x:Np.DSet}{b:List UInt8}(hb:b≠[])(he:b≠x.name):Np.kI x b↔x.type=1:=
 ⟨λh=>h.2.2 hb he,λh=>⟨λh2=>absurd h2 hb,λ_ h2=>absurd h2 he,λ_ _=>h⟩⟩
theorem WQ(a:ByteArray)(v bv:Value)(l:List Np.Signed)(B:List (List UInt8))(ko:B.length=l.length)(w:World)(hd:SlR bO 5 w w.heap.size v l)(sI:SlR RTx 1 w w.heap.size bv B) :
 Calls prog 202 #[.agg #[.string a,v,bv]] w (a0X w.heap.size w (.bool (Np.yes (Np.qB l B)))):=by
 obtain⟨r,hr⟩:=acJ (Np.yes (Np.qB l B));rw[hr];have HR:=jq hr;have fY:=jq ko;have HD:=jq hd;have pD:=jq sI;obtain⟨A,c,rfl,bq,bM⟩:=ak hd;obtain⟨A2,c2,rfl,fI,eU⟩:=ak sI;rw[ko] at fI eU pD |-;clear hr hd sI ko;have HW:Hid (∀ o,Below w.heap.size w (w.alloc o)):=jq (λo=>(vQ _ w).alloc (bQ _) _);go_enter func202,ntmps202;go_wp2_with fail;obtain⟨w1,ah⟩:=acJ (w.alloc (.cells #[.string a,.slice A l.length c,.slice A2 l.length c2] 265));have c2':w1.cell? ⟨w.heap.size,2,none⟩=some (.slice A2 l.length c2):=by rw[<-ah];simp[go_sem]
 have eO:w.heap.size<w1.heap.size:=by rw[<-ah];simp
 have av:Hid (Below w.heap.size w w1):=jq (by rw[<-ah];exact HW.out _);rw[ah];clear ah;go_loopw [11] (λi wr=>∃ k:Nat,k<=l.length/\i = .int .i64 k/\Hid (Below w1.heap.size w1 wr)/\Hid (∀ j x b,j<k->l[j]?=some x->B[j]?=some b->Np.kI x.set b)) (λi _=>l.length - (intOf i).toNat)
 case atStart=>exact⟨0,jQ _,rfl,jq (vQ _ _),jq (λj x b hj=>by omega)⟩
 case round=>
  obtain⟨k,hk,rfl,HB,HA⟩:=hrel;have an:=HB.out.size;have aG:=acZ av HB.out;by_cases ab:k<l.length
  ·obtain⟨x,aa⟩:∃ x,l[k]?=some x:=⟨_,aQ ab⟩;obtain⟨bb,dL⟩:∃ bb,B[k]?=some bb:=⟨_,aQ (by rw[fY.out];omega)⟩;obtain⟨b,o,c',sn,dv,sv,hA,bA,_,aw,cB,aK,aS,e0,e1,e2,e3,e4⟩:=fE (HD.out.keep bj aG.out) aa
   cases hA
   obtain⟨b2,o2,sb,rfl,y9,mh,Kl,g0⟩:=qz (pD.out.keep mY aG.out) dL;have HN:Hid (Np.kI x.set bb->∀ j x b,j<k+1->l[j]?=some x->B[j]?=some b->Np.kI x.set b):=jq (λh j x b hj hx hb=>by
    by_cases e:j=k
    ·subst e;rw[aa] at hx;rw[dL] at hb;cases hx;cases hb;exact h
    ·exact HA.out j x b (by omega) hx hb)
   have HF:Hid (¬ Np.kI x.set bb->r=false):=jq (λh=>by
    rw[<-HR.out];exact Np.aF λq=>h (q k _ _ aa dL))
   clear aa dL;obtain⟨Ad,cd,rfl,_,_⟩:=ak aK;obtain⟨As,cs,rfl,_,_⟩:=ak aS;have hcell:wr.cell? ⟨w.heap.size,2,none⟩=some (.slice (some ⟨b2,o2,none⟩) l.length c2):=aaJ HB.out c2';have dK:w.heap.size<wr.heap.size:=by omega
   have ay:b<wr.heap.size:=by omega
   have ac:b2<wr.heap.size:=by omega
   have aY:Hid (∀ o,Below w1.heap.size w1 (wr.alloc o)):=jq (λo=>HB.out.alloc HB.out.size _);have nf:Hid (∀ o,Below w.heap.size w (wr.alloc o)):=jq (λo=>aG.out.alloc (by omega) _);have bJ:(0:Int)<=(k:Int):=by omega
   have bI:(k:Int)<(l.length:Int):=by omega
   have aT:=jq aw;have ft:=jq mh;obtain⟨ty,dT⟩:=acJ x.set.type;have dF:=jq dT;rw[dT] at e1;clear aw mh aK aS dT;by_cases eq:bb = []
   ·obtain rfl:sb=⟨#[]⟩:=j9 (by rw[ft.out,eq]);have bH:=jq (Og (x:=x.set) eq);clear eq;by_cases h6:ty=6
    ·have HX:Hid (r=false):=jq (HF.out λh=>(bH.out.1 h) (dF.out.trans h6));subst h6;go_wp2_with fail;go_ret;exact⟨ag HX.out.symm,nf.out _⟩
    ·have HX:=jq (HN.out (bH.out.2 λh=>h6 (dF.out.symm.trans h)));have h6':(ty == 6)=false:=by simpa using h6
     clear h6;go_wp2_with fail;go_roundw
     case rel=>exact⟨k+1,by omega,by go_num,jq (aY.out _),jq HX.out⟩
     case measure=>simp[intOf] <;> omega
   ·have xi:(sb.toList == [])=false:=by rw[dQ,ft.out];simpa using eq
    by_cases jK:bb=x.set.name
    ·have Jy:(sb.toList == sn.toList)=true:=by rw[dQ,dQ,ft.out,aT.out];simpa using jK
     have bH:=jq (Oh (x:=x.set) eq jK);clear eq jK;by_cases ht:ty=2\/ty=6\/ty=8\/ty=1
     ·have HX:=jq (HN.out (bH.out.2 (by rw[dF.out];exact ht)));rcases ht with rfl | rfl | rfl | rfl
      all_goals
       go_wp2_with fail;go_roundw
       case rel=>exact⟨k+1,by omega,by go_num,jq (aY.out _),jq HX.out⟩
       case measure=>simp[intOf] <;> omega
     ·have HX:Hid (r=false):=jq (HF.out λh=>ht (by have:=bH.out.1 h;rwa [dF.out] at this));have t1:(ty != 2)=true:=by simp;omega
      have t2:(ty != 6)=true:=by simp;omega
      have t3:(ty != 8)=true:=by simp;omega
      have t4:(ty != 1)=true:=by simp;omega
      clear ht;go_wp2_with fail;go_ret;exact⟨ag HX.out.symm,nf.out _⟩
    ·have Jy:(sb.toList == sn.toList)=false:=by rw[dQ,dQ,ft.out,aT.out];simpa using jK
     have bH:=jq (Oi (x:=x.set) eq jK);clear eq jK;by_cases ht:ty=1
     ·have HX:=jq (HN.out (bH.out.2 (by rw[dF.out];exact ht)));subst ht;go_wp2_with fail;go_roundw
      case rel=>exact⟨k+1,by omega,by go_num,jq (aY.out _),jq HX.out⟩
      case measure=>simp[intOf] <;> omega
     ·have HX:Hid (r=false):=jq (HF.out λh=>ht (by have:=bH.out.1 h;rwa [dF.out] at this));have t4:(ty != 1)=true:=by simpa using ht
      clear ht;go_wp2_with fail;go_ret;exact⟨ag HX.out.symm,nf.out _⟩
  ·go_wp2_with fail;go_ret;refine⟨ag ?_,aG.out⟩;rw[<-HR.out];exact (Np.bh λi x b hx hb=>HA.out i x b (by have:=(cQ.1 hx).1;omega) hx hb).symm
def Np.zU(l:List Np.Signed)(k:Nat)(x:Np.Signed):Prop:=x.set.type=3->(∀ p,0<k->l[k - 1]?=some p->p.set.name≠x.set.name)/\∀ n,l[k+1]?=some n->n.set.name=x.set.name->n.set.type=8
def Np.zV(l:List Np.Signed):Prop:=∀ k x,l[k]?=some x->Np.zU l k x
theorem Vy(a:ByteArray)(v:Value)(A2:Option Addr)(n2 c2:Nat)(l:List Np.Signed)(bW:l.length<=20000)(w:World)(hd:SlR bO 5 w w.heap.size v l) :
 Calls prog 201 #[.agg #[.string a,v,.slice A2 n2 c2]] w (a0X w.heap.size w (.bool (Np.yes (Np.zV l)))):=by
 obtain⟨r,hr⟩:=acJ (Np.yes (Np.zV l));rw[hr];have HR:=jq hr;have HD:=jq hd;obtain⟨A,c,rfl,bq,bM⟩:=ak hd;clear hr hd;have HW:Hid (∀ o,Below w.heap.size w (w.alloc o)):=jq (λo=>(vQ _ w).alloc (bQ _) _);go_enter func201,ntmps201;go_wp2_with fail;obtain⟨w1,ah⟩:=acJ (w.alloc (.cells #[.string a,.slice A l.length c,.slice A2 n2 c2] 265));have c2':w1.cell? ⟨w.heap.size,1,none⟩=some (.slice A l.length c):=by rw[<-ah];simp[go_sem]
 have eO:w.heap.size<w1.heap.size:=by rw[<-ah];simp
 have av:Hid (Below w.heap.size w w1):=jq (by rw[<-ah];exact HW.out _);rw[ah];clear ah;go_loopw [10] (λi wr=>∃ k:Nat,k<=l.length/\i = .int .i64 k/\Hid (Below w1.heap.size w1 wr)/\Hid (∀ j x,j<k->l[j]?=some x->Np.zU l j x)) (λi _=>l.length - (intOf i).toNat)
 case atStart=>exact⟨0,jQ _,rfl,jq (vQ _ _),jq (λj x hj=>by omega)⟩
 case round=>
  obtain⟨k,hk,rfl,HB,HA⟩:=hrel;have an:=HB.out.size;have aG:=acZ av HB.out;by_cases ab:k<l.length
  ·obtain⟨x,aa⟩:∃ x,l[k]?=some x:=⟨_,aQ ab⟩;obtain⟨b,o,c',sn,dv,sv,hA,bA,_,aw,cB,aK,aS,e0,e1,e2,e3,e4⟩:=fE (HD.out.keep bj aG.out) aa
   cases hA
   have HN:Hid (Np.zU l k x->∀ j x,j<k+1->l[j]?=some x->Np.zU l j x):=jq (λh j y hj hy=>by
    by_cases e:j=k
    ·subst e;rw[aa] at hy;cases hy;exact h
    ·exact HA.out j y (by omega) hy)
   have HF:Hid (¬ Np.zU l k x->r=false):=jq (λh=>by
    rw[<-HR.out];exact Np.aF λq=>h (q k x aa))
   have MH:Hid (∀ (m:Nat) (y:Np.Signed),l[m]?=some y->∃ (sy:ByteArray),sy.data.toList=y.set.name/\wr.cell? ⟨b,o+m * 5,none⟩=some (.string sy)/\wr.cell? ⟨b,o+m * 5+1,none⟩=some (.int .i64 y.set.type)):=jq (λm y hy=>by
    obtain⟨b9,o9,c9,sy,dv9,sv9,hA,_,_,gk,_,_,_,q0,q1,_⟩:=fE (HD.out.keep bj aG.out) hy;simp only[Value.slice.injEq,Option.some.injEq,Addr.mk.injEq,and_true,true_and] at hA;obtain⟨⟨rfl,rfl⟩,-⟩:=hA;exact⟨sy,gk,q0,q1⟩)
   clear aa;obtain⟨Ad,cd,rfl,_,_⟩:=ak aK;obtain⟨As,cs,rfl,_,_⟩:=ak aS;have hcell:wr.cell? ⟨w.heap.size,1,none⟩=some (.slice (some ⟨b,o,none⟩) l.length c):=aaJ HB.out c2';have dK:w.heap.size<wr.heap.size:=by omega
   have ay:b<wr.heap.size:=by omega
   have aY:Hid (∀ o,Below w1.heap.size w1 (wr.alloc o)):=jq (λo=>HB.out.alloc HB.out.size _);have nf:Hid (∀ o,Below w.heap.size w (wr.alloc o)):=jq (λo=>aG.out.alloc (by omega) _);have bJ:(0:Int)<=(k:Int):=by omega
   have bI:(k:Int)<(l.length:Int):=by omega
   have aT:=jq aw;obtain⟨ty,dT⟩:=acJ x.set.type;have dF:=jq dT;rw[dT] at e1;clear aw aK aS dT;by_cases h3:ty=3
   ·obtain⟨w2,aj⟩:=acJ (wr.alloc (.cells #[.string sn,.int .i64 ty,.int .i64 x.set.life,.slice Ad x.set.data.length cd,.slice As x.sigs.length cs] 42));subst h3;have t3:((3:Int) != 3)=false:=by decide
    have Ju:∃ q:Bool,Hid (q=true↔∃ p,0<k/\l[k - 1]?=some p/\p.set.name=x.set.name)/\((k=0/\q=false)\/∃ (m:Nat) (y:Np.Signed) (sy:ByteArray),k=m+1/\wr.cell? ⟨b,o+m * 5,none⟩=some (.string sy)/\(sy.toList == sn.toList)=q):=by
     by_cases gX:k=0
     ·exact⟨false,jq ⟨λh=>(by cases h),λ⟨p,h,_⟩=>(by omega)⟩,.inl ⟨gX,rfl⟩⟩
     ·obtain⟨m,rfl⟩:∃ m,k=m+1:=⟨k - 1,by omega⟩;obtain⟨y,hy⟩:∃ y,l[m]?=some y:=⟨_,aQ (by omega)⟩;obtain⟨sy,gk,q0,q1⟩:=MH.out m y hy;refine⟨_,jq ?_,.inr ⟨m,y,sy,rfl,q0,rfl⟩⟩;rw[dQ,dQ,gk,aT.out,beq_iff_eq];constructor
      ·intro h;exact⟨y,by omega,by simpa using hy,h⟩
      ·rintro⟨p,_,hp,h⟩;rw[show m+1 - 1=m by omega,hy] at hp
       cases hp;exact h
    have Yo:∃ q1 q2:Bool,Hid (∀ n,l[k+1]?=some n->(q1=true↔n.set.name=x.set.name)/\(q2=true↔n.set.type≠8))/\((l.length=k+1/\q1=false)\/∃ (y:Np.Signed) (sy:ByteArray) (ny:Int),k+1<l.length/\wr.cell? ⟨b,o+(k+1) * 5,none⟩=some (.string sy)/\wr.cell? ⟨b,o+(k+1) * 5+1,none⟩=some (.int .i64 ny)/\(sy.toList == sn.toList)=q1/\(ny != 8)=q2):=by
     by_cases pa:l.length=k+1
     ·exact⟨false,false,jq (λn hn=>by have:=(cQ.1 hn).1;omega),.inl ⟨pa,rfl⟩⟩
     ·obtain⟨y,hy⟩:∃ y,l[k+1]?=some y:=⟨_,aQ (by omega)⟩;obtain⟨sy,gk,q0,q1⟩:=MH.out (k+1) y hy;refine⟨_,_,jq (λn hn=>?_),.inr ⟨y,sy,y.set.type,by omega,q0,q1,rfl,rfl⟩⟩;rw[hy] at hn;cases hn;rw[dQ,dQ,gk,aT.out,beq_iff_eq];exact⟨Iff.rfl,by simp⟩
    clear aj w2;obtain⟨qb,sh,Cy⟩:=Ju;obtain⟨q1,q2,DH,gZ⟩:=Yo;have LW:Hid (∀ o n,Below w1.heap.size w1 ((wr.alloc o).drewN n)):=jq (λo n=>below_drewN (HB.out.alloc HB.out.size _) _);have Gj:Hid (∀ o n,Below w.heap.size w ((wr.alloc o).drewN n)):=jq (λo n=>below_drewN (aG.out.alloc (by omega) _) _);have xe:∀ o' n,(wr.alloc o').drewN n=(wr.alloc o').drewN n:=λ_ _=>rfl;clear xe
    cases qb with
    | true=>
     have HX:Hid (r=false):=jq (HF.out λh=>by
      obtain⟨p,Qk,hp,he⟩:=sh.out.1 rfl;exact (h dF.out).1 p Qk hp he)
     rcases Cy with ⟨_,h⟩ | ⟨m,y,sy,mK,g0,sZ⟩
     ·cases h
     ·have jP:decide ((0:Int)<(k:Int))=true:=by simp;omega
      have jt:decide (0<k)=true:=by simp;omega
      have Kv:IntKind.i64.wrap ((k:Int) - 1)=(m:Int):=by rw[IntWalk.i64_in _ (by omega)];omega
      have Fe:(k:Int) - 1=(m:Int):=by omega
      have la:(0:Int)<=(m:Int):=by omega
      have ru:(m:Int)<(l.length:Int):=by omega
      clear mK;go_wp2_with fail;go_quiet (fail);go_wp2_with fail;go_ret;exact⟨ag HX.out.symm,Gj.out _ _⟩
    | false=>
     have ar:Hid (∀ p,0<k->l[k - 1]?=some p->p.set.name≠x.set.name):=jq (λp h0 hp he=>by
      have:=sh.out.2 ⟨p,h0,hp,he⟩
      cases this)
     rcases Cy with ⟨gX,_⟩ | ⟨m,y,sy,mK,g0,sZ⟩
     ·have jP:decide ((0:Int)<(k:Int))=false:=by simp;omega
      have jt:decide (0<k)=false:=by simp;omega
      clear gX;go_wp2_with fail;go_quiet (fail);go_wp2_with fail;obtain⟨w4,bY⟩:=acJ ((wr.alloc (.cells #[.string sn,.int .i64 3,.int .i64 x.set.life,.slice Ad x.set.data.length cd,.slice As x.sigs.length cs] 42)).drewN nq);rw[bY];have vW:Hid (Below w1.heap.size w1 w4):=jq (by rw[<-bY];exact LW.out _ _);have Iq:Hid (Below w.heap.size w w4):=jq (by rw[<-bY];exact Gj.out _ _);have aC:Below wr.heap.size wr w4:=by rw[<-bY];exact below_drewN ((vQ _ _).alloc (bQ _) _) _
      have n4:w4.cell? ⟨wr.heap.size,0,none⟩=some (.string sn):=by rw[<-bY];simp[go_sem]
      have EK:w4.cell? ⟨w.heap.size,1,none⟩=some (.slice (some ⟨b,o,none⟩) l.length c):=aaJ aC hcell;rcases gZ with ⟨pa,rfl⟩ | ⟨y',sy',ny,pa,k0,k1,zr,qn⟩
      ·have HX:=jq (HN.out (λ_=>⟨ar.out,λn hn=>by have:=(cQ.1 hn).1;omega⟩));have aH:decide ((k:Int)+1<(l.length:Int))=false:=by simp;omega
       have dO:decide (k+1<l.length)=false:=by simp;omega
       clear pa;clear aC bY;go_wp2_with fail;go_quiet (fail);go_wp2_with fail;go_roundw
       case rel=>exact⟨k+1,by omega,by go_num,jq (below_drewN vW.out _),jq HX.out⟩
       case measure=>simp[intOf] <;> omega
      ·have k04:w4.cell? ⟨b,o+(k+1) * 5,none⟩=some (.string sy'):=aaJ aC k0;have k14:w4.cell? ⟨b,o+(k+1) * 5+1,none⟩=some (.int .i64 ny):=aaJ aC k1;obtain⟨j,hj⟩:=acJ (k+1);have ha:IntKind.i64.wrap ((k:Int)+1)=(j:Int):=by rw[IntWalk.i64_in _ (by omega)];omega
       have Yb:(k:Int)+1=(j:Int):=by omega
       have aH:decide ((j:Int)<(l.length:Int))=true:=by simp;omega
       have dO:decide (j<l.length)=true:=by simp;omega
       have jM:(0:Int)<=(j:Int):=by omega
       have sR:(j:Int)<(l.length:Int):=by omega
       rw[hj] at k04 k14 DH;have HJ:=jq hj;have aW:b<w4.heap.size:=by have:=aC.size;omega
       clear aC bY k0 k1 hj pa;obtain⟨n,hn⟩:∃ n,l[j]?=some n:=⟨_,aQ (by omega)⟩;have iF:=jq (DH.out n hn);have cO:=jq hn;clear hn
       cases q1 with
       | false=>
        have HX:=jq (HN.out (λ_=>⟨ar.out,λn' hn' he=>by
         rw[HJ.out,cO.out] at hn';cases hn'
         have:=iF.out.1.2 he
         cases this⟩))
        go_wp2_with fail;go_quiet (fail);go_wp2_with fail;go_roundw
        case rel=>exact⟨k+1,by omega,by go_num,jq (below_drewN vW.out _),jq HX.out⟩
        case measure=>simp[intOf] <;> omega
       | true=>
        cases q2 with
        | false=>
         have HX:=jq (HN.out (λ_=>⟨ar.out,λn' hn' _=>by
          rw[HJ.out,cO.out] at hn';cases hn';refine Decidable.not_not.1 λh8=>?_
          have:=iF.out.2.2 h8
          cases this⟩))
         go_wp2_with fail;go_quiet (fail);go_wp2_with fail;go_roundw
         case rel=>exact⟨k+1,by omega,by go_num,jq (below_drewN vW.out _),jq HX.out⟩
         case measure=>simp[intOf] <;> omega
        | true=>
         have HX:Hid (r=false):=jq (HF.out λh=>(iF.out.2.1 rfl) ((h dF.out).2 n (by rw[HJ.out];exact cO.out) (iF.out.1.1 rfl)));go_wp2_with fail;go_quiet (fail);go_wp2_with fail;go_ret;exact⟨ag HX.out.symm,below_drewN Iq.out _⟩
     ·have jP:decide ((0:Int)<(k:Int))=true:=by simp;omega
      have jt:decide (0<k)=true:=by simp;omega
      have Kv:IntKind.i64.wrap ((k:Int) - 1)=(m:Int):=by rw[IntWalk.i64_in _ (by omega)];omega
      have Fe:(k:Int) - 1=(m:Int):=by omega
      have la:(0:Int)<=(m:Int):=by omega
      have ru:(m:Int)<(l.length:Int):=by omega
      clear mK;go_wp2_with fail;go_quiet (fail);go_wp2_with fail;obtain⟨w4,bY⟩:=acJ ((wr.alloc (.cells #[.string sn,.int .i64 3,.int .i64 x.set.life,.slice Ad x.set.data.length cd,.slice As x.sigs.length cs] 42)).drewN nq);rw[bY];have vW:Hid (Below w1.heap.size w1 w4):=jq (by rw[<-bY];exact LW.out _ _);have Iq:Hid (Below w.heap.size w w4):=jq (by rw[<-bY];exact Gj.out _ _);have aC:Below wr.heap.size wr w4:=by rw[<-bY];exact below_drewN ((vQ _ _).alloc (bQ _) _) _
      have n4:w4.cell? ⟨wr.heap.size,0,none⟩=some (.string sn):=by rw[<-bY];simp[go_sem]
      have EK:w4.cell? ⟨w.heap.size,1,none⟩=some (.slice (some ⟨b,o,none⟩) l.length c):=aaJ aC hcell;rcases gZ with ⟨pa,rfl⟩ | ⟨y',sy',ny,pa,k0,k1,zr,qn⟩
      ·have HX:=jq (HN.out (λ_=>⟨ar.out,λn hn=>by have:=(cQ.1 hn).1;omega⟩));have aH:decide ((k:Int)+1<(l.length:Int))=false:=by simp;omega
       have dO:decide (k+1<l.length)=false:=by simp;omega
       clear pa;clear aC bY;go_wp2_with fail;go_quiet (fail);go_wp2_with fail;go_roundw
       case rel=>exact⟨k+1,by omega,by go_num,jq (below_drewN vW.out _),jq HX.out⟩
       case measure=>simp[intOf] <;> omega
      ·have k04:w4.cell? ⟨b,o+(k+1) * 5,none⟩=some (.string sy'):=aaJ aC k0;have k14:w4.cell? ⟨b,o+(k+1) * 5+1,none⟩=some (.int .i64 ny):=aaJ aC k1;obtain⟨j,hj⟩:=acJ (k+1);have ha:IntKind.i64.wrap ((k:Int)+1)=(j:Int):=by rw[IntWalk.i64_in _ (by omega)];omega
       have Yb:(k:Int)+1=(j:Int):=by omega
       have aH:decide ((j:Int)<(l.length:Int))=true:=by simp;omega
       have dO:decide (j<l.length)=true:=by simp;omega
       have jM:(0:Int)<=(j:Int):=by omega
       have sR:(j:Int)<(l.length:Int):=by omega
       rw[hj] at k04 k14 DH;have HJ:=jq hj;have aW:b<w4.heap.size:=by have:=aC.size;omega
       clear aC bY k0 k1 hj pa;obtain⟨n,hn⟩:∃ n,l[j]?=some n:=⟨_,aQ (by omega)⟩;have iF:=jq (DH.out n hn);have cO:=jq hn;clear hn
       cases q1 with
       | false=>
        have HX:=jq (HN.out (λ_=>⟨ar.out,λn' hn' he=>by
         rw[HJ.out,cO.out] at hn';cases hn'
         have:=iF.out.1.2 he
         cases this⟩))
        go_wp2_with fail;go_quiet (fail);go_wp2_with fail;go_roundw
        case rel=>exact⟨k+1,by omega,by go_num,jq (below_drewN vW.out _),jq HX.out⟩
        case measure=>simp[intOf] <;> omega
       | true=>
        cases q2 with
        | false=>
         have HX:=jq (HN.out (λ_=>⟨ar.out,λn' hn' _=>by
          rw[HJ.out,cO.out] at hn';cases hn';refine Decidable.not_not.1 λh8=>?_
          have:=iF.out.2.2 h8
          cases this⟩))
         go_wp2_with fail;go_quiet (fail);go_wp2_with fail;go_roundw
         case rel=>exact⟨k+1,by omega,by go_num,jq (below_drewN vW.out _),jq HX.out⟩
         case measure=>simp[intOf] <;> omega
        | true=>
         have HX:Hid (r=false):=jq (HF.out λh=>(iF.out.2.1 rfl) ((h dF.out).2 n (by rw[HJ.out];exact cO.out) (iF.out.1.1 rfl)));go_wp2_with fail;go_quiet (fail);go_wp2_with fail;go_ret;exact⟨ag HX.out.symm,below_drewN Iq.out _⟩
   ·have HX:=jq (HN.out (λh=>absurd (dF.out.symm.trans h) h3));have h3':(ty != 3)=true:=by simpa using h3
    clear h3;go_wp2_with fail;go_roundw
    case rel=>exact⟨k+1,by omega,by go_num,jq (aY.out _),jq HX.out⟩
    case measure=>simp[intOf] <;> omega
  ·go_wp2_with fail;go_ret;refine⟨ag ?_,aG.out⟩;rw[<-HR.out];exact (Np.bh λi x hx=>HA.out i x (by have:=(cQ.1 hx).1;omega) hx).symm
end
section
open Go.RowKit Go.Shelf
attribute [local go_sem] Oper.semAt_some
theorem gb.block{w w':World}{B:Nat}{xs:List (List UInt8)}(h:gb w B xs)(hb:w'.heap[B]?=w.heap[B]?):gb w' B xs:=λj x hx=>by
 obtain⟨s,h1,h2,h3,h4⟩:=h j x hx;refine⟨s,h1,h2,(iQ (a:=⟨B,j,none⟩) hb).trans h3,?_⟩;rw[<-h4];simp only[World.frozen?,hb]
def Nt(w:World)(M b5 b6:Nat)(pre:List (List UInt8))(S:Nat->Prop)(W:World):Prop:=
 (∀ k,S k↔k=M\/k=b5\/k=b6)/\Boxed W b5 116 (.slice (some ⟨M,0,none⟩) 8 8)/\Boxed W b6 3 (.int .i64 ((8 - pre.length:Nat):Int))/\pre.length<=8/\Hid (gb W M (List.replicate (8 - pre.length) []++pre.reverse))/\M<W.heap.size/\Below w.heap.size w W
theorem Ra(w:World)(M b5 b6:Nat)(B:Nat)(hB:w.heap.size<=B):gp B (Nt w M b5 b6):=by
 rintro s S W W' ⟨hS,h1,h2,h3,h4,h6,h5⟩ aB;refine⟨hS,kU h1 aB ((hS _).2 (.inr (.inl rfl))),kU h2 aB ((hS _).2 (.inr (.inr rfl))),h3,jq (h4.out.block ?_),lQ h6 aB.size,wh h5 aB hB (bQ _)⟩;exact aB.keep _ h6 (.inr ((hS _).2 (.inl rfl)))
theorem ahK{p:Nat}{pre:List (List UInt8)}{x:List UInt8}(hp:pre.length=p)(h8:p<8):(List.replicate (8 - p) []++pre.reverse).set (8 - (p+1)) x=List.replicate (8 - (p+1)) []++(pre ++ [x]).reverse:=by
 have e:List.replicate (8 - p) ([]:List UInt8)=List.replicate (8 - (p+1)) [] ++ [[]]:=by
  rw[show 8 - p=(8 - (p+1))+1 by omega,List.replicate_succ']
 rw[e,List.append_assoc,List.set_append_right _ _ (by rw[List.length_replicate];exact bQ _),List.length_replicate,Nat.sub_self,List.reverse_append];rfl
theorem I3:∀ (xs:List (List UInt8)) (n:Nat) (b:Bool),Np.gh xs n b=true->n<=8->n+xs.length<=8
 | [],n,b,_,h=>by simpa using h
 | x::xs,n,b,h,hn=>by
   unfold Np.gh at h;split at h
   ·cases h
   ·rename_i hc;simp only[Bool.or_eq_true,Qa,not_or] at hc;rw[List.length_cons];split at h
    ·have:=I3 xs (n+1) true h (by omega);omega
    ·split at h
     ·have:=I3 xs (n+1) false h (by omega);omega
     ·cases h
theorem VR{l:List UInt8}(h:Np.aD l=true):(Np.back l).length<=8:=by
 unfold Np.back;split
 ·simp
 ·rename_i hd;unfold Np.aD at h;rw[Qc hd] at h;split at h
  ·cases h
  ·have:=I3 _ 0 false h (by omega)
   omega
theorem Rd(t:ByteArray)(hv:Np.aD t.data.toList=true)(w:World) :
 Calls prog 187 #[.string t] w λe w'=>(∃ v,e = .returned (.tuple #[v,.int .i64 0])/\SlR RTx 1 w' w'.heap.size v (Np.fm t.data.toList))/\Below w.heap.size w w':=by
 have ht:t.size<=60:=uT hv;have Ae:Hid ((Np.back t.data.toList).length<=8):=jq (VR hv);have HV:=jq hv;clear hv;have gY:∀ w:World,(Instr.makeSlice 116 (.int .i64 8) (.int .i64 8)).run prog w = .ok (.slice (some ⟨w.heap.size,0,none⟩) 8 8) (w.alloc (.cells (madeCells #[Value.string ⟨#[]⟩] 8) 9)):=λw=>KV 8 (by decide) w;have HZ:Hid (∀ j,j<8->(madeCells #[Value.string ⟨#[]⟩] 8)[j]?=some (.string ⟨#[]⟩)):=jq (λj hj=>KU _ _ hj);generalize madeCells #[Value.string ⟨#[]⟩] 8=Z at gY HZ;refine (callsIn_wide (n:=0)).1 ?_;refine callsIn_of_wp_marks func187 rfl trivial ?_ rfl;simp only[ntmps187,List.size_toArray,List.length_cons,List.length_nil,Nat.reduceAdd,Nat.reduceSub,Array.replicate_succ,Array.replicate_zero,List.push_toArray,List.append_toArray,List.nil_append,List.cons_append];gi_wp2_with fail;refine⟨trivial,rfl,?_⟩;refine (callsIn_wide.2 (valid_any t (by omega) _)).mono ?_;rintro e w1 ⟨rfl,ay⟩;rw[HV.out];have av:=jq ay;have bd:=ay.size;clear ay;gi_wp2_with fail;have b5:=Boxed.new (w1.alloc (.cells Z 9)) 116 (.slice (some ⟨w1.heap.size,0,none⟩) 8 8);have b6:=Boxed.new ((w1.alloc (.cells Z 9)).alloc (.cells #[.slice (some ⟨w1.heap.size,0,none⟩) 8 8] 116)) 3 (.int .i64 8);simp only[World.size_alloc] at b5 b6;have X6:gb (w1.alloc (.cells Z 9)) w1.heap.size (List.replicate 8 []):=λj x hx=>by
  rw[List.getElem?_replicate] at hx;split at hx
  ·rename_i hj
   cases hx
   exact⟨⟨#[]⟩,rfl,by decide,by simp[go_sem];exact HZ.out j hj,by simp[go_sem]⟩
  ·cases hx
 refine F6 (n₀:=w.heap.size) (w0:=w) (first:=#[.string t]) (captured:=#[]) (gf:=215) rfl (enters_of func215 (by kernel_rfl) rfl) (mk:=λy=>#[.string t,y]) (λ_=>rfl)
  (DY t (by omega) _ w) (av.out.trans ((((vQ _ w1).alloc (bQ _) _).alloc (by simp) _).alloc (by simp;omega) _ |>.mono bd)) (by simp;omega) (λ_=>rfl) (Nt w w1.heap.size (w1.heap.size+1) (w1.heap.size+1+1)) (λ_ _ _ _=>False)
  (Ra _ _ _ _ _ (by simp;omega)) (λc s S W W' h _=>h)
  (λk=>k=w1.heap.size\/k=w1.heap.size+1\/k=w1.heap.size+1+1) (by intro k h;omega) (by intro k h;simp;omega)
  ⟨λ_=>Iff.rfl,b5.alloc _,b6,by simp,jq ((X6.keep (((vQ _ _).alloc (bQ _) _).alloc (by simp) _) (by simp))),by simp;omega,av.out.trans ((((vQ _ w1).alloc (bQ _) _).alloc (by simp) _).alloc (by simp;omega) _ |>.mono bd)⟩ ?round ?done ?stop
 case round=>
  rintro l0 pre x S W ba hI fR;gi_wp2;refine⟨S,RdStep.refl _ _,λk e=>.inl e,fR,?_⟩;intro l W₂ aB;obtain⟨hS,c5,c6,h8,hrow,Jh,hB⟩:=Ra w _ _ _ _ (by simp;omega) pre S W W₂ hI aB;have uC:pre.length+1<=8:=by
   have:=ba.length_le
   have h9:=Ae.out;simp at this;omega
  have hx:x∈Np.back t.data.toList:=ba.subset (by simp);have uM:x.length<=60:=by have:=Np.DX hx;rw[bn] at this;omega
  have mD:∀ k,S k->k<W₂.heap.size:=λk e=>lQ (fR k e) aB.size;obtain⟨j,hj⟩:∃ j,8 - (pre.length+1)=j:=⟨_,rfl⟩;have hq:((8 - pre.length:Nat):Int)=((j+1:Nat):Int):=by omega
  rw[hq] at c6;have hj8:j<8:=by omega
  obtain⟨sz,_,_,sL,wN⟩:=hrow.out j [] (by rw[List.getElem?_append_left (by rw[List.length_replicate];omega),List.getElem?_replicate,Qb (by omega)]);have yF:Hid (∀ W',gb W' w1.heap.size (List.replicate (8 - pre.length) []++pre.reverse)->gb (W'.setCell ⟨w1.heap.size,j,none⟩ (aA x)) w1.heap.size (List.replicate (8 - (pre ++ [x]).length) []++(pre ++ [x]).reverse)):=jq (λW' hW=>by
   have h1:=hW.store (k:=j) (by rw[List.length_append,List.length_replicate,List.length_reverse];omega) ⟨x.toArray⟩ (by rw[<-bn];simp;omega);have e:((⟨x.toArray⟩:ByteArray).data.toList)=x:=by simp
   rw[e,<-hj,ahK rfl (by omega)] at h1;rw[List.length_append,List.length_singleton,<-hj];exact h1)
  have HOLD:=jq hrow.out;have mu:=jq c5;have oz:=jq c6;have c5c:=c5.cell;have c6c:=c6.cell;have c5f:=c5.frozen;have c6f:=c6.frozen;have ah:IntKind.i64.wrap (((j+1:Nat):Int) - 1)=(j:Int):=by rw[IntWalk.i64_in _ (by omega)];omega
  have jM:(0:Int)<=(j:Int):=by omega
  have sR:(j:Int)<8:=by omega
  have HJ:=jq hj;clear hx hq ba hI hrow c5 c6 hj;have hlen:8 - (pre ++ [x]).length=j:=by rw[List.length_append,List.length_singleton];exact HJ.out
  have yv:=jq hlen;clear hlen;gi_wp2;refine⟨S,((RdStep.refl S W₂).setCell (p:=⟨w1.heap.size+1+1,0,none⟩) (.inl ((hS _).2 (.inr (.inr rfl)))) _).setCell (p:=⟨w1.heap.size,j,none⟩) (.inl ((hS _).2 (.inl rfl))) _,λ_ e=>.inl e,λk e=>by have:=mD k e;simp[World.setCell];omega,hS,?_,?_,by rw[List.length_append,List.length_singleton];omega,jq (yF.out _ (HOLD.out.other (by simp <;> omega) _)),by simpa using Jh,(hB.setCell (p:=⟨w1.heap.size+1+1,0,none⟩) (by simp;omega) _).setCell (p:=⟨w1.heap.size,j,none⟩) (by simpa using bd) _⟩
  ·exact fO (fO mu.out (p:=⟨w1.heap.size+1+1,0,none⟩) (by simp) _) (p:=⟨w1.heap.size,j,none⟩) (by simp) _
  ·rw[yv.out];exact fO (oz.out.set _) (p:=⟨w1.heap.size,j,none⟩) (by simp <;> omega) _
 case done=>
  rintro D S W hD gW bE ⟨hS,c5,c6,h8,hrow,Jh,hB⟩ hK;have c5c:=c5.cell;have c6c:=c6.cell;obtain⟨n,hn⟩:=acJ ((Np.back t.data.toList).length);rw[hn] at c6c h8;obtain⟨q,hq⟩:∃ q,8 - n=q:=⟨_,rfl⟩;rw[hq] at c6c;have xq:q<=8:=by omega
  have jT:(0:Int)<=(q:Int):=by omega
  have zr:(q:Int)<=8:=by omega
  have HN:=jq hn;have HQ:=jq hq;have Up:Hid (w1.heap.size≠D):=jq (λe=>gW ((hS _).2 (.inl e.symm)));have yF:=jq hrow.out;have MQ:Hid (Np.fm t.data.toList=(Np.back t.data.toList).reverse):=jq (by rw[<-Np.CY,List.reverse_reverse]);have DO:Hid (∀ x∈Np.back t.data.toList,x.length<=140737488355328):=jq (λx hx=>by have:=Np.DX hx;rw[bn] at this;omega);clear hrow;by_cases lM:n=0
  ·have Zz:q=8:=by omega
   have Ux:Hid (Np.fm t.data.toList = []):=jq (by rw[MQ.out,rQ (HN.out.trans lM)];rfl);clear hn hq c5 c6 lM;subst Zz;gi_wp2;exact nJ hK (v:=.tuple #[.slice (some ⟨w1.heap.size,0,none⟩) 0 0,.int .i64 0]) (by simp[results,results187,go_sem]) ⟨⟨_,rfl,by rw[Ux.out];exact⟨_,_,rfl,by simp,by simp,λi x hx=>by simp at hx⟩⟩,mA hB (by have:=av.out.size;simp at hD;omega) _⟩
  ·have Cx:q<8:=by omega
   have baY:(q:Int)<8:=by omega
   have gZ:¬ q=8:=by omega
   have jm:Hid (8 - q=n):=jq (by omega);have EV:8 - q=n:=by omega
   clear hn hq c5 c6 lM;gi_wp2;refine nJ hK (v:=.tuple #[.slice (some ⟨w1.heap.size,q,none⟩) n n,.int .i64 0]) (by simp[results,results187,go_sem]) ⟨⟨_,rfl,?_⟩,mA hB (by have:=av.out.size;simp at hD;omega) _⟩;have hr:gb (W.putObj D (.deferred none)) w1.heap.size (List.replicate (8 - (Np.back t.data.toList).length) []++(Np.back t.data.toList).reverse):=yF.out.block (zQ Up.out);rw[MQ.out];have xl:(Np.back t.data.toList).reverse.length=n:=by rw[List.length_reverse];exact HN.out
   refine⟨_,n,by rw[xl],by omega,by omega,λi x hx=>?_⟩;have hin:=(cQ.1 hx).1;obtain⟨s,h1,h2,h3,_⟩:=hr (q+i) x (by rw[HN.out,HQ.out,oQ (by rw[List.length_replicate];omega),List.length_replicate,show q+i - q=i by omega];exact hx);refine⟨w1.heap.size,q,[.string s],rfl,by simpa using Jh,rfl,λj v hv=>?_,s,h1,h2,rfl⟩
   match j,hv with
   | 0,hv=>cases hv;simpa using h3
 case stop=>
  rintro D c pre S W hD gW bE gI h hK;exact h.elim
theorem aTK(s:ByteArray)(h:Np.aD s.data.toList=true)(w:World) :
 Calls prog 246 #[.string s] w (a0X w.heap.size w (.bool (Np.eD s.data.toList))):=by
 have hw:=LH h;obtain⟨ps,fT⟩:=acJ (Np.fm s.data.toList);obtain⟨r,hr⟩:=acJ (ps.head? == some [42]);rw[hw,fT,hr];have nw:=jq fT;have HR:=jq hr;have HV:=jq h;clear hw h fT hr;go_enter func246,ntmps246;go_wp2_with fail;refine (Rd s HV.out _).mono ?_;rw[nw.out];rintro e w1 ⟨⟨v,rfl,hv⟩,hb⟩;have HB:=jq hb;clear hb;obtain⟨A,c,rfl,hc,hl,he⟩:=hv
 cases ps with
 | nil=>
  have HX:Hid (r=false):=jq (by rw[<-HR.out];rfl);go_wp2_with fail;go_ret;exact⟨ag HX.out.symm,HB.out⟩
 | cons x xs=>
  obtain⟨b,o,e,rfl,bB,_,hce,sx,lh,_,rfl⟩:=he 0 x rfl;have h0:w1.cell? ⟨b,o,none⟩=some (.string sx):=by have:=hce 0 _ rfl;simpa using this
  obtain⟨q,hq⟩:=acJ (sx.toList == [42]);have HX:Hid (q=r):=jq (by rw[<-HR.out,<-hq,dQ,lh,List.head?_cons,Bool.eq_iff_iff];simp);obtain⟨n,hn⟩:=acJ ((x::xs).length);have lM:0<n:=by rw[<-hn];simp
  have P7:(0:Int)<(n:Int):=by omega
  rw[hn];clear he hce hc hl hn lh
  cases q with
  | true=>
   go_wp2_with fail;go_ret;exact⟨ag HX.out,HB.out⟩
  | false=>
   go_wp2_with fail;go_ret;exact⟨ag HX.out,HB.out⟩
end
section
open Go.RowKit
def kS(_:World)(_:Nat)(e:List Value)(x:Np.Host):Prop:=∃ s:ByteArray,s.data.toList=x.name/\s.size<=140737488355328/\e = [.string s,.int .i64 x.addr,.int .i64 x.owner]
theorem oh:ep kS:=λ_ _ _ _ _ h _=>h
theorem x7:eL kS:=λ_ _ _ _ _ h _=>h
theorem Cv{w:World}{B n c:Nat}{A:Option Addr}{xs:List Np.Host}(h:SlR kS 3 w B (.slice A n c) xs){k:Nat}{x:Np.Host}(hx:xs[k]?=some x):∃ (b o:Nat) (s:ByteArray),A=some ⟨b,o,none⟩/\b<B/\s.data.toList=x.name/\s.size<=140737488355328/\w.cell? ⟨b,o+k * 3,none⟩=some (.string s)/\w.cell? ⟨b,o+k * 3+1,none⟩=some (.int .i64 x.addr)/\w.cell? ⟨b,o+k * 3+2,none⟩=some (.int .i64 x.owner):=by
 obtain⟨A',c',hv,hc,_,he⟩:=h;simp only[Value.slice.injEq] at hv;obtain⟨rfl,_,_⟩:=hv;obtain⟨b,o,e,rfl,hb,_,hce,s,h1,h2,rfl⟩:=he k x hx;exact⟨b,o,s,rfl,hb,h1,h2,by have:=hce 0 _ rfl;simpa using this,hce 1 _ rfl,hce 2 _ rfl⟩
theorem aeJ{w:World}{B n c:Nat}{A:Option Addr}{xs:List Int}(h:SlR lF 1 w B (.slice A n c) xs){k:Nat}{x:Int}(hx:xs[k]?=some x):∃ (b o:Nat),A=some ⟨b,o,none⟩/\b<B/\w.cell? ⟨b,o+k,none⟩=some (.int .i64 x):=by
 obtain⟨A',c',hv,hc,_,he⟩:=h;simp only[Value.slice.injEq] at hv;obtain⟨rfl,_,_⟩:=hv;obtain⟨b,o,e,rfl,hb,_,hce,rfl⟩:=he k x hx;exact⟨b,o,rfl,hb,by have:=hce 0 _ rfl;simpa using this⟩
def Np.l4(n:Int):Bool:=decide (1<=n)&&decide (n<=1000000)
theorem LD(n:Int)(w:World) :
 Calls prog 247 #[.int .i64 n] w (a1Q w (.bool (Np.l4 n))):=by
 obtain⟨r,hr⟩:=acJ (Np.l4 n);rw[hr];by_cases h1:1<=n
 ·by_cases h2:n<=1000000
  ·have HX:Hid (r=true):=jq (by rw[<-hr];simp[Np.l4,h1,h2]);clear hr;go_enter func247,ntmps247;go_wp2_with fail;go_ret;exact⟨ag HX.out.symm,rfl⟩
  ·have HX:Hid (r=false):=jq (by rw[<-hr];simp[Np.l4,h2]);clear hr;go_enter func247,ntmps247;go_wp2_with fail;go_ret;exact⟨ag HX.out.symm,rfl⟩
 ·have HX:Hid (r=false):=jq (by rw[<-hr];simp[Np.l4,h1]);clear hr;go_enter func247,ntmps247;go_wp2_with fail;go_ret;exact⟨ag HX.out.symm,rfl⟩
theorem NG(a:Int):∀ l:List Np.Host,(((l.map λh=>(h.addr,Value.bool true)).lookup a).getD (.bool false) = .bool (decide (a∈l.map (·.addr))))/\(a∉l.map (·.addr)->(l.map λh=>(h.addr,Value.bool true)).lookup a=none)
 | []=>⟨rfl,λ_=>rfl⟩
 | h::l=>by
   obtain⟨i1,i2⟩:=NG a l;rw[List.map_cons,List.map_cons];by_cases e:a=h.addr
   ·subst e;rw[List.lookup_cons_self];exact⟨by simp,λhn=>absurd (by simp) hn⟩
   ·have hb:(a == h.addr)=false:=by simpa using e
    rw[List.lookup_cons,hb];exact⟨by rw[i1];simp[e],λhn=>i2 λhm=>hn (mQ _ hm)⟩
theorem aRY(v:Value)(l:List Np.Host)(w:World)(hd:SlR kS 3 w w.heap.size v l) :
 Calls prog 180 #[v] w (a0X w.heap.size w (.bool (Np.yes (Np.VHosts l)))):=by
 obtain⟨r,hr⟩:=acJ (Np.yes (Np.VHosts l));rw[hr];have HR:=jq hr;have HD:=jq hd;obtain⟨A,c,rfl,bq,bM⟩:=ak hd;clear hr hd;by_cases ww:l.length<=64
 ·have Gi:=jq ww;have mf:∀ (w:World),(Instr.makeMap 298 none).run prog w = .ok (.map (some w.heap.size)) (w.alloc (.map #[] 0)):=λw=>by
   simp[Instr.makeMap,Result.andThen]
  go_enter func180,ntmps180;go_wp2_with fail;have vL:=jq (nE.made w);have ay:Below w.heap.size w (w.alloc (.map #[] 0)):=(vQ _ w).alloc (bQ _) _;have av:=jq ay;have bd:w.heap.size<(w.alloc (.map #[] 0)).heap.size:=by simp
  clear ay;generalize w.alloc (.map #[] 0)=w1 at *;go_loopw [12] (λi wr=>∃ k:Nat,k<=l.length/\i = .int .i64 k/\Hid (Below w.heap.size w wr)/\w.heap.size<wr.heap.size/\Hid (nE w.heap.size ((l.take k).map λh=>(h.addr,Value.bool true)) wr)/\Hid (∀ j x,j<k->l[j]?=some x->Np.HostOk x)/\Hid (((l.take k).map (·.addr)).Nodup)) (λi _=>l.length - (intOf i).toNat)
  case atStart=>exact⟨0,jQ _,rfl,av,bd,vL,jq (λj x hj=>by omega),jq (by simp)⟩
  case round=>
   obtain⟨k,hk,rfl,HB,dK,HM,HA,pL⟩:=hrel;by_cases ab:k<l.length
   ·obtain⟨x,aa⟩:∃ x,l[k]?=some x:=⟨_,aQ ab⟩;obtain⟨b,o,sn,rfl,bA,aw,cB,f0,f1,f2⟩:=Cv (HD.out.keep oh HB.out) aa;have ht:l.take (k+1)=l.take k ++ [x]:=by
     obtain⟨hl,he⟩:=cQ.1 aa;rw[fQ hl,he]
    have HT:=jq ht;have HN:Hid (Np.HostOk x->∀ j y,j<k+1->l[j]?=some y->Np.HostOk y):=jq (λh j y hj hy=>by
     by_cases e:j=k
     ·subst e;rw[aa] at hy;cases hy;exact h
     ·exact HA.out j y (by omega) hy)
    have HF:Hid (¬ Np.HostOk x->r=false):=jq (λh=>by rw[<-HR.out];exact Np.aF λq=>h (q.each x (gQ aa)));have vx:Hid (x.addr∈(l.take k).map (·.addr)->r=false):=jq (λh=>by
     rw[<-HR.out];refine Np.aF λq=>?_;have h1:=q.addrs;have h2:(l.take (k+1)).map (·.addr) <+: l.map (·.addr):=by rw[List.map_take];exact List.take_prefix _ _
     have h3:=h1.sublist h2.sublist;rw[ht,List.map_append,List.nodup_append] at h3;exact h3.2.2 x.addr h x.addr (by simp) rfl)
    have aT:=jq aw;have dY:Hid (∀ o,Below wr.heap.size wr (wr.alloc o)):=jq (λo=>(vQ _ _).alloc (bQ _) _);obtain⟨w2,aj⟩:=acJ (wr.alloc (.cells #[.string sn,.int .i64 x.addr,.int .i64 x.owner] 101));have ac:Below wr.heap.size wr w2:=by rw[<-aj];exact dY.out _
    have p0:w2.cell? ⟨wr.heap.size,0,none⟩=some (.string sn):=by rw[<-aj];simp[go_sem]
    have p1:w2.cell? ⟨wr.heap.size,1,none⟩=some (.int .i64 x.addr):=by rw[<-aj];simp[go_sem]
    have p2:w2.cell? ⟨wr.heap.size,2,none⟩=some (.int .i64 x.owner):=by rw[<-aj];simp[go_sem]
    have aN:wr.heap.size<w2.heap.size:=by rw[<-aj];simp
    have ai:=jq ac;clear aa aw ht ac;go_wp2_with fail;clear aj f0 f1 f2;refine (nameValid_any sn cB _).mono ?_;rintro e w3 ⟨rfl,aq⟩;have eR:=aq.size;have ar:=acZ ai aq;replace p0:w3.cell? ⟨wr.heap.size,0,none⟩=some (.string sn):=(aq.cell (by simpa using aN)).trans p0;replace p1:w3.cell? ⟨wr.heap.size,1,none⟩=some (.int .i64 x.addr):=(aq.cell (by simpa using aN)).trans p1;replace p2:w3.cell? ⟨wr.heap.size,2,none⟩=some (.int .i64 x.owner):=(aq.cell (by simpa using aN)).trans p2;clear aq
    cases lR:Np.aD sn.data.toList with
    | false=>
     have HX:Hid (r=false):=jq (HF.out λh=>by have:=h.name;rw[<-aT.out,lR] at this;cases this);clear lR;go_wp2_with fail;go_ret;exact⟨ag HX.out.symm,HB.out.trans (ar.out.adZ)⟩
    | true=>
     have iI:=jq lR;clear lR;go_wp2_with fail;refine (aTK sn iI.out _).mono ?_;rintro e w4 ⟨rfl,aC⟩;have fl:=aC.size;have aU:=acZ ar aC;replace p1:=aaJ aC p1;replace p2:=aaJ aC p2;clear aC p0
     cases td:Np.eD sn.data.toList with
     | true=>
      have HX:Hid (r=false):=jq (HF.out λh=>by have:=h.wild;rw[<-aT.out,td] at this;cases this);clear td;go_wp2_with fail;go_ret;exact⟨ag HX.out.symm,HB.out.trans (aU.out.adZ)⟩
     | false=>
      have Ir:=jq td;clear td;by_cases Ct:x.owner<0
      ·have HX:Hid (r=false):=jq (HF.out λh=>by have:=h.owner;omega);go_wp2_with fail;go_ret;exact⟨ag HX.out.symm,HB.out.trans (aU.out.adZ)⟩
      ·have g1:decide (x.owner<0)=false:=by simpa using Ct
       by_cases ji:32<=x.owner
       ·have g2:decide (32<=x.owner)=true:=by simpa using ji
        have HX:Hid (r=false):=jq (HF.out λh=>by have:=h.owner;omega);go_wp2_with fail;go_ret;exact⟨ag HX.out.symm,HB.out.trans (aU.out.adZ)⟩
       ·have g2:decide (32<=x.owner)=false:=by simpa using ji
        have iZ:Hid (0<=x.owner/\x.owner<=31):=jq (by omega);clear Ct ji
        cases wH:Np.l4 x.addr with
        | false=>
         have HX:Hid (r=false):=jq (HF.out λh=>by have:=h.addr;simp[Np.l4] at wH;omega);have HC:Hid (∀ w,Calls prog 247 #[.int .i64 x.addr] w λe w'=>e = .returned (.bool false)/\w=w'):=jq (λw=>by rw[<-wH];exact LD _ _);clear wH;go_wp2_with (go_at_call 247;refine (HC.out _).mono ?_;rintro e w' ⟨rfl,rfl⟩);go_ret;exact⟨ag HX.out.symm,HB.out.trans (aU.out.adZ)⟩
        | true=>
         have bH:Hid (Np.HostOk x):=jq ⟨by rw[<-aT.out];exact iI.out,by rw[<-aT.out];exact Ir.out,by simp[Np.l4] at wH;exact wH,iZ.out⟩;have HC:Hid (∀ w,Calls prog 247 #[.int .i64 x.addr] w λe w'=>e = .returned (.bool true)/\w=w'):=jq (λw=>by rw[<-wH];exact LD _ _);have dt:Hid (nE w.heap.size ((l.take k).map λh=>(h.addr,Value.bool true)) w4):=jq (HM.out.keep aU.out dK);obtain⟨Cl,JZ⟩:=NG x.addr (l.take k);have jw:=aHY (P:=prog) w4 298 3 4 underlying298 underlying3 w.heap.size _ dt.out x.addr (.bool false) (by kernel_rfl);rw[Cl] at jw;clear wH Cl;by_cases hin:x.addr∈(l.take k).map (·.addr)
         ·have HX:Hid (r=false):=jq (vx.out hin);rw[uQ hin] at jw;clear hin JZ;go_wp2_with (go_at_call 247;refine (HC.out _).mono ?_;rintro e w' ⟨rfl,rfl⟩);go_ret;exact⟨ag HX.out.symm,HB.out.trans (aU.out.adZ)⟩
         ·have cI:=jq (JZ hin);have Hi:Hid (((l.take (k+1)).map (·.addr)).Nodup):=jq (by
           rw[HT.out,List.map_append,List.nodup_append];refine⟨pL.out,by simp,λy hy z hz e=>?_⟩;simp at hz;exact hin (by rw[<-hz,<-e];exact hy))
          rw[tQ hin] at jw;clear hin JZ;go_wp2_with (first
           | (go_at_call 247;refine (HC.out _).mono ?_;rintro e w' ⟨rfl,rfl⟩)
           | (at_mapUpdate;refine aXQ _ rfl _ _ _ 298 rfl 3 4 underlying298 underlying3 w.heap.size _ rfl dt.out x.addr rfl (.bool true) rfl cI.out ?_;intro w5 mL ml;have H5:=jq (And.intro mL ml);clear mL ml))
          go_roundw
          case rel=>exact⟨k+1,by omega,by go_num,jq ((HB.out.trans (aU.out.adZ)).trans (H5.out.2.below (bQ _))),by rw[H5.out.2.size];omega,jq (by rw[HT.out,List.map_append];exact H5.out.1),jq (HN.out bH.out),Hi⟩
          case measure=>simp[intOf] <;> omega
   ·go_wp2_with fail;go_ret;refine⟨ag ?_,HB.out⟩;rw[<-HR.out];refine (Np.bh ⟨Gi.out,λx hx=>?_,?_⟩).symm
    ·obtain⟨j,hj,rfl⟩:=nQ.1 hx;exact HA.out j _ (by omega) (aQ hj)
    ·have:=pL.out
     rwa [kQ (by omega)] at this
 ·have HX:Hid (r=false):=jq (by rw[<-HR.out];exact Np.aF λq=>ww q.few);have XR:64<l.length:=by omega
  clear ww;go_enter func180,ntmps180;go_wp2_with fail;go_ret;exact⟨ag HX.out.symm,vQ _ _⟩
theorem aLQ(a:ByteArray)(v bv:Value)(l:List Np.Signed)(B:List (List UInt8))(ko:B.length=l.length)(w:World)(hd:SlR bO 5 w w.heap.size v l)(sI:SlR RTx 1 w w.heap.size bv B) :
 Calls prog 203 #[.agg #[.string a,v,bv]] w (a0X w.heap.size w (.bool (Np.yes (Np.Bm l B)))):=by
 obtain⟨r,hr⟩:=acJ (Np.yes (Np.Bm l B));rw[hr];have HR:=jq hr;have fY:=jq ko;have HD:=jq hd;have pD:=jq sI;obtain⟨A,c,rfl,bq,bM⟩:=ak hd;obtain⟨A2,c2,rfl,fI,eU⟩:=ak sI;rw[ko] at fI eU pD |-;clear hr hd sI ko;have HW:Hid (∀ o,Below w.heap.size w (w.alloc o)):=jq (λo=>(vQ _ w).alloc (bQ _) _);go_enter func203,ntmps203;go_wp2_with fail;obtain⟨w1,ah⟩:=acJ (w.alloc (.cells #[.string a,.slice A l.length c,.slice A2 l.length c2] 265));have c2':w1.cell? ⟨w.heap.size,2,none⟩=some (.slice A2 l.length c2):=by rw[<-ah];simp[go_sem]
 have eO:w.heap.size<w1.heap.size:=by rw[<-ah];simp
 have av:Hid (Below w.heap.size w w1):=jq (by rw[<-ah];exact HW.out _);rw[ah];clear ah;go_loopw [11] (λi wr=>∃ k:Nat,k<=l.length/\i = .int .i64 k/\Hid (Below w1.heap.size w1 wr)/\Hid (∀ j x b,j<k->l[j]?=some x->B[j]?=some b->(b≠[]->x.set.type=2\/x.set.type=1->x.sigs = []))) (λi _=>l.length - (intOf i).toNat)
 case atStart=>exact⟨0,jQ _,rfl,jq (vQ _ _),jq (λj x b hj=>by omega)⟩
 case round=>
  obtain⟨k,hk,rfl,HB,HA⟩:=hrel;have an:=HB.out.size;have aG:=acZ av HB.out;by_cases ab:k<l.length
  ·obtain⟨x,aa⟩:∃ x,l[k]?=some x:=⟨_,aQ ab⟩;obtain⟨bb,dL⟩:∃ bb,B[k]?=some bb:=⟨_,aQ (by rw[fY.out];omega)⟩;obtain⟨b,o,c',sn,dv,sv,hA,bA,_,aw,cB,aK,aS,e0,e1,e2,e3,e4⟩:=fE (HD.out.keep bj aG.out) aa
   cases hA
   obtain⟨b2,o2,sb,rfl,y9,mh,Kl,g0⟩:=qz (pD.out.keep mY aG.out) dL;have HN:Hid ((bb≠[]->x.set.type=2\/x.set.type=1->x.sigs = [])->∀ j x b,j<k+1->l[j]?=some x->B[j]?=some b->(b≠[]->x.set.type=2\/x.set.type=1->x.sigs = [])):=jq (λh j x b hj hx hb=>by
    by_cases e:j=k
    ·subst e;rw[aa] at hx;rw[dL] at hb;cases hx;cases hb;exact h
    ·exact HA.out j x b (by omega) hx hb)
   have HF:Hid (¬ (bb≠[]->x.set.type=2\/x.set.type=1->x.sigs = [])->r=false):=jq (λh=>by
    rw[<-HR.out];exact Np.aF λq=>h (q k _ _ aa dL))
   clear aa dL;obtain⟨Ad,cd,rfl,_,_⟩:=ak aK;obtain⟨As,cs,rfl,_,_⟩:=ak aS;have hcell:wr.cell? ⟨w.heap.size,2,none⟩=some (.slice (some ⟨b2,o2,none⟩) l.length c2):=aaJ HB.out c2';have dK:w.heap.size<wr.heap.size:=by omega
   have ay:b<wr.heap.size:=by omega
   have ac:b2<wr.heap.size:=by omega
   have aY:Hid (∀ o,Below w1.heap.size w1 (wr.alloc o)):=jq (λo=>HB.out.alloc HB.out.size _);have nf:Hid (∀ o,Below w.heap.size w (wr.alloc o)):=jq (λo=>aG.out.alloc (by omega) _);have bJ:(0:Int)<=(k:Int):=by omega
   have bI:(k:Int)<(l.length:Int):=by omega
   have aT:=jq aw;have ft:=jq mh;obtain⟨ty,dT⟩:=acJ x.set.type;have dF:=jq dT;rw[dT] at e1;clear aw mh aK aS dT;by_cases eq:bb = []
   ·obtain rfl:sb=⟨#[]⟩:=j9 (by rw[ft.out,eq]);have HX:=jq (HN.out (λh=>absurd eq h));clear eq;go_wp2_with fail;go_roundw
    case rel=>exact⟨k+1,by omega,by go_num,jq (aY.out _),jq HX.out⟩
    case measure=>simp[intOf] <;> omega
   ·have xi:(sb.toList == [])=false:=by rw[dQ,ft.out];simpa using eq
    have qF:=jq eq;clear eq;by_cases ht:ty=2\/ty=1
    ·by_cases rx:x.sigs.length=0
     ·have HX:=jq (HN.out (λ_ _=>rQ rx));rw[rx] at e4;clear rx;rcases ht with rfl | rfl
      all_goals
       go_wp2_with fail;go_roundw
       case rel=>exact⟨k+1,by omega,by go_num,jq (aY.out _),jq HX.out⟩
       case measure=>simp[intOf] <;> omega
     ·have HX:Hid (r=false):=jq (HF.out λh=>rx (by rw[h qF.out (by rw[dF.out];exact ht)];rfl));have Zx:0<x.sigs.length:=by omega
      have baX:(0:Int)<(x.sigs.length:Int):=by omega
      clear rx;rcases ht with rfl | rfl
      all_goals
       go_wp2_with fail;go_ret;exact⟨ag HX.out.symm,nf.out _⟩
    ·have HX:=jq (HN.out (λ_ h=>absurd (by rw[dF.out] at h;exact h) ht));have t1:(ty == 2)=false:=by simp;omega
     have t2:(ty == 1)=false:=by simp;omega
     clear ht;go_wp2_with fail;go_roundw
     case rel=>exact⟨k+1,by omega,by go_num,jq (aY.out _),jq HX.out⟩
     case measure=>simp[intOf] <;> omega
  ·go_wp2_with fail;go_ret;refine⟨ag ?_,aG.out⟩;rw[<-HR.out];exact (Np.bh λi x b hx hb=>HA.out i x b (by have:=(cQ.1 hx).1;omega) hx hb).symm
theorem Xx(a:ByteArray)(v:Value)(A2:Option Addr)(n2 c2:Nat)(l:List Np.Signed)(w:World)(hd:SlR bO 5 w w.heap.size v l) :
 Calls prog 204 #[.agg #[.string a,v,.slice A2 n2 c2]] w (a0X w.heap.size w (.bool (Np.yes (∀ x∈l,Np.eK a.data.toList x.sigs)))):=by
 obtain⟨r,hr⟩:=acJ (Np.yes (∀ x∈l,Np.eK a.data.toList x.sigs));rw[hr];have HR:=jq hr;have HD:=jq hd;obtain⟨A,c,rfl,bq,bM⟩:=ak hd;clear hr hd;have HW:Hid (∀ o,Below w.heap.size w (w.alloc o)):=jq (λo=>(vQ _ w).alloc (bQ _) _);go_enter func204,ntmps204;go_wp2_with fail;obtain⟨w1,ah⟩:=acJ (w.alloc (.cells #[.string a,.slice A l.length c,.slice A2 n2 c2] 265));have c2':w1.cell? ⟨w.heap.size,0,none⟩=some (.string a):=by rw[<-ah];simp[go_sem]
 have eO:w.heap.size<w1.heap.size:=by rw[<-ah];simp
 have av:Hid (Below w.heap.size w w1):=jq (by rw[<-ah];exact HW.out _);rw[ah];clear ah;go_loopw [10] (λi wr=>∃ k:Nat,k<=l.length/\i = .int .i64 k/\Hid (Below w1.heap.size w1 wr)/\Hid (∀ j x,j<k->l[j]?=some x->Np.eK a.data.toList x.sigs)) (λi _=>l.length - (intOf i).toNat)
 case atStart=>exact⟨0,jQ _,rfl,jq (vQ _ _),jq (λj x hj=>by omega)⟩
 case round=>
  obtain⟨k,hk,rfl,HB,HA⟩:=hrel;have an:=HB.out.size;have aG:=acZ av HB.out;by_cases ab:k<l.length
  ·obtain⟨x,aa⟩:∃ x,l[k]?=some x:=⟨_,aQ ab⟩;obtain⟨b,o,c',sn,dv,sv,hA,bA,_,aw,cB,aK,aS,e0,e1,e2,e3,e4⟩:=fE (HD.out.keep bj aG.out) aa
   cases hA
   have HN:Hid (Np.eK a.data.toList x.sigs->∀ j x,j<k+1->l[j]?=some x->Np.eK a.data.toList x.sigs):=jq (λh j y hj hy=>by
    by_cases e:j=k
    ·subst e;rw[aa] at hy;cases hy;exact h
    ·exact HA.out j y (by omega) hy)
   have HF:Hid (¬ Np.eK a.data.toList x.sigs->r=false):=jq (λh=>by
    rw[<-HR.out];exact Np.aF λq=>h (q x (gQ aa)))
   clear aa;obtain⟨Ad,cd,rfl,_,_⟩:=ak aK;obtain⟨As,cs,rfl,_,_⟩:=ak aS;have hcell:wr.cell? ⟨w.heap.size,0,none⟩=some (.string a):=aaJ HB.out c2';have pR:=jq (aS.more cY (show w.heap.size<=wr.heap.size by omega));have dK:w.heap.size<wr.heap.size:=by omega
   have ay:b<wr.heap.size:=by omega
   have aY:Hid (∀ o,Below w1.heap.size w1 (wr.alloc o)):=jq (λo=>HB.out.alloc HB.out.size _);have nf:Hid (∀ o,Below w.heap.size w (wr.alloc o)):=jq (λo=>aG.out.alloc (by omega) _);have bJ:(0:Int)<=(k:Int):=by omega
   have bI:(k:Int)<(l.length:Int):=by omega
   have aT:=jq aw;clear aw aK aS;go_wp2_with fail;refine (adY a _ x.sigs _ (pR.out.later cg cY ((vQ _ _).alloc (bQ _) _))).mono ?_;rintro e w2 ⟨rfl,hb⟩;have ai:Hid (Below wr.heap.size wr w2):=jq (((vQ _ _).alloc (bQ _) _).trans (hb.mono (by simp)));clear hb
   cases hf:Np.yes (Np.eK a.data.toList x.sigs) with
   | true=>
    have HX:=jq (HN.out (Np.fq.1 hf));clear hf;go_wp2_with fail;go_roundw
    case rel=>exact⟨k+1,by omega,by go_num,jq (HB.out.trans (ai.out.mono HB.out.size)),jq HX.out⟩
    case measure=>simp[intOf] <;> omega
   | false=>
    have HX:=jq (HF.out λh=>by rw[Np.bh h] at hf;cases hf);clear hf;go_wp2_with fail;go_ret;exact⟨ag HX.out.symm,aG.out.trans (ai.out.adZ)⟩
  ·go_wp2_with fail;go_ret;refine⟨ag ?_,aG.out⟩;rw[<-HR.out];refine (Np.bh λx hx=>?_).symm;obtain⟨j,hj,rfl⟩:=nQ.1 hx;exact HA.out j _ (by omega) (aQ hj)
section
variable {α:Type}
def Nv(R:a1Z α)(B:Nat)(w:World)(f:FuncId)(cap:Array Value)(p:α->Bool)(xs:List α):Prop:=
 ∀ (W:World) (x:α) (e0:Value),x∈xs->Below B w W->B<=W.heap.size->R W B [e0] x->Calls prog f (#[e0]++cap) W λe w'=>e = .returned (.bool (p x))/\Below W.heap.size W w'
theorem aeQ{R:a1Z α}(hK:ep R)(f:FuncId)(eg:∀ args w,(callFunc f args).run prog w = .ok (.enter f args) w)(cap:Array Value)(p:α->Bool)(v:Value)(xs:List α)(w:World)(B:Nat)(hB:B<=w.heap.size)(h:SlR R 1 w B v xs)
 (hp:Nv R B w f cap p xs) :
 Calls prog 319 #[v,.func (.func f) #[] cap] w (a0X w.heap.size w (.int .i64 (mB p xs))):=by
 have H:=jq h;have HP:=jq hp;obtain⟨A,c,rfl,bq,bM,kZ⟩:=h;clear kZ hp;go_enter func319,ntmps319;go_wp2_with fail;go_loopw [8] (λi wr=>∃ k:Nat,k<=xs.length/\i = .int .i64 k/\Below w.heap.size w wr/\Hid (∀ x∈xs.take k,p x=false)) (λi _=>xs.length - (intOf i).toNat)
 case atStart=>exact⟨0,jQ _,rfl,vQ _ _,jq (by simp)⟩
 case round=>
  obtain⟨k,hk,rfl,hb,HA⟩:=hrel;by_cases ab:k<xs.length
  ·have bA:=hb.mono hB;obtain⟨A',c',hA',_,_,bU⟩:=H.out.keep hK bA
   cases hA'
   obtain⟨b,o,e,rfl,bB,hlen,hce,hR⟩:=bU k _ (aQ ab)
   match e,hlen with
   | [e0],_=>
   have h0:wr.cell? ⟨b,o+k,none⟩=some e0:=by have:=hce 0 _ rfl;simpa using this
   have bL:=HP.out wr xs[k] e0 (List.getElem_mem ab) bA (by have:=hb.size;omega) hR;have HC:=jq bL;have fX:=jq hb;clear bU hce hR bL bA hb;go_wp2_with (fail);refine HC.out.mono ?_;rintro e w2 ⟨rfl,ac⟩;have ai:=jq ac;clear ac;by_cases ba:p xs[k]=true
   ·have HX:=jq ba;go_wp2_with (fail);go_ret;exact⟨j5 (OC p xs k ab HA.out HX.out).symm,fX.out.trans (ai.out.mono fX.out.size)⟩
   ·have E3:p xs[k]=false:=by simpa using ba
    have HX:=jq E3;clear ba;go_wp2_with (fail);go_roundw
    case rel=>
     refine⟨k+1,by omega,by go_num,fX.out.trans (ai.out.mono fX.out.size),jq ?_⟩;rw[fQ ab];intro x hx;rcases List.mem_append.1 hx with h | h
     ·exact HA.out x h
     ·simp at h;subst h;exact HX.out
    case measure=>simp[intOf] <;> omega
  ·go_wp2_with fail;go_ret;exact⟨j5 (OE p xs (by have:=HA.out;rwa [kQ (by omega)] at this)).symm,hb⟩
theorem WC{R:a1Z α}(hK:ep R)(f:FuncId)(eg:∀ args w,(callFunc f args).run prog w = .ok (.enter f args) w)(cap:Array Value)(p:α->Bool)(v:Value)(xs:List α)(w:World)(B:Nat)(hB:B<=w.heap.size)(h:SlR R 1 w B v xs)
 (hp:Nv R B w f cap p xs) :
 Calls prog 248 #[v,.func (.func f) #[] cap] w (a0X w.heap.size w (.bool (xs.any p))):=by
 have H:=jq h;have HP:=jq hp;have HE:=jq eg;clear h hp eg;go_enter func248,ntmps248;go_wp2_with (go_at_call 319;refine (aeQ hK f HE.out cap p v xs w B hB H.out HP.out).mono ?_;rintro e w' ⟨rfl,hb⟩);go_ret;exact⟨ag (OD p xs),hb⟩
end
theorem aFY(n:Int)(w:World) :
 Calls prog 249 #[.int .i64 n] w (a0X w.heap.size w (.bool (!Np.l4 n))):=by
 obtain⟨q,hq⟩:=acJ (Np.l4 n);have HC:Hid (∀ w,Calls prog 247 #[.int .i64 n] w λe w'=>e = .returned (.bool q)/\w=w'):=jq (λw=>by rw[<-hq];exact LD _ _);rw[hq];clear hq
 cases q
 all_goals
  go_enter func249,ntmps249;go_wp2_with (go_at_call 247;refine (HC.out _).mono ?_;rintro e w' ⟨rfl,rfl⟩);go_ret;exact⟨rfl,vQ _ _⟩
theorem aSQ(s:ByteArray)(hs:s.size<=140737488355328)(ty life:Int)(dv:Value)(d:List Np.Datum)(hv:Value)(hints:List Int)(w:World)(hR:jo w w.heap.size)(hd:SlR bR 3 w w.heap.size dv d)(hh:SlR lF 1 w w.heap.size hv hints) :
 Calls prog 182 #[.agg #[.string s,.int .i64 ty,.int .i64 life,dv],hv] w (a0X w.heap.size w (.bool (Np.yes (Np.VRoot ⟨s.data.toList,ty,life,d⟩ hints)))):=by
 obtain⟨r,hr⟩:=acJ (Np.yes (Np.VRoot ⟨s.data.toList,ty,life,d⟩ hints));rw[hr];have HR:=jq hr;have HD:=jq hd;have HH:=jq hh;have gz:=jq hR;obtain⟨A,c,rfl,bq,bM⟩:=ak hd;obtain⟨A2,c2,rfl,fI,eU⟩:=ak hh;clear hr hd hh hR;have HW:Hid (∀ o,Below w.heap.size w (w.alloc o)):=jq (λo=>(vQ _ w).alloc (bQ _) _);go_enter func182,ntmps182;go_wp2_with fail;refine (K5 s hs ty life _ d _ ((gz.out.keep (HW.out _)).more (by simp)) (HD.out.later bV cu (HW.out _))).mono ?_;rintro e w1 ⟨rfl,ay⟩;have bd:w.heap.size<w1.heap.size:=by have:=ay.size;simp at this;omega
 have c0:w1.cell? ⟨w.heap.size,0,none⟩=some (.string s):=by rw[ay.cell (by simp)];go_simp
 have c1:w1.cell? ⟨w.heap.size,1,none⟩=some (.int .i64 ty):=by rw[ay.cell (by simp)];go_simp
 have av:=jq ((HW.out _).trans (ay.mono (by simp)));clear ay;obtain⟨n,hn⟩:=acJ hints.length;have HN:=jq hn;rw[hn] at HH fI eU |-;clear hn
 cases dD:Np.cZ ⟨s.data.toList,ty,life,d⟩ with
 | false=>
  have HX:Hid (r=false):=jq (by rw[<-HR.out];exact Np.aF λq=>by have:=q.set;rw[dD] at this;cases this);clear dD;go_wp2_with fail;go_ret;exact⟨ag HX.out.symm,av.out⟩
 | true=>
  have kM:=jq dD;clear dD;by_cases h6:ty=6
  ·by_cases nO:s.data.toList = [46]
   ·have JM:(!s.toList == [46])=false:=by rw[dQ,nO];rfl
    have BA:(ty != 6)=false:=by simpa using h6
    have GI:=jq nO;have H6:=jq h6;clear nO h6;by_cases bP:n<1
    ·have HX:Hid (r=false):=jq (by rw[<-HR.out];exact Np.aF λq=>by have:=q.few;rw[HN.out] at this;omega);have g1:decide ((n:Int)<1)=true:=by simp;omega
     clear bP;go_wp2_with fail;go_ret;exact⟨ag HX.out.symm,av.out⟩
    ·have g1:decide ((n:Int)<1)=false:=by simp;omega
     by_cases zm:8<n
     ·have HX:Hid (r=false):=jq (by rw[<-HR.out];exact Np.aF λq=>by have:=q.few;rw[HN.out] at this;omega);have g2:decide ((8:Int)<(n:Int))=true:=by simp;omega
      clear bP zm;go_wp2_with fail;go_ret;exact⟨ag HX.out.symm,av.out⟩
     ·have g2:decide ((8:Int)<(n:Int))=false:=by simp;omega
      have cO:Hid (1<=n/\n<=8):=jq (by omega);clear bP zm;have eg:∀ args w,(callFunc 249 args).run prog w = .ok (.enter 249 args) w:=enters_of func249 (by kernel_rfl) rfl;have T2:=jq eg;clear eg;go_wp2_with fail;have cx:=HH.out.keep qy av.out;rw[<-HN.out] at cx |-;refine (WC (R:=lF) qy 249 T2.out #[] (λn=>!Np.l4 n) _ hints w1 w.heap.size (by omega) cx (λW x e0 _ _ _ hx=>by
       have hx : [e0] = [Value.int .i64 x]:=hx
       cases hx
       exact aFY x W)).mono ?_
      rintro e w2 ⟨rfl,ac⟩;have ai:=acZ av ac;clear ac;have HQ:Hid ((hints.any λn=>!Np.l4 n)=!r):=jq (by
       rw[<-HR.out]
       cases ha:hints.any λn=>!Np.l4 n with
       | true=>
        obtain⟨x,hx,hb⟩:=List.any_eq_true.1 ha;rw[Np.aF λq=>?_];rfl
        have:=q.each x hx
        simp[Np.l4] at hb;omega
       | false=>
        rw[Np.bh];rfl;refine⟨kM.out,H6.out,GI.out,by have:=cO.out;rw[HN.out];exact this,λx hx=>?_⟩
        have:=List.any_eq_false.1 ha x hx
        simpa [Np.l4] using this)
      rw[HQ.out];clear HQ
      cases r
      all_goals
       go_wp2_with fail;go_ret;exact⟨rfl,ai.out⟩
   ·have HX:Hid (r=false):=jq (by rw[<-HR.out];exact Np.aF λq=>nO q.name);have JM:(!s.toList == [46])=true:=by rw[dQ];simpa using nO
    have BA:(ty != 6)=false:=by simpa using h6
    clear nO h6;go_wp2_with fail;go_ret;exact⟨ag HX.out.symm,av.out⟩
  ·have HX:Hid (r=false):=jq (by rw[<-HR.out];exact Np.aF λq=>h6 q.type);have BA:(ty != 6)=true:=by simpa using h6
   clear h6;go_wp2_with fail;go_ret;exact⟨ag HX.out.symm,av.out⟩
theorem aEQ(s:ByteArray)(hs:s.size<=140737488355328)(ty life:Int)(dv:Value)(d:List Np.Datum)(hv:Value)(hints:List Int)(w:World)(hd:SlR bR 3 w w.heap.size dv d)(hh:SlR lF 1 w w.heap.size hv hints) :
 Calls prog 88 #[.agg #[.string s,.int .i64 ty,.int .i64 life,dv],hv] w (a0X w.heap.size w (.bool (Np.yes (Np.VRoot ⟨s.data.toList,ty,life,d⟩ hints)))):=by
 obtain⟨r,hr⟩:=acJ (Np.yes (Np.VRoot ⟨s.data.toList,ty,life,d⟩ hints));rw[hr];have HR:=jq hr;have HD:=jq hd;have HH:=jq hh;obtain⟨A,c,rfl,bq,bM⟩:=ak hd;obtain⟨A2,c2,rfl,fI,eU⟩:=ak hh;clear hr hd hh;have HW:Hid (∀ o,Below w.heap.size w (w.alloc o)):=jq (λo=>(vQ _ w).alloc (bQ _) _);go_enter func88,ntmps88;go_wp2_with fail;obtain⟨w1,ah⟩:=acJ (w.alloc (.cells #[.string s,.int .i64 ty,.int .i64 life,.slice A d.length c] 26));have c0:w1.cell? ⟨w.heap.size,0,none⟩=some (.string s):=by rw[<-ah];simp[go_sem]
 have c1:w1.cell? ⟨w.heap.size,1,none⟩=some (.int .i64 ty):=by rw[<-ah];simp[go_sem]
 have c2':w1.cell? ⟨w.heap.size,2,none⟩=some (.int .i64 life):=by rw[<-ah];simp[go_sem]
 have c3:w1.cell? ⟨w.heap.size,3,none⟩=some (.slice A d.length c):=by rw[<-ah];simp[go_sem]
 have bd:w1.heap.size=w.heap.size+1:=by rw[<-ah];simp
 have av:Hid (Below w.heap.size w w1):=jq (by rw[<-ah];exact HW.out _);rw[ah];clear ah;obtain⟨n,hn⟩:=acJ hints.length;have HN:=jq hn;rw[hn] at HH fI eU |-;clear hn;go_loopw [5] (λi wr=>∃ k:Nat,k<=n/\i = .int .i64 k/\wr=w1/\Hid (∀ j x,j<k->hints[j]?=some x->1<=x/\x<=1000000)) (λi _=>n - (intOf i).toNat)
 case atStart=>exact⟨0,jQ _,rfl,rfl,jq (λj x hj=>by omega)⟩
 case round=>
  obtain⟨k,hk,rfl,rfl,HA⟩:=hrel;by_cases ab:k<n
  ·obtain⟨x,aa⟩:∃ x,hints[k]?=some x:=⟨_,aQ (by rw[HN.out];exact ab)⟩;obtain⟨b,o,rfl,bA,f0⟩:=aeJ (HH.out.keep qy av.out) aa;have bC:Hid (1<=x/\x<=1000000->∀ j y,j<k+1->hints[j]?=some y->1<=y/\y<=1000000):=jq (λh j y hj hy=>by
    by_cases e:j=k
    ·subst e;rw[aa] at hy;cases hy;exact h
    ·exact HA.out j y (by omega) hy)
   have HF:Hid (¬ (1<=x/\x<=1000000)->r=false):=jq (λh=>by rw[<-HR.out];exact Np.aF λq=>h (q.each x (gQ aa)));have bJ:(0:Int)<=(k:Int):=by omega
   have bI:(k:Int)<(n:Int):=by omega
   clear aa;by_cases h1:x<1
   ·have HX:=jq (HF.out (by omega));have g1:decide (x<1)=true:=by simpa using h1
    clear h1;go_wp2_with fail;go_ret;exact⟨ag HX.out.symm,av.out⟩
   ·have g1:decide (x<1)=false:=by simpa using h1
    by_cases h2:1000000<x
    ·have HX:=jq (HF.out (by omega));have g2:decide (1000000<x)=true:=by simpa using h2
     clear h1 h2;go_wp2_with fail;go_ret;exact⟨ag HX.out.symm,av.out⟩
    ·have HX:=jq (bC.out (by omega));have g2:decide (1000000<x)=false:=by simpa using h2
     clear h1 h2;go_wp2_with fail;go_roundw
     case rel=>exact⟨k+1,by omega,by go_num,by first | rfl | trivial,HX⟩
     case measure=>simp[intOf] <;> omega
  ·have qD:Hid (∀ x∈hints,1<=x/\x<=1000000):=jq (λx hx=>by
    obtain⟨j,hj,rfl⟩:=nQ.1 hx;exact HA.out j _ (by have:=HN.out;omega) (aQ hj))
   go_wp2_with fail;refine (K8 s hs ty life _ d _ (HD.out.later bV cu av.out)).mono ?_;rintro e w2 ⟨rfl,ac⟩;have aN:=ac.size;replace c0:=aaJ ac c0;replace c1:=aaJ ac c1;have ai:=acZ av ac;clear ac c2' c3
   cases dD:Np.cZ ⟨s.data.toList,ty,life,d⟩ with
   | false=>
    have HX:Hid (r=false):=jq (by rw[<-HR.out];exact Np.aF λq=>by have:=q.set;rw[dD] at this;cases this);clear dD;go_wp2_with fail;go_ret;exact⟨ag HX.out.symm,ai.out⟩
   | true=>
    have kM:=jq dD;clear dD;by_cases h6:ty=6
    ·by_cases nO:s.data.toList = [46]
     ·have JM:(s.toList == [46])=true:=by rw[dQ,nO];rfl
      have BA:(ty == 6)=true:=by simpa using h6
      have GI:=jq nO;have H6:=jq h6;clear nO h6;by_cases bP:1<=n
      ·have g1:decide ((1:Int)<=(n:Int))=true:=by simp;omega
       by_cases zm:n<=8
       ·have HX:Hid (r=true):=jq (by rw[<-HR.out];exact Np.bh ⟨kM.out,H6.out,GI.out,by rw[HN.out];exact⟨bP,zm⟩,qD.out⟩);have g2:decide ((n:Int)<=8)=true:=by simp;omega
        clear bP zm;go_wp2_with fail;go_ret;exact⟨ag HX.out.symm,ai.out⟩
       ·have HX:Hid (r=false):=jq (by rw[<-HR.out];exact Np.aF λq=>by have:=q.few;rw[HN.out] at this;omega);have g2:decide ((n:Int)<=8)=false:=by simp;omega
        clear bP zm;go_wp2_with fail;go_ret;exact⟨ag HX.out.symm,ai.out⟩
      ·have HX:Hid (r=false):=jq (by rw[<-HR.out];exact Np.aF λq=>by have:=q.few;rw[HN.out] at this;omega);have g1:decide ((1:Int)<=(n:Int))=false:=by simp;omega
       clear bP;go_wp2_with fail;go_ret;exact⟨ag HX.out.symm,ai.out⟩
     ·have HX:Hid (r=false):=jq (by rw[<-HR.out];exact Np.aF λq=>nO q.name);have JM:(s.toList == [46])=false:=by rw[dQ];simpa using nO
      have BA:(ty == 6)=true:=by simpa using h6
      clear nO h6;go_wp2_with fail;go_ret;exact⟨ag HX.out.symm,ai.out⟩
    ·have HX:Hid (r=false):=jq (by rw[<-HR.out];exact Np.aF λq=>h6 q.type);have BA:(ty == 6)=false:=by simpa using h6
     clear h6;go_wp2_with fail;go_ret;exact⟨ag HX.out.symm,ai.out⟩
theorem aCJ(v:Value)(l:List Np.Host)(w:World)(hd:SlR kS 3 w w.heap.size v l) :
 Calls prog 87 #[v] w (a0X w.heap.size w (.bool (Np.yes (Np.VHosts l)))):=by
 obtain⟨r,hr⟩:=acJ (Np.yes (Np.VHosts l));rw[hr];have HR:=jq hr;have HD:=jq hd;obtain⟨A,c,rfl,bq,bM⟩:=ak hd;clear hr hd;by_cases ww:l.length<=64
 ·have Gi:=jq ww;go_enter func87,ntmps87;go_wp2_with fail;go_loopw [3] (λi wr=>∃ k:Nat,k<=l.length/\i = .int .i64 k/\Hid (Below w.heap.size w wr)/\Hid (∀ j x,j<k->l[j]?=some x->Np.HostOk x)/\Hid (((l.take k).map (·.addr)).Nodup)) (λi _=>l.length - (intOf i).toNat)
  case atStart=>exact⟨0,jQ _,rfl,jq (vQ _ _),jq (λj x hj=>by omega),jq (by simp)⟩
  case round=>
   obtain⟨k,hk,rfl,HB,HA,pL⟩:=hrel;have dK:=HB.out.size;by_cases ab:k<l.length
   ·obtain⟨x,aa⟩:∃ x,l[k]?=some x:=⟨_,aQ ab⟩;obtain⟨b,o,sn,rfl,bA,aw,cB,f0,f1,f2⟩:=Cv (HD.out.keep oh HB.out) aa;have ht:l.take (k+1)=l.take k ++ [x]:=by
     obtain⟨hl,he⟩:=cQ.1 aa;rw[fQ hl,he]
    have HT:=jq ht;have HN:Hid (Np.HostOk x->∀ j y,j<k+1->l[j]?=some y->Np.HostOk y):=jq (λh j y hj hy=>by
     by_cases e:j=k
     ·subst e;rw[aa] at hy;cases hy;exact h
     ·exact HA.out j y (by omega) hy)
    have HF:Hid (¬ Np.HostOk x->r=false):=jq (λh=>by rw[<-HR.out];exact Np.aF λq=>h (q.each x (gQ aa)));have vx:Hid (x.addr∈(l.take k).map (·.addr)->r=false):=jq (λh=>by
     rw[<-HR.out];refine Np.aF λq=>?_;have h1:=q.addrs;have h2:(l.take (k+1)).map (·.addr) <+: l.map (·.addr):=by rw[List.map_take];exact List.take_prefix _ _
     have h3:=h1.sublist h2.sublist;rw[ht,List.map_append,List.nodup_append] at h3;exact h3.2.2 x.addr h x.addr (by simp) rfl)
    have aT:=jq aw;have dY:Hid (∀ o,Below wr.heap.size wr (wr.alloc o)):=jq (λo=>(vQ _ _).alloc (bQ _) _);obtain⟨w2,aj⟩:=acJ (wr.alloc (.cells #[.string sn,.int .i64 x.addr,.int .i64 x.owner] 101));have ac:Below wr.heap.size wr w2:=by rw[<-aj];exact dY.out _
    have p0:w2.cell? ⟨wr.heap.size,0,none⟩=some (.string sn):=by rw[<-aj];simp[go_sem]
    have p1:w2.cell? ⟨wr.heap.size,1,none⟩=some (.int .i64 x.addr):=by rw[<-aj];simp[go_sem]
    have p2:w2.cell? ⟨wr.heap.size,2,none⟩=some (.int .i64 x.owner):=by rw[<-aj];simp[go_sem]
    have aN:wr.heap.size<w2.heap.size:=by rw[<-aj];simp
    have ai:=jq ac;have bJ:(0:Int)<=(k:Int):=by omega
    have bI:(k:Int)<(l.length:Int):=by omega
    clear aa aw ht ac;go_wp2_with fail;clear aj f0 f1 f2;refine (tk sn cB _).mono ?_;rintro e w3 ⟨rfl,aq⟩;have eR:=aq.size;have ar:=acZ ai aq;replace p0:w3.cell? ⟨wr.heap.size,0,none⟩=some (.string sn):=(aq.cell (by simpa using aN)).trans p0;replace p1:w3.cell? ⟨wr.heap.size,1,none⟩=some (.int .i64 x.addr):=(aq.cell (by simpa using aN)).trans p1;replace p2:w3.cell? ⟨wr.heap.size,2,none⟩=some (.int .i64 x.owner):=(aq.cell (by simpa using aN)).trans p2;clear aq
    cases lR:Np.aD sn.data.toList with
    | false=>
     have HX:Hid (r=false):=jq (HF.out λh=>by have:=h.name;rw[<-aT.out,lR] at this;cases this);clear lR;go_wp2_with fail;go_ret;exact⟨ag HX.out.symm,HB.out.trans (ar.out.adZ)⟩
    | true=>
     have iI:=jq lR;clear lR;go_wp2_with fail;refine (K9 sn iI.out _).mono ?_;rintro e w4 ⟨rfl,aC⟩;have fl:=aC.size;have aU:=acZ ar aC;replace p1:=aaJ aC p1;replace p2:=aaJ aC p2;clear aC p0
     cases td:Np.eD sn.data.toList with
     | true=>
      have HX:Hid (r=false):=jq (HF.out λh=>by have:=h.wild;rw[<-aT.out,td] at this;cases this);clear td;go_wp2_with fail;go_ret;exact⟨ag HX.out.symm,HB.out.trans (aU.out.adZ)⟩
     | false=>
      have Ir:=jq td;clear td;have mF:decide (x.addr<1)=true\/decide (x.addr<1)=false/\(decide (1000000<x.addr)=true\/decide (1000000<x.addr)=false/\(decide (x.owner<0)=true\/decide (x.owner<0)=false/\(decide (31<x.owner)=true\/decide (31<x.owner)=false))):=by
       simp only[Qa,decide_eq_false_iff_not];omega
      rcases mF with d1 | ⟨d1,d2 | ⟨d2,d3 | ⟨d3,d4 | d4⟩⟩⟩
      rotate_right
      ·have bH:Hid (Np.HostOk x):=jq (by
        simp only[decide_eq_false_iff_not] at d1 d2 d3 d4;exact⟨by rw[<-aT.out];exact iI.out,by rw[<-aT.out];exact Ir.out,by omega,by omega⟩)
       go_wp2_with fail;obtain⟨wo,rfl⟩:=acY wr;go_loopw [6] (λi wx=>∃ m:Nat,m<=k/\i = .int .i64 m/\Hid (Below w4.heap.size w4 wx)/\Hid (∀ j y,j<m->l[j]?=some y->y.addr≠x.addr)) (λi _=>k - (intOf i).toNat)
       case atStart=>exact⟨0,jQ _,rfl,jq (vQ _ _),jq (λj y hj=>by omega)⟩
       case round=>
        obtain⟨m,hm,rfl,ei,HX⟩:=hrel;have hzx:=ei.out.size;have q1:wr.cell? ⟨wo.heap.size,1,none⟩=some (.int .i64 x.addr):=aaJ ei.out p1;have aV:Hid (Below wo.heap.size wo wr):=acZ aU ei.out;by_cases uq:m<k
        ·obtain⟨y,dR⟩:∃ y,l[m]?=some y:=⟨_,aQ (by omega)⟩;obtain⟨b9,o9,sy,OW,_,_,_,_,g1,_⟩:=Cv (HD.out.keep oh (HB.out.trans (aV.out.adZ))) dR;simp only[Option.some.injEq,Addr.mk.injEq,and_true] at OW;obtain⟨rfl,rfl⟩:=OW;have jP:(0:Int)<=(m:Int):=by omega
         have P0:(m:Int)<(l.length:Int):=by omega
         have gY:decide ((m:Int)<(k:Int))=true:=by simp;omega
         by_cases he:y.addr=x.addr
         ·have HY:Hid (r=false):=jq (vx.out (List.mem_map.2 ⟨y,List.mem_iff_getElem?.2 ⟨m,by rw[List.getElem?_take,Qb uq];exact dR⟩,he⟩));have ge:(y.addr == x.addr)=true:=by simpa using he
          clear he dR;go_wp2_with fail;go_quiet (fail);go_wp2_with fail;go_ret;exact⟨ag HY.out.symm,below_drewN (HB.out.trans (aV.out.adZ)) _⟩
         ·have HY:Hid (∀ j z,j<m+1->l[j]?=some z->z.addr≠x.addr):=jq (λj z hj hz=>by
           by_cases e:j=m
           ·subst e;rw[dR] at hz;cases hz;exact he
           ·exact HX.out j z (by omega) hz)
          have ge:(y.addr == x.addr)=false:=by simpa using he
          clear he dR;go_wp2_with fail;go_quiet (fail);go_wp2_with fail;go_roundw
          case rel=>exact⟨m+1,by omega,by go_num,jq (below_drewN ei.out _),HY⟩
          case measure=>simp[intOf] <;> omega
        ·have gY:decide ((m:Int)<(k:Int))=false:=by simp;omega
         have Hi:Hid (((l.take (k+1)).map (·.addr)).Nodup):=jq (by
          rw[HT.out,List.map_append,List.nodup_append];refine⟨pL.out,by simp,λy hy z hz e=>?_⟩;simp at hz;obtain⟨u,hu,zx⟩:=List.mem_map.1 hy;obtain⟨j,hj,rfl⟩:=nQ.1 hu;rw[List.length_take] at hj;rw[List.getElem_take] at zx;exact HX.out j _ (by omega) (aQ (by omega)) (by rw[zx,e,hz]))
         go_wp2_with fail;go_roundw
         case rel=>exact⟨k+1,by omega,by go_num,acZ HB aV.out,jq (HN.out bH.out),Hi⟩
         case measure=>simp[intOf] <;> omega
      all_goals
       have HX:Hid (r=false):=jq (HF.out λh=>by
        have h1:=h.addr;have h2:=h.owner;simp only[Qa,decide_eq_false_iff_not] at *;omega)
       go_wp2_with fail;go_ret;exact⟨ag HX.out.symm,HB.out.trans (aU.out.adZ)⟩
   ·go_wp2_with fail;go_ret;refine⟨ag ?_,HB.out⟩;rw[<-HR.out];refine (Np.bh ⟨Gi.out,λx hx=>?_,?_⟩).symm
    ·obtain⟨j,hj,rfl⟩:=nQ.1 hx;exact HA.out j _ (by omega) (aQ hj)
    ·have:=pL.out
     rwa [kQ (by omega)] at this
 ·have HX:Hid (r=false):=jq (by rw[<-HR.out];exact Np.aF λq=>ww q.few);have XR:64<l.length:=by omega
  clear ww;go_enter func87,ntmps87;go_wp2_with fail;go_ret;exact⟨ag HX.out.symm,vQ _ _⟩
theorem Sv{α:Type}{R:a1Z α}{sz n c:Nat}{w:World}{B:Nat}{xs:List α}(h:SlR R sz w B (.slice none n c) xs):n=0/\xs = []:=by
 obtain⟨A',c',hA',_,_,bU⟩:=h;simp only[Value.slice.injEq] at hA';obtain⟨rfl,rfl,rfl⟩:=hA'
 cases xs with
 | nil=>exact⟨rfl,rfl⟩
 | cons x xs=>
  obtain⟨b,o,e,hA,_⟩:=bU 0 x rfl
  cases hA
theorem Tryz.infoCloneDatum:(prog.info? 128).map (λi=>(i.zero,i.size,i.bytes))=some (some (.agg #[.string ⟨#[]⟩,.int .i64 0,.int .i64 0]),3,32):=by kernel_rfl
theorem Ws(v:Value)(xs:List Np.Datum)(hl:xs.length<=1000000)(w:World)(h:SlR bR 3 w w.heap.size v xs) :
 Calls prog 68 #[v] w λe w'=>∃ v',e = .returned v'/\cE bR 3 128 w.heap.size w.heap.size w' v' xs/\Below w.heap.size w w':=by
 have HD:=jq h;obtain⟨A,c,rfl,bq,bM⟩:=ak h;clear h;have heq:=run_eql_slice_nil (P:=prog) w 24 128 A xs.length c underlying24;have aY:Hid (Below w.heap.size w (w.alloc (.cells #[] 128))):=jq ((vQ _ _).alloc (bQ _) _);obtain⟨i0,hi,fk,bd,aN⟩:=info_parts Tryz.infoCloneDatum
 cases A with
 | none=>
  obtain⟨hn,rfl⟩:=Sv HD.out;rw[List.length_nil] at heq |-;simp only[Option.isNone_none] at heq;go_enter func68,ntmps68;go_wp2_with fail;go_ret;exact⟨_,rfl,cE.nil _,vQ _ _⟩
 | some ad=>
  go_enter func68,ntmps68;go_wp2_with (at_builtin;refine S8 (R:=bR) (sz:=3) _ rfl _ _ 24 rfl w.heap.size w.heap.size 128 i0 (.agg #[.string ⟨#[]⟩,.int .i64 0,.int .i64 0]) 32 underlying24 hi fk bd aN rfl (by decide) _ [] rfl (cE.empty w (bQ _)) (some ad) c w.heap.size xs rfl (HD.out.keep bV aY.out) (λr y h=>by (obtain⟨s,_,_,rfl⟩:=h;intro u hu;simp at hu;try rcases hu with rfl | rfl | rfl | rfl | rfl | rfl <;> rfl)) (by simp[maxLen];omega) (by simp;omega) (by simp) (bQ _) (bQ _) bV cu ?_;intro v3 w3 mM aq zh;have H3:=jq (And.intro mM (aY.out.trans aq));clear mM aq zh);go_ret;exact⟨_,rfl,H3.out.1,H3.out.2⟩
theorem Tryz.infoCloneSig:(prog.info? 50).map (λi=>(i.zero,i.size,i.bytes))=some (some (.agg #[.string ⟨#[]⟩,.int .i64 0,.int .i64 0,.int .i64 0,.int .i64 0,.int .u64 0]),6,56):=by kernel_rfl
theorem Wt(v:Value)(xs:List Np.Sig)(hl:xs.length<=1000000)(w:World)(h:SlR cS 6 w w.heap.size v xs) :
 Calls prog 142 #[v] w λe w'=>∃ v',e = .returned v'/\cE cS 6 50 w.heap.size w.heap.size w' v' xs/\Below w.heap.size w w':=by
 have HD:=jq h;obtain⟨A,c,rfl,bq,bM⟩:=ak h;clear h;have heq:=run_eql_slice_nil (P:=prog) w 40 50 A xs.length c underlying40;have aY:Hid (Below w.heap.size w (w.alloc (.cells #[] 50))):=jq ((vQ _ _).alloc (bQ _) _);obtain⟨i0,hi,fk,bd,aN⟩:=info_parts Tryz.infoCloneSig
 cases A with
 | none=>
  obtain⟨hn,rfl⟩:=Sv HD.out;rw[List.length_nil] at heq |-;simp only[Option.isNone_none] at heq;go_enter func142,ntmps142;go_wp2_with fail;go_ret;exact⟨_,rfl,cE.nil _,vQ _ _⟩
 | some ad=>
  go_enter func142,ntmps142;go_wp2_with (at_builtin;refine S8 (R:=cS) (sz:=6) _ rfl _ _ 40 rfl w.heap.size w.heap.size 50 i0 (.agg #[.string ⟨#[]⟩,.int .i64 0,.int .i64 0,.int .i64 0,.int .i64 0,.int .u64 0]) 56 underlying40 hi fk bd aN rfl (by decide) _ [] rfl (cE.empty w (bQ _)) (some ad) c w.heap.size xs rfl (HD.out.keep cg aY.out) (λr y h=>by (obtain⟨s,_,_,rfl⟩:=h;intro u hu;simp at hu;try rcases hu with rfl | rfl | rfl | rfl | rfl | rfl <;> rfl)) (by simp[maxLen];omega) (by simp;omega) (by simp) (bQ _) (bQ _) cg cY ?_;intro v3 w3 mM aq zh;have H3:=jq (And.intro mM (aY.out.trans aq));clear mM aq zh);go_ret;exact⟨_,rfl,H3.out.1,H3.out.2⟩
end
end Go.Proofs.YtfnopgdcaanaiaaGreatDoor
