/- Parts of the proof. No condition. -/
import Derived.Test.YtfnopgdcaanaiaaGreatDoorH11
import Derived.Test.YtfnopgdcaanaiaaGreatDoorH12
set_option linter.all false
set_option maxRecDepth 100000
set_option maxHeartbeats 8000000
namespace Go.Proofs.YtfnopgdcaanaiaaGreatDoor
open Go.Proofs.Tryz
section
open Go.RowKit
theorem oT{w:World}{B n c:Nat}{A:Option Addr}{xs:List (List UInt8)}(h:SlR RTx 1 w B (.slice A n c) xs){k:Nat}{x:List UInt8}(hx:xs[k]?=some x):∃ (b o:Nat) (s:ByteArray),A=some ⟨b,o,none⟩/\b<B/\s.data.toList=x/\s.size<=140737488355328/\w.cell? ⟨b,o+k,none⟩=some (.string s):=by
 obtain⟨A',c',hv,hc,_,he⟩:=h;simp only[Value.slice.injEq] at hv;obtain⟨rfl,_,_⟩:=hv;obtain⟨b,o,e,rfl,hb,_,hce,s,h1,h2,rfl⟩:=he k x hx;exact⟨b,o,s,rfl,hb,h1,h2,by have:=hce 0 _ rfl;simpa using this⟩
def Np.nS(l:List Np.Signed)(B:List (List UInt8)):Prop:=∀ (i:Nat) (x:Np.Signed) (b:List UInt8),l[i]?=some x->B[i]?=some b->Np.jg x.set b
def Np.xx(l:List Np.Signed)(B:List (List UInt8)):Prop:=∀ (i:Nat) (x:Np.Signed) (b:List UInt8),l[i]?=some x->B[i]?=some b->b≠[]->x.set.type=2\/x.set.type=1->x.sigs = []
theorem JG{x:Np.DSet}{b:List UInt8}(hb:b = []):Np.jg x b↔x.type≠6:=by
 subst hb;exact⟨λh=>h.1 rfl,λh=>⟨λ_=>h,λh2=>absurd rfl h2,λh2=>absurd rfl h2⟩⟩
theorem JH{x:Np.DSet}{b:List UInt8}(hb:b≠[])(he:b=x.name):Np.jg x b↔(x.type=2\/x.type=6\/x.type=8\/x.type=1):=
 ⟨λh=>h.2.1 hb he,λh=>⟨λh2=>absurd h2 hb,λ_ _=>h,λ_ h2=>absurd he h2⟩⟩
theorem JI{x:Np.DSet}{b:List UInt8}(hb:b≠[])(he:b≠x.name):Np.jg x b↔x.type=1:=
 ⟨λh=>h.2.2 hb he,λh=>⟨λh2=>absurd h2 hb,λ_ h2=>absurd h2 he,λ_ _=>h⟩⟩
theorem RZ(a:ByteArray)(v bv:Value)(l:List Np.Signed)(B:List (List UInt8))(iK:B.length=l.length)(w:World)(hd:SlR bh 5 w w.heap.size v l)(jx:SlR RTx 1 w w.heap.size bv B) :
 Calls prog 202 #[.agg #[.string a,v,bv]] w λe w'=>e = .returned (.bool (Np.yes (Np.nS l B)))/\Below w.heap.size w w':=by
 obtain⟨r,hr⟩:∃ r,Np.yes (Np.nS l B)=r:=⟨_,rfl⟩;rw[hr];have HR:=jq hr;have cX:=jq iK;have HD:=jq hd;have mR:=jq jx;obtain⟨A,c,rfl,bw,bT⟩:=al hd;obtain⟨A2,c2,rfl,eG,dI⟩:=al jx;rw[iK] at eG dI mR |-;clear hr hd jx iK;have HW:Hid (∀ o,Below w.heap.size w (w.alloc o)):=jq (λo=>(vQ _ w).alloc (bQ _) _);go_enter func202,ntmps202;go_wp2_with fail;obtain⟨w1,ah⟩:∃ w1,w.alloc (.cells #[.string a,.slice A l.length c,.slice A2 l.length c2] 265)=w1:=⟨_,rfl⟩;have c2':w1.cell? ⟨w.heap.size,2,none⟩=some (.slice A2 l.length c2):=by rw[<-ah];simp[go_sem]
 have du:w.heap.size<w1.heap.size:=by rw[<-ah];simp
 have aq:Hid (Below w.heap.size w w1):=jq (by rw[<-ah];exact HW.out _);rw[ah];clear ah;go_loopw [11] (λi wr=>∃ k:Nat,k<=l.length/\i = .int .i64 k/\Hid (Below w1.heap.size w1 wr)/\Hid (∀ j x b,j<k->l[j]?=some x->B[j]?=some b->Np.jg x.set b)) (λi _=>l.length - (intOf i).toNat)
 case atStart=>exact⟨0,jQ _,rfl,jq (vQ _ _),jq (λj x b hj=>by omega)⟩
 case round=>
  obtain⟨k,hk,rfl,HB,HA⟩:=hrel;have an:=HB.out.size;have aw:=jq (aq.out.trans (HB.out.mono (by omega)));by_cases aa:k<l.length
  ·obtain⟨x,ab⟩:∃ x,l[k]?=some x:=⟨_,aQ aa⟩;obtain⟨bb,dm⟩:∃ bb,B[k]?=some bb:=⟨_,aQ (by rw[cX.out];omega)⟩;obtain⟨b,o,c',sn,dv,sv,hA,bJ,_,ay,cw,aW,aM,e0,e1,e2,e3,e4⟩:=eq (HD.out.keep aX aw.out) ab
   cases hA
   obtain⟨b2,o2,sb,rfl,uN,nK,FQ,g0⟩:=oT (mR.out.keep mc aw.out) dm;have HN:Hid (Np.jg x.set bb->∀ j x b,j<k+1->l[j]?=some x->B[j]?=some b->Np.jg x.set b):=jq (λh j x b hj hx hb=>by
    by_cases e:j=k
    ·subst e;rw[ab] at hx;rw[dm] at hb;cases hx;cases hb;exact h
    ·exact HA.out j x b (by omega) hx hb)
   have HF:Hid (¬ Np.jg x.set bb->r=false):=jq (λh=>by
    rw[<-HR.out];exact Np.aF λq=>h (q k _ _ ab dm))
   clear ab dm;obtain⟨Ad,cd,rfl,_,_⟩:=al aW;obtain⟨As,cs,rfl,_,_⟩:=al aM;have hcell:wr.cell? ⟨w.heap.size,2,none⟩=some (.slice (some ⟨b2,o2,none⟩) l.length c2):=(HB.out.cell (by dsimp only;omega)).trans c2';have cZ:w.heap.size<wr.heap.size:=by omega
   have az:b<wr.heap.size:=by omega
   have ac:b2<wr.heap.size:=by omega
   have aZ:Hid (∀ o,Below w1.heap.size w1 (wr.alloc o)):=jq (λo=>HB.out.alloc HB.out.size _);have mO:Hid (∀ o,Below w.heap.size w (wr.alloc o)):=jq (λo=>aw.out.alloc (by omega) _);have bO:(0:Int)<=(k:Int):=by omega
   have bM:(k:Int)<(l.length:Int):=by omega
   have aL:=jq ay;have eP:=jq nK;obtain⟨ty,eK⟩:∃ ty,x.set.type=ty:=⟨_,rfl⟩;have di:=jq eK;rw[eK] at e1;clear ay nK aW aM eK;by_cases cT:bb = []
   ·obtain rfl:sb=⟨#[]⟩:=kL (by rw[eP.out,cT]);have bk:=jq (JG (x:=x.set) cT);clear cT;by_cases h6:ty=6
    ·have HX:Hid (r=false):=jq (HF.out λh=>(bk.out.1 h) (di.out.trans h6));subst h6;go_wp2_with fail;go_ret;exact⟨ae HX.out.symm,mO.out _⟩
    ·have HX:=jq (HN.out (bk.out.2 λh=>h6 (di.out.symm.trans h)));have h6':(ty == 6)=false:=by simpa using h6
     clear h6;go_wp2_with fail;go_roundw
     case rel=>exact⟨k+1,by omega,by go_num,jq (aZ.out _),jq HX.out⟩
     case measure=>simp[intOf] <;> omega
   ·have vj:(sb.toList == [])=false:=by rw[dQ,eP.out];simpa using cT
    by_cases il:bb=x.set.name
    ·have Fa:(sb.toList == sn.toList)=true:=by rw[dQ,dQ,eP.out,aL.out];simpa using il
     have bk:=jq (JH (x:=x.set) cT il);clear cT il;by_cases ht:ty=2\/ty=6\/ty=8\/ty=1
     ·have HX:=jq (HN.out (bk.out.2 (by rw[di.out];exact ht)));rcases ht with rfl | rfl | rfl | rfl
      all_goals
       go_wp2_with fail;go_roundw
       case rel=>exact⟨k+1,by omega,by go_num,jq (aZ.out _),jq HX.out⟩
       case measure=>simp[intOf] <;> omega
     ·have HX:Hid (r=false):=jq (HF.out λh=>ht (by have:=bk.out.1 h;rwa [di.out] at this));have t1:(ty != 2)=true:=by simp;omega
      have t2:(ty != 6)=true:=by simp;omega
      have t3:(ty != 8)=true:=by simp;omega
      have t4:(ty != 1)=true:=by simp;omega
      clear ht;go_wp2_with fail;go_ret;exact⟨ae HX.out.symm,mO.out _⟩
    ·have Fa:(sb.toList == sn.toList)=false:=by rw[dQ,dQ,eP.out,aL.out];simpa using il
     have bk:=jq (JI (x:=x.set) cT il);clear cT il;by_cases ht:ty=1
     ·have HX:=jq (HN.out (bk.out.2 (by rw[di.out];exact ht)));subst ht;go_wp2_with fail;go_roundw
      case rel=>exact⟨k+1,by omega,by go_num,jq (aZ.out _),jq HX.out⟩
      case measure=>simp[intOf] <;> omega
     ·have HX:Hid (r=false):=jq (HF.out λh=>ht (by have:=bk.out.1 h;rwa [di.out] at this));have t4:(ty != 1)=true:=by simpa using ht
      clear ht;go_wp2_with fail;go_ret;exact⟨ae HX.out.symm,mO.out _⟩
  ·go_wp2_with fail;go_ret;refine⟨ae ?_,aw.out⟩;rw[<-HR.out];exact (Np.bB λi x b hx hb=>HA.out i x b (by have:=(cQ.1 hx).1;omega) hx hb).symm
def Np.vU(l:List Np.Signed)(k:Nat)(x:Np.Signed):Prop:=x.set.type=3->(∀ p,0<k->l[k - 1]?=some p->p.set.name≠x.set.name)/\∀ n,l[k+1]?=some n->n.set.name=x.set.name->n.set.type=8
def Np.vV(l:List Np.Signed):Prop:=∀ k x,l[k]?=some x->Np.vU l k x
theorem QY(a:ByteArray)(v:Value)(A2:Option Addr)(n2 c2:Nat)(l:List Np.Signed)(bI:l.length<=20000)(w:World)(hd:SlR bh 5 w w.heap.size v l) :
 Calls prog 201 #[.agg #[.string a,v,.slice A2 n2 c2]] w λe w'=>e = .returned (.bool (Np.yes (Np.vV l)))/\Below w.heap.size w w':=by
 obtain⟨r,hr⟩:∃ r,Np.yes (Np.vV l)=r:=⟨_,rfl⟩;rw[hr];have HR:=jq hr;have HD:=jq hd;obtain⟨A,c,rfl,bw,bT⟩:=al hd;clear hr hd;have HW:Hid (∀ o,Below w.heap.size w (w.alloc o)):=jq (λo=>(vQ _ w).alloc (bQ _) _);go_enter func201,ntmps201;go_wp2_with fail;obtain⟨w1,ah⟩:∃ w1,w.alloc (.cells #[.string a,.slice A l.length c,.slice A2 n2 c2] 265)=w1:=⟨_,rfl⟩;have c2':w1.cell? ⟨w.heap.size,1,none⟩=some (.slice A l.length c):=by rw[<-ah];simp[go_sem]
 have du:w.heap.size<w1.heap.size:=by rw[<-ah];simp
 have aq:Hid (Below w.heap.size w w1):=jq (by rw[<-ah];exact HW.out _);rw[ah];clear ah;go_loopw [10] (λi wr=>∃ k:Nat,k<=l.length/\i = .int .i64 k/\Hid (Below w1.heap.size w1 wr)/\Hid (∀ j x,j<k->l[j]?=some x->Np.vU l j x)) (λi _=>l.length - (intOf i).toNat)
 case atStart=>exact⟨0,jQ _,rfl,jq (vQ _ _),jq (λj x hj=>by omega)⟩
 case round=>
  obtain⟨k,hk,rfl,HB,HA⟩:=hrel;have an:=HB.out.size;have aw:=jq (aq.out.trans (HB.out.mono (by omega)));by_cases aa:k<l.length
  ·obtain⟨x,ab⟩:∃ x,l[k]?=some x:=⟨_,aQ aa⟩;obtain⟨b,o,c',sn,dv,sv,hA,bJ,_,ay,cw,aW,aM,e0,e1,e2,e3,e4⟩:=eq (HD.out.keep aX aw.out) ab
   cases hA
   have HN:Hid (Np.vU l k x->∀ j x,j<k+1->l[j]?=some x->Np.vU l j x):=jq (λh j y hj hy=>by
    by_cases e:j=k
    ·subst e;rw[ab] at hy;cases hy;exact h
    ·exact HA.out j y (by omega) hy)
   have HF:Hid (¬ Np.vU l k x->r=false):=jq (λh=>by
    rw[<-HR.out];exact Np.aF λq=>h (q k x ab))
   have Ip:Hid (∀ (m:Nat) (y:Np.Signed),l[m]?=some y->∃ (sy:ByteArray),sy.data.toList=y.set.name/\wr.cell? ⟨b,o+m * 5,none⟩=some (.string sy)/\wr.cell? ⟨b,o+m * 5+1,none⟩=some (.int .i64 y.set.type)):=jq (λm y hy=>by
    obtain⟨b9,o9,c9,sy,dv9,sv9,hA,_,_,eU,_,_,_,q0,q1,_⟩:=eq (HD.out.keep aX aw.out) hy;simp only[Value.slice.injEq,Option.some.injEq,Addr.mk.injEq,and_true,true_and] at hA;obtain⟨⟨rfl,rfl⟩,-⟩:=hA;exact⟨sy,eU,q0,q1⟩)
   clear ab;obtain⟨Ad,cd,rfl,_,_⟩:=al aW;obtain⟨As,cs,rfl,_,_⟩:=al aM;have hcell:wr.cell? ⟨w.heap.size,1,none⟩=some (.slice (some ⟨b,o,none⟩) l.length c):=(HB.out.cell (by dsimp only;omega)).trans c2';have cZ:w.heap.size<wr.heap.size:=by omega
   have az:b<wr.heap.size:=by omega
   have aZ:Hid (∀ o,Below w1.heap.size w1 (wr.alloc o)):=jq (λo=>HB.out.alloc HB.out.size _);have mO:Hid (∀ o,Below w.heap.size w (wr.alloc o)):=jq (λo=>aw.out.alloc (by omega) _);have bO:(0:Int)<=(k:Int):=by omega
   have bM:(k:Int)<(l.length:Int):=by omega
   have aL:=jq ay;obtain⟨ty,eK⟩:∃ ty,x.set.type=ty:=⟨_,rfl⟩;have di:=jq eK;rw[eK] at e1;clear ay aW aM eK;by_cases h3:ty=3
   ·obtain⟨w2,ai⟩:∃ w2,wr.alloc (.cells #[.string sn,.int .i64 ty,.int .i64 x.set.life,.slice Ad x.set.data.length cd,.slice As x.sigs.length cs] 42)=w2:=⟨_,rfl⟩;subst h3;have t3:((3:Int) != 3)=false:=by decide
    have E6:∃ q:Bool,Hid (q=true↔∃ p,0<k/\l[k - 1]?=some p/\p.set.name=x.set.name)/\((k=0/\q=false)\/∃ (m:Nat) (y:Np.Signed) (sy:ByteArray),k=m+1/\wr.cell? ⟨b,o+m * 5,none⟩=some (.string sy)/\(sy.toList == sn.toList)=q):=by
     by_cases gV:k=0
     ·exact⟨false,jq ⟨λh=>(by cases h),λ⟨p,h,_⟩=>(by omega)⟩,.inl ⟨gV,rfl⟩⟩
     ·obtain⟨m,rfl⟩:∃ m,k=m+1:=⟨k - 1,by omega⟩;obtain⟨y,hy⟩:∃ y,l[m]?=some y:=⟨_,aQ (by omega)⟩;obtain⟨sy,eU,q0,q1⟩:=Ip.out m y hy;refine⟨_,jq ?_,.inr ⟨m,y,sy,rfl,q0,rfl⟩⟩;rw[dQ,dQ,eU,aL.out,beq_iff_eq];constructor
      ·intro h;exact⟨y,by omega,by simpa using hy,h⟩
      ·rintro⟨p,_,hp,h⟩;rw[show m+1 - 1=m by omega,hy] at hp
       cases hp;exact h
    have Ts:∃ q1 q2:Bool,Hid (∀ n,l[k+1]?=some n->(q1=true↔n.set.name=x.set.name)/\(q2=true↔n.set.type≠8))/\((l.length=k+1/\q1=false)\/∃ (y:Np.Signed) (sy:ByteArray) (ny:Int),k+1<l.length/\wr.cell? ⟨b,o+(k+1) * 5,none⟩=some (.string sy)/\wr.cell? ⟨b,o+(k+1) * 5+1,none⟩=some (.int .i64 ny)/\(sy.toList == sn.toList)=q1/\(ny != 8)=q2):=by
     by_cases lS:l.length=k+1
     ·exact⟨false,false,jq (λn hn=>by have:=(cQ.1 hn).1;omega),.inl ⟨lS,rfl⟩⟩
     ·obtain⟨y,hy⟩:∃ y,l[k+1]?=some y:=⟨_,aQ (by omega)⟩;obtain⟨sy,eU,q0,q1⟩:=Ip.out (k+1) y hy;refine⟨_,_,jq (λn hn=>?_),.inr ⟨y,sy,y.set.type,by omega,q0,q1,rfl,rfl⟩⟩;rw[hy] at hn;cases hn;rw[dQ,dQ,eU,aL.out,beq_iff_eq];exact⟨Iff.rfl,by simp⟩
    clear ai w2;obtain⟨qb,ph,yN⟩:=E6;obtain⟨q1,q2,AB,jD⟩:=Ts;have G9:Hid (∀ o n,Below w1.heap.size w1 ((wr.alloc o).drewN n)):=jq (λo n=>below_drewN (HB.out.alloc HB.out.size _) _);have CT:Hid (∀ o n,Below w.heap.size w ((wr.alloc o).drewN n)):=jq (λo n=>below_drewN (aw.out.alloc (by omega) _) _);have tr:∀ o' n,(wr.alloc o').drewN n=(wr.alloc o').drewN n:=λ_ _=>rfl;clear tr
    cases qb with
    | true=>
     have HX:Hid (r=false):=jq (HF.out λh=>by
      obtain⟨p,Li,hp,he⟩:=ph.out.1 rfl;exact (h di.out).1 p Li hp he)
     rcases yN with ⟨_,h⟩ | ⟨m,y,sy,li,g0,pS⟩
     ·cases h
     ·have jC:decide ((0:Int)<(k:Int))=true:=by simp;omega
      have iT:decide (0<k)=true:=by simp;omega
      have FY:IntKind.i64.wrap ((k:Int) - 1)=(m:Int):=by rw[IntWalk.i64_in _ (by omega)];omega
      have BX:(k:Int) - 1=(m:Int):=by omega
      have my:(0:Int)<=(m:Int):=by omega
      have pF:(m:Int)<(l.length:Int):=by omega
      clear li;go_wp2_with fail;go_quiet (fail);go_wp2_with fail;go_ret;exact⟨ae HX.out.symm,CT.out _ _⟩
    | false=>
     have ar:Hid (∀ p,0<k->l[k - 1]?=some p->p.set.name≠x.set.name):=jq (λp h0 hp he=>by
      have:=ph.out.2 ⟨p,h0,hp,he⟩
      cases this)
     rcases yN with ⟨gV,_⟩ | ⟨m,y,sy,li,g0,pS⟩
     ·have jC:decide ((0:Int)<(k:Int))=false:=by simp;omega
      have iT:decide (0<k)=false:=by simp;omega
      clear gV;go_wp2_with fail;go_quiet (fail);go_wp2_with fail;obtain⟨w4,bA⟩:∃ w4,(wr.alloc (.cells #[.string sn,.int .i64 3,.int .i64 x.set.life,.slice Ad x.set.data.length cd,.slice As x.sigs.length cs] 42)).drewN nq=w4:=⟨_,rfl⟩;rw[bA];have sH:Hid (Below w1.heap.size w1 w4):=jq (by rw[<-bA];exact G9.out _ _);have D9:Hid (Below w.heap.size w w4):=jq (by rw[<-bA];exact CT.out _ _);have av:Below wr.heap.size wr w4:=by rw[<-bA];exact below_drewN ((vQ _ _).alloc (bQ _) _) _
      have n4:w4.cell? ⟨wr.heap.size,0,none⟩=some (.string sn):=by rw[<-bA];simp[go_sem]
      have Bw:w4.cell? ⟨w.heap.size,1,none⟩=some (.slice (some ⟨b,o,none⟩) l.length c):=(av.cell (by dsimp only;omega)).trans hcell;rcases jD with ⟨lS,rfl⟩ | ⟨y',sy',ny,lS,k0,k1,kE,fO⟩
      ·have HX:=jq (HN.out (λ_=>⟨ar.out,λn hn=>by have:=(cQ.1 hn).1;omega⟩));have aI:decide ((k:Int)+1<(l.length:Int))=false:=by simp;omega
       have fz:decide (k+1<l.length)=false:=by simp;omega
       clear lS;clear av bA;go_wp2_with fail;go_quiet (fail);go_wp2_with fail;go_roundw
       case rel=>exact⟨k+1,by omega,by go_num,jq (below_drewN sH.out _),jq HX.out⟩
       case measure=>simp[intOf] <;> omega
      ·have k04:w4.cell? ⟨b,o+(k+1) * 5,none⟩=some (.string sy'):=(av.cell (by dsimp only;omega)).trans k0;have k14:w4.cell? ⟨b,o+(k+1) * 5+1,none⟩=some (.int .i64 ny):=(av.cell (by dsimp only;omega)).trans k1;obtain⟨j,hj⟩:∃ j,k+1=j:=⟨_,rfl⟩;have ha:IntKind.i64.wrap ((k:Int)+1)=(j:Int):=by rw[IntWalk.i64_in _ (by omega)];omega
       have Tf:(k:Int)+1=(j:Int):=by omega
       have aI:decide ((j:Int)<(l.length:Int))=true:=by simp;omega
       have fz:decide (j<l.length)=true:=by simp;omega
       have iP:(0:Int)<=(j:Int):=by omega
       have rc:(j:Int)<(l.length:Int):=by omega
       rw[hj] at k04 k14 AB;have HJ:=jq hj;have aT:b<w4.heap.size:=by have:=av.size;omega
       clear av bA k0 k1 hj lS;obtain⟨n,hn⟩:∃ n,l[j]?=some n:=⟨_,aQ (by omega)⟩;have kp:=jq (AB.out n hn);have gO:=jq hn;clear hn
       cases q1 with
       | false=>
        have HX:=jq (HN.out (λ_=>⟨ar.out,λn' hn' he=>by
         rw[HJ.out,gO.out] at hn';cases hn'
         have:=kp.out.1.2 he
         cases this⟩))
        go_wp2_with fail;go_quiet (fail);go_wp2_with fail;go_roundw
        case rel=>exact⟨k+1,by omega,by go_num,jq (below_drewN sH.out _),jq HX.out⟩
        case measure=>simp[intOf] <;> omega
       | true=>
        cases q2 with
        | false=>
         have HX:=jq (HN.out (λ_=>⟨ar.out,λn' hn' _=>by
          rw[HJ.out,gO.out] at hn';cases hn';refine Decidable.not_not.1 λh8=>?_
          have:=kp.out.2.2 h8
          cases this⟩))
         go_wp2_with fail;go_quiet (fail);go_wp2_with fail;go_roundw
         case rel=>exact⟨k+1,by omega,by go_num,jq (below_drewN sH.out _),jq HX.out⟩
         case measure=>simp[intOf] <;> omega
        | true=>
         have HX:Hid (r=false):=jq (HF.out λh=>(kp.out.2.1 rfl) ((h di.out).2 n (by rw[HJ.out];exact gO.out) (kp.out.1.1 rfl)));go_wp2_with fail;go_quiet (fail);go_wp2_with fail;go_ret;exact⟨ae HX.out.symm,below_drewN D9.out _⟩
     ·have jC:decide ((0:Int)<(k:Int))=true:=by simp;omega
      have iT:decide (0<k)=true:=by simp;omega
      have FY:IntKind.i64.wrap ((k:Int) - 1)=(m:Int):=by rw[IntWalk.i64_in _ (by omega)];omega
      have BX:(k:Int) - 1=(m:Int):=by omega
      have my:(0:Int)<=(m:Int):=by omega
      have pF:(m:Int)<(l.length:Int):=by omega
      clear li;go_wp2_with fail;go_quiet (fail);go_wp2_with fail;obtain⟨w4,bA⟩:∃ w4,(wr.alloc (.cells #[.string sn,.int .i64 3,.int .i64 x.set.life,.slice Ad x.set.data.length cd,.slice As x.sigs.length cs] 42)).drewN nq=w4:=⟨_,rfl⟩;rw[bA];have sH:Hid (Below w1.heap.size w1 w4):=jq (by rw[<-bA];exact G9.out _ _);have D9:Hid (Below w.heap.size w w4):=jq (by rw[<-bA];exact CT.out _ _);have av:Below wr.heap.size wr w4:=by rw[<-bA];exact below_drewN ((vQ _ _).alloc (bQ _) _) _
      have n4:w4.cell? ⟨wr.heap.size,0,none⟩=some (.string sn):=by rw[<-bA];simp[go_sem]
      have Bw:w4.cell? ⟨w.heap.size,1,none⟩=some (.slice (some ⟨b,o,none⟩) l.length c):=(av.cell (by dsimp only;omega)).trans hcell;rcases jD with ⟨lS,rfl⟩ | ⟨y',sy',ny,lS,k0,k1,kE,fO⟩
      ·have HX:=jq (HN.out (λ_=>⟨ar.out,λn hn=>by have:=(cQ.1 hn).1;omega⟩));have aI:decide ((k:Int)+1<(l.length:Int))=false:=by simp;omega
       have fz:decide (k+1<l.length)=false:=by simp;omega
       clear lS;clear av bA;go_wp2_with fail;go_quiet (fail);go_wp2_with fail;go_roundw
       case rel=>exact⟨k+1,by omega,by go_num,jq (below_drewN sH.out _),jq HX.out⟩
       case measure=>simp[intOf] <;> omega
      ·have k04:w4.cell? ⟨b,o+(k+1) * 5,none⟩=some (.string sy'):=(av.cell (by dsimp only;omega)).trans k0;have k14:w4.cell? ⟨b,o+(k+1) * 5+1,none⟩=some (.int .i64 ny):=(av.cell (by dsimp only;omega)).trans k1;obtain⟨j,hj⟩:∃ j,k+1=j:=⟨_,rfl⟩;have ha:IntKind.i64.wrap ((k:Int)+1)=(j:Int):=by rw[IntWalk.i64_in _ (by omega)];omega
       have Tf:(k:Int)+1=(j:Int):=by omega
       have aI:decide ((j:Int)<(l.length:Int))=true:=by simp;omega
       have fz:decide (j<l.length)=true:=by simp;omega
       have iP:(0:Int)<=(j:Int):=by omega
       have rc:(j:Int)<(l.length:Int):=by omega
       rw[hj] at k04 k14 AB;have HJ:=jq hj;have aT:b<w4.heap.size:=by have:=av.size;omega
       clear av bA k0 k1 hj lS;obtain⟨n,hn⟩:∃ n,l[j]?=some n:=⟨_,aQ (by omega)⟩;have kp:=jq (AB.out n hn);have gO:=jq hn;clear hn
       cases q1 with
       | false=>
        have HX:=jq (HN.out (λ_=>⟨ar.out,λn' hn' he=>by
         rw[HJ.out,gO.out] at hn';cases hn'
         have:=kp.out.1.2 he
         cases this⟩))
        go_wp2_with fail;go_quiet (fail);go_wp2_with fail;go_roundw
        case rel=>exact⟨k+1,by omega,by go_num,jq (below_drewN sH.out _),jq HX.out⟩
        case measure=>simp[intOf] <;> omega
       | true=>
        cases q2 with
        | false=>
         have HX:=jq (HN.out (λ_=>⟨ar.out,λn' hn' _=>by
          rw[HJ.out,gO.out] at hn';cases hn';refine Decidable.not_not.1 λh8=>?_
          have:=kp.out.2.2 h8
          cases this⟩))
         go_wp2_with fail;go_quiet (fail);go_wp2_with fail;go_roundw
         case rel=>exact⟨k+1,by omega,by go_num,jq (below_drewN sH.out _),jq HX.out⟩
         case measure=>simp[intOf] <;> omega
        | true=>
         have HX:Hid (r=false):=jq (HF.out λh=>(kp.out.2.1 rfl) ((h di.out).2 n (by rw[HJ.out];exact gO.out) (kp.out.1.1 rfl)));go_wp2_with fail;go_quiet (fail);go_wp2_with fail;go_ret;exact⟨ae HX.out.symm,below_drewN D9.out _⟩
   ·have HX:=jq (HN.out (λh=>absurd (di.out.symm.trans h) h3));have h3':(ty != 3)=true:=by simpa using h3
    clear h3;go_wp2_with fail;go_roundw
    case rel=>exact⟨k+1,by omega,by go_num,jq (aZ.out _),jq HX.out⟩
    case measure=>simp[intOf] <;> omega
  ·go_wp2_with fail;go_ret;refine⟨ae ?_,aw.out⟩;rw[<-HR.out];exact (Np.bB λi x hx=>HA.out i x (by have:=(cQ.1 hx).1;omega) hx).symm
end
section
open Go.RowKit Go.Shelf
attribute [local go_sem] Oper.semAt_some
theorem eD.block{w w':World}{B:Nat}{xs:List (List UInt8)}(h:eD w B xs)(hb:w'.heap[B]?=w.heap[B]?):eD w' B xs:=λj x hx=>by
 obtain⟨s,h1,h2,h3,h4⟩:=h j x hx;refine⟨s,h1,h2,(iQ (a:=⟨B,j,none⟩) hb).trans h3,?_⟩;rw[<-h4];simp only[World.frozen?,hb]
def I9(w:World)(M b5 b6:Nat)(pre:List (List UInt8))(S:Nat->Prop)(W:World):Prop:=
 (∀ k,S k↔k=M\/k=b5\/k=b6)/\Boxed W b5 116 (.slice (some ⟨M,0,none⟩) 8 8)/\Boxed W b6 3 (.int .i64 ((8 - pre.length:Nat):Int))/\pre.length<=8/\Hid (eD W M (List.replicate (8 - pre.length) []++pre.reverse))/\M<W.heap.size/\Below w.heap.size w W
theorem Mf(w:World)(M b5 b6:Nat)(B:Nat)(hB:w.heap.size<=B):eY B (I9 w M b5 b6):=by
 rintro s S W W' ⟨hS,h1,h2,h3,h4,h6,h5⟩ aA;refine⟨hS,jr h1 aA ((hS _).2 (.inr (.inl rfl))),jr h2 aA ((hS _).2 (.inr (.inr rfl))),h3,jq (h4.out.block ?_),lQ h6 aA.size,sO h5 aA hB (bQ _)⟩;exact aA.keep _ h6 (.inr ((hS _).2 (.inl rfl)))
theorem V8{p:Nat}{pre:List (List UInt8)}{x:List UInt8}(hp:pre.length=p)(h8:p<8):(List.replicate (8 - p) []++pre.reverse).set (8 - (p+1)) x=List.replicate (8 - (p+1)) []++(pre ++ [x]).reverse:=by
 have e:List.replicate (8 - p) ([]:List UInt8)=List.replicate (8 - (p+1)) [] ++ [[]]:=by
  rw[show 8 - p=(8 - (p+1))+1 by omega,List.replicate_succ']
 rw[e,List.append_assoc,List.set_append_right _ _ (by rw[List.length_replicate];exact bQ _),List.length_replicate,Nat.sub_self,List.reverse_append];rfl
theorem EG:∀ (xs:List (List UInt8)) (n:Nat) (b:Bool),Np.eE xs n b=true->n<=8->n+xs.length<=8
 | [],n,b,_,h=>by simpa using h
 | x::xs,n,b,h,hn=>by
   unfold Np.eE at h;split at h
   ·cases h
   ·rename_i hc;simp only[Bool.or_eq_true,Qa,not_or] at hc;rw[List.length_cons];split at h
    ·have:=EG xs (n+1) true h (by omega);omega
    ·split at h
     ·have:=EG xs (n+1) false h (by omega);omega
     ·cases h
theorem Rc{l:List UInt8}(h:Np.aC l=true):(Np.back l).length<=8:=by
 unfold Np.back;split
 ·simp
 ·rename_i hd;unfold Np.aC at h;rw[Qc hd] at h;split at h
  ·cases h
  ·have:=EG _ 0 false h (by omega)
   omega
theorem We(t:ByteArray)(hv:Np.aC t.data.toList=true)(w:World) :
 Calls prog 187 #[.string t] w λe w'=>(∃ v,e = .returned (.tuple #[v,.int .i64 0])/\SlR RTx 1 w' w'.heap.size v (Np.dO t.data.toList))/\Below w.heap.size w w':=by
 have ht:t.size<=60:=vB hv;have wh:Hid ((Np.back t.data.toList).length<=8):=jq (Rc hv);have HV:=jq hv;clear hv;have fC:∀ w:World,(Instr.makeSlice 116 (.int .i64 8) (.int .i64 8)).run prog w = .ok (.slice (some ⟨w.heap.size,0,none⟩) 8 8) (w.alloc (.cells (madeCells #[Value.string ⟨#[]⟩] 8) 9)):=λw=>Gk 8 (by decide) w;have HZ:Hid (∀ j,j<8->(madeCells #[Value.string ⟨#[]⟩] 8)[j]?=some (.string ⟨#[]⟩)):=jq (λj hj=>Gj _ _ hj);generalize madeCells #[Value.string ⟨#[]⟩] 8=Z at fC HZ;refine (callsIn_wide (n:=0)).1 ?_;refine callsIn_of_wp_marks func187 rfl trivial ?_ rfl;simp only[ntmps187,List.size_toArray,List.length_cons,List.length_nil,Nat.reduceAdd,Nat.reduceSub,Array.replicate_succ,Array.replicate_zero,List.push_toArray,List.append_toArray,List.nil_append,List.cons_append];gi_wp2_with fail;refine⟨trivial,rfl,?_⟩;refine (callsIn_wide.2 (valid_any t (by omega) _)).mono ?_;rintro e w1 ⟨rfl,az⟩;rw[HV.out];have aq:=jq az;have bj:=az.size;clear az;gi_wp2_with fail;have b5:=Boxed.new (w1.alloc (.cells Z 9)) 116 (.slice (some ⟨w1.heap.size,0,none⟩) 8 8);have b6:=Boxed.new ((w1.alloc (.cells Z 9)).alloc (.cells #[.slice (some ⟨w1.heap.size,0,none⟩) 8 8] 116)) 3 (.int .i64 8);simp only[World.size_alloc] at b5 b6;have Ta:eD (w1.alloc (.cells Z 9)) w1.heap.size (List.replicate 8 []):=λj x hx=>by
  rw[List.getElem?_replicate] at hx;split at hx
  ·rename_i hj
   cases hx
   exact⟨⟨#[]⟩,rfl,by decide,by simp[go_sem];exact HZ.out j hj,by simp[go_sem]⟩
  ·cases hx
 refine CJ (n₀:=w.heap.size) (w0:=w) (first:=#[.string t]) (captured:=#[]) (gf:=215) rfl (enters_of func215 (by kernel_rfl) rfl) (mk:=λy=>#[.string t,y]) (λ_=>rfl)
  (AM t (by omega) _ w) (aq.out.trans ((((vQ _ w1).alloc (bQ _) _).alloc (by simp) _).alloc (by simp;omega) _ |>.mono bj)) (by simp;omega) (λ_=>rfl) (I9 w w1.heap.size (w1.heap.size+1) (w1.heap.size+1+1)) (λ_ _ _ _=>False)
  (Mf _ _ _ _ _ (by simp;omega)) (λc s S W W' h _=>h)
  (λk=>k=w1.heap.size\/k=w1.heap.size+1\/k=w1.heap.size+1+1) (by intro k h;omega) (by intro k h;simp;omega)
  ⟨λ_=>Iff.rfl,b5.alloc _,b6,by simp,jq ((Ta.keep (((vQ _ _).alloc (bQ _) _).alloc (by simp) _) (by simp))),by simp;omega,aq.out.trans ((((vQ _ w1).alloc (bQ _) _).alloc (by simp) _).alloc (by simp;omega) _ |>.mono bj)⟩ ?round ?done ?stop
 case round=>
  rintro l0 pre x S W bp hI fd;gi_wp2;refine⟨S,RdStep.refl _ _,λk e=>.inl e,fd,?_⟩;intro l W₂ aA;obtain⟨hS,c5,c6,h8,hrow,EU,hB⟩:=Mf w _ _ _ _ (by simp;omega) pre S W W₂ hI aA;have rt:pre.length+1<=8:=by
   have:=bp.length_le
   have h9:=wh.out;simp at this;omega
  have hx:x∈Np.back t.data.toList:=bp.subset (by simp);have mE:x.length<=60:=by have:=Np.AL hx;rw[aU] at this;omega
  have kY:∀ k,S k->k<W₂.heap.size:=λk e=>lQ (fd k e) aA.size;obtain⟨j,hj⟩:∃ j,8 - (pre.length+1)=j:=⟨_,rfl⟩;have hq:((8 - pre.length:Nat):Int)=((j+1:Nat):Int):=by omega
  rw[hq] at c6;have hj8:j<8:=by omega
  obtain⟨sz,_,_,tc,q9⟩:=hrow.out j [] (by rw[List.getElem?_append_left (by rw[List.length_replicate];omega),List.getElem?_replicate,Qb (by omega)]);have qB:Hid (∀ W',eD W' w1.heap.size (List.replicate (8 - pre.length) []++pre.reverse)->eD (W'.setCell ⟨w1.heap.size,j,none⟩ (aB x)) w1.heap.size (List.replicate (8 - (pre ++ [x]).length) []++(pre ++ [x]).reverse)):=jq (λW' hW=>by
   have h1:=hW.store (k:=j) (by rw[List.length_append,List.length_replicate,List.length_reverse];omega) ⟨x.toArray⟩ (by rw[<-aU];simp;omega);have e:((⟨x.toArray⟩:ByteArray).data.toList)=x:=by simp
   rw[e,<-hj,V8 rfl (by omega)] at h1;rw[List.length_append,List.length_singleton,<-hj];exact h1)
  have HOLD:=jq hrow.out;have kk:=jq c5;have fS:=jq c6;have c5c:=c5.cell;have c6c:=c6.cell;have c5f:=c5.frozen;have c6f:=c6.frozen;have ah:IntKind.i64.wrap (((j+1:Nat):Int) - 1)=(j:Int):=by rw[IntWalk.i64_in _ (by omega)];omega
  have iP:(0:Int)<=(j:Int):=by omega
  have rc:(j:Int)<8:=by omega
  have HJ:=jq hj;clear hx hq bp hI hrow c5 c6 hj;have hlen:8 - (pre ++ [x]).length=j:=by rw[List.length_append,List.length_singleton];exact HJ.out
  have uj:=jq hlen;clear hlen;gi_wp2;refine⟨S,((RdStep.refl S W₂).setCell (p:=⟨w1.heap.size+1+1,0,none⟩) (.inl ((hS _).2 (.inr (.inr rfl)))) _).setCell (p:=⟨w1.heap.size,j,none⟩) (.inl ((hS _).2 (.inl rfl))) _,λ_ e=>.inl e,λk e=>by have:=kY k e;simp[World.setCell];omega,hS,?_,?_,by rw[List.length_append,List.length_singleton];omega,jq (qB.out _ (HOLD.out.other (by simp <;> omega) _)),by simpa using EU,(hB.setCell (p:=⟨w1.heap.size+1+1,0,none⟩) (by simp;omega) _).setCell (p:=⟨w1.heap.size,j,none⟩) (by simpa using bj) _⟩
  ·exact ef (ef kk.out (p:=⟨w1.heap.size+1+1,0,none⟩) (by simp) _) (p:=⟨w1.heap.size,j,none⟩) (by simp) _
  ·rw[uj.out];exact ef (fS.out.set _) (p:=⟨w1.heap.size,j,none⟩) (by simp <;> omega) _
 case done=>
  rintro D S W hD fX aV ⟨hS,c5,c6,h8,hrow,EU,hB⟩ hK;have c5c:=c5.cell;have c6c:=c6.cell;obtain⟨n,hn⟩:∃ n,(Np.back t.data.toList).length=n:=⟨_,rfl⟩;rw[hn] at c6c h8;obtain⟨q,hq⟩:∃ q,8 - n=q:=⟨_,rfl⟩;rw[hq] at c6c;have tA:q<=8:=by omega
  have nJ:(0:Int)<=(q:Int):=by omega
  have kE:(q:Int)<=8:=by omega
  have HN:=jq hn;have HQ:=jq hq;have PJ:Hid (w1.heap.size≠D):=jq (λe=>fX ((hS _).2 (.inl e.symm)));have qB:=jq hrow.out;have Iw:Hid (Np.dO t.data.toList=(Np.back t.data.toList).reverse):=jq (by rw[<-Np.zk,List.reverse_reverse]);have sI:Hid (∀ x∈Np.back t.data.toList,x.length<=140737488355328):=jq (λx hx=>by have:=Np.AL hx;rw[aU] at this;omega);clear hrow;by_cases lU:n=0
  ·have UK:q=8:=by omega
   have PR:Hid (Np.dO t.data.toList = []):=jq (by rw[Iw.out,rQ (HN.out.trans lU)];rfl);clear hn hq c5 c6 lU;subst UK;gi_wp2;exact nj hK (v:=.tuple #[.slice (some ⟨w1.heap.size,0,none⟩) 0 0,.int .i64 0]) (by simp[results,results187,go_sem]) ⟨⟨_,rfl,by rw[PR.out];exact⟨_,_,rfl,by simp,by simp,λi x hx=>by simp at hx⟩⟩,ni hB (by have:=aq.out.size;simp at hD;omega) _⟩
  ·have yM:q<8:=by omega
   have amX:(q:Int)<8:=by omega
   have jD:¬ q=8:=by omega
   have kl:Hid (8 - q=n):=jq (by omega);have hln:8 - q=n:=by omega
   clear hn hq c5 c6 lU;gi_wp2;refine nj hK (v:=.tuple #[.slice (some ⟨w1.heap.size,q,none⟩) n n,.int .i64 0]) (by simp[results,results187,go_sem]) ⟨⟨_,rfl,?_⟩,ni hB (by have:=aq.out.size;simp at hD;omega) _⟩;have hr:eD (W.putObj D (.deferred none)) w1.heap.size (List.replicate (8 - (Np.back t.data.toList).length) []++(Np.back t.data.toList).reverse):=qB.out.block (zQ PJ.out);rw[Iw.out];have tu:(Np.back t.data.toList).reverse.length=n:=by rw[List.length_reverse];exact HN.out
   refine⟨_,n,by rw[tu],by omega,by omega,λi x hx=>?_⟩;have hin:=(cQ.1 hx).1;obtain⟨s,h1,h2,h3,_⟩:=hr (q+i) x (by rw[HN.out,HQ.out,oQ (by rw[List.length_replicate];omega),List.length_replicate,show q+i - q=i by omega];exact hx);refine⟨w1.heap.size,q,[.string s],rfl,by simpa using EU,rfl,λj v hv=>?_,s,h1,h2,rfl⟩
   match j,hv with
   | 0,hv=>cases hv;simpa using h3
 case stop=>
  rintro D c pre S W hD fX aV fD h hK;exact h.elim
theorem ZN(s:ByteArray)(h:Np.aC s.data.toList=true)(w:World) :
 Calls prog 246 #[.string s] w λe w'=>e = .returned (.bool (Np.dL s.data.toList))/\Below w.heap.size w w':=by
 have hw:=Ol h;obtain⟨ps,fE⟩:∃ ps,Np.dO s.data.toList=ps:=⟨_,rfl⟩;obtain⟨r,hr⟩:∃ r,(ps.head? == some [42])=r:=⟨_,rfl⟩;rw[hw,fE,hr];have mZ:=jq fE;have HR:=jq hr;have HV:=jq h;clear hw h fE hr;go_enter func246,ntmps246;go_wp2_with fail;refine (We s HV.out _).mono ?_;rw[mZ.out];rintro e w1 ⟨⟨v,rfl,hv⟩,hb⟩;have HB:=jq hb;clear hb;obtain⟨A,c,rfl,hc,hl,he⟩:=hv
 cases ps with
 | nil=>
  have HX:Hid (r=false):=jq (by rw[<-HR.out];rfl);go_wp2_with fail;go_ret;exact⟨ae HX.out.symm,HB.out⟩
 | cons x xs=>
  obtain⟨b,o,e,rfl,bG,_,hce,sx,oF,_,rfl⟩:=he 0 x rfl;have h0:w1.cell? ⟨b,o,none⟩=some (.string sx):=by have:=hce 0 _ rfl;simpa using this
  obtain⟨q,hq⟩:∃ q,(sx.toList == [42])=q:=⟨_,rfl⟩;have HX:Hid (q=r):=jq (by rw[<-HR.out,<-hq,dQ,oF,List.head?_cons,Bool.eq_iff_iff];simp);obtain⟨n,hn⟩:∃ n,(x::xs).length=n:=⟨_,rfl⟩;have lU:0<n:=by rw[<-hn];simp
  have Uw:(0:Int)<(n:Int):=by omega
  rw[hn];clear he hce hc hl hn oF
  cases q with
  | true=>
   go_wp2_with fail;go_ret;exact⟨ae HX.out,HB.out⟩
  | false=>
   go_wp2_with fail;go_ret;exact⟨ae HX.out,HB.out⟩
end
end Go.Proofs.YtfnopgdcaanaiaaGreatDoor
