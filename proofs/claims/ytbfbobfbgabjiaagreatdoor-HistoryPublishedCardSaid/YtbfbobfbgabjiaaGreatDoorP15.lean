/- Parts of the proof. No condition. -/
import Derived.Test.YtbfbobfbgabjiaaGreatDoorP11
import Derived.Test.YtbfbobfbgabjiaaGreatDoorP12
set_option linter.all false
set_option maxRecDepth 100000
set_option maxHeartbeats 8000000
namespace Go.Proofs.YtbfbobfbgabjiaaGreatDoor
open Go.Proofs.Tryz
section
open Go.RowKit
theorem sM{w:World}{B n c:Nat}{A:Option Addr}{xs:List (List UInt8)}(h:SlR RTx 1 w B (.slice A n c) xs){k:Nat}{x:List UInt8}(hx:xs[k]?=some x):∃ (b o:Nat) (s:ByteArray),A=some ⟨b,o,none⟩/\b<B/\s.data.toList=x/\s.size<=140737488355328/\w.cell? ⟨b,o+k,none⟩=some (.string s):=by
 obtain⟨A',c',hv,hc,_,he⟩:=h;simp only[Value.slice.injEq] at hv;obtain⟨rfl,_,_⟩:=hv;obtain⟨b,o,e,rfl,hb,_,hce,s,h1,h2,rfl⟩:=he k x hx;exact⟨b,o,s,rfl,hb,h1,h2,by have:=hce 0 _ rfl; simpa using this⟩
def Np.pX(l:List Np.Signed)(B:List (List UInt8)):Prop:=∀ (i:Nat) (x:Np.Signed) (b:List UInt8),l[i]?=some x->B[i]?=some b->Np.kT x.set b
def Np.AL(l:List Np.Signed)(B:List (List UInt8)):Prop:=∀ (i:Nat) (x:Np.Signed) (b:List UInt8),l[i]?=some x->B[i]?=some b->b≠[]->x.set.type=2\/x.set.type=1->x.sigs = []
theorem No{x:Np.DSet}{b:List UInt8}(hb:b = []):Np.kT x b↔x.type≠6:=by
 subst hb;exact⟨λh=>h.1 rfl,λh=>⟨λ_=>h,λh2=>absurd rfl h2,λh2=>absurd rfl h2⟩⟩
theorem Nq{x:Np.DSet}{b:List UInt8}(hb:b≠[])(he:b=x.name):Np.kT x b↔(x.type=2\/x.type=6\/x.type=8\/x.type=1):=
 ⟨λh=>h.2.1 hb he,λh=>⟨λh2=>absurd h2 hb,λ_ _=>h,λ_ h2=>absurd he h2⟩⟩
theorem Nr{x:Np.DSet}{b:List UInt8}(hb:b≠[])(he:b≠x.name):Np.kT x b↔x.type=1:=
 ⟨λh=>h.2.2 hb he,λh=>⟨λh2=>absurd h2 hb,λ_ h2=>absurd h2 he,λ_ _=>h⟩⟩
theorem Wf(a:ByteArray)(v bv:Value)(l:List Np.Signed)(B:List (List UInt8))(jV:B.length=l.length)(w:World)(hd:SlR bC 5 w w.heap.size v l)(dF:SlR RTx 1 w w.heap.size bv B) :
 Calls prog 105 #[.agg #[.string a,v,bv]] w λe w'=>e = .returned (.bool (Np.yes (Np.pX l B)))/\Below w.heap.size w w':=by
 obtain⟨r,hr⟩:∃ r,Np.yes (Np.pX l B)=r:=⟨_,rfl⟩;rw[hr];have HR:=jq hr;have ed:=jq jV;have HD:=jq hd;have em:=jq dF;obtain⟨A,c,rfl,aV,bi⟩:=ah hd;obtain⟨A2,c2,rfl,dG,dm⟩:=ah dF;rw[jV] at dG dm em |-;clear hr hd dF jV;have HW:Hid (∀ o,Below w.heap.size w (w.alloc o)):=jq (λo=>(vQ _ w).alloc (bQ _) _);go_enter func105,ntmps105;go_wp2_with fail;obtain⟨w1,ak⟩:∃ w1,w.alloc (.cells #[.string a,.slice A l.length c,.slice A2 l.length c2] 163)=w1:=⟨_,rfl⟩;have c2':w1.cell? ⟨w.heap.size,2,none⟩=some (.slice A2 l.length c2):=by rw[<-ak]; simp[go_sem]
 have ep:w.heap.size<w1.heap.size:=by rw[<-ak]; simp
 have ay:Hid (Below w.heap.size w w1):=jq (by rw[<-ak]; exact HW.out _);rw[ak];clear ak;go_loopw [11] (λi wr=>∃ k:Nat,k<=l.length/\i = .int .i64 k/\Hid (Below w1.heap.size w1 wr)/\Hid (∀ j x b,j<k->l[j]?=some x->B[j]?=some b->Np.kT x.set b)) (λi _=>l.length - (intOf i).toNat)
 case atStart=>exact⟨0,jQ _,rfl,jq (vQ _ _),jq (λj x b hj=>by omega)⟩
 case round=>
  obtain⟨k,hk,rfl,HB,HA⟩:=hrel;have am:=HB.out.size;have aw:=jq (ay.out.trans (HB.out.mono (by omega)));by_cases aa:k<l.length
  ·obtain⟨x,ac⟩:∃ x,l[k]?=some x:=⟨_,aQ aa⟩;obtain⟨bb,eI⟩:∃ bb,B[k]?=some bb:=⟨_,aQ (by rw[ed.out]; omega)⟩;obtain⟨b,o,c',sn,dv,sv,hA,bS,_,av,cA,aL,ax,e0,e1,e2,e3,e4⟩:=eE (HD.out.keep aN aw.out) ac
   cases hA
   obtain⟨b2,o2,sb,rfl,yq,mK,JU,g0⟩:=sM (em.out.keep iL aw.out) eI;have HN:Hid (Np.kT x.set bb->∀ j x b,j<k+1->l[j]?=some x->B[j]?=some b->Np.kT x.set b):=jq (λh j x b hj hx hb=>by
    by_cases e:j=k
    ·subst e; rw[ac] at hx; rw[eI] at hb; cases hx; cases hb; exact h
    ·exact HA.out j x b (by omega) hx hb)
   have HF:Hid (¬ Np.kT x.set bb->r=false):=jq (λh=>by
    rw[<-HR.out]; exact Np.aJ λq=>h (q k _ _ ac eI))
   clear ac eI;obtain⟨Ad,cd,rfl,_,_⟩:=ah aL;obtain⟨As,cs,rfl,_,_⟩:=ah ax;have hcell:wr.cell? ⟨w.heap.size,2,none⟩=some (.slice (some ⟨b2,o2,none⟩) l.length c2):=(HB.out.cell (by dsimp only; omega)).trans c2';have dz:w.heap.size<wr.heap.size:=by omega
   have ap:b<wr.heap.size:=by omega
   have ab:b2<wr.heap.size:=by omega
   have aY:Hid (∀ o,Below w1.heap.size w1 (wr.alloc o)):=jq (λo=>HB.out.alloc HB.out.size _);have oW:Hid (∀ o,Below w.heap.size w (wr.alloc o)):=jq (λo=>aw.out.alloc (by omega) _);have bH:(0:Int)<=(k:Int):=by omega
   have bG:(k:Int)<(l.length:Int):=by omega
   have aH:=jq av;have eO:=jq mK;obtain⟨ty,dK⟩:∃ ty,x.set.type=ty:=⟨_,rfl⟩;have fD:=jq dK;rw[dK] at e1;clear av mK aL ax dK;by_cases cN:bb = []
   ·obtain rfl:sb=⟨#[]⟩:=iM (by rw[eO.out,cN]);have bR:=jq (No (x:=x.set) cN);clear cN;by_cases h6:ty=6
    ·have HX:Hid (r=false):=jq (HF.out λh=>(bR.out.1 h) (fD.out.trans h6));subst h6;go_wp2_with fail;go_ret;exact⟨ae HX.out.symm,oW.out _⟩
    ·have HX:=jq (HN.out (bR.out.2 λh=>h6 (fD.out.symm.trans h)));have h6':(ty == 6)=false:=by simpa using h6
     clear h6;go_wp2_with fail;go_roundw
     case rel=>exact⟨k+1,by omega,by go_num,jq (aY.out _),jq HX.out⟩
     case measure=>simp[intOf] <;> omega
   ·have BX:(sb.toList == [])=false:=by rw[dQ,eO.out]; simpa using cN
    by_cases jp:bb=x.set.name
    ·have Ja:(sb.toList == sn.toList)=true:=by rw[dQ,dQ,eO.out,aH.out]; simpa using jp
     have bR:=jq (Nq (x:=x.set) cN jp);clear cN jp;by_cases ht:ty=2\/ty=6\/ty=8\/ty=1
     ·have HX:=jq (HN.out (bR.out.2 (by rw[fD.out]; exact ht)));rcases ht with rfl | rfl | rfl | rfl
      all_goals
       go_wp2_with fail;go_roundw
       case rel=>exact⟨k+1,by omega,by go_num,jq (aY.out _),jq HX.out⟩
       case measure=>simp[intOf] <;> omega
     ·have HX:Hid (r=false):=jq (HF.out λh=>ht (by have:=bR.out.1 h; rwa [fD.out] at this));have t1:(ty != 2)=true:=by simp; omega
      have t2:(ty != 6)=true:=by simp; omega
      have t3:(ty != 8)=true:=by simp; omega
      have t4:(ty != 1)=true:=by simp; omega
      clear ht;go_wp2_with fail;go_ret;exact⟨ae HX.out.symm,oW.out _⟩
    ·have Ja:(sb.toList == sn.toList)=false:=by rw[dQ,dQ,eO.out,aH.out]; simpa using jp
     have bR:=jq (Nr (x:=x.set) cN jp);clear cN jp;by_cases ht:ty=1
     ·have HX:=jq (HN.out (bR.out.2 (by rw[fD.out]; exact ht)));subst ht;go_wp2_with fail;go_roundw
      case rel=>exact⟨k+1,by omega,by go_num,jq (aY.out _),jq HX.out⟩
      case measure=>simp[intOf] <;> omega
     ·have HX:Hid (r=false):=jq (HF.out λh=>ht (by have:=bR.out.1 h; rwa [fD.out] at this));have t4:(ty != 1)=true:=by simpa using ht
      clear ht;go_wp2_with fail;go_ret;exact⟨ae HX.out.symm,oW.out _⟩
  ·go_wp2_with fail;go_ret;refine⟨ae ?_,aw.out⟩;rw[<-HR.out];exact (Np.bM λi x b hx hb=>HA.out i x b (by have:=(cQ.1 hx).1; omega) hx hb).symm
def Np.zx(l:List Np.Signed)(k:Nat)(x:Np.Signed):Prop:=x.set.type=3->(∀ p,0<k->l[k - 1]?=some p->p.set.name≠x.set.name)/\∀ n,l[k+1]?=some n->n.set.name=x.set.name->n.set.type=8
def Np.zy(l:List Np.Signed):Prop:=∀ k x,l[k]?=some x->Np.zx l k x
theorem Vb(a:ByteArray)(v:Value)(A2:Option Addr)(n2 c2:Nat)(l:List Np.Signed)(bV:l.length<=20000)(w:World)(hd:SlR bC 5 w w.heap.size v l) :
 Calls prog 104 #[.agg #[.string a,v,.slice A2 n2 c2]] w λe w'=>e = .returned (.bool (Np.yes (Np.zy l)))/\Below w.heap.size w w':=by
 obtain⟨r,hr⟩:∃ r,Np.yes (Np.zy l)=r:=⟨_,rfl⟩;rw[hr];have HR:=jq hr;have HD:=jq hd;obtain⟨A,c,rfl,aV,bi⟩:=ah hd;clear hr hd;have HW:Hid (∀ o,Below w.heap.size w (w.alloc o)):=jq (λo=>(vQ _ w).alloc (bQ _) _);go_enter func104,ntmps104;go_wp2_with fail;obtain⟨w1,ak⟩:∃ w1,w.alloc (.cells #[.string a,.slice A l.length c,.slice A2 n2 c2] 163)=w1:=⟨_,rfl⟩;have c2':w1.cell? ⟨w.heap.size,1,none⟩=some (.slice A l.length c):=by rw[<-ak]; simp[go_sem]
 have ep:w.heap.size<w1.heap.size:=by rw[<-ak]; simp
 have ay:Hid (Below w.heap.size w w1):=jq (by rw[<-ak]; exact HW.out _);rw[ak];clear ak;go_loopw [10] (λi wr=>∃ k:Nat,k<=l.length/\i = .int .i64 k/\Hid (Below w1.heap.size w1 wr)/\Hid (∀ j x,j<k->l[j]?=some x->Np.zx l j x)) (λi _=>l.length - (intOf i).toNat)
 case atStart=>exact⟨0,jQ _,rfl,jq (vQ _ _),jq (λj x hj=>by omega)⟩
 case round=>
  obtain⟨k,hk,rfl,HB,HA⟩:=hrel;have am:=HB.out.size;have aw:=jq (ay.out.trans (HB.out.mono (by omega)));by_cases aa:k<l.length
  ·obtain⟨x,ac⟩:∃ x,l[k]?=some x:=⟨_,aQ aa⟩;obtain⟨b,o,c',sn,dv,sv,hA,bS,_,av,cA,aL,ax,e0,e1,e2,e3,e4⟩:=eE (HD.out.keep aN aw.out) ac
   cases hA
   have HN:Hid (Np.zx l k x->∀ j x,j<k+1->l[j]?=some x->Np.zx l j x):=jq (λh j y hj hy=>by
    by_cases e:j=k
    ·subst e; rw[ac] at hy; cases hy; exact h
    ·exact HA.out j y (by omega) hy)
   have HF:Hid (¬ Np.zx l k x->r=false):=jq (λh=>by
    rw[<-HR.out]; exact Np.aJ λq=>h (q k x ac))
   have L8:Hid (∀ (m:Nat) (y:Np.Signed),l[m]?=some y->∃ (sy:ByteArray),sy.data.toList=y.set.name/\wr.cell? ⟨b,o+m * 5,none⟩=some (.string sy)/\wr.cell? ⟨b,o+m * 5+1,none⟩=some (.int .i64 y.set.type)):=jq (λm y hy=>by
    obtain⟨b9,o9,c9,sy,dv9,sv9,hA,_,_,iZ,_,_,_,q0,q1,_⟩:=eE (HD.out.keep aN aw.out) hy;simp only[Value.slice.injEq,Option.some.injEq,Addr.mk.injEq,and_true,true_and] at hA;obtain⟨⟨rfl,rfl⟩,-⟩:=hA;exact⟨sy,iZ,q0,q1⟩)
   clear ac;obtain⟨Ad,cd,rfl,_,_⟩:=ah aL;obtain⟨As,cs,rfl,_,_⟩:=ah ax;have hcell:wr.cell? ⟨w.heap.size,1,none⟩=some (.slice (some ⟨b,o,none⟩) l.length c):=(HB.out.cell (by dsimp only; omega)).trans c2';have dz:w.heap.size<wr.heap.size:=by omega
   have ap:b<wr.heap.size:=by omega
   have aY:Hid (∀ o,Below w1.heap.size w1 (wr.alloc o)):=jq (λo=>HB.out.alloc HB.out.size _);have oW:Hid (∀ o,Below w.heap.size w (wr.alloc o)):=jq (λo=>aw.out.alloc (by omega) _);have bH:(0:Int)<=(k:Int):=by omega
   have bG:(k:Int)<(l.length:Int):=by omega
   have aH:=jq av;obtain⟨ty,dK⟩:∃ ty,x.set.type=ty:=⟨_,rfl⟩;have fD:=jq dK;rw[dK] at e1;clear av aL ax dK;by_cases h3:ty=3
   ·obtain⟨w2,aj⟩:∃ w2,wr.alloc (.cells #[.string sn,.int .i64 ty,.int .i64 x.set.life,.slice Ad x.set.data.length cd,.slice As x.sigs.length cs] 68)=w2:=⟨_,rfl⟩;subst h3;have t3:((3:Int) != 3)=false:=by decide
    have I7:∃ q:Bool,Hid (q=true↔∃ p,0<k/\l[k - 1]?=some p/\p.set.name=x.set.name)/\((k=0/\q=false)\/∃ (m:Nat) (y:Np.Signed) (sy:ByteArray),k=m+1/\wr.cell? ⟨b,o+m * 5,none⟩=some (.string sy)/\(sy.toList == sn.toList)=q):=by
     by_cases iY:k=0
     ·exact⟨false,jq ⟨λh=>(by cases h),λ⟨p,h,_⟩=>(by omega)⟩,.inl ⟨iY,rfl⟩⟩
     ·obtain⟨m,rfl⟩:∃ m,k=m+1:=⟨k - 1,by omega⟩;obtain⟨y,hy⟩:∃ y,l[m]?=some y:=⟨_,aQ (by omega)⟩;obtain⟨sy,iZ,q0,q1⟩:=L8.out m y hy;refine⟨_,jq ?_,.inr ⟨m,y,sy,rfl,q0,rfl⟩⟩;rw[dQ,dQ,iZ,aH.out,beq_iff_eq];constructor
      ·intro h; exact⟨y,by omega,by simpa using hy,h⟩
      ·rintro⟨p,_,hp,h⟩;rw[show m+1 - 1=m by omega,hy] at hp
       cases hp; exact h
    have XZ:∃ q1 q2:Bool,Hid (∀ n,l[k+1]?=some n->(q1=true↔n.set.name=x.set.name)/\(q2=true↔n.set.type≠8))/\((l.length=k+1/\q1=false)\/∃ (y:Np.Signed) (sy:ByteArray) (ny:Int),k+1<l.length/\wr.cell? ⟨b,o+(k+1) * 5,none⟩=some (.string sy)/\wr.cell? ⟨b,o+(k+1) * 5+1,none⟩=some (.int .i64 ny)/\(sy.toList == sn.toList)=q1/\(ny != 8)=q2):=by
     by_cases oG:l.length=k+1
     ·exact⟨false,false,jq (λn hn=>by have:=(cQ.1 hn).1; omega),.inl ⟨oG,rfl⟩⟩
     ·obtain⟨y,hy⟩:∃ y,l[k+1]?=some y:=⟨_,aQ (by omega)⟩;obtain⟨sy,iZ,q0,q1⟩:=L8.out (k+1) y hy;refine⟨_,_,jq (λn hn=>?_),.inr ⟨y,sy,y.set.type,by omega,q0,q1,rfl,rfl⟩⟩;rw[hy] at hn; cases hn;rw[dQ,dQ,iZ,aH.out,beq_iff_eq];exact⟨Iff.rfl,by simp⟩
    clear aj w2;obtain⟨qb,rx,B4⟩:=I7;obtain⟨q1,q2,Di,kG⟩:=XZ;have Lo:Hid (∀ o n,Below w1.heap.size w1 ((wr.alloc o).drewN n)):=jq (λo n=>below_drewN (HB.out.alloc HB.out.size _) _);have F0:Hid (∀ o n,Below w.heap.size w ((wr.alloc o).drewN n)):=jq (λo n=>below_drewN (aw.out.alloc (by omega) _) _);have wK:∀ o' n,(wr.alloc o').drewN n=(wr.alloc o').drewN n:=λ_ _=>rfl;clear wK
    cases qb with
    | true=>
     have HX:Hid (r=false):=jq (HF.out λh=>by
      obtain⟨p,yI,hp,he⟩:=rx.out.1 rfl;exact (h fD.out).1 p yI hp he)
     rcases B4 with ⟨_,h⟩ | ⟨m,y,sy,mI,g0,sh⟩
     ·cases h
     ·have ju:decide ((0:Int)<(k:Int))=true:=by simp; omega
      have jw:decide (0<k)=true:=by simp; omega
      have J3:IntKind.i64.wrap ((k:Int) - 1)=(m:Int):=by rw[IntWalk.i64_in _ (by omega)]; omega
      have EP:(k:Int) - 1=(m:Int):=by omega
      have qE:(0:Int)<=(m:Int):=by omega
      have rU:(m:Int)<(l.length:Int):=by omega
      clear mI;go_wp2_with fail;go_quiet (fail);go_wp2_with fail;go_ret;exact⟨ae HX.out.symm,F0.out _ _⟩
    | false=>
     have ar:Hid (∀ p,0<k->l[k - 1]?=some p->p.set.name≠x.set.name):=jq (λp h0 hp he=>by
      have:=rx.out.2 ⟨p,h0,hp,he⟩
      cases this)
     rcases B4 with ⟨iY,_⟩ | ⟨m,y,sy,mI,g0,sh⟩
     ·have ju:decide ((0:Int)<(k:Int))=false:=by simp; omega
      have jw:decide (0<k)=false:=by simp; omega
      clear iY;go_wp2_with fail;go_quiet (fail);go_wp2_with fail;obtain⟨w4,bE⟩:∃ w4,(wr.alloc (.cells #[.string sn,.int .i64 3,.int .i64 x.set.life,.slice Ad x.set.data.length cd,.slice As x.sigs.length cs] 68)).drewN nq=w4:=⟨_,rfl⟩;rw[bE];have vr:Hid (Below w1.heap.size w1 w4):=jq (by rw[<-bE]; exact Lo.out _ _);have Hx:Hid (Below w.heap.size w w4):=jq (by rw[<-bE]; exact F0.out _ _);have an:Below wr.heap.size wr w4:=by rw[<-bE]; exact below_drewN ((vQ _ _).alloc (bQ _) _) _
      have n4:w4.cell? ⟨wr.heap.size,0,none⟩=some (.string sn):=by rw[<-bE]; simp[go_sem]
      have vT:w4.cell? ⟨w.heap.size,1,none⟩=some (.slice (some ⟨b,o,none⟩) l.length c):=(an.cell (by dsimp only; omega)).trans hcell;rcases kG with ⟨oG,rfl⟩ | ⟨y',sy',ny,oG,k0,k1,EI,ua⟩
      ·have HX:=jq (HN.out (λ_=>⟨ar.out,λn hn=>by have:=(cQ.1 hn).1; omega⟩));have aF:decide ((k:Int)+1<(l.length:Int))=false:=by simp; omega
       have dY:decide (k+1<l.length)=false:=by simp; omega
       clear oG;clear an bE;go_wp2_with fail;go_quiet (fail);go_wp2_with fail;go_roundw
       case rel=>exact⟨k+1,by omega,by go_num,jq (below_drewN vr.out _),jq HX.out⟩
       case measure=>simp[intOf] <;> omega
      ·have k04:w4.cell? ⟨b,o+(k+1) * 5,none⟩=some (.string sy'):=(an.cell (by dsimp only; omega)).trans k0;have k14:w4.cell? ⟨b,o+(k+1) * 5+1,none⟩=some (.int .i64 ny):=(an.cell (by dsimp only; omega)).trans k1;obtain⟨j,hj⟩:∃ j,k+1=j:=⟨_,rfl⟩;have ha:IntKind.i64.wrap ((k:Int)+1)=(j:Int):=by rw[IntWalk.i64_in _ (by omega)]; omega
       have XK:(k:Int)+1=(j:Int):=by omega
       have aF:decide ((j:Int)<(l.length:Int))=true:=by simp; omega
       have dY:decide (j<l.length)=true:=by simp; omega
       have iH:(0:Int)<=(j:Int):=by omega
       have pD:(j:Int)<(l.length:Int):=by omega
       rw[hj] at k04 k14 Di;have HJ:=jq hj;have aU:b<w4.heap.size:=by have:=an.size; omega
       clear an bE k0 k1 hj oG;obtain⟨n,hn⟩:∃ n,l[j]?=some n:=⟨_,aQ (by omega)⟩;have ob:=jq (Di.out n hn);have iO:=jq hn;clear hn
       cases q1 with
       | false=>
        have HX:=jq (HN.out (λ_=>⟨ar.out,λn' hn' he=>by
         rw[HJ.out,iO.out] at hn'; cases hn'
         have:=ob.out.1.2 he
         cases this⟩))
        go_wp2_with fail;go_quiet (fail);go_wp2_with fail;go_roundw
        case rel=>exact⟨k+1,by omega,by go_num,jq (below_drewN vr.out _),jq HX.out⟩
        case measure=>simp[intOf] <;> omega
       | true=>
        cases q2 with
        | false=>
         have HX:=jq (HN.out (λ_=>⟨ar.out,λn' hn' _=>by
          rw[HJ.out,iO.out] at hn'; cases hn';refine Decidable.not_not.1 λh8=>?_
          have:=ob.out.2.2 h8
          cases this⟩))
         go_wp2_with fail;go_quiet (fail);go_wp2_with fail;go_roundw
         case rel=>exact⟨k+1,by omega,by go_num,jq (below_drewN vr.out _),jq HX.out⟩
         case measure=>simp[intOf] <;> omega
        | true=>
         have HX:Hid (r=false):=jq (HF.out λh=>(ob.out.2.1 rfl) ((h fD.out).2 n (by rw[HJ.out]; exact iO.out) (ob.out.1.1 rfl)));go_wp2_with fail;go_quiet (fail);go_wp2_with fail;go_ret;exact⟨ae HX.out.symm,below_drewN Hx.out _⟩
     ·have ju:decide ((0:Int)<(k:Int))=true:=by simp; omega
      have jw:decide (0<k)=true:=by simp; omega
      have J3:IntKind.i64.wrap ((k:Int) - 1)=(m:Int):=by rw[IntWalk.i64_in _ (by omega)]; omega
      have EP:(k:Int) - 1=(m:Int):=by omega
      have qE:(0:Int)<=(m:Int):=by omega
      have rU:(m:Int)<(l.length:Int):=by omega
      clear mI;go_wp2_with fail;go_quiet (fail);go_wp2_with fail;obtain⟨w4,bE⟩:∃ w4,(wr.alloc (.cells #[.string sn,.int .i64 3,.int .i64 x.set.life,.slice Ad x.set.data.length cd,.slice As x.sigs.length cs] 68)).drewN nq=w4:=⟨_,rfl⟩;rw[bE];have vr:Hid (Below w1.heap.size w1 w4):=jq (by rw[<-bE]; exact Lo.out _ _);have Hx:Hid (Below w.heap.size w w4):=jq (by rw[<-bE]; exact F0.out _ _);have an:Below wr.heap.size wr w4:=by rw[<-bE]; exact below_drewN ((vQ _ _).alloc (bQ _) _) _
      have n4:w4.cell? ⟨wr.heap.size,0,none⟩=some (.string sn):=by rw[<-bE]; simp[go_sem]
      have vT:w4.cell? ⟨w.heap.size,1,none⟩=some (.slice (some ⟨b,o,none⟩) l.length c):=(an.cell (by dsimp only; omega)).trans hcell;rcases kG with ⟨oG,rfl⟩ | ⟨y',sy',ny,oG,k0,k1,EI,ua⟩
      ·have HX:=jq (HN.out (λ_=>⟨ar.out,λn hn=>by have:=(cQ.1 hn).1; omega⟩));have aF:decide ((k:Int)+1<(l.length:Int))=false:=by simp; omega
       have dY:decide (k+1<l.length)=false:=by simp; omega
       clear oG;clear an bE;go_wp2_with fail;go_quiet (fail);go_wp2_with fail;go_roundw
       case rel=>exact⟨k+1,by omega,by go_num,jq (below_drewN vr.out _),jq HX.out⟩
       case measure=>simp[intOf] <;> omega
      ·have k04:w4.cell? ⟨b,o+(k+1) * 5,none⟩=some (.string sy'):=(an.cell (by dsimp only; omega)).trans k0;have k14:w4.cell? ⟨b,o+(k+1) * 5+1,none⟩=some (.int .i64 ny):=(an.cell (by dsimp only; omega)).trans k1;obtain⟨j,hj⟩:∃ j,k+1=j:=⟨_,rfl⟩;have ha:IntKind.i64.wrap ((k:Int)+1)=(j:Int):=by rw[IntWalk.i64_in _ (by omega)]; omega
       have XK:(k:Int)+1=(j:Int):=by omega
       have aF:decide ((j:Int)<(l.length:Int))=true:=by simp; omega
       have dY:decide (j<l.length)=true:=by simp; omega
       have iH:(0:Int)<=(j:Int):=by omega
       have pD:(j:Int)<(l.length:Int):=by omega
       rw[hj] at k04 k14 Di;have HJ:=jq hj;have aU:b<w4.heap.size:=by have:=an.size; omega
       clear an bE k0 k1 hj oG;obtain⟨n,hn⟩:∃ n,l[j]?=some n:=⟨_,aQ (by omega)⟩;have ob:=jq (Di.out n hn);have iO:=jq hn;clear hn
       cases q1 with
       | false=>
        have HX:=jq (HN.out (λ_=>⟨ar.out,λn' hn' he=>by
         rw[HJ.out,iO.out] at hn'; cases hn'
         have:=ob.out.1.2 he
         cases this⟩))
        go_wp2_with fail;go_quiet (fail);go_wp2_with fail;go_roundw
        case rel=>exact⟨k+1,by omega,by go_num,jq (below_drewN vr.out _),jq HX.out⟩
        case measure=>simp[intOf] <;> omega
       | true=>
        cases q2 with
        | false=>
         have HX:=jq (HN.out (λ_=>⟨ar.out,λn' hn' _=>by
          rw[HJ.out,iO.out] at hn'; cases hn';refine Decidable.not_not.1 λh8=>?_
          have:=ob.out.2.2 h8
          cases this⟩))
         go_wp2_with fail;go_quiet (fail);go_wp2_with fail;go_roundw
         case rel=>exact⟨k+1,by omega,by go_num,jq (below_drewN vr.out _),jq HX.out⟩
         case measure=>simp[intOf] <;> omega
        | true=>
         have HX:Hid (r=false):=jq (HF.out λh=>(ob.out.2.1 rfl) ((h fD.out).2 n (by rw[HJ.out]; exact iO.out) (ob.out.1.1 rfl)));go_wp2_with fail;go_quiet (fail);go_wp2_with fail;go_ret;exact⟨ae HX.out.symm,below_drewN Hx.out _⟩
   ·have HX:=jq (HN.out (λh=>absurd (fD.out.symm.trans h) h3));have h3':(ty != 3)=true:=by simpa using h3
    clear h3;go_wp2_with fail;go_roundw
    case rel=>exact⟨k+1,by omega,by go_num,jq (aY.out _),jq HX.out⟩
    case measure=>simp[intOf] <;> omega
  ·go_wp2_with fail;go_ret;refine⟨ae ?_,aw.out⟩;rw[<-HR.out];exact (Np.bM λi x hx=>HA.out i x (by have:=(cQ.1 hx).1; omega) hx).symm
end
section
open Go.RowKit Go.Shelf
attribute [local go_sem] Oper.semAt_some
theorem fl.block{w w':World}{B:Nat}{xs:List (List UInt8)}(h:fl w B xs)(hb:w'.heap[B]?=w.heap[B]?):fl w' B xs:=λj x hx=>by
 obtain⟨s,h1,h2,h3,h4⟩:=h j x hx;refine⟨s,h1,h2,(iQ (a:=⟨B,j,none⟩) hb).trans h3,?_⟩;rw[<-h4];simp only[World.frozen?,hb]
def MO(w:World)(M b5 b6:Nat)(pre:List (List UInt8))(S:Nat->Prop)(W:World):Prop:=
 (∀ k,S k↔k=M\/k=b5\/k=b6)/\Boxed W b5 38 (.slice (some ⟨M,0,none⟩) 8 8)/\Boxed W b6 3 (.int .i64 ((8 - pre.length:Nat):Int))/\pre.length<=8/\Hid (fl W M (List.replicate (8 - pre.length) []++pre.reverse))/\M<W.heap.size/\Below w.heap.size w W
theorem Qn(w:World)(M b5 b6:Nat)(B:Nat)(hB:w.heap.size<=B):fE B (MO w M b5 b6):=by
 rintro s S W W' ⟨hS,h1,h2,h3,h4,h6,h5⟩ aq;refine⟨hS,ko h1 aq ((hS _).2 (.inr (.inl rfl))),ko h2 aq ((hS _).2 (.inr (.inr rfl))),h3,jq (h4.out.block ?_),lQ h6 aq.size,vF h5 aq hB (bQ _)⟩;exact aq.keep _ h6 (.inr ((hS _).2 (.inl rfl)))
theorem aeQ{p:Nat}{pre:List (List UInt8)}{x:List UInt8}(hp:pre.length=p)(h8:p<8):(List.replicate (8 - p) []++pre.reverse).set (8 - (p+1)) x=List.replicate (8 - (p+1)) []++(pre ++ [x]).reverse:=by
 have e:List.replicate (8 - p) ([]:List UInt8)=List.replicate (8 - (p+1)) [] ++ [[]]:=by
  rw[show 8 - p=(8 - (p+1))+1 by omega,List.replicate_succ']
 rw[e,List.append_assoc,List.set_append_right _ _ (by rw[List.length_replicate]; exact bQ _),List.length_replicate,Nat.sub_self,List.reverse_append];rfl
theorem II:∀ (xs:List (List UInt8)) (n:Nat) (b:Bool),Np.fp xs n b=true->n<=8->n+xs.length<=8
 | [],n,b,_,h=>by simpa using h
 | x::xs,n,b,h,hn=>by
   unfold Np.fp at h;split at h
   ·cases h
   ·rename_i hc;simp only[Bool.or_eq_true,Qa,not_or] at hc;rw[List.length_cons];split at h
    ·have:=II xs (n+1) true h (by omega); omega
    ·split at h
     ·have:=II xs (n+1) false h (by omega); omega
     ·cases h
theorem Vp{l:List UInt8}(h:Np.aD l=true):(Np.aS l).length<=8:=by
 unfold Np.aS;split
 ·simp
 ·rename_i hd;unfold Np.aD at h;rw[Qc hd] at h;split at h
  ·cases h
  ·have:=II _ 0 false h (by omega)
   omega
theorem aeY(t:ByteArray)(hv:Np.aD t.data.toList=true)(w:World) :
 Calls prog 137 #[.string t] w λe w'=>(∃ v,e = .returned (.tuple #[v,.int .i64 0])/\SlR RTx 1 w' w'.heap.size v (Np.eB t.data.toList))/\Below w.heap.size w w':=by
 have ht:t.size<=60:=yY hv;have zD:Hid ((Np.aS t.data.toList).length<=8):=jq (Vp hv);have HV:=jq hv;clear hv;have gh:∀ w:World,(Instr.makeSlice 38 (.int .i64 8) (.int .i64 8)).run prog w = .ok (.slice (some ⟨w.heap.size,0,none⟩) 8 8) (w.alloc (.cells (madeCells #[Value.string ⟨#[]⟩] 8) 9)):=λw=>Kr 8 (by decide) w;have HZ:Hid (∀ j,j<8->(madeCells #[Value.string ⟨#[]⟩] 8)[j]?=some (.string ⟨#[]⟩)):=jq (λj hj=>Kq _ _ hj);generalize madeCells #[Value.string ⟨#[]⟩] 8=Z at gh HZ;refine (callsIn_wide (n:=0)).1 ?_;refine callsIn_of_wp_marks func137 rfl trivial ?_ rfl;simp only[ntmps137,List.size_toArray,List.length_cons,List.length_nil,Nat.reduceAdd,Nat.reduceSub,Array.replicate_succ,Array.replicate_zero,List.push_toArray,List.append_toArray,List.nil_append,List.cons_append];gi_wp2_with fail;refine⟨trivial,rfl,?_⟩;refine (callsIn_wide.2 (valid_any t (by omega) _)).mono ?_;rintro e w1 ⟨rfl,ap⟩;rw[HV.out];have ay:=jq ap;have bL:=ap.size;clear ap;gi_wp2_with fail;have b5:=Boxed.new (w1.alloc (.cells Z 9)) 38 (.slice (some ⟨w1.heap.size,0,none⟩) 8 8);have b6:=Boxed.new ((w1.alloc (.cells Z 9)).alloc (.cells #[.slice (some ⟨w1.heap.size,0,none⟩) 8 8] 38)) 3 (.int .i64 8);simp only[World.size_alloc] at b5 b6;have XF:fl (w1.alloc (.cells Z 9)) w1.heap.size (List.replicate 8 []):=λj x hx=>by
  rw[List.getElem?_replicate] at hx;split at hx
  ·rename_i hj
   cases hx
   exact⟨⟨#[]⟩,rfl,by decide,by simp[go_sem]; exact HZ.out j hj,by simp[go_sem]⟩
  ·cases hx
 refine FM (n₀:=w.heap.size) (w0:=w) (first:=#[.string t]) (captured:=#[]) (gf:=98) rfl (enters_of func98 (by kernel_rfl) rfl) (mk:=λy=>#[.string t,y]) (λ_=>rfl)
  (DC t (by omega) _ w) (ay.out.trans ((((vQ _ w1).alloc (bQ _) _).alloc (by simp) _).alloc (by simp; omega) _ |>.mono bL)) (by simp; omega) (λ_=>rfl) (MO w w1.heap.size (w1.heap.size+1) (w1.heap.size+1+1)) (λ_ _ _ _=>False)
  (Qn _ _ _ _ _ (by simp; omega)) (λc s S W W' h _=>h)
  (λk=>k=w1.heap.size\/k=w1.heap.size+1\/k=w1.heap.size+1+1) (by intro k h; omega) (by intro k h; simp; omega)
  ⟨λ_=>Iff.rfl,b5.alloc _,b6,by simp,jq ((XF.keep (((vQ _ _).alloc (bQ _) _).alloc (by simp) _) (by simp))),by simp; omega,ay.out.trans ((((vQ _ w1).alloc (bQ _) _).alloc (by simp) _).alloc (by simp; omega) _ |>.mono bL)⟩ ?round ?done ?stop
 case round=>
  rintro l0 pre x S W ck hI fG;gi_wp2;refine⟨S,RdStep.refl _ _,λk e=>.inl e,fG,?_⟩;intro l W₂ aq;obtain⟨hS,c5,c6,h8,hrow,IQ,hB⟩:=Qn w _ _ _ _ (by simp; omega) pre S W W₂ hI aq;have kF:pre.length+1<=8:=by
   have:=ck.length_le
   have h9:=zD.out;simp at this;omega
  have hx:x∈Np.aS t.data.toList:=ck.subset (by simp);have ul:x.length<=60:=by have:=Np.DB hx; rw[aT] at this; omega
  have mC:∀ k,S k->k<W₂.heap.size:=λk e=>lQ (fG k e) aq.size;obtain⟨j,hj⟩:∃ j,8 - (pre.length+1)=j:=⟨_,rfl⟩;have hq:((8 - pre.length:Nat):Int)=((j+1:Nat):Int):=by omega
  rw[hq] at c6;have hj8:j<8:=by omega
  obtain⟨sz,_,_,tH,rR⟩:=hrow.out j [] (by rw[List.getElem?_append_left (by rw[List.length_replicate]; omega),List.getElem?_replicate,Qb (by omega)]);have lM:Hid (∀ W',fl W' w1.heap.size (List.replicate (8 - pre.length) []++pre.reverse)->fl (W'.setCell ⟨w1.heap.size,j,none⟩ (aA x)) w1.heap.size (List.replicate (8 - (pre ++ [x]).length) []++(pre ++ [x]).reverse)):=jq (λW' hW=>by
   have h1:=hW.store (k:=j) (by rw[List.length_append,List.length_replicate,List.length_reverse]; omega) ⟨x.toArray⟩ (by rw[<-aT]; simp; omega);have e:((⟨x.toArray⟩:ByteArray).data.toList)=x:=by simp
   rw[e,<-hj,aeQ rfl (by omega)] at h1;rw[List.length_append,List.length_singleton,<-hj];exact h1)
  have HOLD:=jq hrow.out;have cC:=jq c5;have cD:=jq c6;have c5c:=c5.cell;have c6c:=c6.cell;have c5f:=c5.frozen;have c6f:=c6.frozen;have ak:IntKind.i64.wrap (((j+1:Nat):Int) - 1)=(j:Int):=by rw[IntWalk.i64_in _ (by omega)]; omega
  have iH:(0:Int)<=(j:Int):=by omega
  have pD:(j:Int)<8:=by omega
  have HJ:=jq hj;clear hx hq ck hI hrow c5 c6 hj;have hlen:8 - (pre ++ [x]).length=j:=by rw[List.length_append,List.length_singleton]; exact HJ.out
  have xN:=jq hlen;clear hlen;gi_wp2;refine⟨S,((RdStep.refl S W₂).setCell (p:=⟨w1.heap.size+1+1,0,none⟩) (.inl ((hS _).2 (.inr (.inr rfl)))) _).setCell (p:=⟨w1.heap.size,j,none⟩) (.inl ((hS _).2 (.inl rfl))) _,λ_ e=>.inl e,λk e=>by have:=mC k e; simp[World.setCell]; omega,hS,?_,?_,by rw[List.length_append,List.length_singleton]; omega,jq (lM.out _ (HOLD.out.other (by simp <;> omega) _)),by simpa using IQ,(hB.setCell (p:=⟨w1.heap.size+1+1,0,none⟩) (by simp; omega) _).setCell (p:=⟨w1.heap.size,j,none⟩) (by simpa using bL) _⟩
  ·exact eR (eR cC.out (p:=⟨w1.heap.size+1+1,0,none⟩) (by simp) _) (p:=⟨w1.heap.size,j,none⟩) (by simp) _
  ·rw[xN.out];exact eR (cD.out.set _) (p:=⟨w1.heap.size,j,none⟩) (by simp <;> omega) _
 case done=>
  rintro D S W hD gu bD ⟨hS,c5,c6,h8,hrow,IQ,hB⟩ hK;have c5c:=c5.cell;have c6c:=c6.cell;obtain⟨n,hn⟩:∃ n,(Np.aS t.data.toList).length=n:=⟨_,rfl⟩;rw[hn] at c6c h8;obtain⟨q,hq⟩:∃ q,8 - n=q:=⟨_,rfl⟩;rw[hq] at c6c;have wS:q<=8:=by omega
  have oI:(0:Int)<=(q:Int):=by omega
  have EI:(q:Int)<=8:=by omega
  have HN:=jq hn;have HQ:=jq hq;have TR:Hid (w1.heap.size≠D):=jq (λe=>gu ((hS _).2 (.inl e.symm)));have lM:=jq hrow.out;have Mf:Hid (Np.eB t.data.toList=(Np.aS t.data.toList).reverse):=jq (by rw[<-Np.Cx,List.reverse_reverse]);have vt:Hid (∀ x∈Np.aS t.data.toList,x.length<=140737488355328):=jq (λx hx=>by have:=Np.DB hx; rw[aT] at this; omega);clear hrow;by_cases mJ:n=0
  ·have Zm:q=8:=by omega
   have TY:Hid (Np.eB t.data.toList = []):=jq (by rw[Mf.out,rQ (HN.out.trans mJ)]; rfl);clear hn hq c5 c6 mJ;subst Zm;gi_wp2;exact po hK (v:=.tuple #[.slice (some ⟨w1.heap.size,0,none⟩) 0 0,.int .i64 0]) (by simp[results,results137,go_sem]) ⟨⟨_,rfl,by rw[TY.out]; exact⟨_,_,rfl,by simp,by simp,λi x hx=>by simp at hx⟩⟩,pm hB (by have:=ay.out.size; simp at hD; omega) _⟩
  ·have B3:q<8:=by omega
   have a4Y:(q:Int)<8:=by omega
   have kG:¬ q=8:=by omega
   have n7:Hid (8 - q=n):=jq (by omega);have hln:8 - q=n:=by omega
   clear hn hq c5 c6 mJ;gi_wp2;refine po hK (v:=.tuple #[.slice (some ⟨w1.heap.size,q,none⟩) n n,.int .i64 0]) (by simp[results,results137,go_sem]) ⟨⟨_,rfl,?_⟩,pm hB (by have:=ay.out.size; simp at hD; omega) _⟩;have hr:fl (W.putObj D (.deferred none)) w1.heap.size (List.replicate (8 - (Np.aS t.data.toList).length) []++(Np.aS t.data.toList).reverse):=lM.out.block (zQ TR.out);rw[Mf.out];have wN:(Np.aS t.data.toList).reverse.length=n:=by rw[List.length_reverse]; exact HN.out
   refine⟨_,n,by rw[wN],by omega,by omega,λi x hx=>?_⟩;have hin:=(cQ.1 hx).1;obtain⟨s,h1,h2,h3,_⟩:=hr (q+i) x (by rw[HN.out,HQ.out,oQ (by rw[List.length_replicate]; omega),List.length_replicate,show q+i - q=i by omega]; exact hx);refine⟨w1.heap.size,q,[.string s],rfl,by simpa using IQ,rfl,λj v hv=>?_,s,h1,h2,rfl⟩
   match j,hv with
   | 0,hv=>cases hv; simpa using h3
 case stop=>
  rintro D c pre S W hD gu bD iJ h hK;exact h.elim
theorem aNY(s:ByteArray)(h:Np.aD s.data.toList=true)(w:World) :
 Calls prog 128 #[.string s] w λe w'=>e = .returned (.bool (Np.eK s.data.toList))/\Below w.heap.size w w':=by
 have hw:=RX h;obtain⟨ps,gi⟩:∃ ps,Np.eB s.data.toList=ps:=⟨_,rfl⟩;obtain⟨r,hr⟩:∃ r,(ps.head? == some [42])=r:=⟨_,rfl⟩;rw[hw,gi,hr];have rv:=jq gi;have HR:=jq hr;have HV:=jq h;clear hw h gi hr;go_enter func128,ntmps128;go_wp2_with fail;refine (aeY s HV.out _).mono ?_;rw[rv.out];rintro e w1 ⟨⟨v,rfl,hv⟩,hb⟩;have HB:=jq hb;clear hb;obtain⟨A,c,rfl,hc,hl,he⟩:=hv
 cases ps with
 | nil=>
  have HX:Hid (r=false):=jq (by rw[<-HR.out]; rfl);go_wp2_with fail;go_ret;exact⟨ae HX.out.symm,HB.out⟩
 | cons x xs=>
  obtain⟨b,o,e,rfl,bZ,_,hce,sx,qL,_,rfl⟩:=he 0 x rfl;have h0:w1.cell? ⟨b,o,none⟩=some (.string sx):=by have:=hce 0 _ rfl; simpa using this
  obtain⟨q,hq⟩:∃ q,(sx.toList == [42])=q:=⟨_,rfl⟩;have HX:Hid (q=r):=jq (by rw[<-HR.out,<-hq,dQ,qL,List.head?_cons,Bool.eq_iff_iff]; simp);obtain⟨n,hn⟩:∃ n,(x::xs).length=n:=⟨_,rfl⟩;have mJ:0<n:=by rw[<-hn]; simp
  have Y7:(0:Int)<(n:Int):=by omega
  rw[hn];clear he hce hc hl hn qL
  cases q with
  | true=>
   go_wp2_with fail;go_ret;exact⟨ae HX.out,HB.out⟩
  | false=>
   go_wp2_with fail;go_ret;exact⟨ae HX.out,HB.out⟩
end
end Go.Proofs.YtbfbobfbgabjiaaGreatDoor
