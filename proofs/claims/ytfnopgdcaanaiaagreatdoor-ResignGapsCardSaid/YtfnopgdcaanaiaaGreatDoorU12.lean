/- Parts of the proof. No condition. -/
import Derived.Test.YtfnopgdcaanaiaaGreatDoorU09
import Derived.Test.YtfnopgdcaanaiaaGreatDoorU10
set_option linter.all false
set_option maxRecDepth 100000
set_option maxHeartbeats 8000000
namespace Go.Proofs.YtfnopgdcaanaiaaGreatDoor
open Go.Proofs.Tryz
section
open Go.RowKit
def Np.wt(l:List Np.Signed)(k:Nat)(x:Np.Signed):Prop:=x.set.type=3->(∀ p,0<k->l[k - 1]?=some p->p.set.name≠x.set.name)/\∀ n,l[k+1]?=some n->n.set.name=x.set.name->n.set.type=8
def Np.wu(l:List Np.Signed):Prop:=∀ k x,l[k]?=some x->Np.wt l k x
theorem Q0(a:ByteArray)(v:Value)(A2:Option Addr)(n2 c2:Nat)(l:List Np.Signed)(bn:l.length<=20000)(w:World)(hd:SlR cA 5 w w.heap.size v l) :
 Calls prog 201 #[.agg #[.string a,v,.slice A2 n2 c2]] w (aeJ w.heap.size w (.bool (Np.yes (Np.wu l)))):=by
 obtain⟨r,hr⟩:=abK (Np.yes (Np.wu l));rw[hr];have HR:=jq hr;have HD:=jq hd;obtain⟨A,c,rfl,aW,bh⟩:=aj hd;clear hr hd;have HW:Hid (∀ o,Below w.heap.size w (w.alloc o)):=jq (λo=>(vQ _ w).alloc (bQ _) _);go_enter func201,ntmps201;go_wp2_with fail;obtain⟨w1,ak⟩:=abK (w.alloc (.cells #[.string a,.slice A l.length c,.slice A2 n2 c2] 265));have c2':w1.cell? ⟨w.heap.size,1,none⟩=some (.slice A l.length c):=by rw[<-ak];simp[go_sem]
 have bU:w.heap.size<w1.heap.size:=by rw[<-ak];simp
 have ar:Hid (Below w.heap.size w w1):=jq (by rw[<-ak];exact HW.out _);rw[ak];clear ak;go_loopw [10] (λi wr=>∃ k:Nat,k<=l.length/\i = .int .i64 k/\Hid (Below w1.heap.size w1 wr)/\Hid (∀ j x,j<k->l[j]?=some x->Np.wt l j x)) (λi _=>l.length - (intOf i).toNat)
 case atStart=>exact⟨0,jQ _,rfl,jq (vQ _ _),jq (λj x hj=>by omega)⟩
 case round=>
  obtain⟨k,hk,rfl,HB,HA⟩:=hrel;have al:=HB.out.size;have az:=abJ ar HB.out;by_cases aa:k<l.length
  ·obtain⟨x,ac⟩:∃ x,l[k]?=some x:=⟨_,aQ aa⟩;obtain⟨b,o,c',sn,dv,sv,hA,bp,_,aw,cE,aR,aN,e0,e1,e2,e3,e4⟩:=fk (HD.out.keep bI az.out) ac
   cases hA
   have HN:Hid (Np.wt l k x->∀ j x,j<k+1->l[j]?=some x->Np.wt l j x):=jq (λh j y hj hy=>by
    by_cases e:j=k
    ·subst e;rw[ac] at hy;cases hy;exact h
    ·exact HA.out j y (by omega) hy)
   have HF:Hid (¬ Np.wt l k x->r=false):=jq (λh=>by
    rw[<-HR.out];exact Np.aK λq=>h (q k x ac))
   have IW:Hid (∀ (m:Nat) (y:Np.Signed),l[m]?=some y->∃ (sy:ByteArray),sy.data.toList=y.set.name/\wr.cell? ⟨b,o+m * 5,none⟩=some (.string sy)/\wr.cell? ⟨b,o+m * 5+1,none⟩=some (.int .i64 y.set.type)):=jq (λm y hy=>by
    obtain⟨b9,o9,c9,sy,dv9,sv9,hA,_,_,ju,_,_,_,q0,q1,_⟩:=fk (HD.out.keep bI az.out) hy;simp only[Value.slice.injEq,Option.some.injEq,Addr.mk.injEq,and_true,true_and] at hA;obtain⟨⟨rfl,rfl⟩,-⟩:=hA;exact⟨sy,ju,q0,q1⟩)
   clear ac;obtain⟨Ad,cd,rfl,_,_⟩:=aj aR;obtain⟨As,cs,rfl,_,_⟩:=aj aN;have hcell:wr.cell? ⟨w.heap.size,1,none⟩=some (.slice (some ⟨b,o,none⟩) l.length c):=abZ HB.out c2';have bO:w.heap.size<wr.heap.size:=by omega
   have an:b<wr.heap.size:=by omega
   have ba:Hid (∀ o,Below w1.heap.size w1 (wr.alloc o)):=jq (λo=>HB.out.alloc HB.out.size _);have nv:Hid (∀ o,Below w.heap.size w (wr.alloc o)):=jq (λo=>az.out.alloc (by omega) _);have bL:(0:Int)<=(k:Int):=by omega
   have bY:(k:Int)<(l.length:Int):=by omega
   have aS:=jq aw;obtain⟨ty,eD⟩:=abK x.set.type;have eJ:=jq eD;rw[eD] at e1;clear aw aR aN eD;by_cases h3:ty=3
   ·obtain⟨w2,ag⟩:=abK (wr.alloc (.cells #[.string sn,.int .i64 ty,.int .i64 x.set.life,.slice Ad x.set.data.length cd,.slice As x.sigs.length cs] 42));subst h3;have t3:((3:Int) != 3)=false:=by decide
    have FJ:∃ q:Bool,Hid (q=true↔∃ p,0<k/\l[k - 1]?=some p/\p.set.name=x.set.name)/\((k=0/\q=false)\/∃ (m:Nat) (y:Np.Signed) (sy:ByteArray),k=m+1/\wr.cell? ⟨b,o+m * 5,none⟩=some (.string sy)/\(sy.toList == sn.toList)=q):=by
     by_cases gU:k=0
     ·exact⟨false,jq ⟨λh=>(by cases h),λ⟨p,h,_⟩=>(by omega)⟩,.inl ⟨gU,rfl⟩⟩
     ·obtain⟨m,rfl⟩:∃ m,k=m+1:=⟨k - 1,by omega⟩;obtain⟨y,hy⟩:∃ y,l[m]?=some y:=⟨_,aQ (by omega)⟩;obtain⟨sy,ju,q0,q1⟩:=IW.out m y hy;refine⟨_,jq ?_,.inr ⟨m,y,sy,rfl,q0,rfl⟩⟩;rw[dQ,dQ,ju,aS.out,beq_iff_eq];constructor
      ·intro h;exact⟨y,by omega,by simpa using hy,h⟩
      ·rintro⟨p,_,hp,h⟩;rw[show m+1 - 1=m by omega,hy] at hp
       cases hp;exact h
    have Tv:∃ q1 q2:Bool,Hid (∀ n,l[k+1]?=some n->(q1=true↔n.set.name=x.set.name)/\(q2=true↔n.set.type≠8))/\((l.length=k+1/\q1=false)\/∃ (y:Np.Signed) (sy:ByteArray) (ny:Int),k+1<l.length/\wr.cell? ⟨b,o+(k+1) * 5,none⟩=some (.string sy)/\wr.cell? ⟨b,o+(k+1) * 5+1,none⟩=some (.int .i64 ny)/\(sy.toList == sn.toList)=q1/\(ny != 8)=q2):=by
     by_cases mT:l.length=k+1
     ·exact⟨false,false,jq (λn hn=>by have:=(cQ.1 hn).1;omega),.inl ⟨mT,rfl⟩⟩
     ·obtain⟨y,hy⟩:∃ y,l[k+1]?=some y:=⟨_,aQ (by omega)⟩;obtain⟨sy,ju,q0,q1⟩:=IW.out (k+1) y hy;refine⟨_,_,jq (λn hn=>?_),.inr ⟨y,sy,y.set.type,by omega,q0,q1,rfl,rfl⟩⟩;rw[hy] at hn;cases hn;rw[dQ,dQ,ju,aS.out,beq_iff_eq];exact⟨Iff.rfl,by simp⟩
    clear ag w2;obtain⟨qb,pF,zm⟩:=FJ;obtain⟨q1,q2,Bj,jr⟩:=Tv;have Id:Hid (∀ o n,Below w1.heap.size w1 ((wr.alloc o).drewN n)):=jq (λo n=>below_drewN (HB.out.alloc HB.out.size _) _);have DB:Hid (∀ o n,Below w.heap.size w ((wr.alloc o).drewN n)):=jq (λo n=>below_drewN (az.out.alloc (by omega) _) _);have tE:∀ o' n,(wr.alloc o').drewN n=(wr.alloc o').drewN n:=λ_ _=>rfl;clear tE
    cases qb with
    | true=>
     have HX:Hid (r=false):=jq (HF.out λh=>by
      obtain⟨p,LL,hp,he⟩:=pF.out.1 rfl;exact (h eJ.out).1 p LL hp he)
     rcases zm with ⟨_,h⟩ | ⟨m,y,sy,lB,g0,ql⟩
     ·cases h
     ·have iu:decide ((0:Int)<(k:Int))=true:=by simp;omega
      have gV:decide (0<k)=true:=by simp;omega
      have Gy:IntKind.i64.wrap ((k:Int) - 1)=(m:Int):=by rw[IntWalk.i64_in _ (by omega)];omega
      have CE:(k:Int) - 1=(m:Int):=by omega
      have lw:(0:Int)<=(m:Int):=by omega
      have p9:(m:Int)<(l.length:Int):=by omega
      clear lB;go_wp2_with fail;go_quiet (fail);go_wp2_with fail;go_ret;exact⟨ae HX.out.symm,DB.out _ _⟩
    | false=>
     have aB:Hid (∀ p,0<k->l[k - 1]?=some p->p.set.name≠x.set.name):=jq (λp h0 hp he=>by
      have:=pF.out.2 ⟨p,h0,hp,he⟩
      cases this)
     rcases zm with ⟨gU,_⟩ | ⟨m,y,sy,lB,g0,ql⟩
     ·have iu:decide ((0:Int)<(k:Int))=false:=by simp;omega
      have gV:decide (0<k)=false:=by simp;omega
      clear gU;go_wp2_with fail;go_quiet (fail);go_wp2_with fail;obtain⟨w4,bH⟩:=abK ((wr.alloc (.cells #[.string sn,.int .i64 3,.int .i64 x.set.life,.slice Ad x.set.data.length cd,.slice As x.sigs.length cs] 42)).drewN nq);rw[bH];have sV:Hid (Below w1.heap.size w1 w4):=jq (by rw[<-bH];exact Id.out _ _);have EJ:Hid (Below w.heap.size w w4):=jq (by rw[<-bH];exact DB.out _ _);have aq:Below wr.heap.size wr w4:=by rw[<-bH];exact below_drewN ((vQ _ _).alloc (bQ _) _) _
      have n4:w4.cell? ⟨wr.heap.size,0,none⟩=some (.string sn):=by rw[<-bH];simp[go_sem]
      have Ca:w4.cell? ⟨w.heap.size,1,none⟩=some (.slice (some ⟨b,o,none⟩) l.length c):=abZ aq hcell;rcases jr with ⟨mT,rfl⟩ | ⟨y',sy',ny,mT,k0,k1,Gh,rD⟩
      ·have HX:=jq (HN.out (λ_=>⟨aB.out,λn hn=>by have:=(cQ.1 hn).1;omega⟩));have aF:decide ((k:Int)+1<(l.length:Int))=false:=by simp;omega
       have du:decide (k+1<l.length)=false:=by simp;omega
       clear mT;clear aq bH;go_wp2_with fail;go_quiet (fail);go_wp2_with fail;go_roundw
       case rel=>exact⟨k+1,by omega,by go_num,jq (below_drewN sV.out _),jq HX.out⟩
       case measure=>simp[intOf] <;> omega
      ·have k04:w4.cell? ⟨b,o+(k+1) * 5,none⟩=some (.string sy'):=abZ aq k0;have k14:w4.cell? ⟨b,o+(k+1) * 5+1,none⟩=some (.int .i64 ny):=abZ aq k1;obtain⟨j,hj⟩:=abK (k+1);have ha:IntKind.i64.wrap ((k:Int)+1)=(j:Int):=by rw[IntWalk.i64_in _ (by omega)];omega
       have Tk:(k:Int)+1=(j:Int):=by omega
       have aF:decide ((j:Int)<(l.length:Int))=true:=by simp;omega
       have du:decide (j<l.length)=true:=by simp;omega
       have iS:(0:Int)<=(j:Int):=by omega
       have rl:(j:Int)<(l.length:Int):=by omega
       rw[hj] at k04 k14 Bj;have HJ:=jq hj;have aV:b<w4.heap.size:=by have:=aq.size;omega
       clear aq bH k0 k1 hj mT;obtain⟨n,hn⟩:∃ n,l[j]?=some n:=⟨_,aQ (by omega)⟩;have mD:=jq (Bj.out n hn);have fF:=jq hn;clear hn
       cases q1 with
       | false=>
        have HX:=jq (HN.out (λ_=>⟨aB.out,λn' hn' he=>by
         rw[HJ.out,fF.out] at hn';cases hn'
         have:=mD.out.1.2 he
         cases this⟩))
        go_wp2_with fail;go_quiet (fail);go_wp2_with fail;go_roundw
        case rel=>exact⟨k+1,by omega,by go_num,jq (below_drewN sV.out _),jq HX.out⟩
        case measure=>simp[intOf] <;> omega
       | true=>
        cases q2 with
        | false=>
         have HX:=jq (HN.out (λ_=>⟨aB.out,λn' hn' _=>by
          rw[HJ.out,fF.out] at hn';cases hn';refine Decidable.not_not.1 λh8=>?_
          have:=mD.out.2.2 h8
          cases this⟩))
         go_wp2_with fail;go_quiet (fail);go_wp2_with fail;go_roundw
         case rel=>exact⟨k+1,by omega,by go_num,jq (below_drewN sV.out _),jq HX.out⟩
         case measure=>simp[intOf] <;> omega
        | true=>
         have HX:Hid (r=false):=jq (HF.out λh=>(mD.out.2.1 rfl) ((h eJ.out).2 n (by rw[HJ.out];exact fF.out) (mD.out.1.1 rfl)));go_wp2_with fail;go_quiet (fail);go_wp2_with fail;go_ret;exact⟨ae HX.out.symm,below_drewN EJ.out _⟩
     ·have iu:decide ((0:Int)<(k:Int))=true:=by simp;omega
      have gV:decide (0<k)=true:=by simp;omega
      have Gy:IntKind.i64.wrap ((k:Int) - 1)=(m:Int):=by rw[IntWalk.i64_in _ (by omega)];omega
      have CE:(k:Int) - 1=(m:Int):=by omega
      have lw:(0:Int)<=(m:Int):=by omega
      have p9:(m:Int)<(l.length:Int):=by omega
      clear lB;go_wp2_with fail;go_quiet (fail);go_wp2_with fail;obtain⟨w4,bH⟩:=abK ((wr.alloc (.cells #[.string sn,.int .i64 3,.int .i64 x.set.life,.slice Ad x.set.data.length cd,.slice As x.sigs.length cs] 42)).drewN nq);rw[bH];have sV:Hid (Below w1.heap.size w1 w4):=jq (by rw[<-bH];exact Id.out _ _);have EJ:Hid (Below w.heap.size w w4):=jq (by rw[<-bH];exact DB.out _ _);have aq:Below wr.heap.size wr w4:=by rw[<-bH];exact below_drewN ((vQ _ _).alloc (bQ _) _) _
      have n4:w4.cell? ⟨wr.heap.size,0,none⟩=some (.string sn):=by rw[<-bH];simp[go_sem]
      have Ca:w4.cell? ⟨w.heap.size,1,none⟩=some (.slice (some ⟨b,o,none⟩) l.length c):=abZ aq hcell;rcases jr with ⟨mT,rfl⟩ | ⟨y',sy',ny,mT,k0,k1,Gh,rD⟩
      ·have HX:=jq (HN.out (λ_=>⟨aB.out,λn hn=>by have:=(cQ.1 hn).1;omega⟩));have aF:decide ((k:Int)+1<(l.length:Int))=false:=by simp;omega
       have du:decide (k+1<l.length)=false:=by simp;omega
       clear mT;clear aq bH;go_wp2_with fail;go_quiet (fail);go_wp2_with fail;go_roundw
       case rel=>exact⟨k+1,by omega,by go_num,jq (below_drewN sV.out _),jq HX.out⟩
       case measure=>simp[intOf] <;> omega
      ·have k04:w4.cell? ⟨b,o+(k+1) * 5,none⟩=some (.string sy'):=abZ aq k0;have k14:w4.cell? ⟨b,o+(k+1) * 5+1,none⟩=some (.int .i64 ny):=abZ aq k1;obtain⟨j,hj⟩:=abK (k+1);have ha:IntKind.i64.wrap ((k:Int)+1)=(j:Int):=by rw[IntWalk.i64_in _ (by omega)];omega
       have Tk:(k:Int)+1=(j:Int):=by omega
       have aF:decide ((j:Int)<(l.length:Int))=true:=by simp;omega
       have du:decide (j<l.length)=true:=by simp;omega
       have iS:(0:Int)<=(j:Int):=by omega
       have rl:(j:Int)<(l.length:Int):=by omega
       rw[hj] at k04 k14 Bj;have HJ:=jq hj;have aV:b<w4.heap.size:=by have:=aq.size;omega
       clear aq bH k0 k1 hj mT;obtain⟨n,hn⟩:∃ n,l[j]?=some n:=⟨_,aQ (by omega)⟩;have mD:=jq (Bj.out n hn);have fF:=jq hn;clear hn
       cases q1 with
       | false=>
        have HX:=jq (HN.out (λ_=>⟨aB.out,λn' hn' he=>by
         rw[HJ.out,fF.out] at hn';cases hn'
         have:=mD.out.1.2 he
         cases this⟩))
        go_wp2_with fail;go_quiet (fail);go_wp2_with fail;go_roundw
        case rel=>exact⟨k+1,by omega,by go_num,jq (below_drewN sV.out _),jq HX.out⟩
        case measure=>simp[intOf] <;> omega
       | true=>
        cases q2 with
        | false=>
         have HX:=jq (HN.out (λ_=>⟨aB.out,λn' hn' _=>by
          rw[HJ.out,fF.out] at hn';cases hn';refine Decidable.not_not.1 λh8=>?_
          have:=mD.out.2.2 h8
          cases this⟩))
         go_wp2_with fail;go_quiet (fail);go_wp2_with fail;go_roundw
         case rel=>exact⟨k+1,by omega,by go_num,jq (below_drewN sV.out _),jq HX.out⟩
         case measure=>simp[intOf] <;> omega
        | true=>
         have HX:Hid (r=false):=jq (HF.out λh=>(mD.out.2.1 rfl) ((h eJ.out).2 n (by rw[HJ.out];exact fF.out) (mD.out.1.1 rfl)));go_wp2_with fail;go_quiet (fail);go_wp2_with fail;go_ret;exact⟨ae HX.out.symm,below_drewN EJ.out _⟩
   ·have HX:=jq (HN.out (λh=>absurd (eJ.out.symm.trans h) h3));have h3':(ty != 3)=true:=by simpa using h3
    clear h3;go_wp2_with fail;go_roundw
    case rel=>exact⟨k+1,by omega,by go_num,jq (ba.out _),jq HX.out⟩
    case measure=>simp[intOf] <;> omega
  ·go_wp2_with fail;go_ret;refine⟨ae ?_,az.out⟩;rw[<-HR.out];exact (Np.bS λi x hx=>HA.out i x (by have:=(cQ.1 hx).1;omega) hx).symm
theorem WL(a b:ByteArray)(n1 n2 n3 n4 m1 m2 m3 m4:Int)(s1 s2:Int)(w:World):(binOp .neq 50 (.agg #[.string a,.int .i64 n1,.int .i64 n2,.int .i64 n3,.int .i64 n4,.int .u64 s1]) (.agg #[.string b,.int .i64 m1,.int .i64 m2,.int .i64 m3,.int .i64 m4,.int .u64 s2])).run prog w = .ok (.bool (!(a.toList == b.toList&&(n1 == m1&&(n2 == m2&&(n3 == m3&&(n4 == m4&&s1 == s2))))))) w:=by
 have u3:=underlying3;have a3:=isAgg3;have z3:=sizeOf3;have u9:=underlying9;have a9:=isAgg9;have z9:=sizeOf9;have u8:=underlying48;have a8:=isAgg48;have z8:=sizeOf48;have hS:prog.underlying 50=some (.struct (prog.fieldsOf 50)):=by kernel_rfl
 have hp:prog.stoodInHeld 50=false:=by kernel_rfl
 rw[run_neq_struct,show (10000:Nat)=9999+1 from rfl,run_equalIn_agg w 9999 50 _ _ hS hp];simp only[Program.fieldsOf,underlying50];go_simp;by_cases h0:a.toList=b.toList <;> by_cases h1:n1=m1 <;> by_cases h2:n2=m2 <;> by_cases h3:n3=m3 <;> by_cases h4:n4=m4 <;> by_cases h5:s1=s2 <;> simp[h0,h1,h2,h3,h4,h5]
theorem YR{x y:Np.Sig}{a b:ByteArray}(ha:a.data.toList=x.zone)(hb:b.data.toList=y.zone):(!(a.toList == b.toList&&(x.key == y.key&&(x.alg == y.alg&&(x.frm == y.frm&&(x.til == y.til&&x.sum == y.sum))))))=decide (x≠y):=by
 rw[dQ,dQ,ha,hb];obtain⟨z,k,g,f,t,m⟩:=x;obtain⟨z',k',g',f',t',m'⟩:=y;simp only[ne_eq,Np.Sig.mk.injEq];by_cases h0:z=z' <;> by_cases h1:k=k' <;> by_cases h2:g=g' <;> by_cases h3:f=f' <;> by_cases h4:t=t' <;> by_cases h5:m=m' <;> simp[h0,h1,h2,h3,h4,h5]
theorem NL(s1 s2:ByteArray)(t1 l1 t2 l2:Int)(v1 v2 u1 u2:Value)(d1 d2:List Np.Datum)(g1 g2:List Np.Sig)(w:World)(fS:SlR bW 3 w w.heap.size v1 d1)(iO:SlR bW 3 w w.heap.size v2 d2)(pZ:SlR cV 6 w w.heap.size u1 g1)(yM:SlR cV 6 w w.heap.size u2 g2) :
 Calls prog 20 #[.agg #[.string s1,.int .i64 t1,.int .i64 l1,v1,u1],.agg #[.string s2,.int .i64 t2,.int .i64 l2,v2,u2]] w
  λe w'=>e = .returned (.bool (decide ((s1=s2/\t1=t2/\l1=l2/\d1=d2)/\g1=g2)))/\Below w.heap.size w w':=by
 obtain⟨r,hr⟩:=abK (decide ((s1=s2/\t1=t2/\l1=l2/\d1=d2)/\g1=g2));rw[hr];have HR:=jq hr;have wM:=jq fS;have gI:=jq iO;have uq:=jq pZ;have ur:=jq yM;obtain⟨A1,c1,rfl,_,_⟩:=aj fS;obtain⟨A2,c2,rfl,_,_⟩:=aj iO;obtain⟨A3,c3,rfl,_,_⟩:=aj pZ;obtain⟨A4,c4,rfl,_,_⟩:=aj yM;clear fS iO pZ yM hr;obtain⟨d1n,h1⟩:=abK d1.length;obtain⟨d2n,h2⟩:=abK d2.length;obtain⟨n,h3⟩:=abK g1.length;obtain⟨m,h4⟩:=abK g2.length;rw[h1,h2,h3,h4];rw[h1] at wM;rw[h2] at gI;rw[h3] at uq;rw[h4] at ur;have H3:=jq h3;have H4:=jq h4;clear h1 h2 h3 h4;obtain⟨X,hX⟩:=abK w.heap.size;obtain⟨Y,hY⟩:=abK (X+1);obtain⟨W1,am⟩:=abK ((w.alloc (.cells #[.string s1,.int .i64 t1,.int .i64 l1,.slice A1 d1n c1,.slice A3 n c3] 42)).alloc (.cells #[.string s2,.int .i64 t2,.int .i64 l2,.slice A2 d2n c2,.slice A4 m c4] 42));have aI:Below w.heap.size w W1:=by rw[<-am];exact ((vQ _ _).alloc (bQ _) _).alloc (by simp) _
 have kL:W1.heap.size=w.heap.size+2:=by rw[<-am];simp
 have k0:W1.cell? ⟨X,0,none⟩=some (.string s1):=by rw[<-am,<-hX];simp[go_sem]
 have k1:W1.cell? ⟨X,1,none⟩=some (.int .i64 t1):=by rw[<-am,<-hX];simp[go_sem]
 have k2:W1.cell? ⟨X,2,none⟩=some (.int .i64 l1):=by rw[<-am,<-hX];simp[go_sem]
 have k3:W1.cell? ⟨X,3,none⟩=some (.slice A1 d1n c1):=by rw[<-am,<-hX];simp[go_sem]
 have k4:W1.cell? ⟨X,4,none⟩=some (.slice A3 n c3):=by rw[<-am,<-hX];simp[go_sem]
 have j0:W1.cell? ⟨Y,0,none⟩=some (.string s2):=by rw[<-am,<-hY,<-hX];simp[go_sem]
 have j1:W1.cell? ⟨Y,1,none⟩=some (.int .i64 t2):=by rw[<-am,<-hY,<-hX];simp[go_sem]
 have j2:W1.cell? ⟨Y,2,none⟩=some (.int .i64 l2):=by rw[<-am,<-hY,<-hX];simp[go_sem]
 have j3:W1.cell? ⟨Y,3,none⟩=some (.slice A2 d2n c2):=by rw[<-am,<-hY,<-hX];simp[go_sem]
 have j4:W1.cell? ⟨Y,4,none⟩=some (.slice A4 m c4):=by rw[<-am,<-hY,<-hX];simp[go_sem]
 rw[hX] at aI kL wM gI uq ur |-;have aL:=jq aI;clear aI;go_enter func20,ntmps20;go_wp2_with fail;refine (YK s1 s2 t1 l1 t2 l2 _ _ d1 d2 _ ((wM.out.keep cu aL.out).more cS (by omega)) ((gI.out.keep cu aL.out).more cS (by omega))).mono ?_;rintro e w2 ⟨rfl,ab⟩;have aO:=ab.size;replace k0:=abZ ab k0;replace k1:=abZ ab k1;replace k2:=abZ ab k2;replace k3:=abZ ab k3;replace k4:=abZ ab k4;replace j0:=abZ ab j0;replace j1:=abZ ab j1;replace j2:=abZ ab j2;replace j3:=abZ ab j3;replace j4:=abZ ab j4;have ai:=abJ aL ab;clear ab am hX;obtain⟨q,hq⟩:=abK (decide (s1=s2/\t1=t2/\l1=l2/\d1=d2));rw[hq];have mD:=jq hq;clear hq
 cases q with
 | false=>
  have HX:Hid (r=false):=jq (by rw[<-HR.out];exact tQ λh=>(of_decide_eq_false mD.out) h.1);go_wp2_with fail;go_ret;exact⟨ae HX.out.symm,ai.out⟩
 | true=>
  by_cases tJ:n=m
  ·subst tJ;go_wp2_with fail;go_loopw [5] (λi wr=>∃ (k:Nat),k<=n/\i = .int .i64 k/\Hid (Below w2.heap.size w2 wr)/\Hid (g1.take k=g2.take k)) (λi _=>n - (intOf i).toNat)
   case atStart=>exact⟨0,jQ _,rfl,jq (vQ _ _),jq rfl⟩
   case round=>
    obtain⟨k,hk,rfl,cw,HT⟩:=hrel;have al:=cw.out.size;have HB:=abJ ai cw.out;have a4:=abZ cw.out k4;have b4:=abZ cw.out j4;by_cases aa:k<n
    ·obtain⟨x,hx⟩:∃ x,g1[k]?=some x:=⟨_,aQ (by rw[H3.out];exact aa)⟩;obtain⟨y,hy⟩:∃ y,g2[k]?=some y:=⟨_,aQ (by rw[H4.out];exact aa)⟩;obtain⟨b,o,c,sx,hv,bp,rK,_,f0,f1,f2,f3,f4,f5⟩:=oZ (uq.out.keep cT HB.out) hx;obtain⟨b',o',c',sy,hv',yu,ju,_,e0,e1,e2,e3,e4,e5⟩:=oZ (ur.out.keep cT HB.out) hy;simp only[Value.slice.injEq] at hv hv';obtain⟨rfl,_,_⟩:=hv;obtain⟨rfl,_,_⟩:=hv';have lO:Hid (x=y->g1.take (k+1)=g2.take (k+1)):=jq (λe=>by
      obtain⟨q1,q2⟩:=cQ.1 hx;obtain⟨q3,q4⟩:=cQ.1 hy;rw[fQ q1,fQ q3,q2,q4,HT.out,e])
     have ie:Hid (x≠y->r=false):=jq (λe=>by
      rw[<-HR.out];refine tQ λh=>e ?_;have h2:=h.2;subst h2;rw[hx] at hy;simpa using hy)
     have bL:(0:Int)<=(k:Int):=by omega
     have bY:(k:Int)<(n:Int):=by omega
     have heq:=WL sx sy x.key x.alg x.frm x.til y.key y.alg y.frm y.til x.sum y.sum;rw[YR rK ju] at heq;clear hx hy rK ju;by_cases bF:x=y
     ·have HX:=jq (lO.out bF);have jw:decide (x≠y)=false:=by simpa using bF
      rw[jw] at heq;clear jw bF;go_wp2_with fail;go_quiet (fail);go_wp2_with fail;go_roundw
      case rel=>exact⟨k+1,by omega,by go_num,jq (below_drewN cw.out _),HX⟩
      case measure=>simp[intOf] <;> omega
     ·have HX:=jq (ie.out bF);have jw:decide (x≠y)=true:=uQ bF;rw[jw] at heq;clear jw bF;go_wp2_with fail;go_quiet (fail);go_wp2_with fail;go_ret;exact⟨ae HX.out.symm,below_drewN HB.out _⟩
    ·have HX:Hid (r=true):=jq (by
      rw[<-HR.out];refine uQ ⟨of_decide_eq_true mD.out,?_⟩
      have:=HT.out
      rwa [kQ (by rw[H3.out];omega),kQ (by rw[H4.out];omega)] at this)
     go_wp2_with fail;go_ret;exact⟨ae HX.out.symm,HB.out⟩
  ·have hne:(n:Int)≠(m:Int):=by omega
   have hd:decide ((n:Int)=(m:Int))=false:=tQ hne;have hb:((n:Int) == (m:Int))=false:=by simpa using hne
   have HX:Hid (r=false):=jq (by rw[<-HR.out];exact tQ λh=>tJ (by rw[<-H3.out,<-H4.out,h.2]));go_wp2_with fail;go_ret;exact⟨ae HX.out.symm,ai.out⟩
theorem jR.fresh(b:Nat)(r:Option Nat)(W:World)(T:TypeId)(ns:List Int)(hb:b<W.heap.size)(hr:∀ k,r=some k->k<W.heap.size):jR b r (W.alloc (.cells (ns.map (Value.int .i64)).toArray T)) (.slice (some ⟨W.heap.size,0,none⟩) ns.length ns.length) ns:=by
 refine⟨_,_,rfl,bQ _,λi x hx=>⟨W.heap.size,0,rfl,by simp,by omega,λe=>by have:=hr _ e;omega,?_⟩⟩;rw[World.cell?_alloc_new];simp[hx]
structure KeyS(s:Np.Signed):Prop where
 name:s.set.name.length<=1000
 type:0<=s.set.type/\s.set.type<=1000000000
 life:0<=s.set.life/\s.set.life<=1000000000
 few:s.set.data.length<=100
 data:∀ d∈s.set.data,d.text.length<=1000/\(0<=d.n/\d.n<=1000000000)/\0<=d.m/\d.m<=1000000000
 fewS:s.sigs.length<=100
 sigs:∀ g∈s.sigs,g.zone.length<=1000/\(0<=g.key/\g.key<=1000000000)/\(0<=g.alg/\g.alg<=1000000000)/\(0<=g.frm/\g.frm<=1000000000)/\(0<=g.til/\g.til<=1000000000)/\0<=g.sum/\g.sum<18446744073709551616
def lT(f:List (List UInt8))(d:List Np.Datum):List UInt8:=Np.fG (f++d.flatMap Np.qX)
def lU(f:List (List UInt8))(g:List Np.Sig):List UInt8:=Np.fG (f++g.flatMap Np.qA)
theorem QW{f:List (List UInt8)}{d:List Np.Datum}{k:Nat}{x:Np.Datum}(hx:d[k]?=some x):lT f (d.take (k+1))=lT f (d.take k)++Np.fG (x.text :: [x.n,x.m].map Np.ck):=by
 obtain⟨hl,he⟩:=cQ.1 hx;rw[fQ hl,he];unfold lT;rw[List.flatMap_append,<-List.append_assoc,R7];rfl
theorem QX{f:List (List UInt8)}{d:List Np.Sig}{k:Nat}{x:Np.Sig}(hx:d[k]?=some x):lU f (d.take (k+1))=lU f (d.take k)++Np.fG (x.zone :: [x.key,x.alg,x.frm,x.til].map Np.ck)++Np.fG (Np.ck x.sum::([]:List Int).map Np.ck):=by
 obtain⟨hl,he⟩:=cQ.1 hx;rw[fQ hl,he];unfold lU;simp[Np.fG,Np.qA]
theorem BF{s:List UInt8}{ns:List Int}(hs:s.length<=1000)(hn:ns.length<=4)(h:∀ n∈ns,n<=1000000000):(Np.fG (s::ns.map Np.ck)).length<=1900:=by
 have:=Ni ns s (λn hm=>by have:=h n hm;omega)
 rw[GX] at this;omega
theorem Zi(s:ByteArray)(ty life:Int)(dv sv:Value)(d:List Np.Datum)(g:List Np.Sig)(w:World)(hP:gu w)(hK:KeyS ⟨⟨s.data.toList,ty,life,d⟩,g⟩)(hd:SlR bW 3 w w.heap.size dv d)(hg:SlR cV 6 w w.heap.size sv g) :
 Calls prog 139 #[.agg #[.string s,.int .i64 ty,.int .i64 life,dv,sv]] w λe w'=>e = .returned (ay (Np.iz ⟨⟨s.data.toList,ty,life,d⟩,g⟩))/\Below w.heap.size w w':=by
 have HK:=jq hK;have HD:=jq hd;have HG:=jq hg;have HP:=jq hP;have Fy:=hP.lt;have D8:Hid (∀ f,f = [s.data.toList,Np.ck ty,Np.ck life,Np.ck d.length]->lU (f++d.flatMap Np.qX) g=Np.iz ⟨⟨s.data.toList,ty,life,d⟩,g⟩):=jq (λf hf=>by subst hf;unfold lU Np.iz Np.xY;rw[List.append_assoc]);have AV:Hid (Np.fG (s.data.toList :: [ty,life,(d.length:Int)].map Np.ck)=lT [s.data.toList,Np.ck ty,Np.ck life,Np.ck d.length] []):=jq (by simp[lT]);have al:s.size<=1000:=by have:=hK.name;rw[<-aX];exact this
 have yG:d.length<=100:=hK.few;have yP:g.length<=100:=hK.fewS;obtain⟨A1,c1,rfl,_,_⟩:=aj hd;obtain⟨A2,c2,rfl,_,_⟩:=aj hg;obtain⟨n1,bG⟩:=abK d.length;obtain⟨n2,ct⟩:=abK g.length;rw[bG] at HD D8 AV yG |-;rw[ct] at HG yP |-;have k9:=jq bG;have jM:=jq ct;clear bG ct hd hg hK hP;obtain⟨f0,iP⟩:∃ f0,[s.data.toList,Np.ck ty,Np.ck life,Np.ck n1]=f0:=⟨_,rfl⟩;have nA:=jq (D8.out f0 iP.symm);rw[iP] at AV;clear iP D8;obtain⟨X,hX⟩:=abK w.heap.size;obtain⟨Y,hY⟩:=abK (X+1);obtain⟨W0,dV⟩:=abK (w.alloc (.cells #[.string s,.int .i64 ty,.int .i64 life,.slice A1 n1 c1,.slice A2 n2 c2] 42));have dI:W0.heap.size=Y:=by rw[<-dV,<-hY,<-hX];simp
 obtain⟨W1,am⟩:=abK (W0.alloc (.cells #[.pointer none,.slice none 0 0] 198));have br:Below X w W0:=by rw[<-dV];exact (vQ _ _).alloc (Nat.le_of_eq hX.symm) _
 have an:Below Y W0 W1:=by rw[<-am];exact (vQ _ _).alloc (Nat.le_of_eq dI.symm) _
 have bg:W1.heap.size=Y+1:=by rw[<-am,<-dI];simp
 have O6:Hid (Bld 198 Y Y none [] W1):=jq (by rw[<-am,<-dI];exact Bld.fresh _ _);have k0:W1.cell? ⟨X,0,none⟩=some (.string s):=abZ an (by rw[<-dV,<-hX];simp[go_sem]);have k1:W1.cell? ⟨X,1,none⟩=some (.int .i64 ty):=abZ an (by rw[<-dV,<-hX];simp[go_sem]);have k2:W1.cell? ⟨X,2,none⟩=some (.int .i64 life):=abZ an (by rw[<-dV,<-hX];simp[go_sem]);have k3:W1.cell? ⟨X,3,none⟩=some (.slice A1 n1 c1):=abZ an (by rw[<-dV,<-hX];simp[go_sem]);have k4:W1.cell? ⟨X,4,none⟩=some (.slice A2 n2 c2):=abZ an (by rw[<-dV,<-hX];simp[go_sem]);obtain⟨W2,FA⟩:=abK (W1.alloc (.cells #[.int .i64 ty,.int .i64 life,.int .i64 (n1:Int)] 3));have ab:Below W1.heap.size W1 W2:=by rw[<-FA];exact (vQ _ _).alloc (bQ _) _
 have P5:Hid (jR Y none W2 (.slice (some ⟨Y+1,0,none⟩) 3 3) [ty,life,(n1:Int)]):=jq (by rw[<-FA,<-bg];exact jR.fresh Y none W1 _ [ty,life,(n1:Int)] (by omega) (λk h=>by cases h));have aL:Hid (Below Y W0 W2):=jq (an.trans (ab.acQ));have az:=jq br;have sm:=jq ab;have KT:X<W1.heap.size:=by omega
 have Tj:Y<W1.heap.size:=by omega
 clear br an ab;rw[hX] at HD HG Fy |-;go_enter func139,ntmps139;go_wp2_with fail;have aO:Y+1<=W2.heap.size:=by have:=sm.out.size;omega
 have j3:=abZ sm.out k3;have j4:=abZ sm.out k4;have xm:Hid (gu W2):=jq (HP.out.keepAt (az.out.trans (aL.out.acQ)) (by omega));clear k0 k1 k2 k3 k4 dV am FA hX KT Tj;have xz:Hid (∀ n∈[ty,life,(n1:Int)],0<=n/\n<=1000000000):=jq (λn hn=>by
  have h1:=HK.out.type;have h2:=HK.out.life;dsimp only at h1 h2;simp only[List.mem_cons,Qh,or_false] at hn;rcases hn with rfl | rfl | rfl <;> omega)
 refine (CY Y Y none [] s _ _ W2 (O6.out.keep sm.out) P5.out (λn hn=>by have:=xz.out n hn;omega) (by simp) (by omega) (by simp) (by omega) xm.out (by omega)).mono ?_;rintro e w3 ⟨rfl,r3,mb,cR⟩;rw[AV.out] at mb;have ah:Below Y W2 w3:=cR.below (bQ _) (λk h=>by cases h) (by omega);have PR:Hid (Bld 198 Y Y r3 (lT f0 []) w3):=jq (by simpa using mb);have fW:=ah.size;have i3:=abZ ah j3;have i4:=abZ ah j4;have aB:Hid (Below X w w3):=jq (az.out.trans ((aL.out.trans ah).acQ));have qF:Hid ((lT f0 []).length<=2000):=jq (by
  rw[<-AV.out]
  have:=BF (s:=s.data.toList) (ns:=[ty,life,(n1:Int)]) HK.out.name (by simp) (λn hn=>(xz.out n hn).2)
  omega)
 clear mb cR ah j3 j4;go_wp2_with fail;go_loopw [30] (λi wr=>∃ (k:Nat) (r:Option Nat),k<=n1/\i = .int .i64 k/\Y+1<=wr.heap.size/\Hid (Bld 198 Y Y r (lT f0 (d.take k)) wr)/\Hid (Below Y w3 wr)/\Hid ((lT f0 (d.take k)).length<=2000 * (k+1))) (λi _=>n1 - (intOf i).toNat)
 case atStart=>exact⟨0,r3,jQ _,rfl,by omega,by simpa using PR,jq (vQ _ _),by simpa using qF⟩
 case round=>
  obtain⟨k,r,hk,rfl,KV,HL,cw,HA⟩:=hrel;have HB:=abJ aB cw.out;have q3:=abZ cw.out i3;have q4:=abZ cw.out i4;by_cases aa:k<n1
  ·obtain⟨x,ac⟩:∃ x,d[k]?=some x:=⟨_,aQ (by rw[k9.out];exact aa)⟩;obtain⟨b,o,c',t,hA,bp,_,ht,Gt,g0,g1,g2⟩:=E3 (HD.out.keep cu HB.out) ac;simp only[Value.slice.injEq] at hA;obtain⟨rfl,-,rfl⟩:=hA;have HT:=jq (QW (f:=f0) ac);have HX:=jq (HK.out.data x (gQ ac));have EI:=jq ht;have rL:t.size<=1000:=by rw[<-aX,ht];exact HX.out.1
   clear ac ht Gt;have bL:(0:Int)<=(k:Int):=by omega
   have bY:(k:Int)<(n1:Int):=by omega
   obtain⟨w4,bH⟩:=abK (wr.alloc (.cells #[.string t,.int .i64 x.n,.int .i64 x.m] 128));have gX:w4.heap.size=wr.heap.size+1:=by rw[<-bH];simp
   have aq:Below wr.heap.size wr w4:=by rw[<-bH];exact (vQ _ _).alloc (bQ _) _
   have p0:w4.cell? ⟨wr.heap.size,0,none⟩=some (.string t):=by rw[<-bH];simp[go_sem]
   have p1:w4.cell? ⟨wr.heap.size,1,none⟩=some (.int .i64 x.n):=by rw[<-bH];simp[go_sem]
   have p2:w4.cell? ⟨wr.heap.size,2,none⟩=some (.int .i64 x.m):=by rw[<-bH];simp[go_sem]
   obtain⟨w5,aJ⟩:=abK (w4.alloc (.cells #[.int .i64 x.n,.int .i64 x.m] 3));have aF:Below w4.heap.size w4 w5:=by rw[<-aJ];exact (vQ _ _).alloc (bQ _) _
   have nM:Below wr.heap.size wr w5:=aq.trans (aF.acQ);have uw:Hid (jR Y r w5 (.slice (some ⟨wr.heap.size+1,0,none⟩) 2 2) [x.n,x.m]):=jq (by rw[<-aJ,<-gX];exact jR.fresh Y r w4 _ [x.n,x.m] (by omega) (λk h=>by have:=(HL.out.row.2.2 k h).2;omega));have qK:=jq (HL.out.keep nM);have qL:Hid (gu w5):=jq (HP.out.keepAt (HB.out.trans (nM.acQ)) Fy);have kJ:=nM.size;have ui:=jq nM;clear aq aF nM;go_wp2_with fail;clear bH aJ p0 p1 p2;refine (CY Y Y r _ t _ _ w5 qK.out uw.out (λn hn=>by
    have h1:=HX.out.2;simp only[List.mem_cons,Qh,or_false] at hn;rcases hn with rfl | rfl <;> omega) (by have:=HA.out;omega) (by omega) (by simp) (by omega) qL.out (by omega)).mono ?_
   rw[EI.out,<-HT.out];rintro e w6 ⟨rfl,r6,yZ,oL⟩;have aV:Below Y w5 w6:=oL.below (bQ _) (λk h=>(qK.out.row.2.2 k h).1) (by omega);have H6:=jq (And.intro yZ (cw.out.trans ((ui.out.acQ).trans aV)));have ke:=aV.size;have fB:Hid ((lT f0 (d.take (k+1))).length<=2000 * (k+1+1)):=jq (by
    rw[HT.out,List.length_append]
    have:=HA.out
    have:=BF (s:=x.text) (ns:=[x.n,x.m]) HX.out.1 (by simp) (λn hn=>by
     have h1:=HX.out.2;simp only[List.mem_cons,Qh,or_false] at hn;rcases hn with rfl | rfl <;> omega)
    omega)
   clear yZ oL aV;go_wp2_with fail;go_roundw
   case rel=>exact⟨k+1,r6,by omega,by go_num,by omega,jq H6.out.1,jq H6.out.2,fB⟩
   case measure=>simp[intOf] <;> omega
  ·have jO:Hid (d.take k=d):=jq (kQ (by rw[k9.out];omega));have OX:Hid ((lT f0 d).length<=202000):=jq (by have:=HA.out;rw[jO.out] at this;omega);rw[jO.out] at HL;go_wp2_with fail;clear aa hk;obtain⟨wo,rfl⟩:=abX wr;obtain⟨f1,nO⟩:=abK (f0++d.flatMap Np.qX);have xb:=jq nA.out;rw[nO] at xb;have PW:Hid (Bld 198 Y Y r (lU f1 []) wo):=jq (by have:=HL.out;unfold lT at this;rw[nO] at this;simpa [lU] using this);have HAS:Hid ((lU f1 []).length<=202000):=jq (by have:=OX.out;unfold lT at this;rw[nO] at this;simpa [lU] using this);clear nO;go_loopw [47] (λi wr=>∃ (k:Nat) (r:Option Nat),k<=n2/\i = .int .i64 k/\Y+1<=wr.heap.size/\Hid (Bld 198 Y Y r (lU f1 (g.take k)) wr)/\Hid (Below Y wo wr)/\Hid ((lU f1 (g.take k)).length<=202000+4000 * k)) (λi _=>n2 - (intOf i).toNat)
   case atStart=>exact⟨0,r,jQ _,rfl,by omega,by simpa using PW,jq (vQ _ _),by simpa using HAS⟩
   case round=>
    obtain⟨k,r,hk,rfl,KV,HL,lK,HA⟩:=hrel;have HC:=abJ HB lK.out;have s4:=abZ lK.out q4;by_cases aa:k<n2
    ·obtain⟨x,ac⟩:∃ x,g[k]?=some x:=⟨_,aQ (by rw[jM.out];exact aa)⟩;obtain⟨b,o,c',t,hA,bp,ht,Gt,g0,g1,g2,g3,g4,g5⟩:=oZ (HG.out.keep cT HC.out) ac;simp only[Value.slice.injEq] at hA;obtain⟨rfl,-,rfl⟩:=hA;have HT:=jq (QX (f:=f1) ac);have HX:=jq (HK.out.sigs x (gQ ac));have EI:=jq ht;have rL:t.size<=1000:=by rw[<-aX,ht];exact HX.out.1
     clear ac ht Gt;have bL:(0:Int)<=(k:Int):=by omega
     have bY:(k:Int)<(n2:Int):=by omega
     have Bo:Hid (∀ n∈[x.key,x.alg,x.frm,x.til],0<=n/\n<=1000000000):=jq (λn hn=>by
      have h1:=HX.out.2;simp only[List.mem_cons,Qh,or_false] at hn;rcases hn with rfl | rfl | rfl | rfl <;> omega)
     obtain⟨w4,bH⟩:=abK (wr.alloc (.cells #[.string t,.int .i64 x.key,.int .i64 x.alg,.int .i64 x.frm,.int .i64 x.til,.int .u64 x.sum] 50));have gX:w4.heap.size=wr.heap.size+1:=by rw[<-bH];simp
     have aq:Below wr.heap.size wr w4:=by rw[<-bH];exact (vQ _ _).alloc (bQ _) _
     have p0:w4.cell? ⟨wr.heap.size,0,none⟩=some (.string t):=by rw[<-bH];simp[go_sem]
     have p1:w4.cell? ⟨wr.heap.size,1,none⟩=some (.int .i64 x.key):=by rw[<-bH];simp[go_sem]
     have p2:w4.cell? ⟨wr.heap.size,2,none⟩=some (.int .i64 x.alg):=by rw[<-bH];simp[go_sem]
     have p3:w4.cell? ⟨wr.heap.size,3,none⟩=some (.int .i64 x.frm):=by rw[<-bH];simp[go_sem]
     have p4:w4.cell? ⟨wr.heap.size,4,none⟩=some (.int .i64 x.til):=by rw[<-bH];simp[go_sem]
     have p5:w4.cell? ⟨wr.heap.size,5,none⟩=some (.int .u64 x.sum):=by rw[<-bH];simp[go_sem]
     obtain⟨w5,aJ⟩:=abK (w4.alloc (.cells #[.int .i64 x.key,.int .i64 x.alg,.int .i64 x.frm,.int .i64 x.til] 3));have aF:Below w4.heap.size w4 w5:=by rw[<-aJ];exact (vQ _ _).alloc (bQ _) _
     have nM:Below wr.heap.size wr w5:=aq.trans (aF.acQ);have uw:Hid (jR Y r w5 (.slice (some ⟨wr.heap.size+1,0,none⟩) 4 4) [x.key,x.alg,x.frm,x.til]):=jq (by rw[<-aJ,<-gX];exact jR.fresh Y r w4 _ [x.key,x.alg,x.frm,x.til] (by omega) (λk h=>by have:=(HL.out.row.2.2 k h).2;omega));have o5:=abZ aF p5;have ki:Hid (∀ k,r=some k->k<wr.heap.size):=jq (λk h=>(HL.out.row.2.2 k h).2);have qK:=jq (HL.out.keep nM);have qL:Hid (gu w5):=jq (HP.out.keepAt (HC.out.trans (nM.acQ)) Fy);have kJ:=nM.size;have auK:=aF.size;have ui:=jq nM;clear aq aF nM;go_wp2_with fail;clear bH aJ p0 p1 p2 p3 p4 p5;refine (CY Y Y r _ t _ _ w5 qK.out uw.out (λn hn=>by have:=Bo.out n hn;omega) (by have:=HA.out;omega) (by omega) (by simp) (by omega) qL.out (by omega)).mono ?_;rw[EI.out];rintro e w6 ⟨rfl,r6,yZ,oL⟩;have aV:Below Y w5 w6:=oL.below (bQ _) (λk h=>(qK.out.row.2.2 k h).1) (by omega);have Is:Hid ((Np.fG (x.zone :: [x.key,x.alg,x.frm,x.til].map Np.ck)).length<=1900):=jq (BF HX.out.1 (by simp) (λn hn=>(Bo.out n hn).2));have t5:=(oL.cell (k:=wr.heap.size) (by omega) (by omega) (λe=>by have:=ki.out _ e;omega) 5).trans o5;have PU:=jq yZ;have Tt:=jq (lK.out.trans ((ui.out.acQ).trans aV));have ke:=aV.size;have I2:Hid (gu w6):=jq (qL.out.keepAt aV (by omega));clear yZ oL aV o5;go_wp2_with fail;refine (St x.sum HX.out.2.2.2.2.2.1 HX.out.2.2.2.2.2.2 w6 I2.out).mono ?_;rintro e w7 ⟨rfl,du⟩;have rN:=du.size;have AZ:=jq (PU.out.keep du);have Qe:=jq (I2.out.keep du);have iF:=abJ Tt du;have uz:Hid ((⟨(Np.ck x.sum).toArray⟩:ByteArray).size<=100):=jq (by rw[<-aX];have:=xW HX.out.2.2.2.2.2.2;simp;omega);clear du t5;go_wp2_with fail;refine (CY Y Y r6 _ ⟨(Np.ck x.sum).toArray⟩ _ [] w7 AZ.out (jR.nil _ _ _) (λn hn=>by cases hn) (by have:=HA.out;have:=Is.out;rw[List.length_append];omega) (by have:=uz.out;omega) (by simp) (by omega) Qe.out (by omega)).mono ?_;rintro e w8 ⟨rfl,r8,Lr,LU⟩;have fP:Below Y w7 w8:=LU.below (bQ _) (λk h=>(AZ.out.row.2.2 k h).1) (by omega);have vI:=fP.size;have H8:Hid (Bld 198 Y Y r8 (lU f1 (g.take (k+1))) w8/\Below Y wo w8):=jq ⟨by rw[HT.out];simpa using Lr,iF.out.trans fP⟩;have sh:Hid ((lU f1 (g.take (k+1))).length<=202000+4000 * (k+1)):=jq (by
      rw[HT.out,List.length_append,List.length_append]
      have:=HA.out
      have:=Is.out
      have:=BF (s:=Np.ck x.sum) (ns:=[]) (by have:=xW HX.out.2.2.2.2.2.2;omega) (by simp) (λn hn=>by cases hn)
      omega)
     clear Lr LU fP;go_wp2_with fail;go_roundw
     case rel=>exact⟨k+1,r8,by omega,by go_num,by omega,jq H8.out.1,jq H8.out.2,sh⟩
     case measure=>simp[intOf] <;> omega
    ·have jO:Hid (g.take k=g):=jq (kQ (by rw[jM.out];omega));rw[jO.out] at HL;go_wp2_with fail;refine (Y6 Y Y _ wr HL.out.read).mono ?_;rw[xb.out];rintro e w9 ⟨rfl,_,dj⟩;have gH:=abJ HC dj;clear dj;go_wp2_with fail;go_ret;exact⟨rfl,gH.out⟩

def TxK(Y Z E n:Nat)(l:List UInt8)(w:World):Prop:=l.length<=n/\Z<w.heap.size/\Y<Z/\(E<w.heap.size/\E≠Y)/\w.cell? ⟨Z,0,none⟩=some (.func (.func 128) #[] #[.pointer (some ⟨Y,0,none⟩)])/\∃ r,Bld 198 Y Y r l w/\r≠some Z/\r≠some E
theorem TxK.keep{Y Z E n:Nat}{l:List UInt8}{w w':World}(h:TxK Y Z E n l w)(hb:Below w.heap.size w w'):TxK Y Z E n l w':=by
 obtain⟨h1,h2,h3,h7,h4,r,h5,h6⟩:=h;exact⟨h1,lQ h2 hb.size,h3,⟨lQ h7.1 hb.size,h7.2⟩,(hb.cell (p:=⟨Z,0,none⟩) h2).trans h4,r,h5.keep hb,h6⟩
theorem TxK.more{Y Z E n m:Nat}{l:List UInt8}{w:World}(h:TxK Y Z E n l w)(hn:n<=m):TxK Y Z E m l w:=⟨yQ h.1 hn,h.2⟩
theorem TxK.fresh{Y Z E n:Nat}{l:List UInt8}{w w':World}(h:TxK Y Z E n l w)(hb:Below w.heap.size w w')(hz:w.heap.size<w'.heap.size):TxK Y Z w.heap.size n l w':=by
 obtain⟨h1,h2,h3,h7,h4,r,h5,h6,_⟩:=h;exact⟨h1,lQ h2 hb.size,h3,⟨hz,by omega⟩,(hb.cell (p:=⟨Z,0,none⟩) h2).trans h4,r,h5.keep hb,h6,λe=>by have:=(h5.row.2.2 _ e).2;omega⟩
theorem TxK.back{Y Z E n:Nat}{l:List UInt8}{w:World}(h:TxK Y Z E n l w):TxK Y Z Z n l w:=by
 obtain⟨h1,h2,h3,h7,h4,r,h5,h6,_⟩:=h;exact⟨h1,h2,h3,⟨h2,by omega⟩,h4,r,h5,h6,h6⟩
theorem TxK.step{Y Z E n m:Nat}{l l':List UInt8}{w w':World}(h:TxK Y Z E n l w)(hl:l'.length<=m){r:Option Nat}(hr:Bld 198 Y Y r l w)(hz:r≠some Z)(he:r≠some E){r':Option Nat}(hb:Bld 198 Y Y r' l' w')(hs:BS Y r w r' w'):TxK Y Z E m l' w'/\w'.heap[E]?=w.heap[E]?/\Below Y w w':=by
 obtain⟨h1,h2,h3,h7,h4,_⟩:=h;exact⟨⟨hl,lQ h2 hs.size,h3,⟨lQ h7.1 hs.size,h7.2⟩,(hs.cell h2 (by omega) hz 0).trans h4,r',hb,hs.free h2 hz,hs.free h7.1 he⟩,hs.keep E h7.1 h7.2 he,hs.below (bQ _) (λk hk=>(hr.row.2.2 k hk).1) (by have:=hr.row.2.1;omega)⟩

end
end Go.Proofs.YtfnopgdcaanaiaaGreatDoor
