/- Parts of the proof. No condition. -/
import Derived.Test.YtfnopgdcaanaiaaGreatDoorK11
import Derived.Test.YtfnopgdcaanaiaaGreatDoorK14
set_option linter.all false
set_option maxRecDepth 100000
set_option maxHeartbeats 8000000
namespace Go.Proofs.YtfnopgdcaanaiaaGreatDoor
open Go.Proofs.Tryz
section
open Go.RowKit
def Np.zk(l:List Np.Signed)(k:Nat)(x:Np.Signed):Prop:=x.set.type=3->(∀ p,0<k->l[k - 1]?=some p->p.set.name≠x.set.name)/\∀ n,l[k+1]?=some n->n.set.name=x.set.name->n.set.type=8
def Np.zm(l:List Np.Signed):Prop:=∀ k x,l[k]?=some x->Np.zk l k x
theorem UF(a:ByteArray)(v:Value)(A2:Option Addr)(n2 c2:Nat)(l:List Np.Signed)(bM:l.length<=20000)(w:World)(hd:SlR bk 5 w w.heap.size v l) :
 Calls prog 201 #[.agg #[.string a,v,.slice A2 n2 c2]] w λe w'=>e = .returned (.bool (Np.yes (Np.zm l)))/\Below w.heap.size w w':=by
 obtain⟨r,hr⟩:∃ r,Np.yes (Np.zm l)=r:=⟨_,rfl⟩;rw[hr];have HR:=jq hr;have HD:=jq hd;obtain⟨A,c,rfl,bD,bL⟩:=al hd;clear hr hd;have HW:Hid (∀ o,Below w.heap.size w (w.alloc o)):=jq (λo=>(vQ _ w).alloc (bQ _) _);go_enter func201,ntmps201;go_wp2_with fail;obtain⟨w1,aj⟩:∃ w1,w.alloc (.cells #[.string a,.slice A l.length c,.slice A2 n2 c2] 265)=w1:=⟨_,rfl⟩;have c2':w1.cell? ⟨w.heap.size,1,none⟩=some (.slice A l.length c):=by rw[<-aj];simp[go_sem]
 have dG:w.heap.size<w1.heap.size:=by rw[<-aj];simp
 have ay:Hid (Below w.heap.size w w1):=jq (by rw[<-aj];exact HW.out _);rw[aj];clear aj;go_loopw [10] (λi wr=>∃ k:Nat,k<=l.length/\i = .int .i64 k/\Hid (Below w1.heap.size w1 wr)/\Hid (∀ j x,j<k->l[j]?=some x->Np.zk l j x)) (λi _=>l.length - (intOf i).toNat)
 case atStart=>exact⟨0,jQ _,rfl,jq (vQ _ _),jq (λj x hj=>by omega)⟩
 case round=>
  obtain⟨k,hk,rfl,HB,HA⟩:=hrel;have ap:=HB.out.size;have aB:=jq (ay.out.trans (HB.out.mono (by omega)));by_cases aa:k<l.length
  ·obtain⟨x,ab⟩:∃ x,l[k]?=some x:=⟨_,aQ aa⟩;obtain⟨b,o,c',sn,dv,sv,hA,bU,_,aF,cx,aV,aR,e0,e1,e2,e3,e4⟩:=eV (HD.out.keep ba aB.out) ab
   cases hA
   have HN:Hid (Np.zk l k x->∀ j x,j<k+1->l[j]?=some x->Np.zk l j x):=jq (λh j y hj hy=>by
    by_cases e:j=k
    ·subst e;rw[ab] at hy;cases hy;exact h
    ·exact HA.out j y (by omega) hy)
   have HF:Hid (¬ Np.zk l k x->r=false):=jq (λh=>by
    rw[<-HR.out];exact Np.aN λq=>h (q k x ab))
   have Lj:Hid (∀ (m:Nat) (y:Np.Signed),l[m]?=some y->∃ (sy:ByteArray),sy.data.toList=y.set.name/\wr.cell? ⟨b,o+m * 5,none⟩=some (.string sy)/\wr.cell? ⟨b,o+m * 5+1,none⟩=some (.int .i64 y.set.type)):=jq (λm y hy=>by
    obtain⟨b9,o9,c9,sy,dv9,sv9,hA,_,_,gm,_,_,_,q0,q1,_⟩:=eV (HD.out.keep ba aB.out) hy;simp only[Value.slice.injEq,Option.some.injEq,Addr.mk.injEq,and_true,true_and] at hA;obtain⟨⟨rfl,rfl⟩,-⟩:=hA;exact⟨sy,gm,q0,q1⟩)
   clear ab;obtain⟨Ad,cd,rfl,_,_⟩:=al aV;obtain⟨As,cs,rfl,_,_⟩:=al aR;have hcell:wr.cell? ⟨w.heap.size,1,none⟩=some (.slice (some ⟨b,o,none⟩) l.length c):=(HB.out.cell (by dsimp only;omega)).trans c2';have cK:w.heap.size<wr.heap.size:=by omega
   have aw:b<wr.heap.size:=by omega
   have bg:Hid (∀ o,Below w1.heap.size w1 (wr.alloc o)):=jq (λo=>HB.out.alloc HB.out.size _);have oz:Hid (∀ o,Below w.heap.size w (wr.alloc o)):=jq (λo=>aB.out.alloc (by omega) _);have bX:(0:Int)<=(k:Int):=by omega
   have bW:(k:Int)<(l.length:Int):=by omega
   have aS:=jq aF;obtain⟨ty,dX⟩:∃ ty,x.set.type=ty:=⟨_,rfl⟩;have dB:=jq dX;rw[dX] at e1;clear aF aV aR dX;by_cases h3:ty=3
   ·obtain⟨w2,ae⟩:∃ w2,wr.alloc (.cells #[.string sn,.int .i64 ty,.int .i64 x.set.life,.slice Ad x.set.data.length cd,.slice As x.sigs.length cs] 42)=w2:=⟨_,rfl⟩;subst h3;have t3:((3:Int) != 3)=false:=by decide
    have It:∃ q:Bool,Hid (q=true↔∃ p,0<k/\l[k - 1]?=some p/\p.set.name=x.set.name)/\((k=0/\q=false)\/∃ (m:Nat) (y:Np.Signed) (sy:ByteArray),k=m+1/\wr.cell? ⟨b,o+m * 5,none⟩=some (.string sy)/\(sy.toList == sn.toList)=q):=by
     by_cases iC:k=0
     ·exact⟨false,jq ⟨λh=>(by cases h),λ⟨p,h,_⟩=>(by omega)⟩,.inl ⟨iC,rfl⟩⟩
     ·obtain⟨m,rfl⟩:∃ m,k=m+1:=⟨k - 1,by omega⟩;obtain⟨y,hy⟩:∃ y,l[m]?=some y:=⟨_,aQ (by omega)⟩;obtain⟨sy,gm,q0,q1⟩:=Lj.out m y hy;refine⟨_,jq ?_,.inr ⟨m,y,sy,rfl,q0,rfl⟩⟩;rw[dQ,dQ,gm,aS.out,beq_iff_eq];constructor
      ·intro h;exact⟨y,by omega,by simpa using hy,h⟩
      ·rintro⟨p,_,hp,h⟩;rw[show m+1 - 1=m by omega,hy] at hp
       cases hp;exact h
    have Xe:∃ q1 q2:Bool,Hid (∀ n,l[k+1]?=some n->(q1=true↔n.set.name=x.set.name)/\(q2=true↔n.set.type≠8))/\((l.length=k+1/\q1=false)\/∃ (y:Np.Signed) (sy:ByteArray) (ny:Int),k+1<l.length/\wr.cell? ⟨b,o+(k+1) * 5,none⟩=some (.string sy)/\wr.cell? ⟨b,o+(k+1) * 5+1,none⟩=some (.int .i64 ny)/\(sy.toList == sn.toList)=q1/\(ny != 8)=q2):=by
     by_cases nV:l.length=k+1
     ·exact⟨false,false,jq (λn hn=>by have:=(cQ.1 hn).1;omega),.inl ⟨nV,rfl⟩⟩
     ·obtain⟨y,hy⟩:∃ y,l[k+1]?=some y:=⟨_,aQ (by omega)⟩;obtain⟨sy,gm,q0,q1⟩:=Lj.out (k+1) y hy;refine⟨_,_,jq (λn hn=>?_),.inr ⟨y,sy,y.set.type,by omega,q0,q1,rfl,rfl⟩⟩;rw[hy] at hn;cases hn;rw[dQ,dQ,gm,aS.out,beq_iff_eq];exact⟨Iff.rfl,by simp⟩
    clear ae w2;obtain⟨qb,qW,BV⟩:=It;obtain⟨q1,q2,De,kf⟩:=Xe;have Ku:Hid (∀ o n,Below w1.heap.size w1 ((wr.alloc o).drewN n)):=jq (λo n=>below_drewN (HB.out.alloc HB.out.size _) _);have FE:Hid (∀ o n,Below w.heap.size w ((wr.alloc o).drewN n)):=jq (λo n=>below_drewN (aB.out.alloc (by omega) _) _);have vT:∀ o' n,(wr.alloc o').drewN n=(wr.alloc o').drewN n:=λ_ _=>rfl;clear vT
    cases qb with
    | true=>
     have HX:Hid (r=false):=jq (HF.out λh=>by
      obtain⟨p,yz,hp,he⟩:=qW.out.1 rfl;exact (h dB.out).1 p yz hp he)
     rcases BV with ⟨_,h⟩ | ⟨m,y,sy,l9,g0,rL⟩
     ·cases h
     ·have iU:decide ((0:Int)<(k:Int))=true:=by simp;omega
      have ie:decide (0<k)=true:=by simp;omega
      have Jr:IntKind.i64.wrap ((k:Int) - 1)=(m:Int):=by rw[IntWalk.i64_in _ (by omega)];omega
      have ED:(k:Int) - 1=(m:Int):=by omega
      have nT:(0:Int)<=(m:Int):=by omega
      have rB:(m:Int)<(l.length:Int):=by omega
      clear l9;go_wp2_with fail;go_quiet (fail);go_wp2_with fail;go_ret;exact⟨ag HX.out.symm,FE.out _ _⟩
    | false=>
     have az:Hid (∀ p,0<k->l[k - 1]?=some p->p.set.name≠x.set.name):=jq (λp h0 hp he=>by
      have:=qW.out.2 ⟨p,h0,hp,he⟩
      cases this)
     rcases BV with ⟨iC,_⟩ | ⟨m,y,sy,l9,g0,rL⟩
     ·have iU:decide ((0:Int)<(k:Int))=false:=by simp;omega
      have ie:decide (0<k)=false:=by simp;omega
      clear iC;go_wp2_with fail;go_quiet (fail);go_wp2_with fail;obtain⟨w4,bA⟩:∃ w4,(wr.alloc (.cells #[.string sn,.int .i64 3,.int .i64 x.set.life,.slice Ad x.set.data.length cd,.slice As x.sigs.length cs] 42)).drewN nq=w4:=⟨_,rfl⟩;rw[bA];have uO:Hid (Below w1.heap.size w1 w4):=jq (by rw[<-bA];exact Ku.out _ _);have G7:Hid (Below w.heap.size w w4):=jq (by rw[<-bA];exact FE.out _ _);have ar:Below wr.heap.size wr w4:=by rw[<-bA];exact below_drewN ((vQ _ _).alloc (bQ _) _) _
      have n4:w4.cell? ⟨wr.heap.size,0,none⟩=some (.string sn):=by rw[<-bA];simp[go_sem]
      have D8:w4.cell? ⟨w.heap.size,1,none⟩=some (.slice (some ⟨b,o,none⟩) l.length c):=(ar.cell (by dsimp only;omega)).trans hcell;rcases kf with ⟨nV,rfl⟩ | ⟨y',sy',ny,nV,k0,k1,I8,tJ⟩
      ·have HX:=jq (HN.out (λ_=>⟨az.out,λn hn=>by have:=(cQ.1 hn).1;omega⟩));have aC:decide ((k:Int)+1<(l.length:Int))=false:=by simp;omega
       have eP:decide (k+1<l.length)=false:=by simp;omega
       clear nV;clear ar bA;go_wp2_with fail;go_quiet (fail);go_wp2_with fail;go_roundw
       case rel=>exact⟨k+1,by omega,by go_num,jq (below_drewN uO.out _),jq HX.out⟩
       case measure=>simp[intOf] <;> omega
      ·have k04:w4.cell? ⟨b,o+(k+1) * 5,none⟩=some (.string sy'):=(ar.cell (by dsimp only;omega)).trans k0;have k14:w4.cell? ⟨b,o+(k+1) * 5+1,none⟩=some (.int .i64 ny):=(ar.cell (by dsimp only;omega)).trans k1;obtain⟨j,hj⟩:∃ j,k+1=j:=⟨_,rfl⟩;have ha:IntKind.i64.wrap ((k:Int)+1)=(j:Int):=by rw[IntWalk.i64_in _ (by omega)];omega
       have WS:(k:Int)+1=(j:Int):=by omega
       have aC:decide ((j:Int)<(l.length:Int))=true:=by simp;omega
       have eP:decide (j<l.length)=true:=by simp;omega
       have ju:(0:Int)<=(j:Int):=by omega
       have tv:(j:Int)<(l.length:Int):=by omega
       rw[hj] at k04 k14 De;have HJ:=jq hj;have aO:b<w4.heap.size:=by have:=ar.size;omega
       clear ar bA k0 k1 hj nV;obtain⟨n,hn⟩:∃ n,l[j]?=some n:=⟨_,aQ (by omega)⟩;have lh:=jq (De.out n hn);have im:=jq hn;clear hn
       cases q1 with
       | false=>
        have HX:=jq (HN.out (λ_=>⟨az.out,λn' hn' he=>by
         rw[HJ.out,im.out] at hn';cases hn'
         have:=lh.out.1.2 he
         cases this⟩))
        go_wp2_with fail;go_quiet (fail);go_wp2_with fail;go_roundw
        case rel=>exact⟨k+1,by omega,by go_num,jq (below_drewN uO.out _),jq HX.out⟩
        case measure=>simp[intOf] <;> omega
       | true=>
        cases q2 with
        | false=>
         have HX:=jq (HN.out (λ_=>⟨az.out,λn' hn' _=>by
          rw[HJ.out,im.out] at hn';cases hn';refine Decidable.not_not.1 λh8=>?_
          have:=lh.out.2.2 h8
          cases this⟩))
         go_wp2_with fail;go_quiet (fail);go_wp2_with fail;go_roundw
         case rel=>exact⟨k+1,by omega,by go_num,jq (below_drewN uO.out _),jq HX.out⟩
         case measure=>simp[intOf] <;> omega
        | true=>
         have HX:Hid (r=false):=jq (HF.out λh=>(lh.out.2.1 rfl) ((h dB.out).2 n (by rw[HJ.out];exact im.out) (lh.out.1.1 rfl)));go_wp2_with fail;go_quiet (fail);go_wp2_with fail;go_ret;exact⟨ag HX.out.symm,below_drewN G7.out _⟩
     ·have iU:decide ((0:Int)<(k:Int))=true:=by simp;omega
      have ie:decide (0<k)=true:=by simp;omega
      have Jr:IntKind.i64.wrap ((k:Int) - 1)=(m:Int):=by rw[IntWalk.i64_in _ (by omega)];omega
      have ED:(k:Int) - 1=(m:Int):=by omega
      have nT:(0:Int)<=(m:Int):=by omega
      have rB:(m:Int)<(l.length:Int):=by omega
      clear l9;go_wp2_with fail;go_quiet (fail);go_wp2_with fail;obtain⟨w4,bA⟩:∃ w4,(wr.alloc (.cells #[.string sn,.int .i64 3,.int .i64 x.set.life,.slice Ad x.set.data.length cd,.slice As x.sigs.length cs] 42)).drewN nq=w4:=⟨_,rfl⟩;rw[bA];have uO:Hid (Below w1.heap.size w1 w4):=jq (by rw[<-bA];exact Ku.out _ _);have G7:Hid (Below w.heap.size w w4):=jq (by rw[<-bA];exact FE.out _ _);have ar:Below wr.heap.size wr w4:=by rw[<-bA];exact below_drewN ((vQ _ _).alloc (bQ _) _) _
      have n4:w4.cell? ⟨wr.heap.size,0,none⟩=some (.string sn):=by rw[<-bA];simp[go_sem]
      have D8:w4.cell? ⟨w.heap.size,1,none⟩=some (.slice (some ⟨b,o,none⟩) l.length c):=(ar.cell (by dsimp only;omega)).trans hcell;rcases kf with ⟨nV,rfl⟩ | ⟨y',sy',ny,nV,k0,k1,I8,tJ⟩
      ·have HX:=jq (HN.out (λ_=>⟨az.out,λn hn=>by have:=(cQ.1 hn).1;omega⟩));have aC:decide ((k:Int)+1<(l.length:Int))=false:=by simp;omega
       have eP:decide (k+1<l.length)=false:=by simp;omega
       clear nV;clear ar bA;go_wp2_with fail;go_quiet (fail);go_wp2_with fail;go_roundw
       case rel=>exact⟨k+1,by omega,by go_num,jq (below_drewN uO.out _),jq HX.out⟩
       case measure=>simp[intOf] <;> omega
      ·have k04:w4.cell? ⟨b,o+(k+1) * 5,none⟩=some (.string sy'):=(ar.cell (by dsimp only;omega)).trans k0;have k14:w4.cell? ⟨b,o+(k+1) * 5+1,none⟩=some (.int .i64 ny):=(ar.cell (by dsimp only;omega)).trans k1;obtain⟨j,hj⟩:∃ j,k+1=j:=⟨_,rfl⟩;have ha:IntKind.i64.wrap ((k:Int)+1)=(j:Int):=by rw[IntWalk.i64_in _ (by omega)];omega
       have WS:(k:Int)+1=(j:Int):=by omega
       have aC:decide ((j:Int)<(l.length:Int))=true:=by simp;omega
       have eP:decide (j<l.length)=true:=by simp;omega
       have ju:(0:Int)<=(j:Int):=by omega
       have tv:(j:Int)<(l.length:Int):=by omega
       rw[hj] at k04 k14 De;have HJ:=jq hj;have aO:b<w4.heap.size:=by have:=ar.size;omega
       clear ar bA k0 k1 hj nV;obtain⟨n,hn⟩:∃ n,l[j]?=some n:=⟨_,aQ (by omega)⟩;have lh:=jq (De.out n hn);have im:=jq hn;clear hn
       cases q1 with
       | false=>
        have HX:=jq (HN.out (λ_=>⟨az.out,λn' hn' he=>by
         rw[HJ.out,im.out] at hn';cases hn'
         have:=lh.out.1.2 he
         cases this⟩))
        go_wp2_with fail;go_quiet (fail);go_wp2_with fail;go_roundw
        case rel=>exact⟨k+1,by omega,by go_num,jq (below_drewN uO.out _),jq HX.out⟩
        case measure=>simp[intOf] <;> omega
       | true=>
        cases q2 with
        | false=>
         have HX:=jq (HN.out (λ_=>⟨az.out,λn' hn' _=>by
          rw[HJ.out,im.out] at hn';cases hn';refine Decidable.not_not.1 λh8=>?_
          have:=lh.out.2.2 h8
          cases this⟩))
         go_wp2_with fail;go_quiet (fail);go_wp2_with fail;go_roundw
         case rel=>exact⟨k+1,by omega,by go_num,jq (below_drewN uO.out _),jq HX.out⟩
         case measure=>simp[intOf] <;> omega
        | true=>
         have HX:Hid (r=false):=jq (HF.out λh=>(lh.out.2.1 rfl) ((h dB.out).2 n (by rw[HJ.out];exact im.out) (lh.out.1.1 rfl)));go_wp2_with fail;go_quiet (fail);go_wp2_with fail;go_ret;exact⟨ag HX.out.symm,below_drewN G7.out _⟩
   ·have HX:=jq (HN.out (λh=>absurd (dB.out.symm.trans h) h3));have h3':(ty != 3)=true:=by simpa using h3
    clear h3;go_wp2_with fail;go_roundw
    case rel=>exact⟨k+1,by omega,by go_num,jq (bg.out _),jq HX.out⟩
    case measure=>simp[intOf] <;> omega
  ·go_wp2_with fail;go_ret;refine⟨ag ?_,aB.out⟩;rw[<-HR.out];exact (Np.bO λi x hx=>HA.out i x (by have:=(cQ.1 hx).1;omega) hx).symm
theorem aHJ{z:Np.Zone}(bM:z.sets.length<=20000):Np.VZone z↔(((((Np.eF z=true/\Np.ApexH z.apex z.sets)/\Np.zm z.sets)/\Np.pt z.sets (Np.dC z))/\Np.Aj z.sets (Np.dC z))/\∀ x∈z.sets,Np.fT z.apex x.sigs):=by
 constructor
 ·intro h;refine⟨⟨⟨⟨⟨h.right,h.start,h.server,h.fits⟩,λk x hx ht=>⟨λp h0 hp he=>?_,λn hn he=>?_⟩⟩,h.cuts⟩,h.sigs⟩,h.form⟩
  ·obtain⟨hk,rfl⟩:=cQ.1 hx;obtain⟨bW,rfl⟩:=cQ.1 hp;obtain⟨m,rfl⟩:∃ m,k=m+1:=⟨k - 1,by omega⟩;exact h.aliasBefore m hk ht he
  ·obtain⟨hk,rfl⟩:=cQ.1 hx;obtain⟨bW,rfl⟩:=cQ.1 hn;exact h.aliasBehind k bW ht he
 ·rintro⟨⟨⟨⟨⟨h1,h2⟩,h3⟩,h4⟩,h5⟩,h6⟩;refine⟨h1,bM,h2.start,h2.server,h2.fits,λi hi ht he=>?_,λi hi ht he=>?_,h4,h5,h6⟩
  ·exact (h3 (i+1) _ (aQ hi) ht).1 _ (by omega) (aQ (by omega)) he
  ·exact (h3 i _ (aQ (by omega)) ht).2 _ (aQ hi) he
theorem sC{P:Prop}(h:Np.yes P=false):¬ P:=λhp=>by rw[Np.bO hp] at h;cases h
theorem R1(a:ByteArray)(ha:a.size<=140737488355328)(v:Value)(l:List Np.Signed)(bM:l.length<=20000)(w:World)(hR:iP w w.heap.size)(hd:SlR bk 5 w w.heap.size v l) :
 Calls prog 120 #[.agg #[.string a,v]] w λe w'=>e = .returned (.bool (Np.yes (Np.VZone ⟨a.data.toList,l⟩)))/\Below w.heap.size w w':=by
 obtain⟨r,hr⟩:∃ r,Np.yes (Np.VZone ⟨a.data.toList,l⟩)=r:=⟨_,rfl⟩;rw[hr];have HR:Hid (Np.yes (((((Np.eF ⟨a.data.toList,l⟩=true/\Np.ApexH a.data.toList l)/\Np.zm l)/\Np.pt l (Np.dC ⟨a.data.toList,l⟩))/\Np.Aj l (Np.dC ⟨a.data.toList,l⟩))/\∀ x∈l,Np.fT a.data.toList x.sigs)=r):=jq (by
  rw[<-hr];exact (Np.sB (aHJ (z:=⟨a.data.toList,l⟩) bM)).symm)
 have HD:=jq hd;have gd:=jq hR;obtain⟨A,c,rfl,bD,bL⟩:=al hd;clear hr hd hR;have HW:Hid (∀ o o',Below w.heap.size w ((w.alloc o).alloc o')):=jq (λo o'=>((vQ _ w).alloc (bQ _) _).alloc (by simp) _);go_enter func120,ntmps120;go_wp2_with fail;obtain⟨w1,aj⟩:∃ w1,(w.alloc (.cells #[.string a,.slice A l.length c] 44)).alloc (.cells #[.string a,.slice A l.length c] 263)=w1:=⟨_,rfl⟩;have c0:w1.cell? ⟨w.heap.size+1,0,none⟩=some (.string a):=by rw[<-aj];simp[go_sem]
 have c1:w1.cell? ⟨w.heap.size+1,1,none⟩=some (.slice A l.length c):=by rw[<-aj];simp[go_sem]
 have bh:w1.heap.size=w.heap.size+2:=by rw[<-aj];simp
 have ay:Hid (Below w.heap.size w w1):=jq (by rw[<-aj];exact HW.out _ _);rw[aj];clear aj;refine (aMZ a ha _ l bM _ ((gd.out.keep ay.out).more (by omega)) (HD.out.later ba bY ay.out)).mono ?_;rintro e w2 ⟨rfl,ac⟩;have aM:=ac.size;have ak:=jq (ay.out.trans (ac.mono (by omega)));have d0:w2.cell? ⟨w.heap.size+1,0,none⟩=some (.string a):=(ac.cell (by dsimp only;omega)).trans c0;have d1:w2.cell? ⟨w.heap.size+1,1,none⟩=some (.slice A l.length c):=(ac.cell (by dsimp only;omega)).trans c1;clear ac c0 c1
 cases ed:Np.eF ⟨a.data.toList,l⟩ with
 | false=>
  have HX:Hid (r=false):=jq (by rw[<-HR.out];exact Np.aN λh=>by rw[ed] at h;cases h.1.1.1.1.1);clear ed;go_wp2_with fail;go_ret;exact⟨ag HX.out.symm,ak.out⟩
 | true=>
  have fR:=jq ed;have ho:=Np.VZone.inOrder ed;have HS:=jq (aAQ ho);have qc:=ed;unfold Np.eF at qc;simp only[Bool.and_eq_true] at qc;have NA:=jq qc.1.1;have HV:Hid (∀ x∈l,Np.aG x.set.name=true):=jq (λx hx=>Fl (Np.DN qc.2 x hx));clear ed qc ho;go_wp2_with fail;refine (UM a ha NA.out _ l bM HV.out HS.out _ (HD.out.later ba bY ak.out)).mono ?_;rintro e w3 ⟨rfl,am⟩;have dP:=am.size;have az:=jq (ak.out.trans (am.mono (by omega)));replace d0:w3.cell? ⟨w.heap.size+1,0,none⟩=some (.string a):=(am.cell (by dsimp only;omega)).trans d0;replace d1:w3.cell? ⟨w.heap.size+1,1,none⟩=some (.slice A l.length c):=(am.cell (by dsimp only;omega)).trans d1;clear am
  cases vu:Np.yes (Np.ApexH a.data.toList l) with
  | false=>
   have HX:Hid (r=false):=jq (by rw[<-HR.out];exact Np.aN λh=>sC vu h.1.1.1.1.2);clear vu;go_wp2_with fail;go_ret;exact⟨ag HX.out.symm,az.out⟩
  | true=>
   have ug:=jq (Np.fm.1 vu);clear vu;go_wp2_with fail;refine (aaJ a _ l bM HV.out HS.out _ (HD.out.later ba bY az.out)).mono ?_;rintro e w4 ⟨⟨bv,rfl,gR⟩,ar⟩;have eC:=ar.size;have br:=jq (az.out.trans (ar.mono (by omega)));obtain⟨A2,c2,rfl,ew,dF⟩:=al gR;have bC:(Np.dC ⟨a.data.toList,l⟩).length=l.length:=Np.s6 _;rw[bC] at ew dF gR |-;clear bC;have Sq:=jq gR;clear ar gR d0 d1;go_wp2_with fail;obtain⟨w5,aP⟩:∃ w5,w4.alloc (.cells #[.string a,.slice A l.length c,.slice A2 l.length c2] 265)=w5:=⟨_,rfl⟩;have g0:w5.cell? ⟨w4.heap.size,0,none⟩=some (.string a):=by rw[<-aP];simp[go_sem]
   have g1:w5.cell? ⟨w4.heap.size,1,none⟩=some (.slice A l.length c):=by rw[<-aP];simp[go_sem]
   have g2:w5.cell? ⟨w4.heap.size,2,none⟩=some (.slice A2 l.length c2):=by rw[<-aP];simp[go_sem]
   have jB:w5.heap.size=w4.heap.size+1:=by rw[<-aP];simp
   have sF:Hid (Below w4.heap.size w4 w5):=jq (by rw[<-aP];exact (vQ _ _).alloc (bQ _) _);have cj:Hid (Below w.heap.size w w5):=jq (br.out.trans (sF.out.mono (by omega)));have pF:Hid (∀ wx,Below w.heap.size w wx->w.heap.size<=wx.heap.size->SlR bk 5 wx wx.heap.size (.slice A l.length c) l):=jq (λwx hb _=>HD.out.later ba bY hb);have K7:Hid (∀ wx,Below w4.heap.size w4 wx->SlR RTx 1 wx wx.heap.size (.slice A2 l.length c2) (Np.dC ⟨a.data.toList,l⟩)):=jq (λwx hb=>Sq.out.later nr QW hb);have HL:Hid ((Np.dC ⟨a.data.toList,l⟩).length=l.length):=jq (Np.s6 _);rw[aP];clear aP;refine (UF a _ A2 l.length c2 l bM _ (pF.out _ cj.out cj.out.size)).mono ?_;rintro e w6 ⟨rfl,aO⟩;have gI:=aO.size;have dh:=jq (cj.out.trans (aO.mono (by omega)));have zu:=jq (sF.out.trans (aO.mono (by omega)));replace g0:w6.cell? ⟨w4.heap.size,0,none⟩=some (.string a):=(aO.cell (by dsimp only;omega)).trans g0;replace g1:w6.cell? ⟨w4.heap.size,1,none⟩=some (.slice A l.length c):=(aO.cell (by dsimp only;omega)).trans g1;replace g2:w6.cell? ⟨w4.heap.size,2,none⟩=some (.slice A2 l.length c2):=(aO.cell (by dsimp only;omega)).trans g2;clear aO
   cases rK:Np.yes (Np.zm l) with
   | false=>
    have HX:Hid (r=false):=jq (by rw[<-HR.out];exact Np.aN λh=>sC rK h.1.1.1.2);clear rK;go_wp2_with fail;go_ret;exact⟨ag HX.out.symm,dh.out⟩
   | true=>
    have GR:=jq (Np.fm.1 rK);clear rK;go_wp2_with fail;refine (VJ a _ _ l _ HL.out _ (pF.out _ dh.out dh.out.size) (K7.out _ zu.out)).mono ?_;rintro e w7 ⟨rfl,eP⟩;have po:=eP.size;have eI:=jq (dh.out.trans (eP.mono (by omega)));have Sd:=jq (zu.out.trans (eP.mono (by omega)));replace g0:w7.cell? ⟨w4.heap.size,0,none⟩=some (.string a):=(eP.cell (by dsimp only;omega)).trans g0;replace g1:w7.cell? ⟨w4.heap.size,1,none⟩=some (.slice A l.length c):=(eP.cell (by dsimp only;omega)).trans g1;replace g2:w7.cell? ⟨w4.heap.size,2,none⟩=some (.slice A2 l.length c2):=(eP.cell (by dsimp only;omega)).trans g2;clear eP
    cases BU:Np.yes (Np.pt l (Np.dC ⟨a.data.toList,l⟩)) with
    | false=>
     have HX:Hid (r=false):=jq (by rw[<-HR.out];exact Np.aN λh=>sC BU h.1.1.2);clear BU;go_wp2_with fail;go_ret;exact⟨ag HX.out.symm,eI.out⟩
    | true=>
     have TM:=jq (Np.fm.1 BU);clear BU;go_wp2_with fail;refine (ayY a _ _ l _ HL.out _ (pF.out _ eI.out eI.out.size) (K7.out _ Sd.out)).mono ?_;rintro e w8 ⟨rfl,gh⟩;have ww:=gh.size;have gr:=jq (eI.out.trans (gh.mono (by omega)));replace g0:w8.cell? ⟨w4.heap.size,0,none⟩=some (.string a):=(gh.cell (by dsimp only;omega)).trans g0;replace g1:w8.cell? ⟨w4.heap.size,1,none⟩=some (.slice A l.length c):=(gh.cell (by dsimp only;omega)).trans g1;replace g2:w8.cell? ⟨w4.heap.size,2,none⟩=some (.slice A2 l.length c2):=(gh.cell (by dsimp only;omega)).trans g2;clear gh
     cases vZ:Np.yes (Np.Aj l (Np.dC ⟨a.data.toList,l⟩)) with
     | false=>
      have HX:Hid (r=false):=jq (by rw[<-HR.out];exact Np.aN λh=>sC vZ h.1.2);clear vZ;go_wp2_with fail;go_ret;exact⟨ag HX.out.symm,gr.out⟩
     | true=>
      have Dd:=jq (Np.fm.1 vZ);clear vZ;go_wp2_with fail;refine (Wg a _ A2 l.length c2 l _ (pF.out _ gr.out gr.out.size)).mono ?_;rintro e w9 ⟨rfl,dK⟩;have yK:=dK.size;have gK:=jq (gr.out.trans (dK.mono (by omega)));replace g0:w9.cell? ⟨w4.heap.size,0,none⟩=some (.string a):=(dK.cell (by dsimp only;omega)).trans g0;replace g1:w9.cell? ⟨w4.heap.size,1,none⟩=some (.slice A l.length c):=(dK.cell (by dsimp only;omega)).trans g1;replace g2:w9.cell? ⟨w4.heap.size,2,none⟩=some (.slice A2 l.length c2):=(dK.cell (by dsimp only;omega)).trans g2;clear dK
      cases Ew:Np.yes (∀ x∈l,Np.fT a.data.toList x.sigs) with
      | false=>
       have HX:Hid (r=false):=jq (by rw[<-HR.out];exact Np.aN λh=>sC Ew h.2);clear Ew;go_wp2_with fail;go_ret;exact⟨ag HX.out.symm,gK.out⟩
      | true=>
       have TN:=jq (Np.fm.1 Ew);clear Ew;go_wp2_with fail;go_ret;exact⟨ag (by rw[<-HR.out];exact (Np.bO ⟨⟨⟨⟨⟨fR.out,ug.out⟩,GR.out⟩,TM.out⟩,Dd.out⟩,TN.out⟩).symm),gK.out⟩
end
end Go.Proofs.YtfnopgdcaanaiaaGreatDoor
