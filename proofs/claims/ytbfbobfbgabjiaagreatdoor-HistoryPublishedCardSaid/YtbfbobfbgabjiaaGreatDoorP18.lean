/- Parts of the proof. No condition. -/
import Derived.Test.YtbfbobfbgabjiaaGreatDoorP11
set_option linter.all false
set_option maxRecDepth 100000
set_option maxHeartbeats 8000000
namespace Go.Proofs.YtbfbobfbgabjiaaGreatDoor
open Go.Proofs.Tryz
section
open Go.RowKit
def Np.AM(l:List Np.Signed)(k:Nat)(x:Np.Signed):Prop:=∀ p,0<k->l[k - 1]?=some p->p.set.name=x.set.name->x.set.type≠3/\(Np.nM (l.take (k+1))=x.set.name->x.set.type=8)
def Np.AN(l:List Np.Signed):Prop:=∀ k x,l[k]?=some x->Np.AM l k x
theorem afJ{l:List Np.Signed}{k:Nat}{x:Np.Signed}(hx:l[k]?=some x):Np.nM (l.take (k+1))=if x.set.type=3 then x.set.name else Np.nM (l.take k):=by
 obtain⟨hk,rfl⟩:=cQ.1 hx;rw[fQ hk,Np.Kl]
theorem ayK(a:ByteArray)(v:Value)(l:List Np.Signed)(bV:l.length<=20000)(hv:∀ x∈l,x.set.name≠[])(w:World)(hd:SlR bC 5 w w.heap.size v l) :
 Calls prog 114 #[.agg #[.string a,v]] w λe w'=>e = .returned (.bool (Np.yes (Np.AN l)))/\Below w.heap.size w w':=by
 obtain⟨r,hr⟩:∃ r,Np.yes (Np.AN l)=r:=⟨_,rfl⟩;rw[hr];have HR:=jq hr;have HD:=jq hd;have HV:=jq hv;obtain⟨A,c,rfl,aV,bi⟩:=ah hd;clear hr hd hv;have HW:Hid (∀ o,Below w.heap.size w (w.alloc o)):=jq (λo=>(vQ _ w).alloc (bQ _) _);go_enter func114,ntmps114;go_wp2_with fail;obtain⟨w1,ak⟩:∃ w1,w.alloc (.cells #[.string a,.slice A l.length c] 56)=w1:=⟨_,rfl⟩;have c1:w1.cell? ⟨w.heap.size,1,none⟩=some (.slice A l.length c):=by rw[<-ak]; simp[go_sem]
 have bL:w1.heap.size=w.heap.size+1:=by rw[<-ak]; simp
 have ay:Hid (Below w.heap.size w w1):=jq (by rw[<-ak]; exact HW.out _);rw[ak];clear ak;go_loopw [3,4] (λva i wr=>∃ (k:Nat) (sa:ByteArray),k<=l.length/\i = .int .i64 k/\va = .string sa/\Hid (sa.data.toList=Np.nM (l.take k))/\Hid (Below w1.heap.size w1 wr)/\Hid (∀ j x,j<k->l[j]?=some x->Np.AM l j x)) (λ_ i _=>l.length - (intOf i).toNat)
 case atStart=>exact⟨0,⟨#[]⟩,jQ _,rfl,rfl,jq rfl,jq (vQ _ _),jq (λj g hj=>by omega)⟩
 case round=>
  obtain⟨k,sa,hk,rfl,rfl,vg,HB,HA⟩:=hrel;have am:=HB.out.size;have d1:wr.cell? ⟨w.heap.size,1,none⟩=some (.slice A l.length c):=(HB.out.cell (by dsimp only; omega)).trans c1;have aw:=jq (ay.out.trans (HB.out.mono (by omega)));have dz:w.heap.size<wr.heap.size:=by omega
  by_cases aa:k<l.length
  ·obtain⟨x,ac⟩:∃ x,l[k]?=some x:=⟨_,aQ aa⟩;obtain⟨b,o,c',sn,dv,sv,hA,bS,_,av,cA,aL,ax,f0,f1,f2,f3,f4⟩:=eE (HD.out.keep aN aw.out) ac
   cases hA
   have HX:=jq ac;have aH:=jq av;have L3:=jq (afJ ac);have hne:(sn.toList == [])=false:=by rw[dQ,av]; simpa using HV.out x (gQ ac)
   have dS:Hid (Np.AM l k x->∀ j y,j<k+1->l[j]?=some y->Np.AM l j y):=jq (λh j y hj hy=>by
    by_cases e:j=k
    ·subst e; rw[ac] at hy; cases hy; exact h
    ·exact HA.out j y (by omega) hy)
   have HF:Hid (¬ Np.AM l k x->r=false):=jq (λh=>by rw[<-HR.out]; exact Np.aJ λq=>h (q k x ac));have bH:(0:Int)<=(k:Int):=by omega
   have bG:(k:Int)<(l.length:Int):=by omega
   have ap:b<wr.heap.size:=by omega
   have I7:∃ q:Bool,Hid (q=true↔∃ p,0<k/\l[k - 1]?=some p/\p.set.name=x.set.name)/\((k=0/\q=false)\/∃ (m:Nat) (sy:ByteArray),k=m+1/\wr.cell? ⟨b,o+m * 5,none⟩=some (.string sy)/\(sy.toList == sn.toList)=q):=by
    by_cases iY:k=0
    ·exact⟨false,jq ⟨λh=>(by cases h),λ⟨p,h,_⟩=>(by omega)⟩,.inl ⟨iY,rfl⟩⟩
    ·obtain⟨m,rfl⟩:∃ m,k=m+1:=⟨k - 1,by omega⟩;obtain⟨y,hy⟩:∃ y,l[m]?=some y:=⟨_,aQ (by omega)⟩;obtain⟨b9,o9,c9,sy,dv9,sv9,hA,_,_,iZ,_,_,_,q0,q1,_⟩:=eE (HD.out.keep aN aw.out) hy;simp only[Value.slice.injEq,Option.some.injEq,Addr.mk.injEq,and_true,true_and] at hA;obtain⟨⟨rfl,rfl⟩,-⟩:=hA;refine⟨_,jq ?_,.inr ⟨m,sy,rfl,q0,rfl⟩⟩;rw[dQ,dQ,iZ,aH.out,beq_iff_eq];constructor
     ·intro h; exact⟨y,by omega,by simpa using hy,h⟩
     ·rintro⟨p,_,hp,h⟩;rw[show m+1 - 1=m by omega,hy] at hp
      cases hp; exact h
   obtain⟨qb,rx,B4⟩:=I7;obtain⟨ty,dK⟩:∃ ty,x.set.type=ty:=⟨_,rfl⟩;have fD:=jq dK;rw[dK] at f1;clear ac av aL ax dK f2 f3 f4;have iX:∃ m:Nat,(decide ((0:Int)<(k:Int))=false/\decide (0<k)=false/\qb=false)\/(decide ((0:Int)<(k:Int))=true/\decide (0<k)=true/\IntKind.i64.wrap ((k:Int) - 1)=(m:Int)/\(k:Int) - 1=(m:Int)/\(0:Int)<=(m:Int)/\(m:Int)<(l.length:Int)/\∃ sy:ByteArray,wr.cell? ⟨b,o+m * 5,none⟩=some (.string sy)/\(sy.toList == sn.toList)=qb):=by
    rcases B4 with ⟨iY,h⟩ | ⟨m,sy,mI,g0,sh⟩
    ·exact⟨0,.inl ⟨by simp; omega,by simp; omega,h⟩⟩
    ·exact⟨m,.inr ⟨by simp; omega,by simp; omega,by rw[IntWalk.i64_in _ (by omega)]; omega,by omega,by omega,by omega,sy,g0,sh⟩⟩
   clear B4;obtain⟨m,iX⟩:=iX;by_cases h3:ty=3
   ·subst h3;have ub:Hid (sn.data.toList=Np.nM (l.take (k+1))):=jq (by rw[L3.out,Qb fD.out,aH.out]);rcases iX with ⟨ju,jw,rfl⟩ | ⟨ju,jw,J3,EP,qE,rU,sy,g0,sh⟩
    ·have bR:=jq (dS.out (λp h0 hp he=>by have:=rx.out.2 ⟨p,h0,hp,he⟩; cases this));go_wp2_with fail;go_quiet (fail);go_wp2_with fail;go_roundw
     case rel=>exact⟨k+1,sn,by omega,by go_num,rfl,ub,jq (below_drewN HB.out _),jq bR.out⟩
     case measure=>simp[intOf] <;> omega
    ·cases qb with
     | false=>
      have bR:=jq (dS.out (λp h0 hp he=>by have:=rx.out.2 ⟨p,h0,hp,he⟩; cases this));go_wp2_with fail;go_quiet (fail);go_wp2_with fail;go_roundw
      case rel=>exact⟨k+1,sn,by omega,by go_num,rfl,ub,jq (below_drewN HB.out _),jq bR.out⟩
      case measure=>simp[intOf] <;> omega
     | true=>
      have x6:Hid (r=false):=jq (HF.out λh=>by
       obtain⟨p,h0,hp,he⟩:=rx.out.1 (by simp);exact (h p h0 hp he).1 fD.out)
      go_wp2_with fail;go_quiet (fail);obtain⟨w2,aj⟩:∃ w2,wr.drewN nq=w2:=⟨_,rfl⟩;rw[aj];have ab:Below wr.heap.size wr w2:=by rw[<-aj]; exact below_drewN (vQ _ _) _
      have t1:w2.cell? ⟨w.heap.size,1,none⟩=some (.slice (some ⟨b,o,none⟩) l.length c):=(ab.cell (by dsimp only; omega)).trans d1;have t2:w2.cell? ⟨b,o+k * 5,none⟩=some (.string sn):=(ab.cell (by dsimp only; omega)).trans f0;have fh:=jq (aw.out.trans (ab.mono (by omega)));clear ab aj;go_wp2_with fail;go_ret;exact⟨ae x6.out.symm,fh.out⟩
   ·have h3':(ty == 3)=false:=by simpa using h3
    have h3'':(ty != 3)=true:=by simpa using h3
    have ub:Hid (sa.data.toList=Np.nM (l.take (k+1))):=jq (by rw[L3.out,Qc (by rw[fD.out]; exact h3)]; exact vg.out);rcases iX with ⟨ju,jw,rfl⟩ | ⟨ju,jw,J3,EP,qE,rU,sy,g0,sh⟩
    ·have bR:=jq (dS.out (λp h0 hp he=>by have:=rx.out.2 ⟨p,h0,hp,he⟩; cases this));go_wp2_with fail;go_quiet (fail);go_wp2_with fail;go_roundw
     case rel=>exact⟨k+1,sa,by omega,by go_num,rfl,ub,jq (below_drewN HB.out _),jq bR.out⟩
     case measure=>simp[intOf] <;> omega
    ·cases qb with
     | false=>
      have bR:=jq (dS.out (λp h0 hp he=>by have:=rx.out.2 ⟨p,h0,hp,he⟩; cases this));go_wp2_with fail;go_quiet (fail);go_wp2_with fail;go_roundw
      case rel=>exact⟨k+1,sa,by omega,by go_num,rfl,ub,jq (below_drewN HB.out _),jq bR.out⟩
      case measure=>simp[intOf] <;> omega
     | true=>
      obtain⟨qe,B5⟩:∃ qe,(sn.toList == sa.toList)=qe:=⟨_,rfl⟩;have Mo:Hid (qe=true↔Np.nM (l.take (k+1))=x.set.name):=jq (by rw[<-B5,dQ,dQ,aH.out,ub.out,beq_iff_eq]; exact eq_comm);obtain⟨q8,wS⟩:∃ q8,(ty != 8)=q8:=⟨_,rfl⟩;have Dh:Hid (q8=true↔x.set.type≠8):=jq (by rw[<-wS,fD.out]; simp);have AB:Hid (x.set.type≠3):=jq (by rw[fD.out]; exact h3);clear h3;go_wp2_with fail;go_quiet (fail);obtain⟨w2,aj⟩:∃ w2,wr.drewN nq=w2:=⟨_,rfl⟩;rw[aj];have ab:Below wr.heap.size wr w2:=by rw[<-aj]; exact below_drewN (vQ _ _) _
      have t1:w2.cell? ⟨w.heap.size,1,none⟩=some (.slice (some ⟨b,o,none⟩) l.length c):=(ab.cell (by dsimp only; omega)).trans d1;have t2:w2.cell? ⟨b,o+k * 5,none⟩=some (.string sn):=(ab.cell (by dsimp only; omega)).trans f0;have fh:=jq (aw.out.trans (ab.mono (by omega)));have ME:=jq (HB.out.trans (ab.mono HB.out.size));clear ab aj
      cases qe with
      | false=>
       have bR:=jq (dS.out (λp h0 hp he=>⟨AB.out,λhl=>by have:=Mo.out.2 hl; cases this⟩));go_wp2_with fail;go_roundw
       case rel=>exact⟨k+1,sa,by omega,by go_num,rfl,ub,jq ME.out,jq bR.out⟩
       case measure=>simp[intOf] <;> omega
      | true=>
       cases q8 with
       | false=>
        have bR:=jq (dS.out (λp h0 hp he=>⟨AB.out,λ_=>Decidable.not_not.1 λh8=>by have:=Dh.out.2 h8; cases this⟩));go_wp2_with fail;go_roundw
        case rel=>exact⟨k+1,sa,by omega,by go_num,rfl,ub,jq ME.out,jq bR.out⟩
        case measure=>simp[intOf] <;> omega
       | true=>
        have x6:Hid (r=false):=jq (HF.out λh=>by
         obtain⟨p,h0,hp,he⟩:=rx.out.1 (by simp);exact Dh.out.1 (by simp) ((h p h0 hp he).2 (Mo.out.1 (by simp))))
        go_wp2_with fail;go_ret;exact⟨ae x6.out.symm,fh.out⟩
  ·go_wp2_with fail;go_ret;refine⟨ae ?_,aw.out⟩;rw[<-HR.out];exact (Np.bM λi x hx=>HA.out i x (by have:=(cQ.1 hx).1; omega) hx).symm
end
end Go.Proofs.YtbfbobfbgabjiaaGreatDoor
