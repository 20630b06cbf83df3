/- Parts of the proof. No condition. -/
import Derived.Test.YtfnopgdcaanaiaaGreatDoorH11
set_option linter.all false
set_option maxRecDepth 100000
set_option maxHeartbeats 8000000
namespace Go.Proofs.YtfnopgdcaanaiaaGreatDoor
open Go.Proofs.Tryz
section
open Go.RowKit
def Np.xB(l:List Np.Signed)(k:Nat)(x:Np.Signed):Prop:=∀ p,0<k->l[k - 1]?=some p->p.set.name=x.set.name->x.set.type≠3/\(Np.l6 (l.take (k+1))=x.set.name->x.set.type=8)
def Np.xC(l:List Np.Signed):Prop:=∀ k x,l[k]?=some x->Np.xB l k x
theorem Wh{l:List Np.Signed}{k:Nat}{x:Np.Signed}(hx:l[k]?=some x):Np.l6 (l.take (k+1))=if x.set.type=3 then x.set.name else Np.l6 (l.take k):=by
 obtain⟨hk,rfl⟩:=cQ.1 hx;rw[fQ hk,Np.Ge]
theorem Yj(a:ByteArray)(v:Value)(l:List Np.Signed)(bI:l.length<=20000)(hv:∀ x∈l,x.set.name≠[])(w:World)(hd:SlR bh 5 w w.heap.size v l) :
 Calls prog 161 #[.agg #[.string a,v]] w λe w'=>e = .returned (.bool (Np.yes (Np.xC l)))/\Below w.heap.size w w':=by
 obtain⟨r,hr⟩:∃ r,Np.yes (Np.xC l)=r:=⟨_,rfl⟩;rw[hr];have HR:=jq hr;have HD:=jq hd;have HV:=jq hv;obtain⟨A,c,rfl,bw,bT⟩:=al hd;clear hr hd hv;have HW:Hid (∀ o,Below w.heap.size w (w.alloc o)):=jq (λo=>(vQ _ w).alloc (bQ _) _);go_enter func161,ntmps161;go_wp2_with fail;obtain⟨w1,ah⟩:∃ w1,w.alloc (.cells #[.string a,.slice A l.length c] 44)=w1:=⟨_,rfl⟩;have c1:w1.cell? ⟨w.heap.size,1,none⟩=some (.slice A l.length c):=by rw[<-ah];simp[go_sem]
 have bj:w1.heap.size=w.heap.size+1:=by rw[<-ah];simp
 have aq:Hid (Below w.heap.size w w1):=jq (by rw[<-ah];exact HW.out _);rw[ah];clear ah;go_loopw [3,4] (λva i wr=>∃ (k:Nat) (sa:ByteArray),k<=l.length/\i = .int .i64 k/\va = .string sa/\Hid (sa.data.toList=Np.l6 (l.take k))/\Hid (Below w1.heap.size w1 wr)/\Hid (∀ j x,j<k->l[j]?=some x->Np.xB l j x)) (λ_ i _=>l.length - (intOf i).toNat)
 case atStart=>exact⟨0,⟨#[]⟩,jQ _,rfl,rfl,jq rfl,jq (vQ _ _),jq (λj g hj=>by omega)⟩
 case round=>
  obtain⟨k,sa,hk,rfl,rfl,n9,HB,HA⟩:=hrel;have an:=HB.out.size;have d1:wr.cell? ⟨w.heap.size,1,none⟩=some (.slice A l.length c):=(HB.out.cell (by dsimp only;omega)).trans c1;have aw:=jq (aq.out.trans (HB.out.mono (by omega)));have cZ:w.heap.size<wr.heap.size:=by omega
  by_cases aa:k<l.length
  ·obtain⟨x,ab⟩:∃ x,l[k]?=some x:=⟨_,aQ aa⟩;obtain⟨b,o,c',sn,dv,sv,hA,bJ,_,ay,cw,aW,aM,f0,f1,f2,f3,f4⟩:=eq (HD.out.keep aX aw.out) ab
   cases hA
   have HX:=jq ab;have aL:=jq ay;have lC:=jq (Wh ab);have hne:(sn.toList == [])=false:=by rw[dQ,ay];simpa using HV.out x (gQ ab)
   have cJ:Hid (Np.xB l k x->∀ j y,j<k+1->l[j]?=some y->Np.xB l j y):=jq (λh j y hj hy=>by
    by_cases e:j=k
    ·subst e;rw[ab] at hy;cases hy;exact h
    ·exact HA.out j y (by omega) hy)
   have HF:Hid (¬ Np.xB l k x->r=false):=jq (λh=>by rw[<-HR.out];exact Np.aF λq=>h (q k x ab));have bO:(0:Int)<=(k:Int):=by omega
   have bM:(k:Int)<(l.length:Int):=by omega
   have az:b<wr.heap.size:=by omega
   have E6:∃ q:Bool,Hid (q=true↔∃ p,0<k/\l[k - 1]?=some p/\p.set.name=x.set.name)/\((k=0/\q=false)\/∃ (m:Nat) (sy:ByteArray),k=m+1/\wr.cell? ⟨b,o+m * 5,none⟩=some (.string sy)/\(sy.toList == sn.toList)=q):=by
    by_cases gV:k=0
    ·exact⟨false,jq ⟨λh=>(by cases h),λ⟨p,h,_⟩=>(by omega)⟩,.inl ⟨gV,rfl⟩⟩
    ·obtain⟨m,rfl⟩:∃ m,k=m+1:=⟨k - 1,by omega⟩;obtain⟨y,hy⟩:∃ y,l[m]?=some y:=⟨_,aQ (by omega)⟩;obtain⟨b9,o9,c9,sy,dv9,sv9,hA,_,_,eU,_,_,_,q0,q1,_⟩:=eq (HD.out.keep aX aw.out) hy;simp only[Value.slice.injEq,Option.some.injEq,Addr.mk.injEq,and_true,true_and] at hA;obtain⟨⟨rfl,rfl⟩,-⟩:=hA;refine⟨_,jq ?_,.inr ⟨m,sy,rfl,q0,rfl⟩⟩;rw[dQ,dQ,eU,aL.out,beq_iff_eq];constructor
     ·intro h;exact⟨y,by omega,by simpa using hy,h⟩
     ·rintro⟨p,_,hp,h⟩;rw[show m+1 - 1=m by omega,hy] at hp
      cases hp;exact h
   obtain⟨qb,ph,yN⟩:=E6;obtain⟨ty,eK⟩:∃ ty,x.set.type=ty:=⟨_,rfl⟩;have di:=jq eK;rw[eK] at f1;clear ab ay aW aM eK f2 f3 f4;have gT:∃ m:Nat,(decide ((0:Int)<(k:Int))=false/\decide (0<k)=false/\qb=false)\/(decide ((0:Int)<(k:Int))=true/\decide (0<k)=true/\IntKind.i64.wrap ((k:Int) - 1)=(m:Int)/\(k:Int) - 1=(m:Int)/\(0:Int)<=(m:Int)/\(m:Int)<(l.length:Int)/\∃ sy:ByteArray,wr.cell? ⟨b,o+m * 5,none⟩=some (.string sy)/\(sy.toList == sn.toList)=qb):=by
    rcases yN with ⟨gV,h⟩ | ⟨m,sy,li,g0,pS⟩
    ·exact⟨0,.inl ⟨by simp;omega,by simp;omega,h⟩⟩
    ·exact⟨m,.inr ⟨by simp;omega,by simp;omega,by rw[IntWalk.i64_in _ (by omega)];omega,by omega,by omega,by omega,sy,g0,pS⟩⟩
   clear yN;obtain⟨m,gT⟩:=gT;by_cases h3:ty=3
   ·subst h3;have ru:Hid (sn.data.toList=Np.l6 (l.take (k+1))):=jq (by rw[lC.out,Qb di.out,aL.out]);rcases gT with ⟨jC,iT,rfl⟩ | ⟨jC,iT,FY,BX,my,pF,sy,g0,pS⟩
    ·have bk:=jq (cJ.out (λp h0 hp he=>by have:=ph.out.2 ⟨p,h0,hp,he⟩;cases this));go_wp2_with fail;go_quiet (fail);go_wp2_with fail;go_roundw
     case rel=>exact⟨k+1,sn,by omega,by go_num,rfl,ru,jq (below_drewN HB.out _),jq bk.out⟩
     case measure=>simp[intOf] <;> omega
    ·cases qb with
     | false=>
      have bk:=jq (cJ.out (λp h0 hp he=>by have:=ph.out.2 ⟨p,h0,hp,he⟩;cases this));go_wp2_with fail;go_quiet (fail);go_wp2_with fail;go_roundw
      case rel=>exact⟨k+1,sn,by omega,by go_num,rfl,ru,jq (below_drewN HB.out _),jq bk.out⟩
      case measure=>simp[intOf] <;> omega
     | true=>
      have pj:Hid (r=false):=jq (HF.out λh=>by
       obtain⟨p,h0,hp,he⟩:=ph.out.1 (by simp);exact (h p h0 hp he).1 di.out)
      go_wp2_with fail;go_quiet (fail);obtain⟨w2,ai⟩:∃ w2,wr.drewN nq=w2:=⟨_,rfl⟩;rw[ai];have ac:Below wr.heap.size wr w2:=by rw[<-ai];exact below_drewN (vQ _ _) _
      have t1:w2.cell? ⟨w.heap.size,1,none⟩=some (.slice (some ⟨b,o,none⟩) l.length c):=(ac.cell (by dsimp only;omega)).trans d1;have t2:w2.cell? ⟨b,o+k * 5,none⟩=some (.string sn):=(ac.cell (by dsimp only;omega)).trans f0;have dT:=jq (aw.out.trans (ac.mono (by omega)));clear ac ai;go_wp2_with fail;go_ret;exact⟨ae pj.out.symm,dT.out⟩
   ·have h3':(ty == 3)=false:=by simpa using h3
    have h3'':(ty != 3)=true:=by simpa using h3
    have ru:Hid (sa.data.toList=Np.l6 (l.take (k+1))):=jq (by rw[lC.out,Qc (by rw[di.out];exact h3)];exact n9.out);rcases gT with ⟨jC,iT,rfl⟩ | ⟨jC,iT,FY,BX,my,pF,sy,g0,pS⟩
    ·have bk:=jq (cJ.out (λp h0 hp he=>by have:=ph.out.2 ⟨p,h0,hp,he⟩;cases this));go_wp2_with fail;go_quiet (fail);go_wp2_with fail;go_roundw
     case rel=>exact⟨k+1,sa,by omega,by go_num,rfl,ru,jq (below_drewN HB.out _),jq bk.out⟩
     case measure=>simp[intOf] <;> omega
    ·cases qb with
     | false=>
      have bk:=jq (cJ.out (λp h0 hp he=>by have:=ph.out.2 ⟨p,h0,hp,he⟩;cases this));go_wp2_with fail;go_quiet (fail);go_wp2_with fail;go_roundw
      case rel=>exact⟨k+1,sa,by omega,by go_num,rfl,ru,jq (below_drewN HB.out _),jq bk.out⟩
      case measure=>simp[intOf] <;> omega
     | true=>
      obtain⟨qe,FJ⟩:∃ qe,(sn.toList == sa.toList)=qe:=⟨_,rfl⟩;have IF:Hid (qe=true↔Np.l6 (l.take (k+1))=x.set.name):=jq (by rw[<-FJ,dQ,dQ,aL.out,ru.out,beq_iff_eq];exact eq_comm);obtain⟨q8,tA⟩:∃ q8,(ty != 8)=q8:=⟨_,rfl⟩;have AA:Hid (q8=true↔x.set.type≠8):=jq (by rw[<-tA,di.out];simp);have nf:Hid (x.set.type≠3):=jq (by rw[di.out];exact h3);clear h3;go_wp2_with fail;go_quiet (fail);obtain⟨w2,ai⟩:∃ w2,wr.drewN nq=w2:=⟨_,rfl⟩;rw[ai];have ac:Below wr.heap.size wr w2:=by rw[<-ai];exact below_drewN (vQ _ _) _
      have t1:w2.cell? ⟨w.heap.size,1,none⟩=some (.slice (some ⟨b,o,none⟩) l.length c):=(ac.cell (by dsimp only;omega)).trans d1;have t2:w2.cell? ⟨b,o+k * 5,none⟩=some (.string sn):=(ac.cell (by dsimp only;omega)).trans f0;have dT:=jq (aw.out.trans (ac.mono (by omega)));have IZ:=jq (HB.out.trans (ac.mono HB.out.size));clear ac ai
      cases qe with
      | false=>
       have bk:=jq (cJ.out (λp h0 hp he=>⟨nf.out,λhl=>by have:=IF.out.2 hl;cases this⟩));go_wp2_with fail;go_roundw
       case rel=>exact⟨k+1,sa,by omega,by go_num,rfl,ru,jq IZ.out,jq bk.out⟩
       case measure=>simp[intOf] <;> omega
      | true=>
       cases q8 with
       | false=>
        have bk:=jq (cJ.out (λp h0 hp he=>⟨nf.out,λ_=>Decidable.not_not.1 λh8=>by have:=AA.out.2 h8;cases this⟩));go_wp2_with fail;go_roundw
        case rel=>exact⟨k+1,sa,by omega,by go_num,rfl,ru,jq IZ.out,jq bk.out⟩
        case measure=>simp[intOf] <;> omega
       | true=>
        have pj:Hid (r=false):=jq (HF.out λh=>by
         obtain⟨p,h0,hp,he⟩:=ph.out.1 (by simp);exact AA.out.1 (by simp) ((h p h0 hp he).2 (IF.out.1 (by simp))))
        go_wp2_with fail;go_ret;exact⟨ae pj.out.symm,dT.out⟩
  ·go_wp2_with fail;go_ret;refine⟨ae ?_,aw.out⟩;rw[<-HR.out];exact (Np.bB λi x hx=>HA.out i x (by have:=(cQ.1 hx).1;omega) hx).symm
end
end Go.Proofs.YtfnopgdcaanaiaaGreatDoor
