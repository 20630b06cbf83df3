/- Parts of the proof. No condition. -/
import Derived.Test.YtfnopgdcaanaiaaGreatDoorK07
import Derived.Test.YtfnopgdcaanaiaaGreatDoorK10
set_option linter.all false
set_option maxRecDepth 100000
set_option maxHeartbeats 8000000
namespace Go.Proofs.YtfnopgdcaanaiaaGreatDoor
open Go.Proofs.Tryz
section
open Go.RowKit
structure Np.ApexH(a:List UInt8)(l:List Np.Signed):Prop where
 start:Np.jo l a 4
 server:Np.jo l a 2
 fits:∀ x∈l,Np.jl x.set.type (x.set.name == a)=true
theorem UM(a:ByteArray)(ha:a.size<=140737488355328)(na:Np.aG a.data.toList=true)(v:Value)(l:List Np.Signed)(bM:l.length<=20000)(hv:∀ x∈l,Np.aG x.set.name=true)(hs:Np.uW l)(w:World)(hd:SlR bk 5 w w.heap.size v l) :
 Calls prog 199 #[.agg #[.string a,v]] w λe w'=>e = .returned (.bool (Np.yes (Np.ApexH a.data.toList l)))/\Below w.heap.size w w':=by
 obtain⟨r,hr⟩:∃ r,Np.yes (Np.ApexH a.data.toList l)=r:=⟨_,rfl⟩;rw[hr];have HR:=jq hr;have HV:=jq hv;have HS:=jq hs;have HD:=jq hd;have NA:=jq na;obtain⟨A,c,rfl,bD,bL⟩:=al hd;clear hr hv hs hd na;have HW:Hid (∀ o o',Below w.heap.size w ((w.alloc o).alloc o')):=jq (λo o'=>((vQ _ w).alloc (bQ _) _).alloc (by simp) _);go_enter func199,ntmps199;go_wp2_with fail;obtain⟨w1,aj⟩:∃ w1,(w.alloc (.cells #[.string a,.slice A l.length c] 263)).alloc (.cells #[.int .i64 4,.int .i64 2] 3)=w1:=⟨_,rfl⟩;have c0:w1.cell? ⟨w.heap.size,0,none⟩=some (.string a):=by rw[<-aj];simp[go_sem]
 have c1:w1.cell? ⟨w.heap.size,1,none⟩=some (.slice A l.length c):=by rw[<-aj];simp[go_sem]
 have c2:w1.cell? ⟨w.heap.size+1,0,none⟩=some (.int .i64 4):=by rw[<-aj];simp[go_sem]
 have c3:w1.cell? ⟨w.heap.size+1,1,none⟩=some (.int .i64 2):=by rw[<-aj];simp[go_sem]
 have dG:w1.heap.size=w.heap.size+2:=by rw[<-aj];simp
 have ay:Hid (Below w.heap.size w w1):=jq (by rw[<-aj];exact HW.out _ _);rw[aj];clear aj;go_loopw [11] (λi wr=>Hid (Below w1.heap.size w1 wr)/\(i = .int .i64 0\/(i = .int .i64 1/\Hid (Np.jo l a.data.toList 4))\/(i = .int .i64 2/\Hid (Np.jo l a.data.toList 4)/\Hid (Np.jo l a.data.toList 2)))) (λi _=>2 - (intOf i).toNat)
 case atStart=>exact⟨jq (vQ _ _),.inl rfl⟩
 case round=>
  obtain⟨HB,hi⟩:=hrel;have ap:=HB.out.size;obtain⟨bc,bf⟩:=s5 HB.out;have d0:wr.cell? ⟨w.heap.size,0,none⟩=some (.string a):=by rw[bc _ _ (by omega)];exact c0
  have d1:wr.cell? ⟨w.heap.size,1,none⟩=some (.slice A l.length c):=by rw[bc _ _ (by omega)];exact c1
  have d2:wr.cell? ⟨w.heap.size+1,0,none⟩=some (.int .i64 4):=by rw[bc _ _ (by omega)];exact c2
  have d3:wr.cell? ⟨w.heap.size+1,1,none⟩=some (.int .i64 2):=by rw[bc _ _ (by omega)];exact c3
  clear bc bf;have aB:=jq (ay.out.trans (HB.out.mono (by omega)));have Ga:=jq ((HD.out.keep ba aB.out).more bY (show w.heap.size<=wr.heap.size by omega));have cK:w.heap.size+1<wr.heap.size:=by omega
  have Xk:w.heap.size<wr.heap.size:=by omega
  rcases hi with rfl | ⟨rfl,H4⟩ | ⟨rfl,H4,H2⟩
  ·go_wp2_with fail;refine (M7 a _ l bM HV.out HS.out a ha 4 NA.out _ Ga.out).mono ?_;rintro e w2 ⟨rfl,hb⟩;have ak:=jq hb;have aM:=hb.size;clear hb
   cases hk:Np.yes (Np.jo l a.data.toList 4) with
   | true=>
    have HK:=jq hk;clear hk;go_wp2_with fail;go_roundw
    case rel=>exact⟨jq (HB.out.trans (ak.out.mono HB.out.size)),.inr (.inl ⟨by go_num,jq (Np.fm.1 HK.out)⟩)⟩
    case measure=>simp[intOf] <;> omega
   | false=>
    have HK:=jq hk;clear hk;go_wp2_with fail;go_ret;refine⟨ag ?_,aB.out.trans (ak.out.mono (by omega))⟩;rw[<-HR.out];refine (Np.aN λh=>?_).symm
    have:=Np.bO h.start
    rw[HK.out] at this
    cases this
  ·go_wp2_with fail;refine (M7 a _ l bM HV.out HS.out a ha 2 NA.out _ Ga.out).mono ?_;rintro e w2 ⟨rfl,hb⟩;have ak:=jq hb;have aM:=hb.size;clear hb
   cases hk:Np.yes (Np.jo l a.data.toList 2) with
   | true=>
    have HK:=jq hk;clear hk;go_wp2_with fail;go_roundw
    case rel=>exact⟨jq (HB.out.trans (ak.out.mono HB.out.size)),.inr (.inr ⟨by go_num,H4,jq (Np.fm.1 HK.out)⟩)⟩
    case measure=>simp[intOf] <;> omega
   | false=>
    have HK:=jq hk;clear hk;go_wp2_with fail;go_ret;refine⟨ag ?_,aB.out.trans (ak.out.mono (by omega))⟩;rw[<-HR.out];refine (Np.aN λh=>?_).symm
    have:=Np.bO h.server
    rw[HK.out] at this
    cases this
  ·go_wp2_with fail;clear d2 d3 c0 c1 c2 c3;obtain⟨w5,rfl⟩:∃ w5,w5=wr:=⟨_,rfl⟩;go_loopw [32] (λi wx=>∃ k:Nat,k<=l.length/\i = .int .i64 k/\Hid (Below w5.heap.size w5 wx)/\Hid (∀ j x,j<k->l[j]?=some x->Np.jl x.set.type (x.set.name == a.data.toList)=true)) (λi _=>l.length - (intOf i).toNat)
   case atStart=>exact⟨0,jQ _,rfl,jq (vQ _ _),jq (λj g hj=>by omega)⟩
   case round=>
    obtain⟨k,hk,rfl,HX,HA⟩:=hrel;by_cases aa:k<l.length
    ·have ab:=aQ aa;obtain⟨b,o,c',sn,dv,sv,hA,bU,_,aF,cx,aV,aR,e0,e1,e2,e3,e4⟩:=eV (Ga.out.keep ba HX.out) ab
     cases hA
     generalize hx:l[k]=x at *;clear hx;obtain⟨Ad,cd,rfl,_,_⟩:=al aV;obtain⟨As,cs,rfl,_,_⟩:=al aR;have kN:=HX.out.size;have g0:wr.cell? ⟨w.heap.size,0,none⟩=some (.string a):=by rw[HX.out.cell (by simpa using Xk)];exact d0
     have eR:w.heap.size<wr.heap.size:=by omega
     have heq:(sn.toList == a.toList)=(x.set.name == a.data.toList):=by rw[dQ,dQ,aF]
     have ur:Hid (Np.jl x.set.type (x.set.name == a.data.toList)=true->∀ j y,j<k+1->l[j]?=some y->Np.jl y.set.type (y.set.name == a.data.toList)=true):=jq (λh j y hj hy=>by
      by_cases e:j=k
      ·subst e;rw[ab] at hy;cases hy;exact h
      ·exact HA.out j y (by omega) hy)
     have Ge:Hid (Np.jl x.set.type (x.set.name == a.data.toList)=false->r=false):=jq (λh=>by
      rw[<-HR.out];exact Np.aN λq=>by have:=q.fits x (gQ ab);rw[h] at this;cases this)
     have bg:Hid (∀ o,Below w5.heap.size w5 (wr.alloc o)):=jq (λo=>HX.out.alloc HX.out.size _);generalize (x.set.name == a.data.toList)=bb at *;clear ab aF aV aR
     cases hf:Np.jl x.set.type bb with
     | true=>
      have HF:=jq hf;go_wp2_with (go_at_call 271;refine (M8 _ _ _).mono ?_;rintro e w' ⟨rfl,rfl⟩);go_roundw
      case rel=>exact⟨k+1,by omega,by go_num,jq (bg.out _),jq (ur.out HF.out)⟩
      case measure=>simp[intOf] <;> omega
     | false=>
      have HF:=jq hf;go_wp2_with (go_at_call 271;refine (M8 _ _ _).mono ?_;rintro e w' ⟨rfl,rfl⟩);go_ret;exact⟨ag (Ge.out HF.out).symm,aB.out.trans ((bg.out _).mono (by omega))⟩
    ·go_wp2_with fail;go_ret;refine⟨ag ?_,aB.out.trans (HX.out.mono (by omega))⟩;rw[<-HR.out];refine (Np.bO ⟨H4.out,H2.out,λx hx=>?_⟩).symm;obtain⟨j,hj,rfl⟩:=nQ.1 hx;exact HA.out j _ (by omega) (aQ hj)
def Np.An(l:List Np.Signed)(k:Nat)(x:Np.Signed):Prop:=∀ p,0<k->l[k - 1]?=some p->p.set.name=x.set.name->x.set.type≠3/\(Np.nj (l.take (k+1))=x.set.name->x.set.type=8)
def Np.Ar(l:List Np.Signed):Prop:=∀ k x,l[k]?=some x->Np.An l k x
theorem Z7{l:List Np.Signed}{k:Nat}{x:Np.Signed}(hx:l[k]?=some x):Np.nj (l.take (k+1))=if x.set.type=3 then x.set.name else Np.nj (l.take k):=by
 obtain⟨hk,rfl⟩:=cQ.1 hx;rw[fQ hk,Np.JE]
theorem asQ(a:ByteArray)(v:Value)(l:List Np.Signed)(bM:l.length<=20000)(hv:∀ x∈l,x.set.name≠[])(w:World)(hd:SlR bk 5 w w.heap.size v l) :
 Calls prog 161 #[.agg #[.string a,v]] w λe w'=>e = .returned (.bool (Np.yes (Np.Ar l)))/\Below w.heap.size w w':=by
 obtain⟨r,hr⟩:∃ r,Np.yes (Np.Ar l)=r:=⟨_,rfl⟩;rw[hr];have HR:=jq hr;have HD:=jq hd;have HV:=jq hv;obtain⟨A,c,rfl,bD,bL⟩:=al hd;clear hr hd hv;have HW:Hid (∀ o,Below w.heap.size w (w.alloc o)):=jq (λo=>(vQ _ w).alloc (bQ _) _);go_enter func161,ntmps161;go_wp2_with fail;obtain⟨w1,aj⟩:∃ w1,w.alloc (.cells #[.string a,.slice A l.length c] 44)=w1:=⟨_,rfl⟩;have c1:w1.cell? ⟨w.heap.size,1,none⟩=some (.slice A l.length c):=by rw[<-aj];simp[go_sem]
 have bh:w1.heap.size=w.heap.size+1:=by rw[<-aj];simp
 have ay:Hid (Below w.heap.size w w1):=jq (by rw[<-aj];exact HW.out _);rw[aj];clear aj;go_loopw [3,4] (λva i wr=>∃ (k:Nat) (sa:ByteArray),k<=l.length/\i = .int .i64 k/\va = .string sa/\Hid (sa.data.toList=Np.nj (l.take k))/\Hid (Below w1.heap.size w1 wr)/\Hid (∀ j x,j<k->l[j]?=some x->Np.An l j x)) (λ_ i _=>l.length - (intOf i).toNat)
 case atStart=>exact⟨0,⟨#[]⟩,jQ _,rfl,rfl,jq rfl,jq (vQ _ _),jq (λj g hj=>by omega)⟩
 case round=>
  obtain⟨k,sa,hk,rfl,rfl,uJ,HB,HA⟩:=hrel;have ap:=HB.out.size;have d1:wr.cell? ⟨w.heap.size,1,none⟩=some (.slice A l.length c):=(HB.out.cell (by dsimp only;omega)).trans c1;have aB:=jq (ay.out.trans (HB.out.mono (by omega)));have cK:w.heap.size<wr.heap.size:=by omega
  by_cases aa:k<l.length
  ·obtain⟨x,ab⟩:∃ x,l[k]?=some x:=⟨_,aQ aa⟩;obtain⟨b,o,c',sn,dv,sv,hA,bU,_,aF,cx,aV,aR,f0,f1,f2,f3,f4⟩:=eV (HD.out.keep ba aB.out) ab
   cases hA
   have HX:=jq ab;have aS:=jq aF;have pG:=jq (Z7 ab);have hne:(sn.toList == [])=false:=by rw[dQ,aF];simpa using HV.out x (gQ ab)
   have dI:Hid (Np.An l k x->∀ j y,j<k+1->l[j]?=some y->Np.An l j y):=jq (λh j y hj hy=>by
    by_cases e:j=k
    ·subst e;rw[ab] at hy;cases hy;exact h
    ·exact HA.out j y (by omega) hy)
   have HF:Hid (¬ Np.An l k x->r=false):=jq (λh=>by rw[<-HR.out];exact Np.aN λq=>h (q k x ab));have bX:(0:Int)<=(k:Int):=by omega
   have bW:(k:Int)<(l.length:Int):=by omega
   have aw:b<wr.heap.size:=by omega
   have It:∃ q:Bool,Hid (q=true↔∃ p,0<k/\l[k - 1]?=some p/\p.set.name=x.set.name)/\((k=0/\q=false)\/∃ (m:Nat) (sy:ByteArray),k=m+1/\wr.cell? ⟨b,o+m * 5,none⟩=some (.string sy)/\(sy.toList == sn.toList)=q):=by
    by_cases iC:k=0
    ·exact⟨false,jq ⟨λh=>(by cases h),λ⟨p,h,_⟩=>(by omega)⟩,.inl ⟨iC,rfl⟩⟩
    ·obtain⟨m,rfl⟩:∃ m,k=m+1:=⟨k - 1,by omega⟩;obtain⟨y,hy⟩:∃ y,l[m]?=some y:=⟨_,aQ (by omega)⟩;obtain⟨b9,o9,c9,sy,dv9,sv9,hA,_,_,gm,_,_,_,q0,q1,_⟩:=eV (HD.out.keep ba aB.out) hy;simp only[Value.slice.injEq,Option.some.injEq,Addr.mk.injEq,and_true,true_and] at hA;obtain⟨⟨rfl,rfl⟩,-⟩:=hA;refine⟨_,jq ?_,.inr ⟨m,sy,rfl,q0,rfl⟩⟩;rw[dQ,dQ,gm,aS.out,beq_iff_eq];constructor
     ·intro h;exact⟨y,by omega,by simpa using hy,h⟩
     ·rintro⟨p,_,hp,h⟩;rw[show m+1 - 1=m by omega,hy] at hp
      cases hp;exact h
   obtain⟨qb,qW,BV⟩:=It;obtain⟨ty,dX⟩:∃ ty,x.set.type=ty:=⟨_,rfl⟩;have dB:=jq dX;rw[dX] at f1;clear ab aF aV aR dX f2 f3 f4;have iA:∃ m:Nat,(decide ((0:Int)<(k:Int))=false/\decide (0<k)=false/\qb=false)\/(decide ((0:Int)<(k:Int))=true/\decide (0<k)=true/\IntKind.i64.wrap ((k:Int) - 1)=(m:Int)/\(k:Int) - 1=(m:Int)/\(0:Int)<=(m:Int)/\(m:Int)<(l.length:Int)/\∃ sy:ByteArray,wr.cell? ⟨b,o+m * 5,none⟩=some (.string sy)/\(sy.toList == sn.toList)=qb):=by
    rcases BV with ⟨iC,h⟩ | ⟨m,sy,l9,g0,rL⟩
    ·exact⟨0,.inl ⟨by simp;omega,by simp;omega,h⟩⟩
    ·exact⟨m,.inr ⟨by simp;omega,by simp;omega,by rw[IntWalk.i64_in _ (by omega)];omega,by omega,by omega,by omega,sy,g0,rL⟩⟩
   clear BV;obtain⟨m,iA⟩:=iA;by_cases h3:ty=3
   ·subst h3;have tL:Hid (sn.data.toList=Np.nj (l.take (k+1))):=jq (by rw[pG.out,Qb dB.out,aS.out]);rcases iA with ⟨iU,ie,rfl⟩ | ⟨iU,ie,Jr,ED,nT,rB,sy,g0,rL⟩
    ·have bI:=jq (dI.out (λp h0 hp he=>by have:=qW.out.2 ⟨p,h0,hp,he⟩;cases this));go_wp2_with fail;go_quiet (fail);go_wp2_with fail;go_roundw
     case rel=>exact⟨k+1,sn,by omega,by go_num,rfl,tL,jq (below_drewN HB.out _),jq bI.out⟩
     case measure=>simp[intOf] <;> omega
    ·cases qb with
     | false=>
      have bI:=jq (dI.out (λp h0 hp he=>by have:=qW.out.2 ⟨p,h0,hp,he⟩;cases this));go_wp2_with fail;go_quiet (fail);go_wp2_with fail;go_roundw
      case rel=>exact⟨k+1,sn,by omega,by go_num,rfl,tL,jq (below_drewN HB.out _),jq bI.out⟩
      case measure=>simp[intOf] <;> omega
     | true=>
      have rc:Hid (r=false):=jq (HF.out λh=>by
       obtain⟨p,h0,hp,he⟩:=qW.out.1 (by simp);exact (h p h0 hp he).1 dB.out)
      go_wp2_with fail;go_quiet (fail);obtain⟨w2,ae⟩:∃ w2,wr.drewN nq=w2:=⟨_,rfl⟩;rw[ae];have ac:Below wr.heap.size wr w2:=by rw[<-ae];exact below_drewN (vQ _ _) _
      have t1:w2.cell? ⟨w.heap.size,1,none⟩=some (.slice (some ⟨b,o,none⟩) l.length c):=(ac.cell (by dsimp only;omega)).trans d1;have t2:w2.cell? ⟨b,o+k * 5,none⟩=some (.string sn):=(ac.cell (by dsimp only;omega)).trans f0;have er:=jq (aB.out.trans (ac.mono (by omega)));clear ac ae;go_wp2_with fail;go_ret;exact⟨ag rc.out.symm,er.out⟩
   ·have h3':(ty == 3)=false:=by simpa using h3
    have h3'':(ty != 3)=true:=by simpa using h3
    have tL:Hid (sa.data.toList=Np.nj (l.take (k+1))):=jq (by rw[pG.out,Qc (by rw[dB.out];exact h3)];exact uJ.out);rcases iA with ⟨iU,ie,rfl⟩ | ⟨iU,ie,Jr,ED,nT,rB,sy,g0,rL⟩
    ·have bI:=jq (dI.out (λp h0 hp he=>by have:=qW.out.2 ⟨p,h0,hp,he⟩;cases this));go_wp2_with fail;go_quiet (fail);go_wp2_with fail;go_roundw
     case rel=>exact⟨k+1,sa,by omega,by go_num,rfl,tL,jq (below_drewN HB.out _),jq bI.out⟩
     case measure=>simp[intOf] <;> omega
    ·cases qb with
     | false=>
      have bI:=jq (dI.out (λp h0 hp he=>by have:=qW.out.2 ⟨p,h0,hp,he⟩;cases this));go_wp2_with fail;go_quiet (fail);go_wp2_with fail;go_roundw
      case rel=>exact⟨k+1,sa,by omega,by go_num,rfl,tL,jq (below_drewN HB.out _),jq bI.out⟩
      case measure=>simp[intOf] <;> omega
     | true=>
      obtain⟨qe,I9⟩:∃ qe,(sn.toList == sa.toList)=qe:=⟨_,rfl⟩;have LA:Hid (qe=true↔Np.nj (l.take (k+1))=x.set.name):=jq (by rw[<-I9,dQ,dQ,aS.out,tL.out,beq_iff_eq];exact eq_comm);obtain⟨q8,vZ⟩:∃ q8,(ty != 8)=q8:=⟨_,rfl⟩;have Dd:Hid (q8=true↔x.set.type≠8):=jq (by rw[<-vZ,dB.out];simp);have oL:Hid (x.set.type≠3):=jq (by rw[dB.out];exact h3);clear h3;go_wp2_with fail;go_quiet (fail);obtain⟨w2,ae⟩:∃ w2,wr.drewN nq=w2:=⟨_,rfl⟩;rw[ae];have ac:Below wr.heap.size wr w2:=by rw[<-ae];exact below_drewN (vQ _ _) _
      have t1:w2.cell? ⟨w.heap.size,1,none⟩=some (.slice (some ⟨b,o,none⟩) l.length c):=(ac.cell (by dsimp only;omega)).trans d1;have t2:w2.cell? ⟨b,o+k * 5,none⟩=some (.string sn):=(ac.cell (by dsimp only;omega)).trans f0;have er:=jq (aB.out.trans (ac.mono (by omega)));have LT:=jq (HB.out.trans (ac.mono HB.out.size));clear ac ae
      cases qe with
      | false=>
       have bI:=jq (dI.out (λp h0 hp he=>⟨oL.out,λhl=>by have:=LA.out.2 hl;cases this⟩));go_wp2_with fail;go_roundw
       case rel=>exact⟨k+1,sa,by omega,by go_num,rfl,tL,jq LT.out,jq bI.out⟩
       case measure=>simp[intOf] <;> omega
      | true=>
       cases q8 with
       | false=>
        have bI:=jq (dI.out (λp h0 hp he=>⟨oL.out,λ_=>Decidable.not_not.1 λh8=>by have:=Dd.out.2 h8;cases this⟩));go_wp2_with fail;go_roundw
        case rel=>exact⟨k+1,sa,by omega,by go_num,rfl,tL,jq LT.out,jq bI.out⟩
        case measure=>simp[intOf] <;> omega
       | true=>
        have rc:Hid (r=false):=jq (HF.out λh=>by
         obtain⟨p,h0,hp,he⟩:=qW.out.1 (by simp);exact Dd.out.1 (by simp) ((h p h0 hp he).2 (LA.out.1 (by simp))))
        go_wp2_with fail;go_ret;exact⟨ag rc.out.symm,er.out⟩
  ·go_wp2_with fail;go_ret;refine⟨ag ?_,aB.out⟩;rw[<-HR.out];exact (Np.bO λi x hx=>HA.out i x (by have:=(cQ.1 hx).1;omega) hx).symm
theorem QL(t:Int)(b:Bool)(w:World) :
 Calls prog 236 #[.int .i64 t,.bool b] w λe w'=>e = .returned (.bool (Np.jl t b))/\w=w':=by
 by_cases h3:t=3
 ·subst h3
  cases b
  all_goals
   go_enter func236,ntmps236;go_wp2_with fail;go_ret;exact⟨rfl,rfl⟩
 ·by_cases h6:t=6
  ·subst h6
   cases b
   all_goals
    go_enter func236,ntmps236;go_wp2_with fail;go_ret;exact⟨rfl,rfl⟩
  ·by_cases h4:t=4
   ·subst h4
    cases b
    all_goals
     go_enter func236,ntmps236;go_wp2_with fail;go_ret;exact⟨rfl,rfl⟩
   ·by_cases h7:t=7
    ·subst h7
     cases b
     all_goals
      go_enter func236,ntmps236;go_wp2_with fail;go_ret;exact⟨rfl,rfl⟩
    ·have HF:Hid (Np.jl t b=true):=jq (by unfold Np.jl;rw[Qc (by omega),Qc (by omega)]);have g3:(t != 3)=true:=by simpa using h3
     have g6:(t != 6)=true:=by simpa using h6
     have g4:(t != 4)=true:=by simpa using h4
     have g7:(t != 7)=true:=by simpa using h7
     rw[HF.out];clear h3 h6 h4 h7
     cases b
     all_goals
      go_enter func236,ntmps236;go_wp2_with fail;go_ret;exact⟨rfl,rfl⟩
def Np.atI(l:List Np.Signed)(n:List UInt8)(t:Int):Int:=match l.findIdx? λx=>(x.set.name == n)&&decide (x.set.type=t) with | none=>-1 | some i=>i
theorem Mr{l:List Np.Signed}{n:List UInt8}{t:Int}(h:∀ (j:Nat) (x:Np.Signed),l[j]?=some x->¬ (x.set.name=n/\x.set.type=t)):Np.atI l n t = -1:=by
 unfold Np.atI
 have:l.findIdx? (λx=>(x.set.name == n)&&decide (x.set.type=t))=none:=by
  rw[List.findIdx?_eq_none_iff];intro x hx;obtain⟨j,hj,rfl⟩:=nQ.1 hx
  have:=h j _ (aQ hj)
  rw[Bool.and_eq_false_iff];by_cases e:l[j].set.name=n
  ·right;simpa using λe2=>this ⟨e,e2⟩
  ·left;simpa using e
 rw[this]
theorem UW{l:List Np.Signed}{n:List UInt8}{t:Int}{k:Nat}{x:Np.Signed}(hx:l[k]?=some x)(he:x.set.name=n/\x.set.type=t)(h:∀ (j:Nat) (y:Np.Signed),j<k->l[j]?=some y->¬ (y.set.name=n/\y.set.type=t)):Np.atI l n t=k:=by
 unfold Np.atI;obtain⟨hk,rfl⟩:=cQ.1 hx
 have:l.findIdx? (λx=>(x.set.name == n)&&decide (x.set.type=t))=some k:=by
  rw[List.findIdx?_eq_some_iff_getElem];refine⟨hk,by simp[he.1,he.2],λj hj=>?_⟩
  have:=h j _ hj (aQ (by omega))
  simpa using this
 rw[this]
theorem Mp(l:List Np.Signed)(n:List UInt8)(t:Int):(Np.atI l n t<0)↔¬ Np.jo l n t:=by
 by_cases h:Np.jo l n t
 ·obtain⟨x,hx,h1,h2⟩:=h;refine⟨λaa=>?_,λhn=>absurd ⟨x,hx,h1,h2⟩ hn⟩;unfold Np.atI at aa
  cases hf:l.findIdx? (λx=>(x.set.name == n)&&decide (x.set.type=t)) with
  | none=>
   rw[List.findIdx?_eq_none_iff] at hf
   have:=hf x hx
   simp[h1,h2] at this
  | some i=>rw[hf] at aa;dsimp only at aa;omega
 ·refine⟨λ_=>h,λ_=>?_⟩;rw[Mr (λj x hx he=>h ⟨x,gQ hx,he⟩)];decide
theorem QI(a:ByteArray)(v:Value)(l:List Np.Signed)(q:ByteArray)(t:Int)(w:World)(hd:SlR bk 5 w w.heap.size v l) :
 Calls prog 235 #[.agg #[.string a,v],.agg #[.string q,.int .i64 t]] w λe w'=>e = .returned (.int .i64 (Np.atI l q.data.toList t))/\Below w.heap.size w w':=by
 obtain⟨r,hr⟩:∃ r,Np.atI l q.data.toList t=r:=⟨_,rfl⟩;rw[hr];have HR:=jq hr;have HD:=jq hd;obtain⟨A,c,rfl,bD,bL⟩:=al hd;clear hr hd;have HW:Hid (∀ o o',Below w.heap.size w ((w.alloc o).alloc o')):=jq (λo o'=>((vQ _ w).alloc (bQ _) _).alloc (by simp) _);go_enter func235,ntmps235;go_wp2_with fail;obtain⟨w1,aj⟩:∃ w1,(w.alloc (.cells #[.string a,.slice A l.length c] 44)).alloc (.cells #[.string q,.int .i64 t] 31)=w1:=⟨_,rfl⟩;have c1:w1.cell? ⟨w.heap.size,1,none⟩=some (.slice A l.length c):=by rw[<-aj];simp[go_sem]
 have q0:w1.cell? ⟨w.heap.size+1,0,none⟩=some (.string q):=by rw[<-aj];simp[go_sem]
 have q1:w1.cell? ⟨w.heap.size+1,1,none⟩=some (.int .i64 t):=by rw[<-aj];simp[go_sem]
 have bh:w1.heap.size=w.heap.size+2:=by rw[<-aj];simp
 have ay:Hid (Below w.heap.size w w1):=jq (by rw[<-aj];exact HW.out _ _);rw[aj];clear aj;go_loopw [5] (λi wr=>∃ k:Nat,k<=l.length/\i = .int .i64 k/\Hid (Below w1.heap.size w1 wr)/\Hid (∀ j x,j<k->l[j]?=some x->¬ (x.set.name=q.data.toList/\x.set.type=t))) (λi _=>l.length - (intOf i).toNat)
 case atStart=>exact⟨0,jQ _,rfl,jq (vQ _ _),jq (λj g hj=>by omega)⟩
 case round=>
  obtain⟨k,hk,rfl,HB,HA⟩:=hrel;have ap:=HB.out.size;have d1:wr.cell? ⟨w.heap.size,1,none⟩=some (.slice A l.length c):=(HB.out.cell (by dsimp only;omega)).trans c1;have e0:wr.cell? ⟨w.heap.size+1,0,none⟩=some (.string q):=(HB.out.cell (by dsimp only;omega)).trans q0;have e1:wr.cell? ⟨w.heap.size+1,1,none⟩=some (.int .i64 t):=(HB.out.cell (by dsimp only;omega)).trans q1;have aB:=jq (ay.out.trans (HB.out.mono (by omega)));have cK:w.heap.size+1<wr.heap.size:=by omega
  by_cases aa:k<l.length
  ·obtain⟨x,ab⟩:∃ x,l[k]?=some x:=⟨_,aQ aa⟩;obtain⟨b,o,c',sn,dv,sv,hA,bU,_,aF,cx,aV,aR,f0,f1,f2,f3,f4⟩:=eV (HD.out.keep ba aB.out) ab
   cases hA
   have HX:=jq ab;have aS:=jq aF;have dI:Hid (¬ (x.set.name=q.data.toList/\x.set.type=t)->∀ j y,j<k+1->l[j]?=some y->¬ (y.set.name=q.data.toList/\y.set.type=t)):=jq (λh j y hj hy=>by
    by_cases e:j=k
    ·subst e;rw[ab] at hy;cases hy;exact h
    ·exact HA.out j y (by omega) hy)
   have bX:(0:Int)<=(k:Int):=by omega
   have bW:(k:Int)<(l.length:Int):=by omega
   have aw:b<wr.heap.size:=by omega
   obtain⟨b1,NH⟩:∃ b1,(sn.toList == q.toList)=b1:=⟨_,rfl⟩;obtain⟨b2,W9⟩:∃ b2,(x.set.type == t)=b2:=⟨_,rfl⟩;have H1:Hid (b1=true↔x.set.name=q.data.toList):=jq (by rw[<-NH,dQ,dQ,aF,beq_iff_eq]);have H2:Hid (b2=true↔x.set.type=t):=jq (by rw[<-W9,beq_iff_eq]);clear ab aF aV aR f2 f3 f4
   cases b1 with
   | false=>
    have HN:=jq (dI.out λh=>by have:=H1.out.2 h.1;cases this);go_wp2_with fail;go_quiet (fail);go_wp2_with fail;go_roundw
    case rel=>exact⟨k+1,by omega,by go_num,jq (below_drewN HB.out _),jq HN.out⟩
    case measure=>simp[intOf] <;> omega
   | true=>
    cases b2 with
    | false=>
     have HN:=jq (dI.out λh=>by have:=H2.out.2 h.2;cases this);go_wp2_with fail;go_quiet (fail);go_wp2_with fail;go_roundw
     case rel=>exact⟨k+1,by omega,by go_num,jq (below_drewN HB.out _),jq HN.out⟩
     case measure=>simp[intOf] <;> omega
    | true=>
     have HF:Hid (r=k):=jq (by rw[<-HR.out];exact UW HX.out ⟨H1.out.1 rfl,H2.out.1 rfl⟩ HA.out);go_wp2_with fail;go_quiet (fail);go_wp2_with fail;go_ret;exact⟨ja HF.out.symm,below_drewN aB.out _⟩
  ·have HF:Hid (r = -1):=jq (by rw[<-HR.out];exact Mr λj x hx=>HA.out j x (by have:=(cQ.1 hx).1;omega) hx);go_wp2_with fail;go_ret;exact⟨ja HF.out.symm,aB.out⟩
theorem asZ(a:ByteArray)(v:Value)(l:List Np.Signed)(w:World)(hd:SlR bk 5 w w.heap.size v l) :
 Calls prog 160 #[.agg #[.string a,v]] w λe w'=>e = .returned (.bool (Np.yes (Np.ApexH a.data.toList l)))/\Below w.heap.size w w':=by
 obtain⟨r,hr⟩:∃ r,Np.yes (Np.ApexH a.data.toList l)=r:=⟨_,rfl⟩;rw[hr];have HR:=jq hr;have HD:=jq hd;obtain⟨A,c,rfl,bD,bL⟩:=al hd;clear hr hd;have HW:Hid (∀ o,Below w.heap.size w (w.alloc o)):=jq (λo=>(vQ _ w).alloc (bQ _) _);go_enter func160,ntmps160;go_wp2_with fail;obtain⟨w1,aj⟩:∃ w1,w.alloc (.cells #[.string a,.slice A l.length c] 44)=w1:=⟨_,rfl⟩;have c0:w1.cell? ⟨w.heap.size,0,none⟩=some (.string a):=by rw[<-aj];simp[go_sem]
 have c1:w1.cell? ⟨w.heap.size,1,none⟩=some (.slice A l.length c):=by rw[<-aj];simp[go_sem]
 have bh:w1.heap.size=w.heap.size+1:=by rw[<-aj];simp
 have ay:Hid (Below w.heap.size w w1):=jq (by rw[<-aj];exact HW.out _);rw[aj];clear aj;refine (QI a _ l a 4 _ (HD.out.later ba bY ay.out)).mono ?_;rintro e w2 ⟨rfl,ac⟩;have aM:=ac.size;have ak:=jq (ay.out.trans (ac.mono (by omega)));replace c0:w2.cell? ⟨w.heap.size,0,none⟩=some (.string a):=(ac.cell (by dsimp only;omega)).trans c0;replace c1:w2.cell? ⟨w.heap.size,1,none⟩=some (.slice A l.length c):=(ac.cell (by dsimp only;omega)).trans c1;clear ac;obtain⟨i4,IK⟩:∃ i,Np.atI l a.data.toList 4=i:=⟨_,rfl⟩;have H4:Hid (i4<0↔¬ Np.jo l a.data.toList 4):=jq (by rw[<-IK];exact Mp _ _ _);rw[IK];clear IK;by_cases h4:i4<0
 ·have HX:Hid (r=false):=jq (by rw[<-HR.out];exact Np.aN λh=>H4.out.1 h4 h.start);go_wp2_with fail;go_ret;exact⟨ag HX.out.symm,ak.out⟩
 ·have pE:Hid (Np.jo l a.data.toList 4):=jq (Classical.not_not.1 λh=>h4 (H4.out.2 h));go_wp2_with fail;refine (QI a _ l a 2 _ (HD.out.later ba bY ak.out)).mono ?_;rintro e w3 ⟨rfl,am⟩;have dP:=am.size;have az:=jq (ak.out.trans (am.mono (by omega)));replace c0:w3.cell? ⟨w.heap.size,0,none⟩=some (.string a):=(am.cell (by dsimp only;omega)).trans c0;replace c1:w3.cell? ⟨w.heap.size,1,none⟩=some (.slice A l.length c):=(am.cell (by dsimp only;omega)).trans c1;clear am;obtain⟨i2,vL⟩:∃ i,Np.atI l a.data.toList 2=i:=⟨_,rfl⟩;have H2:Hid (i2<0↔¬ Np.jo l a.data.toList 2):=jq (by rw[<-vL];exact Mp _ _ _);rw[vL];clear vL;by_cases h2:i2<0
  ·have HX:Hid (r=false):=jq (by rw[<-HR.out];exact Np.aN λh=>H2.out.1 h2 h.server);go_wp2_with fail;go_ret;exact⟨ag HX.out.symm,az.out⟩
  ·have cD:Hid (Np.jo l a.data.toList 2):=jq (Classical.not_not.1 λh=>h2 (H2.out.2 h));go_wp2_with fail;go_loopw [3] (λi wr=>∃ k:Nat,k<=l.length/\i = .int .i64 k/\Hid (Below w3.heap.size w3 wr)/\Hid (∀ j x,j<k->l[j]?=some x->Np.jl x.set.type (x.set.name == a.data.toList)=true)) (λi _=>l.length - (intOf i).toNat)
   case atStart=>exact⟨0,jQ _,rfl,jq (vQ _ _),jq (λj g hj=>by omega)⟩
   case round=>
    obtain⟨k,hk,rfl,HB,HA⟩:=hrel;have ap:=HB.out.size;have d0:wr.cell? ⟨w.heap.size,0,none⟩=some (.string a):=(HB.out.cell (by dsimp only;omega)).trans c0;have d1:wr.cell? ⟨w.heap.size,1,none⟩=some (.slice A l.length c):=(HB.out.cell (by dsimp only;omega)).trans c1;have aB:=jq (az.out.trans (HB.out.mono (by omega)));have cK:w.heap.size<wr.heap.size:=by omega
    by_cases aa:k<l.length
    ·obtain⟨x,ab⟩:∃ x,l[k]?=some x:=⟨_,aQ aa⟩;obtain⟨b,o,c',sn,dv,sv,hA,bU,_,aF,cx,aV,aR,f0,f1,f2,f3,f4⟩:=eV (HD.out.keep ba aB.out) ab
     cases hA
     have bX:(0:Int)<=(k:Int):=by omega
     have bW:(k:Int)<(l.length:Int):=by omega
     have aw:b<wr.heap.size:=by omega
     have heq:(sn.toList == a.toList)=(x.set.name == a.data.toList):=by rw[dQ,dQ,aF]
     have ur:Hid (Np.jl x.set.type (x.set.name == a.data.toList)=true->∀ j y,j<k+1->l[j]?=some y->Np.jl y.set.type (y.set.name == a.data.toList)=true):=jq (λh j y hj hy=>by
      by_cases e:j=k
      ·subst e;rw[ab] at hy;cases hy;exact h
      ·exact HA.out j y (by omega) hy)
     have Ge:Hid (Np.jl x.set.type (x.set.name == a.data.toList)=false->r=false):=jq (λh=>by
      rw[<-HR.out];exact Np.aN λq=>by have:=q.fits x (gQ ab);rw[h] at this;cases this)
     generalize (x.set.name == a.data.toList)=bb at *;clear ab aF aV aR f2 f3 f4
     cases hf:Np.jl x.set.type bb with
     | true=>
      have HF:=jq (ur.out hf);have cL:∀ w,Calls prog 236 #[.int .i64 x.set.type,.bool bb] w λe w'=>e = .returned (.bool true)/\w=w':=λw=>by rw[<-hf];exact QL _ _ _
      have HC:=jq cL;rw[<-heq] at cL;have bR:=jq cL;clear hf cL heq;go_wp2_with fail;go_quiet (first | (go_at_call 236;exact Calls.quiet_of_same (Calls.still_same (bR.out _))) | (go_at_call 236;exact Calls.quiet_of_same (Calls.still_same (HC.out _))));go_wp2_with fail;go_roundw
      case rel=>exact⟨k+1,by omega,by go_num,jq (below_drewN HB.out _),jq HF.out⟩
      case measure=>simp[intOf] <;> omega
     | false=>
      have HF:=jq (Ge.out hf);have cL:∀ w,Calls prog 236 #[.int .i64 x.set.type,.bool bb] w λe w'=>e = .returned (.bool false)/\w=w':=λw=>by rw[<-hf];exact QL _ _ _
      have HC:=jq cL;rw[<-heq] at cL;have bR:=jq cL;clear hf cL heq;go_wp2_with fail;go_quiet (first | (go_at_call 236;exact Calls.quiet_of_same (Calls.still_same (bR.out _))) | (go_at_call 236;exact Calls.quiet_of_same (Calls.still_same (HC.out _))));go_wp2_with fail;go_ret;exact⟨ag HF.out.symm,below_drewN aB.out _⟩
    ·go_wp2_with fail;go_ret;refine⟨ag ?_,aB.out⟩;rw[<-HR.out];refine (Np.bO ⟨pE.out,cD.out,λx hx=>?_⟩).symm;obtain⟨j,hj,rfl⟩:=nQ.1 hx;exact HA.out j _ (by omega) (aQ hj)
end
namespace Np
def RG(n:Int):Signed:=⟨⟨[120],4,60,[⟨[],n,9⟩]⟩,[]⟩
def RF:Signed:=⟨⟨[120],2,60,[⟨[97,46,110,115],0,0⟩]⟩,[]⟩
def Fm(n:Int):Zone:=⟨[120],[RF,RG n]⟩
theorem P3{l:List Span}{a b:Int}(hf:∀ s∈l,s.frm<s.til)(h:a<b)(ht:∀ t,(a<=t/\t<b)↔inS l t):cP l = [⟨a,b⟩]:=by
 refine (Cp hf ⟨λs hs=>?_,List.pairwise_singleton _ _⟩ λt=>?_).symm
 ·rw[List.mem_singleton] at hs;subst hs;exact h
 ·rw[<-ht t];simp[inS]
structure Ent22 where
 signed:Signed
 zone:List UInt8
 til:Int
deriving DecidableEq
def QOk(n:List UInt8)(ty:Int):Prop:=aG n=true/\1<=ty/\ty<=8
def Hh(t:Int):Prop:=0<=t/\t<=20000000
noncomputable def sY(h:Hist):Int×List Held:=if yes (VHist h) then (0,ci h) else (1,[])
theorem Au{h:Hist}(k:VHist h):sY h=(0,ci h):=by unfold sY;rw[bO k];rfl
theorem Mi{h:Hist}(k:¬ VHist h):sY h=(1,[]):=by unfold sY;rw[aN k];rfl
def Dp(h:Hist)(n:List UInt8)(ty t:Int):Prop:=VHist h/\QOk n ty/\Hh t
noncomputable def rZ(h:Hist)(n:List UInt8)(ty t:Int):Int×List Signed:=if yes (Dp h n ty t) then (0,eD (ci h) n ty t) else (1,[])
theorem ET{h:Hist}{n:List UInt8}{ty t:Int}(k:Dp h n ty t):rZ h n ty t=(0,eD (ci h) n ty t):=by unfold rZ;rw[bO k];rfl
theorem ES{h:Hist}{n:List UInt8}{ty t:Int}(k:¬ Dp h n ty t):rZ h n ty t=(1,[]):=by unfold rZ;rw[aN k];rfl
def ZF(a b:Ent22):Prop:=a.signed.set.name=b.signed.set.name/\a.signed.set.type=b.signed.set.type/\a.zone=b.zone
structure EntOk(e:Ent22):Prop where
 name:aG e.signed.set.name=true
 zone:aG e.zone=true
 wild:eh e.zone=false
 under:bq e.signed.set.name e.zone=true
 til:1<=e.til/\e.til<=20100001
 kind:(e.signed.set.data = []/\(1<=e.signed.set.type/\e.signed.set.type<=8)/\(0<=e.signed.set.life/\e.signed.set.life<=100000)/\e.signed.sigs = [])\/(e.signed.set.data≠[]/\dj e.signed.set=true/\fT e.zone e.signed.sigs)
structure VCache(l:List Ent22):Prop where
 few:l.length<=400
 each:∀ e∈l,EntOk e
 apart:l.Pairwise λa b=>¬ ZF a b
theorem VCache.sub{l m:List Ent22}(h:VCache l)(hm:m.Sublist l):VCache m:=
 ⟨yQ hm.length_le h.few,λe he=>h.each e (hm.subset he),h.apart.sublist hm⟩
def rj(l:List Held)(n:List UInt8)(ty:Int):List Signed:=(l.filter λx=>(x.signed.set.name == n)&&decide (x.signed.set.type=ty)).map (·.signed)
theorem Hl{l:List Held}{n:List UInt8}{ty:Int}{x:Held} : rj (l ++ [x]) n ty=if x.signed.set.name=n/\x.signed.set.type=ty then rj l n ty ++ [x.signed] else rj l n ty:=by
 unfold rj;rw[List.filter_append,List.map_append];by_cases h:x.signed.set.name=n/\x.signed.set.type=ty
 ·have hb:((x.signed.set.name == n)&&decide (x.signed.set.type=ty))=true:=by simp[h.1,h.2]
  rw[Qb h,List.filter_cons,Qb hb];rfl
 ·have hb:((x.signed.set.name == n)&&decide (x.signed.set.type=ty))=false:=by
   rw[Bool.eq_false_iff];intro e;rw[Bool.and_eq_true,beq_iff_eq,Qa] at e;exact h e
  rw[Qc h,List.filter_cons,Qc (by rw[hb];decide)];simp
theorem aiZ(l:List Held)(n:List UInt8)(ty t:Int):eD l n ty t=cM (rj (l.filter λx=>eD.l1 x.spans t) n ty):=by
 unfold eD rj;rw[List.filter_filter];congr 2;refine List.filter_congr λx _=>?_;rw[Bool.and_assoc]
theorem JM(l:List Held)(n:List UInt8)(ty t:Int):(eD l n ty t).length<=l.length:=by
 unfold eD;have h:=ub ((l.filter λx=>(x.signed.set.name == n)&&(decide (x.signed.set.type=ty)&&eD.l1 x.spans t)).map (·.signed));rw[List.length_map] at h;exact yQ h (List.length_filter_le _ _)
def mi(us:List Signed):List (List UInt8×Value):=us.map λs=>(dR s,.bool true)
theorem ZY(us:List Signed)(s:Signed):mi (us ++ [s])=mi us ++ [(dR s,.bool true)]:=by simp[mi]
theorem PC:∀ {us:List Signed} {s:Signed},Plain47 s->(∀ x∈us,Plain47 x)->s∉us->(mi us).lookup (dR s)=none
 | [],_,_,_,_=>rfl
 | x::us,s,hs,hu,hn=>by
   have e:mi (x::us)=(dR x,.bool true)::mi us:=rfl;have hne:(dR s == dR x)=false:=beq_eq_false_iff_ne.2 λh=>hn (by rw[JC hs (hu x (by simp)) h];simp);rw[e,List.lookup_cons,hne];exact PC hs (λy hy=>hu y (mQ _ hy)) (λh=>hn (mQ _ h))
theorem PD:∀ {us:List Signed} {s:Signed},s∈us->(mi us).lookup (dR s)=some (.bool true)
 | [],_,h=>by cases h
 | x::us,s,h=>by
   have e:mi (x::us)=(dR x,.bool true)::mi us:=rfl;rw[e,List.lookup_cons];by_cases hk:(dR s == dR x)=true
   ·rw[hk]
   ·rw[Bool.not_eq_true] at hk;rw[hk];refine PD ((List.mem_cons.1 h).resolve_left ?_);rintro rfl;simp at hk
def hxN:Signed:=⟨⟨[120],2,0,[⟨[97],0,0⟩]⟩,[]⟩
def hxS:Signed:=⟨⟨[120],4,0,[⟨[],1,0⟩]⟩,[]⟩
def hxW(life:Int)(sg:List Sig):Signed:=⟨⟨[119,46,120],1,life,[⟨[],7,0⟩]⟩,sg⟩
def hxZ(life:Int)(sg:List Sig):Zone:=⟨[120],[hxN,hxS,hxW life sg]⟩
def hxC(life:Int)(sg:List Sig):List Copy:=[⟨0,0,20,hxZ life sg⟩]
def hxH(life:Int)(sg:List Sig):Hist:=⟨[⟨[97],1,0⟩],hxC life sg,⟨[46],6,0,[⟨[],1,1⟩]⟩,[1],2,50⟩
def hxG:Sig:=⟨[120],1,1,0,25,0⟩
def mD(life:Int)(sg:List Sig):Prop:=(life=10/\sg = [])\/(life=10/\sg = [hxG])\/(life=0/\sg = [])
theorem Zg{life:Int}{sg:List Sig}(h:mD life sg):eF (hxZ life sg)=true:=by
 rcases h with ⟨rfl,rfl⟩ | ⟨rfl,rfl⟩ | ⟨rfl,rfl⟩ <;> decide
theorem Zb{life:Int}{sg:List Sig}(h:mD life sg):dC (hxZ life sg) = [[],[],[]]:=by
 rcases h with ⟨rfl,rfl⟩ | ⟨rfl,rfl⟩ | ⟨rfl,rfl⟩ <;> decide
theorem Zh{life:Int}{sg:List Sig}(h:mD life sg):VZone (hxZ life sg):=by
 have hb:=Zb h;refine⟨Zg h,by simp[hxZ],⟨hxS,by simp[hxZ],rfl,rfl⟩,⟨hxN,by simp[hxZ],rfl,rfl⟩,λx hx=>?_,λi hi ht=>?_,λi hi ht=>?_,λi x b hx cW=>?_,λi x b hx cW=>?_,λx hx=>?_⟩
 ·simp only[hxZ,List.mem_cons,Qh,or_false] at hx;rcases hx with rfl | rfl | rfl <;> rfl
 ·match i,hi with
  | 0,_=>exact absurd ht (by simp[hxZ,hxS])
  | 1,_=>exact absurd ht (by simp[hxZ,hxW])
  | i+2,hi=>exact absurd hi (by simp[hxZ])
 ·match i,hi with
  | 0,_=>exact absurd ht (by simp[hxZ,hxN])
  | 1,_=>exact absurd ht (by simp[hxZ,hxS])
  | i+2,hi=>exact absurd hi (by simp[hxZ])
 ·rw[hb] at cW
  match i,hx,cW with
  | 0,hx,cW=>simp[hxZ] at hx cW;subst hx;subst cW;simp[jI,hxN]
  | 1,hx,cW=>simp[hxZ] at hx cW;subst hx;subst cW;simp[jI,hxS]
  | 2,hx,cW=>simp[hxZ] at hx cW;subst hx;subst cW;simp[jI,hxW]
  | i+3,hx,cW=>simp[hxZ] at hx
 ·rw[hb] at cW
  match i,hx,cW with
  | 0,hx,cW=>simp at cW;subst cW;intro h;exact absurd rfl h
  | 1,hx,cW=>simp at cW;subst cW;intro h;exact absurd rfl h
  | 2,hx,cW=>simp at cW;subst cW;intro h;exact absurd rfl h
  | i+3,hx,cW=>simp[hxZ] at hx
 ·simp only[hxZ,List.mem_cons,Qh,or_false] at hx;rcases hx with rfl | rfl | rfl
  ·exact⟨by decide,λi g hg=>by simp[hxN] at hg⟩
  ·exact⟨by decide,λi g hg=>by simp[hxS] at hg⟩
  ·rcases h with ⟨rfl,rfl⟩ | ⟨rfl,rfl⟩ | ⟨rfl,rfl⟩
   ·exact⟨by decide,λi g hg=>by simp[hxW] at hg⟩
   ·refine⟨by decide,λi g hg=>?_⟩
    match i,hg with
    | 0,hg=>
     simp[hxW] at hg;subst hg;exact⟨rfl,by decide,by decide,by decide,λa ha=>by simp[hxW] at ha;subst ha;exact⟨rfl,rfl⟩,λp _ h=>absurd h (by decide)⟩
    | i+1,hg=>simp[hxW] at hg
   ·exact⟨by decide,λi g hg=>by simp[hxW] at hg⟩
theorem Pb{life:Int}{sg:List Sig}(h:mD life sg):VHist (hxH life sg):=by
 refine⟨by simp[hxH],by simp[hxH],⟨by simp[hxH],λx hx=>?_,by simp[hxH]⟩,⟨by show dj ⟨[46],6,0,[⟨[],1,1⟩]⟩=true;decide,rfl,rfl,by simp[hxH],λn hn=>?_⟩,λc hc=>?_,List.pairwise_singleton _ _⟩
 ·simp only[hxH,List.mem_cons,Qh,or_false] at hx;subst hx;exact⟨by decide,by decide,by decide,by decide⟩
 ·simp only[hxH,List.mem_cons,Qh,or_false] at hn;subst hn;decide
 ·simp only[hxH,hxC,List.mem_cons,Qh,or_false] at hc;subst hc;exact⟨by simp[hxH],by simp[hxH],Zh h⟩
theorem Za(life:Int)(sg:List Sig):apexes (hxC life sg) = [[120]]:=by
 rw[<-Hk];rfl
theorem Zf{life:Int}{sg:List Sig}(h:mD life sg):pub (hxC life sg) [120] = [⟨[120],hxN,[⟨0,20⟩],[]⟩,⟨[120],hxS,[⟨0,20⟩],[]⟩,⟨[120],hxW life sg,[⟨0,20⟩],[]⟩]:=by
 have h1:cP [⟨0,20⟩] = [⟨0,20⟩]:=P3 (by simp) (by decide) (λt=>by simp[inS]);rw[<-h1];rcases h with ⟨rfl,rfl⟩ | ⟨rfl,rfl⟩ | ⟨rfl,rfl⟩ <;> rfl
theorem Kb{x:Held}{d b e:Int}(hf:x.fresh = [⟨0,b⟩])(hb:0<b)(he:max b (eG x.signed d b)=e):ep x d = [⟨0,e⟩]:=by
 unfold ep;rw[hf];have hs:jX x.signed d ⟨0,b⟩=⟨0,e⟩:=by unfold jX;rw[<-he]
 rw[List.map_cons,List.map_nil,hs];exact P3 (by intro s hs;rw[List.mem_singleton] at hs;subst hs;show (0:Int)<e;omega) (by omega) (λt=>by simp[inS])
theorem O9{life:Int}{sg:List Sig}(h:mD life sg){e:Int}(he:max 20 (eG (hxW life sg) 2 20)=e):ci (hxH life sg) = [⟨[120],hxN,[⟨0,20⟩],[⟨0,24⟩]⟩,⟨[120],hxS,[⟨0,20⟩],[⟨0,24⟩]⟩,⟨[120],hxW life sg,[⟨0,20⟩],[⟨0,e⟩]⟩]:=by
 unfold ci pubAll;rw[show (hxH life sg).copies=hxC life sg from rfl,Za,List.flatMap_cons,List.flatMap_nil,List.append_nil,Zf h];simp only[List.map_cons,List.map_nil];rw[Kb (d:=(hxH life sg).drift) (b:=20) (e:=24) rfl (by decide) (by rfl),Kb (d:=(hxH life sg).drift) (b:=20) (e:=24) rfl (by decide) (by rfl),Kb (d:=(hxH life sg).drift) (b:=20) (e:=e) rfl (by decide) he]
theorem Ze{life:Int}{sg:List Sig}(h:mD life sg){e:Int}(he:max 20 (eG (hxW life sg) 2 20)=e)(t:Int):eD (ci (hxH life sg)) [119,46,120] 1 t=if 0<=t/\t<e then [hxW life sg] else []:=by
 rw[O9 h he];unfold eD;have h1:(hxN.set.name == ([119,46,120]:List UInt8))=false:=by decide
 have h2:(hxS.set.name == ([119,46,120]:List UInt8))=false:=by decide
 have h3:((hxW life sg).set.name == ([119,46,120]:List UInt8))=true:=rfl;have h4:decide ((hxW life sg).set.type=1)=true:=rfl;have h5:eD.l1 [⟨0,e⟩] t=decide (0<=t/\t<e):=by
  rw[Bool.eq_iff_iff,JD,Qa];simp[inS]
 simp only[List.filter_cons,List.filter_nil,h1,h2,h3,h4,h5,Bool.false_and,Bool.true_and,Qa,Bool.false_eq_true,if_false];split <;> rfl
theorem Pa:max 20 (eG (hxW 10 []) 2 20)=33:=by rfl
theorem Zc:max 20 (eG (hxW 10 [hxG]) 2 20)=28:=by rfl
theorem Zd:max 20 (eG (hxW 0 []) 2 20)=24:=by rfl
end Np
end Go.Proofs.YtfnopgdcaanaiaaGreatDoor
