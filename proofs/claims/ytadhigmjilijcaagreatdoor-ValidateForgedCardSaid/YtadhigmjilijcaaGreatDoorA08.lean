/- No condition. -/
import Derived.Deep.DeepCutAuto
import Derived.Test.YtadhigmjilijcaaGreatDoorA04
import Derived.Test.YtadhigmjilijcaaGreatDoorA05
set_option linter.all false
set_option maxRecDepth 100000
set_option maxHeartbeats 8000000
namespace Go.Proofs.YtadhigmjilijcaaGreatDoor
open Go.Proofs.Tryz
section
open Go.RowKit
theorem DP(x:List UInt8)(hx:x.length<=140737488355328)(w:World):Calls prog 56 #[bl x] w (aUZ w (.bool (Np.bT x))):=by
 have:=asY ⟨x.toArray⟩ (by rw[<-be];simpa using hx) w
 simpa using this
def DJ(l:List (List UInt8))(j:Nat):Prop:=∃ x,l[j]?=some x/\(Np.bT x=true\/(j=0/\x = [42]))
theorem ahJ{l:List (List UInt8)}(h:∀ j,j<l.length->DJ l j):Np.fZ l=true:=by
 cases l with
 | nil=>rfl
 | cons a t=>
  unfold Np.fZ;rw[Bool.and_eq_true];constructor
  ·obtain⟨x,hx,ho⟩:=h 0 (by simp);simp at hx;subst hx;rcases ho with ho | ⟨_,ho⟩<;>simp[ho]
  ·rw[List.all_eq_true];intro y hy;obtain⟨j,hj,rfl⟩:=nQ.1 hy;obtain⟨x,hx,ho⟩:=h (j+1) (by simpa using hj);simp only[List.getElem?_cons_succ,aQ hj,Option.some.injEq] at hx;rcases ho with ho | ⟨h0,_⟩
   ·rw[hx];exact ho
   ·omega
theorem PE{l:List (List UInt8)}{j:Nat}{x:List UInt8}(hx:l[j]?=some x)(h1:Np.bT x=false)(h2:j=0->x≠[42]):Np.fZ l=false:=by
 cases l with
 | nil=>simp at hx
 | cons a t=>
  unfold Np.fZ
  cases j with
  | zero=>simp at hx;subst hx;simp[h1,h2 rfl]
  | succ j=>
   have:t.all Np.bT=false:=by
    rw[List.all_eq_false];exact⟨x,gQ (by simpa using hx),by simp[h1]⟩
   show ((Np.bT a||a == [42])&&t.all Np.bT)=false;rw[this,Bool.and_false]
theorem Qt:∀ l:List UInt8,(Np.aR l).length<=l.length+1:=by
 intro l
 induction l with
 | nil=>simp[Np.aR]
 | cons c r ih=>
  rw[Np.aR];split
  ·simp;omega
  ·split
   ·rename_i x xs hx;rw[hx] at ih;simp at ih |-;omega
   ·simp
theorem P5(s:ByteArray)(hs:s.size<=140737488355328)(w:World) :
 Calls prog 20 #[.string s] w (aUQ w.heap.size w (.bool (Np.ao s.data.toList))):=by
 rw[Np.tp];by_cases h:s.data.toList = [46]
 ·have he:(s.toList == [46])=true:=by rw[dQ,h];rfl
  rw[QbQ h];clear h;go_enter func20,ntmps20;go_wp2_with fail;go_ret;exact⟨rfl,vQ _ _⟩
 ·have he:(s.toList == [46])=false:=by rw[dQ];simpa using h
  rw[Qc h];clear h;by_cases pI:60<s.size
  ·rw[QbQ (by rw[be];exact pI)];have h6:60<(s.size:Int):=by omega
   go_enter func20,ntmps20;go_wp2_with fail;go_ret;exact⟨rfl,vQ _ _⟩
  ·rw[Qc (by rw[be];exact pI)];have h6:(s.size:Int)<=60:=by omega
   have hlen:=Qt s.data.toList;have OA:∀ y∈Np.aR s.data.toList,y.length<=60:=λy hy=>by have:=Np.ID hy;rw[be] at this;omega
   rw[be] at hlen;generalize hL:Np.aR s.data.toList=l at *;have HM:=jq OA;have cm:=jq hL;clear OA hL;go_enter func20,ntmps20;go_wp2_with fail;refine (P4 s (by omega) _).mono ?_;rw[cm.out];rintro e w1 ⟨v,rfl,hv,hb⟩;have HV:=jq hv;have HB:=jq hb;obtain⟨A,c,rfl,hc,_,_⟩:=hv;clear hb;go_wp2_with fail;go_loop [4] (λi=>∃ k:Nat,k<=l.length/\i = .int .i64 k/\Hid (∀ j,j<k->DJ l j)) (λi=>l.length - (intOf i).toNat)
   case atStart=>exact⟨0,jQ _,rfl,jq (λj h=>by omega)⟩
   case round=>
    obtain⟨k,hk,rfl,HA⟩:=hrel;by_cases af:k<l.length
    ·obtain⟨b,o,c',hA,_,_,hcell⟩:=DX HV.out (aQ af)
     cases hA
     have hx:=HM.out _ (List.getElem_mem af);have ka:l[k]?=some l[k]:=aQ af;generalize l[k]=x at *;have HG:=jq ka;clear ka;have zX:DJ l k->∀ j,j<k+1->DJ l j:=λh j hj=>by
      by_cases e:j=k
      ·subst e;exact h
      ·exact HA.out j (by omega)
     have HX:=jq zX;clear zX
     cases hl:Np.bT x with
     | true=>
      have HL:=jq hl;go_wp2_with (go_at_call 56;refine (DP _ (by omega) _).mono ?_;rintro e w' ⟨rfl,rfl⟩);go_round
      case rel=>exact⟨k+1,by omega,by go_num,jq (HX.out ⟨_,HG.out,.inl HL.out⟩)⟩
      ·simp[intOf]<;>omega
     | false=>
      have HL:=jq hl;by_cases dS:k=0
      ·subst dS;simp only[Nat.add_zero] at hcell;by_cases FL:x = [42]
       ·subst FL;go_wp2_with (go_at_call 56;refine (DP _ (by simp) _).mono ?_;rintro e w' ⟨rfl,rfl⟩);go_round
        case rel=>exact⟨1,by omega,by go_num,jq (HX.out ⟨_,HG.out,.inr ⟨rfl,rfl⟩⟩)⟩
        ·simp[intOf]<;>omega
       ·have hne:(x == [42])=false:=by simpa using FL
        go_wp2_with (go_at_call 56;refine (DP _ (by omega) _).mono ?_;rintro e w' ⟨rfl,rfl⟩);go_ret;exact⟨aw (by rw[PE HG.out HL.out (λ_=>FL)];rfl),HB.out⟩
      ·have Zg:(0:Int)<k:=by omega
       go_wp2_with (go_at_call 56;refine (DP _ (by omega) _).mono ?_;rintro e w' ⟨rfl,rfl⟩);go_ret;exact⟨aw (by rw[PE HG.out HL.out (λe=>absurd e dS)];rfl),HB.out⟩
    ·have fV:Np.fZ l=true:=ahJ (λj hj=>HA.out j (by omega));have qB:=jq fV;clear fV;go_wp2_with fail;go_ret;exact⟨aw (by rw[qB.out,Bool.true_and,Bool.eq_iff_iff];simp;omega),HB.out⟩
theorem P0(s z:ByteArray)(hs:s.size<=1000)(hz:z.size<=1000)(w:World) :
 Calls prog 21 #[.string s,.string z] w (aUQ w.heap.size w (.bool (Np.inL (Np.bY s.data.toList) (Np.bY z.data.toList)))):=by
 have Gu:∀ t:ByteArray,t.size<=1000->(Np.bY t.data.toList).length<=1001:=λt ht=>by
  unfold Np.bY;split
  ·simp
  ·have:=Qt t.data.toList;rw[be] at this;omega
 have fD:=Gu s hs;have i5:=Gu z hz;clear Gu;generalize pK:Np.bY s.data.toList=l at *;generalize Nj:Np.bY z.data.toList=m at *;have SO:=jq pK;have SQ:=jq Nj;clear pK Nj;go_enter func21,ntmps21;go_wp2_with fail;refine (P2 s (by omega) _).mono ?_;rw[SO.out];rintro e w1 ⟨v,rfl,hv,hb⟩;have HV:=jq hv;have HB:=jq hb;obtain⟨A,c,rfl,hc,_,_⟩:=hv;clear hb;go_wp2_with fail;refine (P2 z (by omega) _).mono ?_;rw[SQ.out];rintro e w2 ⟨v2,rfl,xn,ag⟩;have Uf:=jq ((HV.out.keep It ag).more auX ag.size);have yz:=jq xn;have ax:=jq (HB.out.trans (ag.mono HB.out.size));obtain⟨A2,c2,rfl,dR,_,_⟩:=xn;clear ag HV;by_cases hlen:m.length<=l.length
 ·have mX:(m.length:Int)<=(l.length:Int):=by omega
  go_wp2_with fail;go_loopw [7] (λi wr=>∃ k:Nat,k<=m.length/\i = .int .i64 k/\Hid (∀ j,j<k->l[l.length - m.length+j]?=m[j]?)/\Hid (Below w2.heap.size w2 wr)) (λi _=>m.length - (intOf i).toNat)
  case atStart=>exact⟨0,jQ _,rfl,jq (λj h=>by omega),jq (vQ _ _)⟩
  case round=>
   obtain⟨k,hk,rfl,HA,HW⟩:=hrel;by_cases af:k<m.length
   ·obtain⟨b,o,c',hA,_,_,hcell⟩:=DX (Uf.out.keep It HW.out) (aQ (show l.length - m.length+k<l.length by omega))
    cases hA
    obtain⟨b2,o2,c2',FM,_,_,aYX⟩:=DX (yz.out.keep It HW.out) (aQ af)
    cases FM
    have Og:l[l.length - m.length+k]?=some l[l.length - m.length+k]:=aQ _;have Oh:m[k]?=some m[k]:=aQ af;generalize l[l.length - m.length+k]=x at *;generalize m[k]=y at *;have jK:=jq Og;have gL:=jq Oh;clear Og Oh;have ah:IntKind.i64.wrap ((l.length:Int) - (m.length:Int))=(l.length:Int) - m.length:=IntWalk.i64_in _ (by omega);have aX:IntKind.i64.wrap ((l.length:Int) - (m.length:Int)+k)=(l.length:Int) - m.length+k:=IntWalk.i64_in _ (by omega);have e1:(0:Int)<=(l.length:Int) - m.length+k:=by omega
    have e2:(l.length:Int) - m.length+k<l.length:=by omega
    have e3:((l.length:Int) - m.length+k).toNat=l.length - m.length+k:=by omega
    have e4:(0:Int)<=k:=by omega
    have e5:(k:Int)<m.length:=by omega
    by_cases dE:x=y
    ·have hne:(!x == y)=false:=by simp[dE]
     have yD:=jq dE;clear dE;go_wp2_with fail;go_quiet (fail);go_wp2_with fail;go_roundw
     case rel=>
      refine⟨k+1,by omega,by go_num,jq (λj hj=>?_),jq (below_drewN HW.out _)⟩;by_cases e:j=k
      ·subst e;rw[jK.out,gL.out,yD.out]
      ·exact HA.out j (by omega)
     case measure=>simp[intOf]<;>omega
    ·have hne:(!x == y)=true:=by simp[dE]
     have yD:=jq dE;clear dE;go_wp2_with fail;go_quiet (fail);go_wp2_with fail;go_ret;refine⟨aw ?_,ax.out.trans ((below_drewN HW.out _).mono ax.out.size)⟩
     symm
     unfold Np.inL;rw[uQ hlen,Bool.true_and,beq_eq_false_iff_ne];intro h;have h1:=Qd (·[k]?) h;simp only[List.getElem?_drop] at h1;rw[jK.out,gL.out] at h1;exact yD.out (Option.some.inj h1)
   ·go_wp2_with fail;go_ret;refine⟨aw ?_,ax.out.trans (HW.out.mono ax.out.size)⟩
    symm
    unfold Np.inL;rw[uQ hlen,Bool.true_and,beq_iff_eq];apply List.ext_getElem?;intro j;rw[List.getElem?_drop];by_cases hj:j<m.length
    ·exact HA.out j (by omega)
    ·rw[List.getElem?_eq_none (by omega),List.getElem?_eq_none (by omega)]
 ·have mX:(l.length:Int)<(m.length:Int):=by omega
  go_wp2_with fail;go_ret;exact⟨aw (by unfold Np.inL;rw[tQ hlen];rfl),ax.out⟩

theorem nL{s:ByteArray}(h:Np.ao s.data.toList=true):s.size<=60:=by
 rw[Np.tp] at h;split at h
 ·rename_i e;rw[<-be,e];decide
 ·split at h
  ·cases h
  ·rename_i h6;rw[be] at h6;omega
end
end Go.Proofs.YtadhigmjilijcaaGreatDoor
