/- No condition. -/
import Derived.Deep.DeepCutAuto
import Derived.Lib.LazyBuf
import Derived.Test.YtfnopgdcaanaiaaGreatDoorS02
import Derived.Test.YtfnopgdcaanaiaaGreatDoorS03
import Derived.Test.YtfnopgdcaanaiaaGreatDoorS04
import Derived.Test.YtfnopgdcaanaiaaGreatDoorS05
set_option linter.all false
set_option maxRecDepth 100000
set_option maxHeartbeats 8000000
namespace Go.Proofs.YtfnopgdcaanaiaaGreatDoor
open Go.Proofs.Tryz
section
open Go.RowKit
theorem FV(x:List UInt8)(hx:x.length<=140737488355328)(w:World):Calls prog 104 #[aI x] w (ahY w (.bool (Np.bX x))):=by
 have:=a4X ⟨x.toArray⟩ (by rw[<-bj];simpa using hx) w
 simpa using this
def FJ(l:List (List UInt8))(j:Nat):Prop:=∃ x,l[j]?=some x/\(Np.bX x=true\/(j=0/\x = [42]))
theorem aMZ{l:List (List UInt8)}(h:∀ j,j<l.length->FJ l j):Np.jU l=true:=by
 cases l with
 | nil=>rfl
 | cons a t=>
  unfold Np.jU;rw[Bool.and_eq_true];constructor
  ·obtain⟨x,hx,ho⟩:=h 0 (by simp);simp at hx;subst hx;rcases ho with ho | ⟨_,ho⟩<;>simp[ho]
  ·rw[List.all_eq_true];intro y hy;obtain⟨j,hj,rfl⟩:=nQ.1 hy;obtain⟨x,hx,ho⟩:=h (j+1) (by simpa using hj);simp only[List.getElem?_cons_succ,aQ hj,Option.some.injEq] at hx;rcases ho with ho | ⟨h0,_⟩
   ·rw[hx];exact ho
   ·omega
theorem Sl{l:List (List UInt8)}{j:Nat}{x:List UInt8}(hx:l[j]?=some x)(h1:Np.bX x=false)(h2:j=0->x≠[42]):Np.jU l=false:=by
 cases l with
 | nil=>simp at hx
 | cons a t=>
  unfold Np.jU
  cases j with
  | zero=>simp at hx;subst hx;simp[h1,h2 rfl]
  | succ j=>
   have:t.all Np.bX=false:=by
    rw[List.all_eq_false];exact⟨x,gQ (by simpa using hx),by simp[h1]⟩
   show ((Np.bX a||a == [42])&&t.all Np.bX)=false;rw[this,Bool.and_false]
theorem Lt:∀ l:List UInt8,(Np.bl l).length<=l.length+1:=by
 intro l
 induction l with
 | nil=>simp[Np.bl]
 | cons c r ih=>
  rw[Np.bl];split
  ·simp;omega
  ·split
   ·rename_i x xs hx;rw[hx] at ih;simp at ih |-;omega
   ·simp
theorem xw(s:ByteArray)(hs:s.size<=140737488355328)(w:World) :
 Calls prog 50 #[.string s] w (ahZ w.heap.size w (.bool (Np.al s.data.toList))):=by
 rw[Np.Dc];by_cases h:s.data.toList = [46]
 ·have he:(s.toList == [46])=true:=by rw[dQ,h];rfl
  rw[Qb h];clear h;go_enter func50,ntmps50;go_wp2_with fail;go_ret;exact⟨rfl,vQ _ _⟩
 ·have he:(s.toList == [46])=false:=by rw[dQ];simpa using h
  rw[Qc h];clear h;by_cases py:60<s.size
  ·rw[Qb (by rw[bj];exact py)];have h6:60<(s.size:Int):=by omega
   go_enter func50,ntmps50;go_wp2_with fail;go_ret;exact⟨rfl,vQ _ _⟩
  ·rw[Qc (by rw[bj];exact py)];have h6:(s.size:Int)<=60:=by omega
   have hlen:=Lt s.data.toList;have wK:∀ y∈Np.bl s.data.toList,y.length<=60:=λy hy=>by have:=Np.Ls hy;rw[bj] at this;omega
   rw[bj] at hlen;generalize hL:Np.bl s.data.toList=l at *;have HM:=jq wK;have DK:=jq hL;clear wK hL;go_enter func50,ntmps50;go_wp2_with fail;refine (To s (by omega) _).mono ?_;rw[DK.out];rintro e w1 ⟨v,rfl,hv,hb⟩;have HV:=jq hv;have HB:=jq hb;obtain⟨A,c,rfl,hc,_,_⟩:=hv;clear hb;go_wp2_with fail;go_loop [4] (λi=>∃ k:Nat,k<=l.length/\i = .int .i64 k/\Hid (∀ j,j<k->FJ l j)) (λi=>l.length - (intOf i).toNat)
   case atStart=>exact⟨0,jQ _,rfl,jq (λj h=>by omega)⟩
   case round=>
    obtain⟨k,hk,rfl,HA⟩:=hrel;by_cases ab:k<l.length
    ·obtain⟨b,o,c',hA,_,_,hcell⟩:=C8 HV.out (aQ ab)
     cases hA
     have hx:=HM.out _ (List.getElem_mem ab);have ae:l[k]?=some l[k]:=aQ ab;generalize l[k]=x at *;have HG:=jq ae;clear ae;have Co:FJ l k->∀ j,j<k+1->FJ l j:=λh j hj=>by
      by_cases e:j=k
      ·subst e;exact h
      ·exact HA.out j (by omega)
     have HX:=jq Co;clear Co
     cases hl:Np.bX x with
     | true=>
      have HL:=jq hl;go_wp2_with (go_at_call 104;refine (FV _ (by omega) _).mono ?_;rintro e w' ⟨rfl,rfl⟩);go_round
      case rel=>exact⟨k+1,by omega,by go_num,jq (HX.out ⟨_,HG.out,.inl HL.out⟩)⟩
      ·simp[intOf]<;>omega
     | false=>
      have HL:=jq hl;by_cases cj:k=0
      ·subst cj;simp only[Nat.add_zero] at hcell;by_cases Ji:x = [42]
       ·subst Ji;go_wp2_with (go_at_call 104;refine (FV _ (by simp) _).mono ?_;rintro e w' ⟨rfl,rfl⟩);go_round
        case rel=>exact⟨1,by omega,by go_num,jq (HX.out ⟨_,HG.out,.inr ⟨rfl,rfl⟩⟩)⟩
        ·simp[intOf]<;>omega
       ·have hne:(x == [42])=false:=by simpa using Ji
        go_wp2_with (go_at_call 104;refine (FV _ (by omega) _).mono ?_;rintro e w' ⟨rfl,rfl⟩);go_ret;exact⟨ag (by rw[Sl HG.out HL.out (λ_=>Ji)];rfl),HB.out⟩
      ·have hkp:(0:Int)<k:=by omega
       go_wp2_with (go_at_call 104;refine (FV _ (by omega) _).mono ?_;rintro e w' ⟨rfl,rfl⟩);go_ret;exact⟨ag (by rw[Sl HG.out HL.out (λe=>absurd e cj)];rfl),HB.out⟩
    ·have ko:Np.jU l=true:=aMZ (λj hj=>HA.out j (by omega));have bW:=jq ko;clear ko;go_wp2_with fail;go_ret;exact⟨ag (by rw[bW.out,Bool.true_and,Bool.eq_iff_iff];simp;omega),HB.out⟩
theorem FU(s z:ByteArray)(hs:s.size<=1000)(hz:z.size<=1000)(w:World) :
 Calls prog 222 #[.string s,.string z] w (ahZ w.heap.size w (.bool (Np.inL (Np.bO s.data.toList) (Np.bO z.data.toList)))):=by
 have vU:∀ t:ByteArray,t.size<=1000->(Np.bO t.data.toList).length<=1001:=λt ht=>by
  unfold Np.bO;split
  ·simp
  ·have:=Lt t.data.toList;rw[bj] at this;omega
 have bT:=vU s hs;have dF:=vU z hz;clear vU;generalize gT:Np.bO s.data.toList=l at *;generalize nk:Np.bO z.data.toList=m at *;have iX:=jq gT;have Ax:=jq nk;clear gT nk;go_enter func222,ntmps222;go_wp2_with fail;refine (C4 s (by omega) _).mono ?_;rw[iX.out];rintro e w1 ⟨v,rfl,hv,hb⟩;have HV:=jq hv;have HB:=jq hb;obtain⟨A,c,rfl,hc,_,_⟩:=hv;clear hb;go_wp2_with fail;refine (C4 z (by omega) _).mono ?_;rw[Ax.out];rintro e w2 ⟨v2,rfl,sL,aa⟩;have jC:=jq ((HV.out.keep F8 aa).more Ty aa.size);have mq:=jq sL;have ah:=jq (HB.out.trans (aa.mono HB.out.size));obtain⟨A2,c2,rfl,dE,_,_⟩:=sL;clear aa HV;by_cases hlen:m.length<=l.length
 ·have fF:(m.length:Int)<=(l.length:Int):=by omega
  go_wp2_with fail;go_loopw [7] (λi wr=>∃ k:Nat,k<=m.length/\i = .int .i64 k/\Hid (∀ j,j<k->l[l.length - m.length+j]?=m[j]?)/\Hid (Below w2.heap.size w2 wr)) (λi _=>m.length - (intOf i).toNat)
  case atStart=>exact⟨0,jQ _,rfl,jq (λj h=>by omega),jq (vQ _ _)⟩
  case round=>
   obtain⟨k,hk,rfl,HA,HW⟩:=hrel;by_cases ab:k<m.length
   ·obtain⟨b,o,c',hA,_,_,hcell⟩:=C8 (jC.out.keep F8 HW.out) (aQ (show l.length - m.length+k<l.length by omega))
    cases hA
    obtain⟨b2,o2,c2',pz,_,_,anZ⟩:=C8 (mq.out.keep F8 HW.out) (aQ ab)
    cases pz
    have B4:l[l.length - m.length+k]?=some l[l.length - m.length+k]:=aQ _;have B5:m[k]?=some m[k]:=aQ ab;generalize l[l.length - m.length+k]=x at *;generalize m[k]=y at *;have xY:=jq B4;have xZ:=jq B5;clear B4 B5;have am:IntKind.i64.wrap ((l.length:Int) - (m.length:Int))=(l.length:Int) - m.length:=IntWalk.i64_in _ (by omega);have aj:IntKind.i64.wrap ((l.length:Int) - (m.length:Int)+k)=(l.length:Int) - m.length+k:=IntWalk.i64_in _ (by omega);have e1:(0:Int)<=(l.length:Int) - m.length+k:=by omega
    have e2:(l.length:Int) - m.length+k<l.length:=by omega
    have e3:((l.length:Int) - m.length+k).toNat=l.length - m.length+k:=by omega
    have e4:(0:Int)<=k:=by omega
    have e5:(k:Int)<m.length:=by omega
    by_cases cH:x=y
    ·have hne:(!x == y)=false:=by simp[cH]
     have AX:=jq cH;clear cH;go_wp2_with fail;go_quiet (fail);go_wp2_with fail;go_roundw
     case rel=>
      refine⟨k+1,by omega,by go_num,jq (λj hj=>?_),jq (below_drewN HW.out _)⟩;by_cases e:j=k
      ·subst e;rw[xY.out,xZ.out,AX.out]
      ·exact HA.out j (by omega)
     case measure=>simp[intOf]<;>omega
    ·have hne:(!x == y)=true:=by simp[cH]
     have AX:=jq cH;clear cH;go_wp2_with fail;go_quiet (fail);go_wp2_with fail;go_ret;refine⟨ag ?_,ah.out.trans ((below_drewN HW.out _).mono ah.out.size)⟩
     symm
     unfold Np.inL;rw[uQ hlen,Bool.true_and,beq_eq_false_iff_ne];intro h;have h1:=Qd (·[k]?) h;simp only[List.getElem?_drop] at h1;rw[xY.out,xZ.out] at h1;exact AX.out (Option.some.inj h1)
   ·go_wp2_with fail;go_ret;refine⟨ag ?_,ah.out.trans (HW.out.mono ah.out.size)⟩
    symm
    unfold Np.inL;rw[uQ hlen,Bool.true_and,beq_iff_eq];apply List.ext_getElem?;intro j;rw[List.getElem?_drop];by_cases hj:j<m.length
    ·exact HA.out j (by omega)
    ·rw[List.getElem?_eq_none (by omega),List.getElem?_eq_none (by omega)]
 ·have fF:(l.length:Int)<(m.length:Int):=by omega
  go_wp2_with fail;go_ret;exact⟨ag (by unfold Np.inL;rw[tQ hlen];rfl),ah.out⟩
theorem F0{l:List (List UInt8)}{k:Nat}(h:l.length<=k):l.reverse.drop k = []:=List.drop_eq_nil_of_le (by simpa using h)
theorem Ts{l:List (List UInt8)}{k:Nat}(h:k<l.length):∃ x r,l.reverse.drop k=x::r:=⟨_,_,sQ (by simpa using h)⟩
theorem Lf(s z:ByteArray)(hs:s.size<=1000)(hz:z.size<=1000)(w:World) :
 Calls prog 164 #[.string s,.string z] w (ahZ w.heap.size w (.int .i64 (Np.aL s.data.toList z.data.toList))):=by
 rw[Np.Bn,<-Np.rg,<-Np.rg];have vU:∀ t:ByteArray,t.size<=1000->(Np.bO t.data.toList).length<=1001:=λt ht=>by
  unfold Np.bO;split
  ·simp
  ·have:=Lt t.data.toList;rw[bj] at this;omega
 have bT:=vU s hs;have dF:=vU z hz;clear vU;generalize gT:Np.bO s.data.toList=l at *;generalize nk:Np.bO z.data.toList=m at *;have iX:=jq gT;have Ax:=jq nk;clear gT nk;go_enter func164,ntmps164;go_wp2_with fail;refine (C4 s (by omega) _).mono ?_;rw[iX.out];rintro e w1 ⟨v,rfl,hv,hb⟩;have HV:=jq hv;have HB:=jq hb;obtain⟨A,c,rfl,hc,_,_⟩:=hv;clear hb;go_wp2_with fail;refine (C4 z (by omega) _).mono ?_;rw[Ax.out];rintro e w2 ⟨v2,rfl,sL,aa⟩;have jC:=jq ((HV.out.keep F8 aa).more Ty aa.size);have mq:=jq sL;have ah:=jq (HB.out.trans (aa.mono HB.out.size));obtain⟨A2,c2,rfl,dE,_,_⟩:=sL;clear aa HV;go_wp2_with fail;go_loop [7] (λi=>∃ k:Nat,k<=l.length/\k<=m.length/\i = .int .i64 ((k:Int)+1)/\Hid (Np.cI l.reverse m.reverse=Np.cI (l.reverse.drop k) (m.reverse.drop k))) (λi=>l.length+1 - (intOf i).toNat)
 case atStart=>exact⟨0,jQ _,jQ _,rfl,jq rfl⟩
 case round=>
  obtain⟨k,ck,lk,rfl,HA⟩:=hrel;by_cases dG:k<l.length
  ·by_cases yV:k<m.length
   ·obtain⟨b,o,c',hA,_,_,hcell⟩:=C8 jC.out (aQ (show l.length - (k+1)<l.length by omega))
    cases hA
    obtain⟨b2,o2,c2',pz,_,_,anZ⟩:=C8 mq.out (aQ (show m.length - (k+1)<m.length by omega))
    cases pz
    have B4:l.reverse.drop k=l[l.length - (k+1)]::l.reverse.drop (k+1):=by
     rw[sQ (by simpa using dG),List.getElem_reverse];congr 2;omega
    have B5:m.reverse.drop k=m[m.length - (k+1)]::m.reverse.drop (k+1):=by
     rw[sQ (by simpa using yV),List.getElem_reverse];congr 2;omega
    generalize l[l.length - (k+1)]=x at *;generalize m[m.length - (k+1)]=y at *;have CB:Np.cI (l.reverse.drop k) (m.reverse.drop k)=if Np.cE x y≠0 then Np.cE x y else Np.cI (l.reverse.drop (k+1)) (m.reverse.drop (k+1)):=by rw[B4,B5,Np.cI]
    have HS:=jq CB;clear B4 B5 CB;have g1:((l.length:Int) - ((k:Int)+1)).toNat=l.length - (k+1):=by omega
    have g2:((m.length:Int) - ((k:Int)+1)).toNat=m.length - (k+1):=by omega
    have f1:(k:Int)+1<=l.length:=by omega
    have f2:(k:Int)+1<=m.length:=by omega
    rcases Np.yB x y with ⟨h1,h2⟩ | ⟨h1,h2,hn,h3⟩ | ⟨h1,h2,hn,h3⟩
    ·have H2:=jq h2;clear h2;go_wp2_with fail;go_ret;exact⟨iB (by rw[HA.out,HS.out,H2.out];rfl),ah.out⟩
    ·have H3:=jq h3;have hne:(!x == y)=true:=by simp[hn]
     clear h3 hn;go_wp2_with fail;go_ret;exact⟨iB (by rw[HA.out,HS.out,H3.out];rfl),ah.out⟩
    ·have H3:=jq h3;have hne:(!x == y)=false:=by simp[hn]
     clear h3 hn;go_wp2_with fail;go_round
     case rel=>exact⟨k+1,by omega,by omega,by go_num,jq (by rw[HA.out,HS.out,H3.out];rfl)⟩
     ·simp[intOf]<;>omega
   ·have hm:k=m.length:=by omega
    have bS:(m.length:Int)<(k:Int)+1:=by omega
    have bE:(k:Int)+1<=l.length:=by omega
    have cR:(m.length:Int)<(l.length:Int):=by omega
    have hv:Np.cI l.reverse m.reverse=1:=by
     obtain⟨x,r,e⟩:=Ts dG;rw[HA.out,F0 (l:=m) (by omega),e];rfl
    have oa:=jq hv;clear hv hm;go_wp2_with fail;go_ret;exact⟨iB oa.out.symm,ah.out⟩
  ·have hl:k=l.length:=by omega
   have bE:(l.length:Int)<(k:Int)+1:=by omega
   by_cases yV:k<m.length
   ·have cR:(l.length:Int)<(m.length:Int):=by omega
    have hv:Np.cI l.reverse m.reverse = -1:=by
     obtain⟨x,r,e⟩:=Ts yV;rw[HA.out,F0 (l:=l) (by omega),e];rfl
    have oa:=jq hv;clear hv hl;go_wp2_with fail;go_ret;exact⟨iB oa.out.symm,ah.out⟩
   ·have cR:(l.length:Int)<=(m.length:Int):=by omega
    have cX:(m.length:Int)<=(l.length:Int):=by omega
    have hv:Np.cI l.reverse m.reverse=0:=by
     rw[HA.out,F0 (l:=l) (by omega),F0 (l:=m) (by omega)];rfl
    have oa:=jq hv;clear hv hl;go_wp2_with fail;go_ret;exact⟨iB oa.out.symm,ah.out⟩
theorem FR(s z:ByteArray)(hs:s.size<=1000)(hz:z.size<=1000)(h1:Np.al s.data.toList=true)(h2:Np.al z.data.toList=true)(w:World) :
 Calls prog 304 #[.string s,.string z] w (ahZ w.heap.size w (.tuple #[.int .i64 (Np.aL s.data.toList z.data.toList),.int .i64 0])):=by
 have H1:=jq h1;have H2:=jq h2;clear h1 h2;go_enter func304,ntmps304;go_wp2_with fail;refine (xw s (by omega) _).mono ?_;rintro e w1 ⟨rfl,av⟩;have aF:=jq av;clear av;rw[H1.out];go_wp2_with fail;refine (xw z (by omega) _).mono ?_;rintro e w2 ⟨rfl,aa⟩;have ah:=jq (aF.out.trans (aa.mono aF.out.size));clear aa;rw[H2.out];go_wp2_with fail;refine (Lf s z hs hz _).mono ?_;rintro e w3 ⟨rfl,ai⟩;have aw:=jq (ah.out.trans (ai.mono ah.out.size));clear ai;go_wp2_with fail;go_ret2;exact⟨rfl,aw.out⟩
theorem a3K(k:Nat)(h1:1<=k)(h8:k<=8)(s:ByteArray)(hs:s.size<=140737488355328)(n m:Int)(w:World) :
 Calls prog 226 #[.int .i64 k,.agg #[.string s,.int .i64 n,.int .i64 m]] w
  λe w'=>e = .returned (.bool (Np.jV (Np.ca k) ⟨s.data.toList,n,m⟩))/\Below w.heap.size w w':=by
 have hk:k=1\/k=2\/k=3\/k=4\/k=5\/k=6\/k=7\/k=8:=by omega
 rcases hk with rfl | rfl | rfl | rfl | rfl | rfl | rfl | rfl
 all_goals
  go_enter func226,ntmps226;go_wp2_with (first
   | (go_at_call 223;refine (Tq _ _ _ _).mono ?_;rintro e w' ⟨rfl,rfl⟩)
   | (go_at_call 50;refine (xw _ hs _).mono ?_;rintro e w' ⟨rfl,hb⟩;obtain⟨hc,hf⟩:=tD hb)
   | (go_at_call 225;refine (FW _ hs _).mono ?_;rintro e w' ⟨rfl,rfl⟩)
   | (go_at_call 300;refine (a6Q _ hs _).mono ?_;rintro e w' ⟨rfl,rfl⟩))
  all_goals
   go_ret;go_light;refine⟨ag ?_,?_⟩
   ·simp_all [Np.jV,Np.xF,Np.ca,Np.rules,dQ]<;>(intros;first | omega | (rw[Bool.eq_iff_iff];simp;omega) | (rw[Bool.eq_iff_iff];simp;intros;omega) | (rw[Int.tmod_eq_emod_of_nonneg (by omega)];first | omega | (rw[Bool.eq_iff_iff];simp;omega)) | show False)
   ·first
     | exact (vQ _ w).alloc (bQ _) _
     | exact ((vQ _ w).alloc (bQ _) _).trans (hb.mono (by simp))
theorem TB(k:Nat)(h1:1<=k)(h8:k<=8):(Np.ca k).single=(decide ((k:Int)=3)||decide ((k:Int)=4)):=by
 have hk:k=1\/k=2\/k=3\/k=4\/k=5\/k=6\/k=7\/k=8:=by omega
 rcases hk with rfl | rfl | rfl | rfl | rfl | rfl | rfl | rfl<;>rfl
theorem TC(k:Nat)(h1:1<=k)(h8:k<=8):(Np.ca k).wild=(decide ((k:Int)=1)||decide ((k:Int)=5)||decide ((k:Int)=8)):=by
 have hk:k=1\/k=2\/k=3\/k=4\/k=5\/k=6\/k=7\/k=8:=by omega
 rcases hk with rfl | rfl | rfl | rfl | rfl | rfl | rfl | rfl<;>rfl
theorem FT(k:Nat)(h1:1<=k)(h8:k<=8)(s:ByteArray)(hs:s.size<=140737488355328)(n m:Int)(w:World)(t:Bool)(ht:Np.jV (Np.ca k) ⟨s.data.toList,n,m⟩=t) :
 Calls prog 226 #[.int .i64 k,.agg #[.string s,.int .i64 n,.int .i64 m]] w (ahZ w.heap.size w (.bool t)):=by
 subst ht;exact a3K k h1 h8 s hs n m w
theorem Tl(s t:ByteArray)(n1 m1 n2 m2:Int)(w:World)(r:Bool)(hr:decide (Np.qH ⟨s.data.toList,n1,m1⟩ ⟨t.data.toList,n2,m2⟩<0)=r) :
 Calls prog 227 #[.agg #[.string s,.int .i64 n1,.int .i64 m1],.agg #[.string t,.int .i64 n2,.int .i64 m2]] w (ahZ w.heap.size w (.bool r)):=by
 subst hr;exact a4Y s t n1 m1 n2 m2 w
def X3(w1:World)(r:Np.Rule)(ds:List Np.Datum)(i:Value)(wr:World):Prop:=
 ∃ j:Nat,j<=ds.length/\i = .int .i64 j/\Below w1.heap.size w1 wr/\Np.jf r none ds=Np.jf r (ds.take j).getLast? (ds.drop j)
def xr(s:List UInt8)(ty life:Int)(n:Nat):Bool:=Np.al s&&(decide (1<=ty)&&decide (ty<=8))&&(decide (0<=life)&&decide (life<=100000))&&(decide ((1:Int)<=n)&&decide ((n:Int)<=8))&&!((decide (ty=3)||decide (ty=4))&&decide ((1:Int)<n))
def Oj(w:World)(s:ByteArray)(ty life:Int)(sl:Value)(wx:World):Prop:=
 Below w.heap.size w wx/\w.heap.size<wx.heap.size/\wx.cell? ⟨w.heap.size,0,none⟩=some (.string s)/\wx.cell? ⟨w.heap.size,1,none⟩=some (.int .i64 ty)/\wx.cell? ⟨w.heap.size,2,none⟩=some (.int .i64 life)/\wx.cell? ⟨w.heap.size,3,none⟩=some sl
theorem Tn(s:ByteArray)(hs:s.size<=140737488355328)(ty life:Int)(v:Value)(ds:List Np.Datum)(w:World)(hd:SlR ci 3 w w.heap.size v ds) :
 Calls prog 150 #[.agg #[.string s,.int .i64 ty,.int .i64 life,v]] w
  λe w'=>e = .returned (.bool (Np.dT ⟨s.data.toList,ty,life,ds⟩))/\Below w.heap.size w w':=by
 have HD:=jq hd;obtain⟨A,c,rfl,bw,bT,gW⟩:=hd;clear gW;have fG:¬ (Np.al s.data.toList=true/\(1<=ty/\ty<=8)/\(0<=life/\life<=100000)/\(1<=ds.length/\ds.length<=8)/\((ty=3\/ty=4)->ds.length<=1)/\(Np.eH s.data.toList=true->ty=1\/ty=5\/ty=8))->Np.dT ⟨s.data.toList,ty,life,ds⟩=false:=λhin=>by
  cases hq:Np.dT ⟨s.data.toList,ty,life,ds⟩ with
  | false=>rfl
  | true=>
   exfalso;unfold Np.dT at hq;simp only[Bool.and_eq_true,Qa,Bool.not_eq_true'] at hq;obtain⟨⟨⟨⟨⟨⟨h1,h2⟩,h3⟩,h4⟩,h5⟩,h6⟩,_⟩:=hq;obtain⟨k,rfl⟩:=Int.eq_ofNat_of_zero_le (by omega:0<=ty);rw[TB k (by omega) (by omega)] at h5;rw[TC k (by omega) (by omega)] at h6;refine hin ⟨h1,h2,h3,h4,λht=>?_,λhw=>?_⟩
   ·simp at h5;omega
   ·rw[hw] at h6;simp at h6;omega
 have kS:=jq fG;clear fG;go_enter func150,ntmps150;go_upto_region 2 with fail
 go_cut [37] (λt wx=>Oj w s ty life (.slice A ds.length c) wx/\t = .bool (!xr s.data.toList ty life ds.length))
 case first=>
  go_wp2_with fail;refine (xw _ hs _).mono ?_;rintro e w1 ⟨rfl,hb⟩;have dm:Below w.heap.size w w1:=((vQ _ w).alloc (bQ _) _).trans (hb.mono (by simp));have dG:w.heap.size<w1.heap.size:=by have:=hb.size;simp at this;omega
  have c0:w1.cell? ⟨w.heap.size,0,none⟩=some (.string s):=by rw[hb.cell (by simp)];go_simp
  have c1:w1.cell? ⟨w.heap.size,1,none⟩=some (.int .i64 ty):=by rw[hb.cell (by simp)];go_simp
  have c2:w1.cell? ⟨w.heap.size,2,none⟩=some (.int .i64 life):=by rw[hb.cell (by simp)];go_simp
  have c3:w1.cell? ⟨w.heap.size,3,none⟩=some (.slice A ds.length c):=by rw[hb.cell (by simp)];go_simp
  have HH:=jq (show Oj w s ty life (.slice A ds.length c) w1 from ⟨dm,dG,c0,c1,c2,c3⟩);clear hb dm;go_wp2_with (first
   | (go_at_call 223;refine (Tq _ _ _ _).mono ?_;rintro e w' ⟨rfl,rfl⟩)
   | (go_at_call 224;refine (a5Y _ _).mono ?_;rintro e w' ⟨rfl,rfl⟩))
  all_goals
   go_meet
   case rel=>
    refine⟨HH.out,?_⟩;clear HH kS HD;go_light
    first
     | (simp_all [xr];done)
     | (simp_all [xr];omega)
     | (congr 1;rw[Bool.eq_iff_iff];simp_all [xr]<;>omega)
 case rest=>
  obtain⟨⟨dm,QE,c0,c1,c2,c3⟩,rfl⟩:=hcut;have aH:=jq dm;clear dm
  cases hq:xr s.data.toList ty life ds.length with
  | false=>
   have HQ:=jq hq;clear hq;go_wp2_with fail;go_ret;refine⟨ag (kS.out λ⟨a1,a2,a3,a4,a5,_⟩=>?_).symm,aH.out⟩
   have:=HQ.out
   simp[xr,a1,a2,a3] at this;omega
  | true=>
   have HQ:=jq hq;clear hq;go_upto_region 4 with fail
   go_cut [55] (λt wy=>wy=wc/\t = .bool (Np.eH s.data.toList&&(decide (ty≠1)&&(decide (ty≠5)&&decide (ty≠8)))))
   case first=>
    go_wp2_with (go_at_call 225;refine (FW _ hs _).mono ?_;rintro e w' ⟨rfl,rfl⟩)
    all_goals
     go_meet
     case rel=>
      refine⟨rfl,?_⟩;clear kS HD HQ;go_light
      first
       | (simp_all;done)
       | (simp_all;omega)
       | (congr 1;rw[Bool.eq_iff_iff];simp_all;done)
       | (congr 1;rw[Bool.eq_iff_iff];simp_all;omega)
   case rest=>
    obtain⟨rfl,rfl⟩:=hcut
    cases l6:(Np.eH s.data.toList&&(decide (ty≠1)&&(decide (ty≠5)&&decide (ty≠8)))) with
    | true=>
     have vq:=jq l6;clear l6;go_wp2_with fail;go_ret;refine⟨ag (kS.out λ⟨_,_,_,_,_,a6⟩=>?_).symm,aH.out⟩
     have:=vq.out
     simp at this
     have:=a6 this.1
     omega
    | false=>
     have hin:Np.al s.data.toList=true/\(1<=ty/\ty<=8)/\(0<=life/\life<=100000)/\(1<=ds.length/\ds.length<=8)/\((ty=3\/ty=4)->ds.length<=1)/\(Np.eH s.data.toList=true->ty=1\/ty=5\/ty=8):=by
      have h:=HQ.out;simp[xr] at h;obtain⟨⟨⟨⟨h1,h2⟩,h3⟩,h4⟩,h5⟩:=h;refine⟨h1,h2,h3,by omega,by omega,λhw=>?_⟩;rw[hw] at l6;simp at l6;omega
     obtain⟨i1,⟨i2,i3⟩,⟨i4,i5⟩,⟨i6,i7⟩,i8,i9⟩:=hin;obtain⟨k,rfl⟩:=Int.eq_ofNat_of_zero_le (by omega:0<=ty);have hv:Np.dT ⟨s.data.toList,k,life,ds⟩=Np.jf (Np.ca k) none ds:=by
      unfold Np.dT;simp only[TB k (by omega) (by omega),TC k (by omega) (by omega),i1,uQ i2,uQ i3,uQ i4,uQ i5,uQ i6,uQ i7,Bool.true_and];have e1:((decide ((k:Int)=3)||decide ((k:Int)=4))&&decide (ds.length≠1))=false:=by
       rw[Bool.eq_false_iff];simp;omega
      have e2:(Np.eH s.data.toList&&!(decide ((k:Int)=1)||decide ((k:Int)=5)||decide ((k:Int)=8)))=false:=by
       cases hw:Np.eH s.data.toList with
       | false=>rfl
       | true=>have:=i9 hw;simp;omega
      rw[e1,e2];rfl
     have HV:=jq hv;have EM:1<=k:=by omega
     have EN:k<=8:=by omega
     clear hv i8 i9 l6 i1 c0 c2 kS HQ;go_wp2_with fail;go_loopw [4] (λi wr=>X3 wc (Np.ca k) ds i wr) (λi _=>ds.length - (intOf i).toNat)
     case atStart=>exact⟨0,jQ _,rfl,vQ _ _,rfl⟩
     case round=>
      obtain⟨j,hj,rfl,aM,hg⟩:=hrel;have HG:=jq hg;clear hg;by_cases ab:j<ds.length
      ·have gi:=aM.size;have lY:Below w.heap.size w wr:=aH.out.trans (aM.afK);have mF:w.heap.size<wr.heap.size:=by omega
       have d1:wr.cell? ⟨w.heap.size,1,none⟩=some (.int .i64 k):=by rw[aM.cell (by simpa using QE)];exact c1
       have d3:wr.cell? ⟨w.heap.size,3,none⟩=some (.slice A ds.length c):=by rw[aM.cell (by simpa using QE)];exact c3
       obtain⟨A',c',hA',_,_,bL⟩:=HD.out.keep cJ lY
       cases hA'
       obtain⟨b,o,e,rfl,bZ,_,hce,sd,uf,ug,rfl⟩:=bL j _ (aQ ab);have e0:wr.cell? ⟨b,o+j * 3,none⟩=some (.string sd):=hce 0 _ rfl;have e1:wr.cell? ⟨b,o+j * 3+1,none⟩=some (.int .i64 ds[j].n):=hce 1 _ rfl;have e2:wr.cell? ⟨b,o+j * 3+2,none⟩=some (.int .i64 ds[j].m):=hce 2 _ rfl;have du:b<wr.heap.size:=by omega
       have nv:∀ (g:bN wr) (p:Addr),p.block<wr.heap.size->g.w.cell? p=wr.cell? p:=λg p h=>g.cell p h;have aS:=jq aM;have xP:=jq lY;have G0:=jq bL;have pm:=jq uf;have BY:(⟨sd.data.toList,ds[j].n,ds[j].m⟩:Np.Datum)=ds[j]:=by rw[pm.out]
       have ro:=jq BY;clear hce aM lY bL uf c1 c3 BY gi;by_cases pW:Np.jV (Np.ca k) ⟨sd.data.toList,ds[j].n,ds[j].m⟩=true
       ·have kY:=jq pW;clear pW;by_cases jg:j=0
        ·subst jg;simp only[Nat.zero_mul,Nat.add_zero] at e0 e1 e2;go_wp2_with fail;refine agY ?_
         repeat (go_big_quiet_step ((go_at_call 226;exact Calls.grow_of (FT _ EM EN _ ug _ _ _ true kY.out))))
         refine wpQuiet_nil ?_;rintro _ ⟨g,rfl⟩;go_wp2_with fail;go_roundw
         case rel=>
          go_light;have h1:=Np.Pq (r:=Np.ca k) (aQ ab) (by rw[<-ro.out];exact kY.out);exact⟨1,ab,by go_num,aS.out.trans (g.below.mono aS.out.size),by rw[<-h1];exact HG.out⟩
         case measure=>simp[intOf]<;>omega
        ·obtain⟨i,rfl⟩:∃ i,j=i+1:=⟨j - 1,by omega⟩;obtain⟨b',o',e',pz,BN,_,lj,sq,ku,aBX,rfl⟩:=G0.out i _ (aQ (by omega))
         cases pz
         have f0:wr.cell? ⟨b,o+i * 3,none⟩=some (.string sq):=lj 0 _ rfl;have f1:wr.cell? ⟨b,o+i * 3+1,none⟩=some (.int .i64 (ds[i]'(by omega)).n):=lj 1 _ rfl;have f2:wr.cell? ⟨b,o+i * 3+2,none⟩=some (.int .i64 (ds[i]'(by omega)).m):=lj 2 _ rfl;have BX:(⟨sq.data.toList,(ds[i]'(by omega)).n,(ds[i]'(by omega)).m⟩:Np.Datum)=ds[i]'(by omega):=by rw[ku]
         have GU:=jq BX;clear lj ku BX;have ki:(0:Int)<((i+1:Nat):Int):=by omega
         have h1:=Np.Pr (r:=Np.ca k) (aQ (by omega:i<ds.length)) (aQ ab) (by rw[<-ro.out];exact kY.out);rw[<-ro.out,<-GU.out] at h1;have H1:=jq h1;clear h1;by_cases fW:Np.qH ⟨sq.data.toList,(ds[i]'(by omega)).n,(ds[i]'(by omega)).m⟩ ⟨sd.data.toList,ds[i+1].n,ds[i+1].m⟩<0
         ·have kM:=jq fW;have GO:=jq (uQ fW);clear fW;go_wp2_with fail;refine agY ?_
          repeat (go_big_quiet_step (first
           | (go_at_call 226;exact Calls.grow_of (FT _ EM EN _ ug _ _ _ true kY.out))
           | (go_at_call 227;exact Calls.grow_of (Tl _ _ _ _ _ _ _ true GO.out))))
          refine wpQuiet_nil ?_;rintro _ ⟨g,rfl⟩;go_wp2_with fail;go_roundw
          case rel=>
           go_light;exact⟨i+1+1,ab,by go_num,aS.out.trans (g.below.mono aS.out.size),by rw[HG.out,H1.out,Qb kM.out]⟩
          case measure=>simp[intOf]<;>omega
         ·have kM:=jq fW;have GO:=jq (tQ fW);clear fW;go_wp2_with fail;refine agY ?_
          repeat (go_big_quiet_step (first
           | (go_at_call 226;exact Calls.grow_of (FT _ EM EN _ ug _ _ _ true kY.out))
           | (go_at_call 227;exact Calls.grow_of (Tl _ _ _ _ _ _ _ false GO.out))))
          refine wpQuiet_nil ?_;rintro _ ⟨g,rfl⟩;go_wp2_with fail;go_ret;refine⟨ag ?_,xP.out.trans (g.below.afK)⟩;rw[HV.out,HG.out,H1.out,Qc (by have:=kM.out;omega)]
       ·have CJ:Np.jV (Np.ca k) ⟨sd.data.toList,ds[j].n,ds[j].m⟩=false:=by simpa using pW
        have kY:=jq CJ;clear pW CJ;go_wp2_with fail;refine agY ?_
        repeat (go_big_quiet_step ((go_at_call 226;exact Calls.grow_of (FT _ EM EN _ ug _ _ _ false kY.out))))
        refine wpQuiet_nil ?_;rintro _ ⟨g,rfl⟩;go_wp2_with fail;go_ret;refine⟨ag ?_,xP.out.trans (g.below.afK)⟩;rw[HV.out,HG.out,Np.Pp (aQ ab) (by rw[<-ro.out];exact kY.out)]
      ·go_wp2_with fail;go_ret;refine⟨ag ?_,aH.out.trans (aM.afK)⟩;rw[HV.out,HG.out,List.drop_eq_nil_of_le (by omega)];rfl
theorem uu{s:ByteArray}(h:Np.al s.data.toList=true):s.size<=60:=by
 rw[Np.Dc] at h;split at h
 ·rename_i e;rw[<-bj,e];decide
 ·split at h
  ·cases h
  ·rename_i h6;rw[bj] at h6;omega
theorem a5K(s1 s2:ByteArray)(t1 l1 t2 l2:Int)(v1 v2:Value)(d1 d2:List Np.Datum)(n1:Np.al s1.data.toList=true)(n2:Np.al s2.data.toList=true)(w:World) :
 Calls prog 234 #[.agg #[.string s1,.int .i64 t1,.int .i64 l1,v1],.agg #[.string s2,.int .i64 t2,.int .i64 l2,v2]] w
  λe w'=>e = .returned (.int .i64 (Np.gE ⟨s1.data.toList,t1,l1,d1⟩ ⟨s2.data.toList,t2,l2,d2⟩))/\Below w.heap.size w w':=by
 have hw:∀ o o',Below w.heap.size w ((w.alloc o).alloc o'):=λo o'=>((vQ _ w).alloc (bQ _) _).alloc (by simp) _;have HW:=jq hw;clear hw;have bF:=uu n1;have aO:=uu n2;have N1:=jq n1;have N2:=jq n2;have hc:=Np.Ei ⟨s1.data.toList,t1,l1,d1⟩ ⟨s2.data.toList,t2,l2,d2⟩;simp only at hc;rw[hc];clear n1 n2 hc;generalize hQ:Np.aL s1.data.toList s2.data.toList=q;have HQ:=jq hQ;clear hQ;have key:∀ r:Int,(q≠0->r=q)->(q=0->r=Np.cL t1 t2)->(if q≠0 then q else Np.cL t1 t2)=r:=λr h1 h2=>by
  by_cases h:q=0
  ·rw[Qc (λe=>e h),h2 h]
  ·rw[Qb h,h1 h]
 have KEY:=jq key;clear key;by_cases hq:q=0
 ·have KQ:=jq hq;subst hq;by_cases h1:t1<t2
  ·rw[KEY.out (-1) (λe=>absurd rfl e) (λ_=>by rw[Np.cL,Qb h1])];go_enter func234,ntmps234;go_wp2_with fail;refine (FR s1 s2 (by omega) (by omega) N1.out N2.out _).mono ?_;rw[HQ.out];rintro e w1 ⟨rfl,hb⟩;obtain⟨bw,tV⟩:=tD hb;have HB:=jq ((HW.out _ _).trans (hb.mono (by simp;omega)));clear hb;go_wp2_with fail;go_ret;exact⟨rfl,HB.out⟩
  ·by_cases h2:t2<t1
   ·rw[KEY.out 1 (λe=>absurd rfl e) (λ_=>by rw[Np.cL,Qc h1,Qb h2])];go_enter func234,ntmps234;go_wp2_with fail;refine (FR s1 s2 (by omega) (by omega) N1.out N2.out _).mono ?_;rw[HQ.out];rintro e w1 ⟨rfl,hb⟩;obtain⟨bw,tV⟩:=tD hb;have HB:=jq ((HW.out _ _).trans (hb.mono (by simp;omega)));clear hb;go_wp2_with fail;go_ret;exact⟨rfl,HB.out⟩
   ·rw[KEY.out 0 (λe=>absurd rfl e) (λ_=>by rw[Np.cL,Qc h1,Qc h2])];go_enter func234,ntmps234;go_wp2_with fail;refine (FR s1 s2 (by omega) (by omega) N1.out N2.out _).mono ?_;rw[HQ.out];rintro e w1 ⟨rfl,hb⟩;obtain⟨bw,tV⟩:=tD hb;have HB:=jq ((HW.out _ _).trans (hb.mono (by simp;omega)));clear hb;go_wp2_with fail;go_ret;exact⟨rfl,HB.out⟩
 ·have l6:(q != 0)=true:=by simpa using hq
  rw[KEY.out q (λ_=>rfl) (λe=>absurd e hq)];clear hq;go_enter func234,ntmps234;go_wp2_with fail;refine (FR s1 s2 (by omega) (by omega) N1.out N2.out _).mono ?_;rw[HQ.out];rintro e w1 ⟨rfl,hb⟩;obtain⟨bw,tV⟩:=tD hb;have HB:=jq ((HW.out _ _).trans (hb.mono (by simp;omega)));clear hb;go_wp2_with fail;go_ret;exact⟨rfl,HB.out⟩
theorem Lu{c:UInt8}{r:List UInt8}(hc:c≠46):∃ x xs,Np.bl (c::r)=(c::x)::xs:=by
 unfold Np.bl;rw[Qc hc]
 cases Np.bl r with
 | nil=>exact⟨[],[],rfl⟩
 | cons x xs=>exact⟨x,xs,rfl⟩
theorem Ug{l:List UInt8}(h:Np.al l=true):Np.eH l=((Np.bO l).head? == some [42]):=by
 unfold Np.bO;by_cases hd:l = [46]
 ·subst hd;decide
 ·rw[Qc hd]
  cases l with
  | nil=>exact absurd h (by decide)
  | cons c r=>
   have hg:Np.fl (Np.bl (c::r)).reverse 0 false=true:=by
    unfold Np.al at h;rw[Qc hd] at h;split at h
    ·cases h
    ·exact h
   have hl:=Np.Ps _ _ _ hg;by_cases hc:c=46
   ·subst hc;have e:Np.bl (46::r) = []::Np.bl r:=by rw[Np.bl,Qb rfl]
    rw[e] at hl
    have:=hl [] (by simp)
    rcases this with h1 | h1
    ·cases h1
    ·exact absurd h1 (by decide)
   ·obtain⟨x,xs,e⟩:=Lu (r:=r) hc;rw[e] at hl |-;rw[Bool.eq_iff_iff];simp only[Np.eH,List.head?_cons,beq_iff_eq,Option.some.injEq,List.cons.injEq];constructor
    ·rintro rfl;rcases hl (42::x) (by simp) with h1 | h1
     ·simpa using h1
     ·exfalso;unfold Np.bX at h1;simp only[Bool.and_eq_true,List.all_cons] at h1;exact absurd h1.2.1 (by decide)
    ·exact λh=>h.1
theorem Tp(s:ByteArray)(h:Np.al s.data.toList=true)(w:World) :
 Calls prog 158 #[.string s] w (ahZ w.heap.size w (.bool (Np.eH s.data.toList))):=by
 have hw:=Ug h;have ay:=uu h;obtain⟨ps,dN⟩:=afZ (Np.bO s.data.toList);obtain⟨r,hr⟩:=afZ (ps.head? == some [42]);rw[hw,dN,hr];have kU:=jq dN;have HR:=jq hr;clear hw h dN hr;go_enter func158,ntmps158;go_wp2_with fail;refine (C4 s (by omega) _).mono ?_;rw[kU.out];rintro e w1 ⟨v,rfl,hv,hb⟩;have HB:=jq hb;clear hb;obtain⟨A,c,rfl,hc,hl,he⟩:=hv
 cases ps with
 | nil=>
  have HX:Hid (r=false):=jq (by rw[<-HR.out];rfl);go_wp2_with fail;go_ret;exact⟨ag HX.out.symm,HB.out⟩
 | cons x xs=>
  obtain⟨b,o,e,rfl,b7,_,hce,hx⟩:=he 0 x rfl;have hx':e = [aI x]:=hx;subst hx';have h0:w1.cell? ⟨b,o,none⟩=some (aI x):=by have:=hce 0 _ rfl;simpa using this
  have HX:Hid ((x == [42])=r):=jq (by rw[<-HR.out,List.head?_cons,Bool.eq_iff_iff];simp);obtain⟨n,hn⟩:=afZ ((x::xs).length);have su:0<n:=by rw[<-hn];simp
  have hnI:(0:Int)<(n:Int):=by omega
  rw[hn];clear he hce hx hc hl hn;go_wp2_with fail
  all_goals
   go_ret;refine⟨ag ?_,HB.out⟩;rw[<-HX.out]
end
namespace D
open Go.RowKit Go.Shelf
attribute [local go_sem] Oper.semAt_some
theorem _root_.Go.Proofs.YtfnopgdcaanaiaaGreatDoor.fk.block{w w':World}{B:Nat}{xs:List (List UInt8)}(h:fk w B xs)(hb:w'.heap[B]?=w.heap[B]?):fk w' B xs:=λj x hx=>by
 obtain⟨s,h1,h2,h3,h4⟩:=h j x hx;refine⟨s,h1,h2,(iQ (a:=⟨B,j,none⟩) hb).trans h3,?_⟩;rw[<-h4];simp only[World.frozen?,hb]
def Of(w:World)(M b5 b6:Nat)(pre:List (List UInt8))(S:Nat->Prop)(W:World):Prop:=
 (∀ k,S k↔k=M\/k=b5\/k=b6)/\Boxed W b5 116 (.slice (some ⟨M,0,none⟩) 8 8)/\Boxed W b6 3 (.int .i64 ((8 - pre.length:Nat):Int))/\pre.length<=8/\Hid (fk W M (List.replicate (8 - pre.length) []++pre.reverse))/\M<W.heap.size/\Below w.heap.size w W
theorem Sh(w:World)(M b5 b6:Nat)(B:Nat)(hB:w.heap.size<=B):fO B (Of w M b5 b6):=by
 rintro s S W W' ⟨hS,h1,h2,h3,h4,h6,h5⟩ ax;refine⟨hS,iK h1 ax ((hS _).2 (.inr (.inl rfl))),iK h2 ax ((hS _).2 (.inr (.inr rfl))),h3,jq (h4.out.block ?_),lQ h6 ax.size,qF h5 ax hB (bQ _)⟩;exact ax.keep _ h6 (.inr ((hS _).2 (.inl rfl)))
theorem aLJ{p:Nat}{pre:List (List UInt8)}{x:List UInt8}(hp:pre.length=p)(h8:p<8):(List.replicate (8 - p) []++pre.reverse).set (8 - (p+1)) x=List.replicate (8 - (p+1)) []++(pre ++ [x]).reverse:=by
 have e:List.replicate (8 - p) ([]:List UInt8)=List.replicate (8 - (p+1)) [] ++ [[]]:=by
  rw[show 8 - p=(8 - (p+1))+1 by omega,List.replicate_succ']
 rw[e,List.append_assoc,List.set_append_right _ _ (by rw[List.length_replicate];exact bQ _),List.length_replicate,Nat.sub_self,List.reverse_append];rfl
theorem Jg:∀ (xs:List (List UInt8)) (n:Nat) (b:Bool),Np.fl xs n b=true->n<=8->n+xs.length<=8
 | [],n,b,_,h=>by simpa using h
 | x::xs,n,b,h,hn=>by
   unfold Np.fl at h;split at h
   ·cases h
   ·rename_i hc;simp only[Bool.or_eq_true,Qa,not_or] at hc;rw[List.length_cons];split at h
    ·have:=Jg xs (n+1) true h (by omega);omega
    ·split at h
     ·have:=Jg xs (n+1) false h (by omega);omega
     ·cases h
theorem IQ{l:List UInt8}(h:Np.al l=true):(Np.bI l).length<=8:=by
 unfold Np.bI;split
 ·simp
 ·rename_i hd;unfold Np.al at h;rw[Qc hd] at h;split at h
  ·cases h
  ·have:=Jg _ 0 false h (by omega)
   omega
theorem labels_any(t:ByteArray)(hv:Np.al t.data.toList=true)(w:World) :
 Calls prog 187 #[.string t] w λe w'=>(∃ v,e = .returned (.tuple #[v,.int .i64 0])/\SlR RTx 1 w' w'.heap.size v (Np.bO t.data.toList))/\Below w.heap.size w w':=by
 have ht:t.size<=60:=uu hv;have zZ:Hid ((Np.bI t.data.toList).length<=8):=jq (IQ hv);have HV:=jq hv;clear hv;have ir:∀ w:World,(Instr.makeSlice 116 (.int .i64 8) (.int .i64 8)).run prog w = .ok (.slice (some ⟨w.heap.size,0,none⟩) 8 8) (w.alloc (.cells (madeCells #[Value.string ⟨#[]⟩] 8) 9)):=λw=>K6 8 (by decide) w;have HZ:Hid (∀ j,j<8->(madeCells #[Value.string ⟨#[]⟩] 8)[j]?=some (.string ⟨#[]⟩)):=jq (λj hj=>K5 _ _ hj);generalize madeCells #[Value.string ⟨#[]⟩] 8=Z at ir HZ;refine (callsIn_wide (n:=0)).1 ?_;refine callsIn_of_wp_marks func187 rfl trivial ?_ rfl;simp only[ntmps187,List.size_toArray,List.length_cons,List.length_nil,Nat.reduceAdd,Nat.reduceSub,Array.replicate_succ,Array.replicate_zero,List.push_toArray,List.append_toArray,List.nil_append,List.cons_append];gi_wp2_with fail;refine⟨trivial,rfl,?_⟩;refine (callsIn_wide.2 (valid_any t (by omega) _)).mono ?_;rintro e w1 ⟨rfl,av⟩;rw[HV.out];have aF:=jq av;have bF:=av.size;clear av;gi_wp2_with fail;have b5:=Boxed.new (w1.alloc (.cells Z 9)) 116 (.slice (some ⟨w1.heap.size,0,none⟩) 8 8);have b6:=Boxed.new ((w1.alloc (.cells Z 9)).alloc (.cells #[.slice (some ⟨w1.heap.size,0,none⟩) 8 8] 116)) 3 (.int .i64 8);simp only[World.size_alloc] at b5 b6;have hR0:fk (w1.alloc (.cells Z 9)) w1.heap.size (List.replicate 8 []):=λj x hx=>by
  rw[List.getElem?_replicate] at hx;split at hx
  ·rename_i hj
   cases hx
   exact⟨⟨#[]⟩,rfl,by decide,by simp[go_sem];exact HZ.out j hj,by simp[go_sem]⟩
  ·cases hx
 refine LU (n₀:=w.heap.size) (w0:=w) (first:=#[.string t]) (captured:=#[]) (gf:=215) rfl (enters_of func215 (by kernel_rfl) rfl) (mk:=λy=>#[.string t,y]) (λ_=>rfl)
  (IR t (by omega) _ w) (aF.out.trans ((((vQ _ w1).alloc (bQ _) _).alloc (by simp) _).alloc (by simp;omega) _ |>.mono bF)) (by simp;omega) (λ_=>rfl) (Of w w1.heap.size (w1.heap.size+1) (w1.heap.size+1+1)) (λ_ _ _ _=>False)
  (Sh _ _ _ _ _ (by simp;omega)) (λc s S W W' h _=>h)
  (λk=>k=w1.heap.size\/k=w1.heap.size+1\/k=w1.heap.size+1+1) (by intro k h;omega) (by intro k h;simp;omega)
  ⟨λ_=>Iff.rfl,b5.alloc _,b6,by simp,jq ((hR0.keep (((Go.RowKit.Below.refl _ _).alloc (bQ _) _).alloc (by simp) _) (by simp))),by simp;omega,aF.out.trans ((((vQ _ w1).alloc (bQ _) _).alloc (by simp) _).alloc (by simp;omega) _ |>.mono bF)⟩ ?round ?done ?stop
 case round=>
  rintro l0 pre x S W bM hI ed;gi_wp2;refine⟨S,RdStep.refl _ _,λk e=>.inl e,ed,?_⟩;intro l W₂ ax;obtain⟨hS,c5,c6,h8,hrow,Jw,hB⟩:=Sh w _ _ _ _ (by simp;omega) pre S W W₂ hI ax;have dY:pre.length+1<=8:=by
   have:=bM.length_le
   have h9:=zZ.out;simp at this;omega
  have hx:x∈Np.bI t.data.toList:=bM.subset (by simp);have ur:x.length<=60:=by have:=Np.Bi hx;rw[bj] at this;omega
  have iM:∀ k,S k->k<W₂.heap.size:=λk e=>lQ (ed k e) ax.size;obtain⟨j,hj⟩:∃ j,8 - (pre.length+1)=j:=⟨_,rfl⟩;have hq:((8 - pre.length:Nat):Int)=((j+1:Nat):Int):=by omega
  rw[hq] at c6;have hj8:j<8:=by omega
  obtain⟨sz,_,_,tT,vY⟩:=hrow.out j [] (by rw[List.getElem?_append_left (by rw[List.length_replicate];omega),List.getElem?_replicate,Qb (by omega)]);have ym:Hid (∀ W',fk W' w1.heap.size (List.replicate (8 - pre.length) []++pre.reverse)->fk (W'.setCell ⟨w1.heap.size,j,none⟩ (aI x)) w1.heap.size (List.replicate (8 - (pre ++ [x]).length) []++(pre ++ [x]).reverse)):=jq (λW' hW=>by
   have h1:=hW.store (k:=j) (by rw[List.length_append,List.length_replicate,List.length_reverse];omega) ⟨x.toArray⟩ (by rw[<-bj];simp;omega);have e:((⟨x.toArray⟩:ByteArray).data.toList)=x:=by simp
   rw[e,<-hj,aLJ rfl (by omega)] at h1;rw[List.length_append,List.length_singleton,<-hj];exact h1)
  have HOLD:=jq hrow.out;have uO:=jq c5;have xW:=jq c6;have c5c:=c5.cell;have c6c:=c6.cell;have c5f:=c5.frozen;have c6f:=c6.frozen;have am:IntKind.i64.wrap (((j+1:Nat):Int) - 1)=(j:Int):=by rw[IntWalk.i64_in _ (by omega)];omega
  have jg:(0:Int)<=(j:Int):=by omega
  have qR:(j:Int)<8:=by omega
  have HJ:=jq hj;clear hx hq bM hI hrow c5 c6 hj;have hlen:8 - (pre ++ [x]).length=j:=by rw[List.length_append,List.length_singleton];exact HJ.out
  have yf:=jq hlen;clear hlen;gi_wp2;refine⟨S,((RdStep.refl S W₂).setCell (p:=⟨w1.heap.size+1+1,0,none⟩) (.inl ((hS _).2 (.inr (.inr rfl)))) _).setCell (p:=⟨w1.heap.size,j,none⟩) (.inl ((hS _).2 (.inl rfl))) _,λ_ e=>.inl e,λk e=>by have:=iM k e;simp[World.setCell];omega,hS,?_,?_,by rw[List.length_append,List.length_singleton];omega,jq (ym.out _ (HOLD.out.other (by simp<;>omega) _)),by simpa using Jw,(hB.setCell (p:=⟨w1.heap.size+1+1,0,none⟩) (by simp;omega) _).setCell (p:=⟨w1.heap.size,j,none⟩) (by simpa using bF) _⟩
  ·exact eP (eP uO.out (p:=⟨w1.heap.size+1+1,0,none⟩) (by simp) _) (p:=⟨w1.heap.size,j,none⟩) (by simp) _
  ·rw[yf.out];exact eP (xW.out.set _) (p:=⟨w1.heap.size,j,none⟩) (by simp<;>omega) _
 case done=>
  rintro D S W hD el bR ⟨hS,c5,c6,h8,hrow,Jw,hB⟩ hK;have c5c:=c5.cell;have c6c:=c6.cell;obtain⟨n,hn⟩:=afZ ((Np.bI t.data.toList).length);rw[hn] at c6c h8;obtain⟨q,hq⟩:∃ q,8 - n=q:=⟨_,rfl⟩;rw[hq] at c6c;have wW:q<=8:=by omega
  have pS:(0:Int)<=(q:Int):=by omega
  have wV:(q:Int)<=8:=by omega
  have HN:=jq hn;have HQ:=jq hq;have Wk:Hid (w1.heap.size≠D):=jq (λe=>el ((hS _).2 (.inl e.symm)));have ym:=jq hrow.out;have AG:Hid (Np.bO t.data.toList=(Np.bI t.data.toList).reverse):=jq (by rw[<-Np.rg,List.reverse_reverse]);have vC:Hid (∀ x∈Np.bI t.data.toList,x.length<=140737488355328):=jq (λx hx=>by have:=Np.Bi hx;rw[bj] at this;omega);clear hrow;by_cases su:n=0
  ·have axJ:q=8:=by omega
   have Wt:Hid (Np.bO t.data.toList = []):=jq (by rw[AG.out,rQ (HN.out.trans su)];rfl);clear hn hq c5 c6 su;subst axJ;gi_wp2;exact mv hK (v:=.tuple #[.slice (some ⟨w1.heap.size,0,none⟩) 0 0,.int .i64 0]) (by simp[results,results187,go_sem]) ⟨⟨_,rfl,by rw[Wt.out];exact⟨_,_,rfl,by simp,by simp,λi x hx=>by simp at hx⟩⟩,lT hB (by have:=aF.out.size;simp at hD;omega) _⟩
  ·have Cr:q<8:=by omega
   have bMJ:(q:Int)<8:=by omega
   have kp:¬ q=8:=by omega
   have jz:Hid (8 - q=n):=jq (by omega);have wI:8 - q=n:=by omega
   clear hn hq c5 c6 su;gi_wp2;refine mv hK (v:=.tuple #[.slice (some ⟨w1.heap.size,q,none⟩) n n,.int .i64 0]) (by simp[results,results187,go_sem]) ⟨⟨_,rfl,?_⟩,lT hB (by have:=aF.out.size;simp at hD;omega) _⟩;have hr:fk (W.putObj D (.deferred none)) w1.heap.size (List.replicate (8 - (Np.bI t.data.toList).length) []++(Np.bI t.data.toList).reverse):=ym.out.block (zQ Wk.out);rw[AG.out];have wO:(Np.bI t.data.toList).reverse.length=n:=by rw[List.length_reverse];exact HN.out
   refine⟨_,n,by rw[wO],by omega,by omega,λi x hx=>?_⟩;have hin:=(cQ.1 hx).1;obtain⟨s,h1,h2,h3,_⟩:=hr (q+i) x (by rw[HN.out,HQ.out,oQ (by rw[List.length_replicate];omega),List.length_replicate,show q+i - q=i by omega];exact hx);refine⟨w1.heap.size,q,[.string s],rfl,by simpa using Jw,rfl,λj v hv=>?_,s,h1,h2,rfl⟩
   match j,hv with
   | 0,hv=>cases hv;simpa using h3
 case stop=>
  rintro D c pre S W hD el bR g8 h hK;exact h.elim
end D
section
open Go.RowKit Go.Shelf
attribute [local go_sem] Oper.semAt_some
theorem labels_any(t:ByteArray)(hv:Np.al t.data.toList=true)(w:World) :
 Calls prog 187 #[.string t] w λe w'=>(∃ v,e = .returned (.tuple #[v,.int .i64 0])/\SlR RTx 1 w' w'.heap.size v (Np.bO t.data.toList))/\Below w.heap.size w w':=
 (D.labels_any t hv w).mono λ_ _ h=>⟨h.1,h.2.low⟩
theorem bqK(s:ByteArray)(h:Np.al s.data.toList=true)(w:World) :
 Calls prog 246 #[.string s] w (ahZ w.heap.size w (.bool (Np.eH s.data.toList))):=by
 have hw:=Ug h;obtain⟨ps,dN⟩:=afZ (Np.bO s.data.toList);obtain⟨r,hr⟩:=afZ (ps.head? == some [42]);rw[hw,dN,hr];have kU:=jq dN;have HR:=jq hr;have HV:=jq h;clear hw h dN hr;go_enter func246,ntmps246;go_wp2_with fail;refine (labels_any s HV.out _).mono ?_;rw[kU.out];rintro e w1 ⟨⟨v,rfl,hv⟩,hb⟩;have HB:=jq hb;clear hb;obtain⟨A,c,rfl,hc,hl,he⟩:=hv
 cases ps with
 | nil=>
  have HX:Hid (r=false):=jq (by rw[<-HR.out];rfl);go_wp2_with fail;go_ret;exact⟨ag HX.out.symm,HB.out⟩
 | cons x xs=>
  obtain⟨b,o,e,rfl,b7,_,hce,sx,qX,_,rfl⟩:=he 0 x rfl;have h0:w1.cell? ⟨b,o,none⟩=some (.string sx):=by have:=hce 0 _ rfl;simpa using this
  obtain⟨q,hq⟩:=afZ (sx.toList == [42]);have HX:Hid (q=r):=jq (by rw[<-HR.out,<-hq,dQ,qX,List.head?_cons,Bool.eq_iff_iff];simp);obtain⟨n,hn⟩:=afZ ((x::xs).length);have su:0<n:=by rw[<-hn];simp
  have hnI:(0:Int)<(n:Int):=by omega
  rw[hn];clear he hce hc hl hn qX
  cases q with
  | true=>
   go_wp2_with fail;go_ret;exact⟨ag HX.out,HB.out⟩
  | false=>
   go_wp2_with fail;go_ret;exact⟨ag HX.out,HB.out⟩
end
section
open Go.RowKit
def gp(_:World)(_:Nat)(e:List Value)(x:Np.Host):Prop:=∃ s:ByteArray,s.data.toList=x.name/\s.size<=140737488355328/\e = [.string s,.int .i64 x.addr,.int .i64 x.owner]
theorem gy:dl gp:=λ_ _ _ _ _ h _=>h
theorem mN:dy gp:=λ_ _ _ _ _ h _=>h
theorem zf{w:World}{B n c:Nat}{A:Option Addr}{xs:List Np.Host}(h:SlR gp 3 w B (.slice A n c) xs){k:Nat}{x:Np.Host}(hx:xs[k]?=some x):∃ (b o:Nat) (s:ByteArray),A=some ⟨b,o,none⟩/\b<B/\s.data.toList=x.name/\s.size<=140737488355328/\w.cell? ⟨b,o+k * 3,none⟩=some (.string s)/\w.cell? ⟨b,o+k * 3+1,none⟩=some (.int .i64 x.addr)/\w.cell? ⟨b,o+k * 3+2,none⟩=some (.int .i64 x.owner):=by
 obtain⟨A',c',hv,hc,_,he⟩:=h;simp only[Value.slice.injEq] at hv;obtain⟨rfl,_,_⟩:=hv;obtain⟨b,o,e,rfl,hb,_,hce,s,h1,h2,rfl⟩:=he k x hx;exact⟨b,o,s,rfl,hb,h1,h2,by have:=hce 0 _ rfl;simpa using this,hce 1 _ rfl,hce 2 _ rfl⟩
theorem K1{w:World}{B n c:Nat}{A:Option Addr}{xs:List Int}(h:SlR ei 1 w B (.slice A n c) xs){k:Nat}{x:Int}(hx:xs[k]?=some x):∃ (b o:Nat),A=some ⟨b,o,none⟩/\b<B/\w.cell? ⟨b,o+k,none⟩=some (.int .i64 x):=by
 obtain⟨A',c',hv,hc,_,he⟩:=h;simp only[Value.slice.injEq] at hv;obtain⟨rfl,_,_⟩:=hv;obtain⟨b,o,e,rfl,hb,_,hce,rfl⟩:=he k x hx;exact⟨b,o,rfl,hb,by have:=hce 0 _ rfl;simpa using this⟩
def Np.lS(n:Int):Bool:=decide (1<=n)&&decide (n<=1000000)
theorem LK(n:Int)(w:World) :
 Calls prog 247 #[.int .i64 n] w (ahY w (.bool (Np.lS n))):=by
 obtain⟨r,hr⟩:=afZ (Np.lS n);rw[hr];by_cases h1:1<=n
 ·by_cases h2:n<=1000000
  ·have HX:Hid (r=true):=jq (by rw[<-hr];simp[Np.lS,h1,h2]);clear hr;go_enter func247,ntmps247;go_wp2_with fail;go_ret;exact⟨ag HX.out.symm,rfl⟩
  ·have HX:Hid (r=false):=jq (by rw[<-hr];simp[Np.lS,h2]);clear hr;go_enter func247,ntmps247;go_wp2_with fail;go_ret;exact⟨ag HX.out.symm,rfl⟩
 ·have HX:Hid (r=false):=jq (by rw[<-hr];simp[Np.lS,h1]);clear hr;go_enter func247,ntmps247;go_wp2_with fail;go_ret;exact⟨ag HX.out.symm,rfl⟩
theorem Ot(a:Int):∀ l:List Np.Host,(((l.map λh=>(h.addr,Value.bool true)).lookup a).getD (.bool false) = .bool (decide (a∈l.map (·.addr))))/\(a∉l.map (·.addr)->(l.map λh=>(h.addr,Value.bool true)).lookup a=none)
 | []=>⟨rfl,λ_=>rfl⟩
 | h::l=>by
   obtain⟨i1,i2⟩:=Ot a l;rw[List.map_cons,List.map_cons];by_cases e:a=h.addr
   ·subst e;rw[List.lookup_cons_self];exact⟨by simp,λhn=>absurd (by simp) hn⟩
   ·have hb:(a == h.addr)=false:=by simpa using e
    rw[List.lookup_cons,hb];exact⟨by rw[i1];simp[e],λhn=>i2 λhm=>hn (mQ _ hm)⟩
theorem bnK(v:Value)(l:List Np.Host)(w:World)(hd:SlR gp 3 w w.heap.size v l) :
 Calls prog 180 #[v] w (ahZ w.heap.size w (.bool (Np.yes (Np.VHosts l)))):=by
 obtain⟨r,hr⟩:=afZ (Np.yes (Np.VHosts l));rw[hr];have HR:=jq hr;have HD:=jq hd;obtain⟨A,c,rfl,bw,bT⟩:=ak hd;clear hr hd;by_cases vL:l.length<=64
 ·have Gt:=jq vL;have sr:∀ (w:World),(Instr.makeMap 298 none).run prog w = .ok (.map (some w.heap.size)) (w.alloc (.map #[] 0)):=λw=>by
   simp[Instr.makeMap,Result.andThen]
  go_enter func180,ntmps180;go_wp2_with fail;have uZ:=jq (mW.made w);have av:Below w.heap.size w (w.alloc (.map #[] 0)):=(vQ _ w).alloc (bQ _) _;have aF:=jq av;have bF:w.heap.size<(w.alloc (.map #[] 0)).heap.size:=by simp
  clear av;generalize w.alloc (.map #[] 0)=w1 at *;go_loopw [12] (λi wr=>∃ k:Nat,k<=l.length/\i = .int .i64 k/\Hid (Below w.heap.size w wr)/\w.heap.size<wr.heap.size/\Hid (mW w.heap.size ((l.take k).map λh=>(h.addr,Value.bool true)) wr)/\Hid (∀ j x,j<k->l[j]?=some x->Np.HostOk x)/\Hid (((l.take k).map (·.addr)).Nodup)) (λi _=>l.length - (intOf i).toNat)
  case atStart=>exact⟨0,jQ _,rfl,aF,bF,uZ,jq (λj x hj=>by omega),jq (by simp)⟩
  case round=>
   obtain⟨k,hk,rfl,HB,du,HM,HA,AC⟩:=hrel;by_cases ab:k<l.length
   ·obtain⟨x,ae⟩:∃ x,l[k]?=some x:=⟨_,aQ ab⟩;obtain⟨b,o,sn,rfl,bZ,aD,cu,f0,f1,f2⟩:=zf (HD.out.keep gy HB.out) ae;have ht:l.take (k+1)=l.take k ++ [x]:=by
     obtain⟨hl,he⟩:=cQ.1 ae;rw[fQ hl,he]
    have HT:=jq ht;have HN:Hid (Np.HostOk x->∀ j y,j<k+1->l[j]?=some y->Np.HostOk y):=jq (λh j y hj hy=>by
     by_cases e:j=k
     ·subst e;rw[ae] at hy;cases hy;exact h
     ·exact HA.out j y (by omega) hy)
    have HF:Hid (¬ Np.HostOk x->r=false):=jq (λh=>by rw[<-HR.out];exact Np.aR λq=>h (q.each x (gQ ae)));have rp:Hid (x.addr∈(l.take k).map (·.addr)->r=false):=jq (λh=>by
     rw[<-HR.out];refine Np.aR λq=>?_;have h1:=q.addrs;have h2:(l.take (k+1)).map (·.addr) <+: l.map (·.addr):=by rw[List.map_take];exact List.take_prefix _ _
     have h3:=h1.sublist h2.sublist;rw[ht,List.map_append,List.nodup_append] at h3;exact h3.2.2 x.addr h x.addr (by simp) rfl)
    have aZ:=jq aD;have fK:Hid (∀ o,Below wr.heap.size wr (wr.alloc o)):=jq (λo=>blAl);obtain⟨w2,aj⟩:=afZ (wr.alloc (.cells #[.string sn,.int .i64 x.addr,.int .i64 x.owner] 101));have aa:Below wr.heap.size wr w2:=by rw[<-aj];exact fK.out _
    have p0:w2.cell? ⟨wr.heap.size,0,none⟩=some (.string sn):=by rw[<-aj];simp[go_sem]
    have p1:w2.cell? ⟨wr.heap.size,1,none⟩=some (.int .i64 x.addr):=by rw[<-aj];simp[go_sem]
    have p2:w2.cell? ⟨wr.heap.size,2,none⟩=some (.int .i64 x.owner):=by rw[<-aj];simp[go_sem]
    have aO:wr.heap.size<w2.heap.size:=by rw[<-aj];simp
    have ah:=jq aa;clear ae aD ht aa;go_wp2_with fail;clear aj f0 f1 f2;refine (nameValid_any sn cu _).mono ?_;rintro e w3 ⟨rfl,ai⟩;have dR:=ai.size;have aw:=aeX ah ai;replace p0:w3.cell? ⟨wr.heap.size,0,none⟩=some (.string sn):=(ai.cell (by simpa using aO)).trans p0;replace p1:w3.cell? ⟨wr.heap.size,1,none⟩=some (.int .i64 x.addr):=(ai.cell (by simpa using aO)).trans p1;replace p2:w3.cell? ⟨wr.heap.size,2,none⟩=some (.int .i64 x.owner):=(ai.cell (by simpa using aO)).trans p2;clear ai
    cases ly:Np.al sn.data.toList with
    | false=>
     have HX:Hid (r=false):=jq (HF.out λh=>by have:=h.name;rw[<-aZ.out,ly] at this;cases this);clear ly;go_wp2_with fail;go_ret;exact⟨ag HX.out.symm,HB.out.trans (aw.out.afK)⟩
    | true=>
     have dV:=jq ly;clear ly;go_wp2_with fail;refine (bqK sn dV.out _).mono ?_;rintro e w4 ⟨rfl,ar⟩;have fz:=ar.size;have bi:=aeX aw ar;replace p1:=aeK ar p1;replace p2:=aeK ar p2;clear ar p0
     cases sM:Np.eH sn.data.toList with
     | true=>
      have HX:Hid (r=false):=jq (HF.out λh=>by have:=h.wild;rw[<-aZ.out,sM] at this;cases this);clear sM;go_wp2_with fail;go_ret;exact⟨ag HX.out.symm,HB.out.trans (bi.out.afK)⟩
     | false=>
      have IC:=jq sM;clear sM;by_cases QM:x.owner<0
      ·have HX:Hid (r=false):=jq (HF.out λh=>by have:=h.owner;omega);go_wp2_with fail;go_ret;exact⟨ag HX.out.symm,HB.out.trans (bi.out.afK)⟩
      ·have g1:decide (x.owner<0)=false:=by simpa using QM
       by_cases l5:32<=x.owner
       ·have g2:decide (32<=x.owner)=true:=by simpa using l5
        have HX:Hid (r=false):=jq (HF.out λh=>by have:=h.owner;omega);go_wp2_with fail;go_ret;exact⟨ag HX.out.symm,HB.out.trans (bi.out.afK)⟩
       ·have g2:decide (32<=x.owner)=false:=by simpa using l5
        have eu:Hid (0<=x.owner/\x.owner<=31):=jq (by omega);clear QM l5
        cases vO:Np.lS x.addr with
        | false=>
         have HX:Hid (r=false):=jq (HF.out λh=>by have:=h.addr;simp[Np.lS] at vO;omega);have HC:Hid (∀ w,Calls prog 247 #[.int .i64 x.addr] w λe w'=>e = .returned (.bool false)/\w=w'):=jq (λw=>by rw[<-vO];exact LK _ _);clear vO;go_wp2_with (go_at_call 247;refine (HC.out _).mono ?_;rintro e w' ⟨rfl,rfl⟩);go_ret;exact⟨ag HX.out.symm,HB.out.trans (bi.out.afK)⟩
        | true=>
         have bW:Hid (Np.HostOk x):=jq ⟨by rw[<-aZ.out];exact dV.out,by rw[<-aZ.out];exact IC.out,by simp[Np.lS] at vO;exact vO,eu.out⟩;have HC:Hid (∀ w,Calls prog 247 #[.int .i64 x.addr] w λe w'=>e = .returned (.bool true)/\w=w'):=jq (λw=>by rw[<-vO];exact LK _ _);have nX:Hid (mW w.heap.size ((l.take k).map λh=>(h.addr,Value.bool true)) w4):=jq (HM.out.keep bi.out du);obtain⟨E2,Kj⟩:=Ot x.addr (l.take k);have l7:=a9Y (P:=prog) w4 298 3 4 underlying298 underlying3 w.heap.size _ nX.out x.addr (.bool false) (by kernel_rfl);rw[E2] at l7;clear vO E2;by_cases hin:x.addr∈(l.take k).map (·.addr)
         ·have HX:Hid (r=false):=jq (rp.out hin);rw[uQ hin] at l7;clear hin Kj;go_wp2_with (go_at_call 247;refine (HC.out _).mono ?_;rintro e w' ⟨rfl,rfl⟩);go_ret;exact⟨ag HX.out.symm,HB.out.trans (bi.out.afK)⟩
         ·have kS:=jq (Kj hin);have Hz:Hid (((l.take (k+1)).map (·.addr)).Nodup):=jq (by
           rw[HT.out,List.map_append,List.nodup_append];refine⟨AC.out,by simp,λy hy z hz e=>?_⟩;simp at hz;exact hin (by rw[<-hz,<-e];exact hy))
          rw[tQ hin] at l7;clear hin Kj;go_wp2_with (first
           | (go_at_call 247;refine (HC.out _).mono ?_;rintro e w' ⟨rfl,rfl⟩)
           | (at_mapUpdate;refine btY _ rfl _ _ _ 298 rfl 3 4 underlying298 underlying3 w.heap.size _ rfl nX.out x.addr rfl (.bool true) rfl kS.out ?_;intro w5 lq mc;have H5:=jq (And.intro lq mc);clear lq mc))
          go_roundw
          case rel=>exact⟨k+1,by omega,by go_num,jq ((HB.out.trans (bi.out.afK)).trans (H5.out.2.below (bQ _))),by rw[H5.out.2.size];omega,jq (by rw[HT.out,List.map_append];exact H5.out.1),jq (HN.out bW.out),Hz⟩
          ·simp[intOf]<;>omega
   ·go_wp2_with fail;go_ret;refine⟨ag ?_,HB.out⟩;rw[<-HR.out];refine (Np.bV ⟨Gt.out,λx hx=>?_,?_⟩).symm
    ·obtain⟨j,hj,rfl⟩:=nQ.1 hx;exact HA.out j _ (by omega) (aQ hj)
    ·have:=AC.out
     rwa [kQ (by omega)] at this
 ·have HX:Hid (r=false):=jq (by rw[<-HR.out];exact Np.aR λq=>vL q.few);have afQ:64<l.length:=by omega
  clear vL;go_enter func180,ntmps180;go_wp2_with fail;go_ret;exact⟨ag HX.out.symm,vQ _ _⟩
section
variable {α:Type}
def Oh(R:aiQ α)(B:Nat)(w:World)(f:FuncId)(cap:Array Value)(p:α->Bool)(xs:List α):Prop:=
 ∀ (W:World) (x:α) (e0:Value),x∈xs->Below B w W->B<=W.heap.size->R W B [e0] x->Calls prog f (#[e0]++cap) W λe w'=>e = .returned (.bool (p x))/\Below W.heap.size W w'
theorem aHK{R:aiQ α}(hK:dl R)(f:FuncId)(eg:∀ args w,(callFunc f args).run prog w = .ok (.enter f args) w)(cap:Array Value)(p:α->Bool)(v:Value)(xs:List α)(w:World)(B:Nat)(hB:B<=w.heap.size)(h:SlR R 1 w B v xs)
 (hp:Oh R B w f cap p xs) :
 Calls prog 319 #[v,.func (.func f) #[] cap] w (ahZ w.heap.size w (.int .i64 (jF p xs))):=by
 have H:=jq h;have HP:=jq hp;obtain⟨A,c,rfl,bw,bT,gW⟩:=h;clear gW hp;go_enter func319,ntmps319;go_wp2_with fail;go_loopw [8] (λi wr=>∃ k:Nat,k<=xs.length/\i = .int .i64 k/\Below w.heap.size w wr/\Hid (∀ x∈xs.take k,p x=false)) (λi _=>xs.length - (intOf i).toNat)
 case atStart=>exact⟨0,jQ _,rfl,vQ _ _,jq (by simp)⟩
 case round=>
  obtain⟨k,hk,rfl,hb,HA⟩:=hrel;by_cases ab:k<xs.length
  ·have bZ:=hb.mono hB;obtain⟨A',c',hA',_,_,bL⟩:=H.out.keep hK bZ
   cases hA'
   obtain⟨b,o,e,rfl,b7,hlen,hce,hR⟩:=bL k _ (aQ ab)
   match e,hlen with
   | [e0],_=>
   have h0:wr.cell? ⟨b,o+k,none⟩=some e0:=by have:=hce 0 _ rfl;simpa using this
   have bP:=HP.out wr xs[k] e0 (List.getElem_mem ab) bZ (by have:=hb.size;omega) hR;have HC:=jq bP;have da:=jq hb;clear bL hce hR bP bZ hb;go_wp2_with (fail);refine HC.out.mono ?_;rintro e w2 ⟨rfl,aa⟩;have ah:=jq aa;clear aa;by_cases bM:p xs[k]=true
   ·have HX:=jq bM;go_wp2_with (fail);go_ret;exact⟨iB (I6 p xs k ab HA.out HX.out).symm,da.out.trans (ah.out.mono da.out.size)⟩
   ·have zh:p xs[k]=false:=by simpa using bM
    have HX:=jq zh;clear bM;go_wp2_with (fail);go_roundw
    case rel=>
     refine⟨k+1,by omega,by go_num,da.out.trans (ah.out.mono da.out.size),jq ?_⟩;rw[fQ ab];intro x hx;rcases List.mem_append.1 hx with h | h
     ·exact HA.out x h
     ·simp at h;subst h;exact HX.out
    case measure=>simp[intOf]<;>omega
  ·go_wp2_with fail;go_ret;exact⟨iB (I8 p xs (by have:=HA.out;rwa [kQ (by omega)] at this)).symm,hb⟩
theorem Y6{R:aiQ α}(hK:dl R)(f:FuncId)(eg:∀ args w,(callFunc f args).run prog w = .ok (.enter f args) w)(cap:Array Value)(p:α->Bool)(v:Value)(xs:List α)(w:World)(B:Nat)(hB:B<=w.heap.size)(h:SlR R 1 w B v xs)
 (hp:Oh R B w f cap p xs) :
 Calls prog 248 #[v,.func (.func f) #[] cap] w (ahZ w.heap.size w (.bool (xs.any p))):=by
 have H:=jq h;have HP:=jq hp;have HE:=jq eg;clear h hp eg;go_enter func248,ntmps248;go_wp2_with (go_at_call 319;refine (aHK hK f HE.out cap p v xs w B hB H.out HP.out).mono ?_;rintro e w' ⟨rfl,hb⟩);go_ret;exact⟨ag (I7 p xs),hb⟩
end
theorem a7X(n:Int)(w:World) :
 Calls prog 249 #[.int .i64 n] w (ahZ w.heap.size w (.bool (!Np.lS n))):=by
 obtain⟨q,hq⟩:=afZ (Np.lS n);have HC:Hid (∀ w,Calls prog 247 #[.int .i64 n] w λe w'=>e = .returned (.bool q)/\w=w'):=jq (λw=>by rw[<-hq];exact LK _ _);rw[hq];clear hq
 cases q
 all_goals
  go_enter func249,ntmps249;go_wp2_with (go_at_call 247;refine (HC.out _).mono ?_;rintro e w' ⟨rfl,rfl⟩);go_ret;exact⟨rfl,vQ _ _⟩
theorem bnY(s:ByteArray)(hs:s.size<=140737488355328)(ty life:Int)(dv:Value)(d:List Np.Datum)(hv:Value)(hints:List Int)(w:World)(hR:gq w w.heap.size)(hd:SlR ci 3 w w.heap.size dv d)(hh:SlR ei 1 w w.heap.size hv hints) :
 Calls prog 182 #[.agg #[.string s,.int .i64 ty,.int .i64 life,dv],hv] w (ahZ w.heap.size w (.bool (Np.yes (Np.VRoot ⟨s.data.toList,ty,life,d⟩ hints)))):=by
 obtain⟨r,hr⟩:=afZ (Np.yes (Np.VRoot ⟨s.data.toList,ty,life,d⟩ hints));rw[hr];have HR:=jq hr;have HD:=jq hd;have HH:=jq hh;have ef:=jq hR;obtain⟨A,c,rfl,bw,bT⟩:=ak hd;obtain⟨A2,c2,rfl,dE,dF⟩:=ak hh;clear hr hd hh hR;have HW:=blW w;go_enter func182,ntmps182;go_wp2_with fail;refine (Ti s hs ty life _ d _ ((ef.out.keep (HW.out _)).more (by simp)) (HD.out.later cJ di (HW.out _))).mono ?_;rintro e w1 ⟨rfl,av⟩;have bF:w.heap.size<w1.heap.size:=by have:=av.size;simp at this;omega
 have c0:w1.cell? ⟨w.heap.size,0,none⟩=some (.string s):=by rw[av.cell (by simp)];go_simp
 have c1:w1.cell? ⟨w.heap.size,1,none⟩=some (.int .i64 ty):=by rw[av.cell (by simp)];go_simp
 have aF:=jq ((HW.out _).trans (av.mono (by simp)));clear av;obtain⟨n,hn⟩:=afZ hints.length;have HN:=jq hn;rw[hn] at HH dE dF |-;clear hn
 cases fy:Np.dT ⟨s.data.toList,ty,life,d⟩ with
 | false=>
  have HX:Hid (r=false):=jq (by rw[<-HR.out];exact Np.aR λq=>by have:=q.set;rw[fy] at this;cases this);clear fy;go_wp2_with fail;go_ret;exact⟨ag HX.out.symm,aF.out⟩
 | true=>
  have j8:=jq fy;clear fy;by_cases h6:ty=6
  ·by_cases nu:s.data.toList = [46]
   ·have J1:(!s.toList == [46])=false:=by rw[dQ,nu];rfl
    have Bw:(ty != 6)=false:=by simpa using h6
    have GV:=jq nu;have H6:=jq h6;clear nu h6;by_cases bE:n<1
    ·have HX:Hid (r=false):=jq (by rw[<-HR.out];exact Np.aR λq=>by have:=q.few;rw[HN.out] at this;omega);have g1:decide ((n:Int)<1)=true:=by simp;omega
     clear bE;go_wp2_with fail;go_ret;exact⟨ag HX.out.symm,aF.out⟩
    ·have g1:decide ((n:Int)<1)=false:=by simp;omega
     by_cases yZ:8<n
     ·have HX:Hid (r=false):=jq (by rw[<-HR.out];exact Np.aR λq=>by have:=q.few;rw[HN.out] at this;omega);have g2:decide ((8:Int)<(n:Int))=true:=by simp;omega
      clear bE yZ;go_wp2_with fail;go_ret;exact⟨ag HX.out.symm,aF.out⟩
     ·have g2:decide ((8:Int)<(n:Int))=false:=by simp;omega
      have iF:Hid (1<=n/\n<=8):=jq (by omega);clear bE yZ;have eg:∀ args w,(callFunc 249 args).run prog w = .ok (.enter 249 args) w:=enters_of func249 (by kernel_rfl) rfl;have GZ:=jq eg;clear eg;go_wp2_with fail;have fw:=HH.out.keep kE aF.out;rw[<-HN.out] at fw |-;refine (Y6 (R:=ei) kE 249 GZ.out #[] (λn=>!Np.lS n) _ hints w1 w.heap.size (by omega) fw (λW x e0 _ _ _ hx=>by
       have hx : [e0] = [Value.int .i64 x]:=hx
       cases hx
       exact a7X x W)).mono ?_
      rintro e w2 ⟨rfl,aa⟩;have ah:=aeX aF aa;clear aa;have HQ:Hid ((hints.any λn=>!Np.lS n)=!r):=jq (by
       rw[<-HR.out]
       cases ha:hints.any λn=>!Np.lS n with
       | true=>
        obtain⟨x,hx,hb⟩:=List.any_eq_true.1 ha;rw[Np.aR λq=>?_];rfl
        have:=q.each x hx
        simp[Np.lS] at hb;omega
       | false=>
        rw[Np.bV];rfl;refine⟨j8.out,H6.out,GV.out,by have:=iF.out;rw[HN.out];exact this,λx hx=>?_⟩
        have:=List.any_eq_false.1 ha x hx
        simpa [Np.lS] using this)
      rw[HQ.out];clear HQ
      cases r
      all_goals
       go_wp2_with fail;go_ret;exact⟨rfl,ah.out⟩
   ·have HX:Hid (r=false):=jq (by rw[<-HR.out];exact Np.aR λq=>nu q.name);have J1:(!s.toList == [46])=true:=by rw[dQ];simpa using nu
    have Bw:(ty != 6)=false:=by simpa using h6
    clear nu h6;go_wp2_with fail;go_ret;exact⟨ag HX.out.symm,aF.out⟩
  ·have HX:Hid (r=false):=jq (by rw[<-HR.out];exact Np.aR λq=>h6 q.type);have Bw:(ty != 6)=true:=by simpa using h6
   clear h6;go_wp2_with fail;go_ret;exact⟨ag HX.out.symm,aF.out⟩
theorem a5J(s:ByteArray)(hs:s.size<=140737488355328)(ty life:Int)(dv:Value)(d:List Np.Datum)(hv:Value)(hints:List Int)(w:World)(hd:SlR ci 3 w w.heap.size dv d)(hh:SlR ei 1 w w.heap.size hv hints) :
 Calls prog 88 #[.agg #[.string s,.int .i64 ty,.int .i64 life,dv],hv] w (ahZ w.heap.size w (.bool (Np.yes (Np.VRoot ⟨s.data.toList,ty,life,d⟩ hints)))):=by
 obtain⟨r,hr⟩:=afZ (Np.yes (Np.VRoot ⟨s.data.toList,ty,life,d⟩ hints));rw[hr];have HR:=jq hr;have HD:=jq hd;have HH:=jq hh;obtain⟨A,c,rfl,bw,bT⟩:=ak hd;obtain⟨A2,c2,rfl,dE,dF⟩:=ak hh;clear hr hd hh;have HW:=blW w;go_enter func88,ntmps88;go_wp2_with fail;obtain⟨w1,am⟩:=afZ (w.alloc (.cells #[.string s,.int .i64 ty,.int .i64 life,.slice A d.length c] 26));obtain⟨c0,c1,c2',c3⟩:=cRow4 w1 (w.heap.size) (.string s) (.int .i64 ty) (.int .i64 life) (.slice A d.length c) (by rw[<-am];simp[go_sem]);have bF:w1.heap.size=w.heap.size+1:=by rw[<-am];simp
 have aF:Hid (Below w.heap.size w w1):=jq (by rw[<-am];exact HW.out _);rw[am];clear am;obtain⟨n,hn⟩:=afZ hints.length;have HN:=jq hn;rw[hn] at HH dE dF |-;clear hn;go_loopw [5] (λi wr=>∃ k:Nat,k<=n/\i = .int .i64 k/\wr=w1/\Hid (∀ j x,j<k->hints[j]?=some x->1<=x/\x<=1000000)) (λi _=>n - (intOf i).toNat)
 case atStart=>exact⟨0,jQ _,rfl,rfl,jq (λj x hj=>by omega)⟩
 case round=>
  obtain⟨k,hk,rfl,rfl,HA⟩:=hrel;by_cases ab:k<n
  ·obtain⟨x,ae⟩:∃ x,hints[k]?=some x:=⟨_,aQ (by rw[HN.out];exact ab)⟩;obtain⟨b,o,rfl,bZ,f0⟩:=K1 (HH.out.keep kE aF.out) ae;have iY:Hid (1<=x/\x<=1000000->∀ j y,j<k+1->hints[j]?=some y->1<=y/\y<=1000000):=jq (λh j y hj hy=>by
    by_cases e:j=k
    ·subst e;rw[ae] at hy;cases hy;exact h
    ·exact HA.out j y (by omega) hy)
   have HF:Hid (¬ (1<=x/\x<=1000000)->r=false):=jq (λh=>by rw[<-HR.out];exact Np.aR λq=>h (q.each x (gQ ae)));have cj:=kNN k;have ck:(k:Int)<(n:Int):=by omega
   clear ae;by_cases h1:x<1
   ·have HX:=jq (HF.out (by omega));have g1:decide (x<1)=true:=by simpa using h1
    clear h1;go_wp2_with fail;go_ret;exact⟨ag HX.out.symm,aF.out⟩
   ·have g1:decide (x<1)=false:=by simpa using h1
    by_cases h2:1000000<x
    ·have HX:=jq (HF.out (by omega));have g2:decide (1000000<x)=true:=by simpa using h2
     clear h1 h2;go_wp2_with fail;go_ret;exact⟨ag HX.out.symm,aF.out⟩
    ·have HX:=jq (iY.out (by omega));have g2:decide (1000000<x)=false:=by simpa using h2
     clear h1 h2;go_wp2_with fail;go_roundw
     case rel=>exact⟨k+1,by omega,by go_num,by first | rfl | trivial,HX⟩
     ·simp[intOf]<;>omega
  ·have qm:Hid (∀ x∈hints,1<=x/\x<=1000000):=jq (λx hx=>by
    obtain⟨j,hj,rfl⟩:=nQ.1 hx;exact HA.out j _ (by have:=HN.out;omega) (aQ hj))
   go_wp2_with fail;refine (Tn s hs ty life _ d _ (HD.out.later cJ di aF.out)).mono ?_;rintro e w2 ⟨rfl,aa⟩;have aO:=aa.size;replace c0:=aeK aa c0;replace c1:=aeK aa c1;have ah:=aeX aF aa;clear aa c2' c3
   cases fy:Np.dT ⟨s.data.toList,ty,life,d⟩ with
   | false=>
    have HX:Hid (r=false):=jq (by rw[<-HR.out];exact Np.aR λq=>by have:=q.set;rw[fy] at this;cases this);clear fy;go_wp2_with fail;go_ret;exact⟨ag HX.out.symm,ah.out⟩
   | true=>
    have j8:=jq fy;clear fy;by_cases h6:ty=6
    ·by_cases nu:s.data.toList = [46]
     ·have J1:(s.toList == [46])=true:=by rw[dQ,nu];rfl
      have Bw:(ty == 6)=true:=by simpa using h6
      have GV:=jq nu;have H6:=jq h6;clear nu h6;by_cases bE:1<=n
      ·have g1:decide ((1:Int)<=(n:Int))=true:=by simp;omega
       by_cases yZ:n<=8
       ·have HX:Hid (r=true):=jq (by rw[<-HR.out];exact Np.bV ⟨j8.out,H6.out,GV.out,by rw[HN.out];exact⟨bE,yZ⟩,qm.out⟩);have g2:decide ((n:Int)<=8)=true:=by simp;omega
        clear bE yZ;go_wp2_with fail;go_ret;exact⟨ag HX.out.symm,ah.out⟩
       ·have HX:Hid (r=false):=jq (by rw[<-HR.out];exact Np.aR λq=>by have:=q.few;rw[HN.out] at this;omega);have g2:decide ((n:Int)<=8)=false:=by simp;omega
        clear bE yZ;go_wp2_with fail;go_ret;exact⟨ag HX.out.symm,ah.out⟩
      ·have HX:Hid (r=false):=jq (by rw[<-HR.out];exact Np.aR λq=>by have:=q.few;rw[HN.out] at this;omega);have g1:decide ((1:Int)<=(n:Int))=false:=by simp;omega
       clear bE;go_wp2_with fail;go_ret;exact⟨ag HX.out.symm,ah.out⟩
     ·have HX:Hid (r=false):=jq (by rw[<-HR.out];exact Np.aR λq=>nu q.name);have J1:(s.toList == [46])=false:=by rw[dQ];simpa using nu
      have Bw:(ty == 6)=true:=by simpa using h6
      clear nu h6;go_wp2_with fail;go_ret;exact⟨ag HX.out.symm,ah.out⟩
    ·have HX:Hid (r=false):=jq (by rw[<-HR.out];exact Np.aR λq=>h6 q.type);have Bw:(ty == 6)=false:=by simpa using h6
     clear h6;go_wp2_with fail;go_ret;exact⟨ag HX.out.symm,ah.out⟩
def Np.lv(l:List Np.Host)(a:Int):Int:=jF (λh=>decide (h.addr=a)) l
def cD(base:Nat)(w:World)(v:Value)(ps:List (List UInt8)):Prop:=w.ownsRow base 9 1 v ps.length (ps.map aI)
theorem cD.form{base:Nat}{w:World}{v:Value}{ps:List (List UInt8)}(h:cD base w v ps):∃ A c,v = .slice A ps.length c:=oN h
theorem cD.alloc{base:Nat}{w:World}{v:Value}{ps:List (List UInt8)}(h:cD base w v ps)(o:Obj):cD base (w.alloc o) v ps:=World.ownsRow.alloc h o
theorem cD.keep{base:Nat}{w w':World}{v:Value}{ps:List (List UInt8)}(h:cD base w v ps)(hb:Below w.heap.size w w'):cD base w' v ps:=dS h (λg hg=>hb.block g (h.lt g hg).2)
theorem cD.slr{base:Nat}{w:World}{v:Value}{ps:List (List UInt8)}(h:cD base w v ps)(hl:ps.length<=140737488355328)(ay:∀ x∈ps,x.length<=140737488355328):SlR RTx 1 w w.heap.size v ps:=by
 refine Ln (sz:=1) (e:=9) (base:=base) (λx=>[aI x]) (λ_ _=>rfl) ?_ hl (λx hx=>⟨⟨x.toArray⟩,by simp,ay x hx,rfl⟩)
 have:w.ownsRow base 9 1 v ps.length (ps.map aI):=h
 simpa [Su] using this
section
variable {ops:Array Oper} {rest:List Oper} {o:Oper} {a:Act} {Q:Exit->Act->World->Prop}
theorem zS(w:World)(gX:o.guard=none)(s x:Operand)(ho:o.op = .call { callee:=.builtin .append,args:=#[s,x],argTypes:=#[116,116] })
 (base:Nat) (v:Value) (ps:List (List UInt8)) (hs:a.eval s=v) (hown:cD base w v ps) (blk:Nat) (y:List UInt8) (hx:a.eval x = .slice (some ⟨blk,0,none⟩) 1 1) (hc:w.cell? ⟨blk,0,none⟩=some (aI y)) (hlen:ps.length<=100000) (dM:base<=w.heap.size)
 (h:∀ v' w',cD base w' v' (ps ++ [y])->Below base w w'->wpList prog ops Q rest (a.put o.dst v') w'):wpList prog ops Q (o::rest) a w:=by
 obtain⟨i0,hi,dP,bF,aO⟩:=info_parts Tryz.infoStr;refine wpList_append_own_at w gX s x 116 ho base 9 i0 (.string ⟨#[]⟩) 1 16 underlying116 hi dP bF aO rfl (by decide) v ps.length (ps.map aI) hs hown ⟨blk,0,none⟩ 1 1 [aI y] hx rfl ?_ (by simp[Value.oneCell']) (by unfold maxLen;omega) (by omega) dM ?_
 ·intro j u hj
  cases j with
  | zero=>simp at hj;subst hj;simpa [Addr.add] using hc
  | succ j=>simp at hj
 ·intro v' w' ho' hg _ _;refine h v' w' ?_ ((vQ _ _).grown hg dM (λk hk=>(hown.lt k hk).1));have e:(ps ++ [y]).length=ps.length+1:=by simp
  unfold cD;rw[e,List.map_append];exact ho'
end
theorem a3J(a:ByteArray)(v:Value)(l:List Np.Signed)(bY:l.length<=20000)(w:World)(hd:SlR br 5 w w.heap.size v l) :
 Calls prog 349 #[.agg #[.string a,v]] w (xK RTx 1 w (Np.cM a.data.toList l)):=by
 have HD:=jq hd;obtain⟨A,c,rfl,bw,bT⟩:=ak hd;clear hd;have mo:Hid (∀ k,(Np.cM a.data.toList (l.take k)).length<=20000):=jq (λk=>by
  unfold Np.cM;rw[List.length_map];exact yQ (List.length_filter_le _ _) (by rw[List.length_take];omega))
 have HW:=blW w;have pn:Hid (∀ x∈Np.cM a.data.toList l,x.length<=140737488355328):=jq (λx hx=>by
  unfold Np.cM at hx;obtain⟨y,hy,rfl⟩:=List.mem_map.1 hx;obtain⟨j,hj,rfl⟩:=nQ.1 (List.mem_filter.1 hy).1;obtain⟨_,_,_,s,_,_,_,_,_,hs,hz,_⟩:=dB HD.out (aQ hj);rw[<-hs,bj];exact hz)
 go_enter func349,ntmps349;go_wp2_with fail;obtain⟨w1,am⟩:=afZ (w.alloc (.cells #[.string a,.slice A l.length c] 44));have c0:w1.cell? ⟨w.heap.size,0,none⟩=some (.string a):=by rw[<-am];simp[go_sem]
 have c1:w1.cell? ⟨w.heap.size,1,none⟩=some (.slice A l.length c):=by rw[<-am];simp[go_sem]
 have bF:w1.heap.size=w.heap.size+1:=by rw[<-am];simp
 have aF:Hid (Below w.heap.size w w1):=jq (by rw[<-am];exact HW.out _);rw[am];clear am;go_loopw [3,4] (λvo i wr=>∃ (k:Nat),k<=l.length/\i = .int .i64 k/\Hid (Below w1.heap.size w1 wr)/\Hid (cD w1.heap.size wr vo (Np.cM a.data.toList (l.take k)))) (λ_ i _=>l.length - (intOf i).toNat)
 case atStart=>exact⟨0,jQ _,rfl,jq (vQ _ _),jq ⟨by simp,.inl ⟨rfl,rfl⟩⟩⟩
 case round=>
  obtain⟨k,hk,rfl,HB,HO⟩:=hrel;have ay:=HB.out.size;have d0:wr.cell? ⟨w.heap.size,0,none⟩=some (.string a):=aeK HB.out c0;have d1:wr.cell? ⟨w.heap.size,1,none⟩=some (.slice A l.length c):=aeK HB.out c1;have aH:=aeX aF HB.out;have du:w.heap.size<wr.heap.size:=by omega
  by_cases ab:k<l.length
  ·obtain⟨x,ae⟩:∃ x,l[k]?=some x:=⟨_,aQ ab⟩;obtain⟨b,o,c',sn,dv,sv,hA,bZ,_,aD,cu,aY,aN,f0,f1,f2,f3,f4⟩:=dB (HD.out.keep aP aH.out) ae
   cases hA
   obtain⟨Ad,cd,rfl,_,_⟩:=ak aY;have HT:Hid (Np.cM a.data.toList (l.take (k+1))=if x.set.type=2/\x.set.name≠a.data.toList then Np.cM a.data.toList (l.take k) ++ [x.set.name] else Np.cM a.data.toList (l.take k)):=jq (by
    obtain⟨hl,he⟩:=cQ.1 ae;rw[fQ hl,Np.Zm,he])
   have aZ:=jq aD;have cj:(0:Int)<=(k:Int):=by omega
   have ck:(k:Int)<(l.length:Int):=by omega
   have av:b<wr.heap.size:=by omega
   have bA:Hid (∀ o,Below w1.heap.size w1 (wr.alloc o)):=jq (λo=>HB.out.alloc HB.out.size _);have jz:=jq (mo.out k);clear ae aD aY aN f4;by_cases h2:x.set.type=2
   ·have aa:(x.set.type == 2)=true:=by simpa using h2
    by_cases hn:x.set.name=a.data.toList
    ·have im:(!sn.toList == a.toList)=false:=by rw[dQ,dQ,aZ.out,hn];simp
     have iE:=jq (HT.out.trans (Qc λh=>h.2 hn));clear h2 hn;go_wp2_with fail;go_roundw
     case rel=>exact⟨k+1,by omega,by go_num,jq (bA.out _),jq (by rw[iE.out];exact HO.out.alloc _)⟩
     ·simp[intOf]<;>omega
    ·have im:(!sn.toList == a.toList)=true:=by rw[dQ,dQ,aZ.out];simpa using hn
     have iE:=jq (HT.out.trans (Qb ⟨h2,hn⟩));clear h2 hn;go_wp2_with (at_builtin;refine zS _ rfl _ _ rfl w1.heap.size _ (Np.cM a.data.toList (l.take k)) rfl ((HO.out.alloc _).alloc _) (wr.heap.size+1) sn.data.toList (by simp[go_sem]) (by simp[go_sem]) (by have:=jz.out;omega) (by simp;omega) ?_;intro v5 w5 kn aG;have H5:=jq (And.intro kn aG);clear kn aG);go_roundw
     case rel=>exact⟨k+1,by omega,by go_num,jq (((bA.out _).alloc (by simp;omega) _).trans H5.out.2),jq (by rw[iE.out,<-aZ.out];exact H5.out.1)⟩
     ·simp[intOf]<;>omega
   ·have aa:(x.set.type == 2)=false:=by simpa using h2
    have iE:=jq (HT.out.trans (Qc λh=>h2 h.1));clear h2;go_wp2_with fail;go_roundw
    case rel=>exact⟨k+1,by omega,by go_num,jq (bA.out _),jq (by rw[iE.out];exact HO.out.alloc _)⟩
    ·simp[intOf]<;>omega
  ·have HE:Hid (l.take k=l):=jq (kQ (by omega));go_wp2_with fail;go_ret;refine⟨_,rfl,?_,aH.out⟩;have h1:=HO.out;have h2:=mo.out k;rw[HE.out] at h1 h2;exact h1.slr (by omega) pn.out
theorem Qu(l:List (List UInt8)):∀ k,(Np.dX (l.take k)).length<=k:=by
 intro k;have key:∀ (r o:List (List UInt8)),(r.foldl Np.oF o).length<=o.length+r.length:=by
  intro r
  induction r with
  | nil=>intro o;simp
  | cons c r ih=>
   intro o;have h1:(Np.oF o c).length<=o.length+1:=by
    unfold Np.oF
    cases o.getLast? with
    | none=>simp
    | some q=>dsimp only;split<;>simp
   have:=ih (Np.oF o c)
   rw[List.foldl_cons,List.length_cons];omega
 have:=key (l.take k) []
 rw[List.length_take] at this;unfold Np.dX;simp at this;omega
theorem Kd(l:List (List UInt8)):∀ x∈Np.dX l,x∈l:=by
 have key:∀ (r o:List (List UInt8)),∀ x∈r.foldl Np.oF o,x∈o\/x∈r:=by
  intro r
  induction r with
  | nil=>intro o x hx;exact .inl hx
  | cons c r ih=>
   intro o x hx;rcases ih _ x hx with h | h
   ·unfold Np.oF at h
    cases hg:o.getLast? with
    | none=>rw[hg] at h;simp at h;exact .inr (by simp[h])
    | some q=>
     rw[hg] at h;dsimp only at h;split at h
     ·exact .inl h
     ·rcases List.mem_append.1 h with h | h
      ·exact .inl h
      ·simp at h;exact .inr (by simp[h])
   ·exact .inr (mQ _ h)
 intro x hx;rcases key l [] x hx with h | h
 ·cases h
 ·exact h
theorem s9{x:List UInt8}(h:Np.al x=true):x.length<=60:=by
 unfold Np.al at h;split at h
 ·rename_i e;rw[e];decide
 ·split at h
  ·cases h
  ·omega
theorem a4Q(a:ByteArray)(v:Value)(l:List Np.Signed)(bY:l.length<=20000)(hv:∀ x∈l,Np.al x.set.name=true)(w:World)(hd:SlR br 5 w w.heap.size v l) :
 Calls prog 305 #[.agg #[.string a,v]] w (xK RTx 1 w (Np.dX (Np.cM a.data.toList l))):=by
 have HD:=jq hd;obtain⟨A,c,rfl,bw,bT⟩:=ak hd;have HW:=blW w;have vw:Hid (∀ x∈Np.cM a.data.toList l,Np.al x=true):=jq (λx hx=>by
  unfold Np.cM at hx;obtain⟨y,hy,rfl⟩:=List.mem_map.1 hx;exact hv y (List.mem_filter.1 hy).1)
 clear hd hv;go_enter func305,ntmps305;go_wp2_with fail;refine (a3J a _ l bY _ (HD.out.later aP bK (HW.out _))).mono ?_;rintro e w1 ⟨vc,rfl,KN,av⟩;have bF:w.heap.size<w1.heap.size:=by have:=av.size;simp at this;omega
 have aF:=jq ((HW.out _).trans (av.mono (by simp)));clear av;have gF:(Np.cM a.data.toList l).length<=20000:=by
  unfold Np.cM;rw[List.length_map];exact yQ (List.length_filter_le _ _) bY
 generalize Np.cM a.data.toList l=cs at *;obtain⟨Ac,cc,rfl,tS,bEY⟩:=ak KN;have HC:=jq KN;clear KN;go_wp2_with fail;go_loopw [4,5] (λvo i wr=>∃ (k:Nat),k<=cs.length/\i = .int .i64 k/\Hid (Below w1.heap.size w1 wr)/\Hid (cD w1.heap.size wr vo (Np.dX (cs.take k)))) (λ_ i _=>cs.length - (intOf i).toNat)
 case atStart=>exact⟨0,jQ _,rfl,jq (vQ _ _),jq ⟨by simp,.inl ⟨rfl,rfl⟩⟩⟩
 case round=>
  obtain⟨k,hk,rfl,HB,HO⟩:=hrel;have ay:=HB.out.size;have aH:=aeX aF HB.out;have yo:Hid (∀ x∈Np.dX (cs.take k),x.length<=140737488355328):=jq (λx hx=>by
   have:=s9 (vw.out x (List.mem_of_mem_take (Kd _ x hx)))
   omega)
  have jz:Hid ((Np.dX (cs.take k)).length<=20000):=jq (by have:=Qu cs k;omega);by_cases ab:k<cs.length
  ·obtain⟨x,ae⟩:∃ x,cs[k]?=some x:=⟨_,aQ ab⟩;obtain⟨b,o,sn,rfl,bZ,aD,cu,f0⟩:=s5 (HC.out.keep jt HB.out) ae;have XG:Hid (Np.al x=true):=jq (vw.out x (gQ ae));have HT:Hid (Np.dX (cs.take (k+1))=Np.oF (Np.dX (cs.take k)) x):=jq (by
    obtain⟨hl,he⟩:=cQ.1 ae;rw[fQ hl,Np.Qr,he])
   have aZ:=jq aD;have cj:(0:Int)<=(k:Int):=by omega
   have ck:(k:Int)<(cs.length:Int):=by omega
   have av:b<wr.heap.size:=by omega
   have nv:∀ (g:bN wr) (p:Addr),p.block<wr.heap.size->g.w.cell? p=wr.cell? p:=λg p h=>g.cell p h;have Ic:=jq (HO.out.slr (by have:=jz.out;omega) yo.out);have Wz:Hid (∀ y∈Np.dX (cs.take k),Np.al y=true):=jq (λy hy=>vw.out y (List.mem_of_mem_take (Kd _ y hy)));clear ae aD;generalize Np.dX (cs.take k)=out at *;obtain⟨Ao,co,rfl⟩:=HO.out.form;by_cases h0:out.length=0
   ·obtain rfl:out = []:=rQ h0;have iE:Hid (Np.dX (cs.take (k+1)) = [] ++ [x]):=jq (by rw[HT.out];rfl);clear h0;go_wp2_with fail;refine agY ?_
    repeat (go_big_quiet_step (fail))
    refine wpQuiet_nil ?_;rintro _ ⟨g,rfl⟩;have HG:=jq g.below;have gG:=g.size;have fg:g.w.cell? ⟨b,o+k,none⟩=some (.string sn):=(nv g _ av).trans f0;have yk:=jq (HO.out.keep g.below);generalize g.w=w2 at *;go_wp2_with (at_builtin;refine zS _ rfl _ _ rfl w1.heap.size _ [] rfl (yk.out.alloc _) w2.heap.size sn.data.toList (by simp[go_sem]) (by simp[go_sem]) (by simp) (by simp;omega) ?_;intro v5 w5 kn aG;have H5:=jq (And.intro kn aG);clear kn aG);go_roundw
    case rel=>exact⟨k+1,by omega,by go_num,jq (((HB.out.trans (HG.out.afK)).alloc (by omega) _).trans H5.out.2),jq (by rw[iE.out,<-aZ.out];exact H5.out.1)⟩
    ·simp[intOf]<;>omega
   ·obtain⟨n,hn⟩:∃ n,out.length=n+1:=⟨out.length - 1,by omega⟩;obtain⟨q,hq⟩:∃ q,out[n]?=some q:=⟨_,aQ (by omega)⟩;obtain⟨b2,o2,sq,rfl,yN,ku,bOJ,g0⟩:=s5 Ic.out hq;have jN:out.getLast?=some q:=by rw[List.getLast?_eq_getElem?,hn];exact hq
    have iE:Hid (Np.dX (cs.take (k+1))=if Np.aX x q=true then out else out ++ [x]):=jq (by rw[HT.out,Np.oF,jN]);have N3:Hid (Np.al q=true):=jq (Wz.out q (gQ hq));obtain⟨bu,JS⟩:=afZ (Np.aX x q);have bP:∀ g:bN wr,Calls prog 222 #[.string sn,.string sq] g.w λe w'=>e = .returned (.bool bu)/\Below g.w.heap.size g.w w':=λg=>by
     have kp:q≠[]:=λe=>by have:=N3.out;rw[e] at this;exact absurd this (by decide)
     rw[<-JS,<-Np.ut kp,<-aZ.out,<-ku];have s1:=s9 XG.out;have s2:=s9 N3.out;rw[<-aZ.out,bj] at s1;rw[<-ku,bj] at s2;exact FU sn sq (by omega) (by omega) _
    have jx:=jq bP;have uM:=jq JS;obtain⟨N,hN⟩:=afZ out.length;have HN:=jq hN;have wO:((N:Int) == 0)=false:=by rw[beq_eq_false_iff_ne];omega
    have am:IntKind.i64.wrap ((N:Int) - 1)=(n:Int):=by rw[IntWalk.i64_in _ (by have:=jz.out;omega)];omega
    have ki:(0:Int)<=(n:Int):=by omega
    have l3:(n:Int)<(N:Int):=by omega
    have Nq:Hid (cD w1.heap.size wr (.slice (some ⟨b2,o2,none⟩) N co) out):=jq (by rw[<-hN];exact HO.out);rw[hN];clear hn hq ku jN bP JS h0 hN
    cases bu with
    | true=>
     have ru:=jq (iE.out.trans (Qb uM.out));go_wp2_with fail;refine agY ?_
     repeat (go_big_quiet_step ((go_at_call 222;exact Calls.grow_of (jx.out _))))
     refine wpQuiet_nil ?_;rintro _ ⟨g,rfl⟩;go_wp2_with fail;go_roundw
     case rel=>exact⟨k+1,by omega,by go_num,aeX HB g.below,jq (by rw[ru.out];exact Nq.out.keep g.below)⟩
     ·simp[intOf]<;>omega
    | false=>
     have ru:=jq (iE.out.trans (Qc (by rw[uM.out];simp)));go_wp2_with fail;refine agY ?_
     repeat (go_big_quiet_step ((go_at_call 222;exact Calls.grow_of (jx.out _))))
     refine wpQuiet_nil ?_;rintro _ ⟨g,rfl⟩;have HG:=jq g.below;have gG:=g.size;have fg:g.w.cell? ⟨b,o+k,none⟩=some (.string sn):=(nv g _ av).trans f0;have yk:=jq (Nq.out.keep g.below);clear nv;generalize g.w=w2 at *;go_wp2_with (at_builtin;refine zS _ rfl _ _ rfl w1.heap.size _ out rfl (yk.out.alloc _) w2.heap.size sn.data.toList (by simp[go_sem]) (by simp[go_sem]) (by have:=jz.out;omega) (by simp;omega) ?_;intro v5 w5 kn aG;have H5:=jq (And.intro kn aG);clear kn aG);go_roundw
     case rel=>exact⟨k+1,by omega,by go_num,jq (((HB.out.trans (HG.out.afK)).alloc (by omega) _).trans H5.out.2),jq (by rw[ru.out,<-aZ.out];exact H5.out.1)⟩
     ·simp[intOf]<;>omega
  ·have HE:Hid (cs.take k=cs):=jq (kQ (by omega));go_wp2_with fail;go_ret;refine⟨_,rfl,?_,aH.out⟩;have h1:=HO.out;have h2:=jz.out;have h3:=yo.out;rw[HE.out] at h1 h2 h3;exact h1.slr (by omega) h3
theorem OT{a b c:List UInt8}(h1:Np.aL a b<=0)(h2:Np.aL b c<=0):Np.aL a c<=0:=by
 by_cases e1:Np.aL a b=0
 ·rw[Np.eY.zero _ _ e1];exact h2
 ·by_cases e2:Np.aL b c=0
  ·rw[<-Np.eY.zero _ _ e2];exact h1
  ·exact Int.le_of_lt (Np.eY.trans a b c (by omega) (by omega))
theorem Y4{a b c:List UInt8}(h1:0<Np.aL a c)(h2:Np.aL a b<0):0<Np.aL b c:=by
 have h3:=Np.eY.anti' _ _ h1;have h4:=Np.eY.trans _ _ _ h3 h2;exact Np.eY.anti _ _ h4
theorem F3{bs:List (List UInt8)}{n i:Nat}(hi:i<n):bs++List.replicate (n - i) []=bs ++ [[]]++List.replicate (n - (i+1)) []:=by
 rw[show n - i=(n - (i+1))+1 by omega,List.replicate_succ,List.append_assoc];rfl
theorem Tw{bs:List (List UInt8)}{n i:Nat}{b:List UInt8}(hb:bs.length=i)(hi:i<n):(bs++List.replicate (n - i) []).set i b=bs ++ [b]++List.replicate (n - (i+1)) []:=by
 rw[show n - i=(n - (i+1))+1 by omega,List.replicate_succ,List.set_append_right _ _ (by omega),hb,Nat.sub_self,List.set_cons_zero,List.append_assoc];rfl
def Gm(n0 Bs:Nat)(w1:World)(z:Np.Zone)(H:List (List UInt8))(vk vi:Value)(wr:World):Prop:=
 ∃ (i k:Nat) (bs:List (List UInt8)),i<=z.sets.length/\k<=H.length/\vi = .int .i64 i/\vk = .int .i64 k/\bs.length=i/\Hid (Below Bs w1 wr)/\Hid (fk wr Bs (bs++List.replicate (z.sets.length - i) []))/\Bs<wr.heap.size/\n0<=Bs/\
   Hid (∀ (j:Nat) (x:Np.Signed) (b:List UInt8),z.sets[j]?=some x->bs[j]?=some b->Np.ja (Np.cN z) x.set.name b)/\Hid (∀ (j:Nat) (y:List UInt8) (x:Np.Signed),j<k->H[j]?=some y->z.sets[i]?=some x->Np.aL y x.set.name<=0)
theorem Tk(a:ByteArray)(v:Value)(l:List Np.Signed)(bY:l.length<=20000)(ho:Np.InOrder ⟨a.data.toList,l⟩)(hv:∀ x∈l,Np.al x.set.name=true)(w:World)(hd:SlR br 5 w w.heap.size v l) :
 Calls prog 237 #[.agg #[.string a,v]] w (xK RTx 1 w (Np.dL ⟨a.data.toList,l⟩)):=by
 have HD:=jq hd;obtain⟨A,c,rfl,bw,bT⟩:=ak hd;have HW:=blW w;have HO:=jq ho;have HV:=jq hv;have AW:Hid (∀ x∈Np.dX (Np.cM a.data.toList l),Np.al x=true):=jq (λx hx=>by
  have hx:=Kd _ x hx;unfold Np.cM at hx;obtain⟨y,hy,rfl⟩:=List.mem_map.1 hx;exact hv y (List.mem_filter.1 hy).1)
 have NV:Hid (∀ (n:List UInt8) (k:Nat),k<=(Np.dX (Np.cM a.data.toList l)).length->(∀ j x,j<k->(Np.dX (Np.cM a.data.toList l))[j]?=some x->Np.aL x n<=0)->(∀ j x,k<=j->(Np.dX (Np.cM a.data.toList l))[j]?=some x->0<Np.aL x n)->Np.ja (Np.cN ⟨a.data.toList,l⟩) n (Np.jp (Np.dX (Np.cM a.data.toList l)) k n)):=jq (λn k hk h1 h2=>Np.a3Z ho hk h1 h2);have Xi:Hid ((Np.dX (Np.cM a.data.toList l)).Pairwise λa b=>Np.aL a b<0):=jq (Np.Qs ho).1.sorted;have hhl:(Np.dX (Np.cM a.data.toList l)).length<=20000:=by
  have h1:=Qu (Np.cM a.data.toList l) (Np.cM a.data.toList l).length;rw[List.take_length] at h1;have h2:(Np.cM a.data.toList l).length<=l.length:=by
   unfold Np.cM;rw[List.length_map];exact List.length_filter_le _ _
  omega
 clear hd ho;go_enter func237,ntmps237;go_wp2_with fail;refine (a4Q a _ l bY hv _ (HD.out.later aP bK (HW.out _))).mono ?_;rintro e w1 ⟨vh,rfl,KP,av⟩;have bF:w.heap.size<w1.heap.size:=by have:=av.size;simp at this;omega
 have c1:w1.cell? ⟨w.heap.size,1,none⟩=some (.slice A l.length c):=by rw[av.cell (by simp)];go_simp
 have aF:=jq ((HW.out _).trans (av.mono (by simp)));clear av hv;generalize Np.dX (Np.cM a.data.toList l)=H at *;obtain⟨Ah,ch,rfl,hch,bGJ⟩:=ak KP;have HH:=jq KP;clear KP;have ir:=K6 l.length bY;have HZ:Hid (∀ j,j<l.length->(madeCells #[Value.string ⟨#[]⟩] l.length)[j]?=some (.string ⟨#[]⟩)):=jq (λj hj=>K5 _ _ hj);generalize madeCells #[Value.string ⟨#[]⟩] l.length=Z at ir HZ;go_wp2_with fail;obtain⟨Bs,ni⟩:=afZ w1.heap.size;obtain⟨w2,aj⟩:=afZ (w1.alloc (.cells Z 9));have aa:Below Bs w1 w2:=by rw[<-aj,<-ni];exact blAl
 have aO:Bs<w2.heap.size:=by rw[<-aj];simp;omega
 have gP:Hid (fk w2 Bs ([]++List.replicate (l.length - 0) [])):=jq (λj x hx=>by
  rw[List.nil_append,Nat.sub_zero,List.getElem?_replicate] at hx;split at hx
  ·rename_i hj
   cases hx
   refine⟨⟨#[]⟩,rfl,by decide,?_,?_⟩
   ·rw[<-aj,<-ni];simp[go_sem];exact HZ.out j hj
   ·rw[<-aj,<-ni];simp[go_sem]
  ·cases hx)
 have ah:=jq aa;rw[aj,ni];clear aj aa ir HZ;go_loopw [5,6] (λvk vi wr=>Gm w.heap.size Bs w1 ⟨a.data.toList,l⟩ H vk vi wr) (λ_ i _=>l.length - (intOf i).toNat)
 case atStart=>exact⟨0,0,[],jQ _,jQ _,rfl,rfl,rfl,ah,gP,aO,by omega,jq (λj x b _ hb=>by simp at hb),jq (λj y x hj=>by omega)⟩
 case round=>
  obtain⟨i,k,bs,hi,hk,rfl,rfl,b7,HB,HR,nh,QK,HT,HK⟩:=hrel;have hi:i<=l.length:=hi;have d1:wr.cell? ⟨w.heap.size,1,none⟩=some (.slice A l.length c):=aeK HB.out c1;have aH:Hid (Below w.heap.size w wr):=aeX aF HB.out;have du:w.heap.size<wr.heap.size:=by omega
  by_cases ab:i<l.length
  ·obtain⟨x,ae⟩:∃ x,l[i]?=some x:=⟨_,aQ ab⟩;obtain⟨b,o,c',sn,dv,sv,hA,bZ,_,aD,cu,aY,aN,f0,f1,f2,f3,f4⟩:=dB (HD.out.keep aP aH.out) ae
   cases hA
   have HX:=jq ae;have aZ:=jq aD;have aAY:sn.size<=60:=by have:=s9 (HV.out x (gQ ae));rw[<-aD,bj] at this;exact this
   have ki:(0:Int)<=(i:Int):=by omega
   have l3:(i:Int)<(l.length:Int):=by omega
   have av:b<wr.heap.size:=by omega
   have tm:Hid (∀ (j:Nat) (y:List UInt8),j<k->H[j]?=some y->Np.aL y sn.data.toList<=0):=jq (λj y hj hy=>by rw[aD];exact HK.out j y x hj hy ae);clear ae aD aY aN f1 f2 f3 f4 HK;go_wp2_with fail;obtain⟨wo,rfl⟩:=afJ wr;go_loopw [5] (λvk wr=>∃ k:Nat,k<=H.length/\vk = .int .i64 k/\Hid (Below wo.heap.size wo wr)/\Hid (∀ (j:Nat) (y:List UInt8),j<k->H[j]?=some y->Np.aL y sn.data.toList<=0)) (λk _=>H.length - (intOf k).toNat)
   case atStart=>exact⟨k,hk,rfl,jq (vQ _ _),tm⟩
   case round=>
    obtain⟨k,hk,rfl,uL,Aw⟩:=hrel;have sP:=uL.out.size;have UE:Hid (SlR RTx 1 wr w1.heap.size (.slice Ah H.length ch) H):=jq ((HH.out.keep jt (HB.out.afK)).keep jt (uL.out.afK));by_cases nA:k<H.length
    ·obtain⟨y,fq⟩:∃ y,H[k]?=some y:=⟨_,aQ nA⟩;obtain⟨b2,o2,sy,rfl,yN,kw,bOK,g0⟩:=s5 UE.out fq;have bOZ:sy.size<=60:=by have:=s9 (AW.out y (gQ fq));rw[<-kw,bj] at this;exact this
     have HY:=jq fq;have yn:=jq kw;have cj:=kNN k;have ck:(k:Int)<(H.length:Int):=by omega
     clear fq kw;go_wp2_with fail;refine (Lf sy sn (by omega) (by omega) _).mono ?_;rintro e w6 ⟨rfl,aT⟩;have cn:=jq aT;have eX:=aT.size;clear aT;by_cases fF:Np.aL sy.data.toList sn.data.toList<=0
     ·have HN:Hid (∀ (j:Nat) (y:List UInt8),j<k+1->H[j]?=some y->Np.aL y sn.data.toList<=0):=jq (λj z hj hz=>by
       by_cases e:j=k
       ·subst e;rw[HY.out] at hz;cases hz;rw[<-yn.out];exact fF
       ·exact Aw.out j z (by omega) hz)
      go_wp2_with fail;go_roundw
      case rel=>exact⟨k+1,by omega,by go_num,jq (uL.out.trans (cn.out.mono uL.out.size)),jq HN.out⟩
      ·simp[intOf]<;>omega
     ·have Hc:Hid (∀ (j:Nat) (y:List UInt8),k<=j->H[j]?=some y->0<Np.aL y sn.data.toList):=jq (λj z hj hz=>by
       by_cases e:j=k
       ·subst e;rw[HY.out] at hz;cases hz;rw[<-yn.out];omega
       ·obtain⟨h1,e1⟩:=cQ.1 HY.out;obtain⟨h2,e2⟩:=cQ.1 hz
        have:=List.pairwise_iff_getElem.1 Xi.out k j h1 h2 (by omega)
        rw[e1,e2] at this;exact Y4 (by rw[<-yn.out];omega) this)
      have kN:Hid (∀ W',Below Bs w1 W'->Bs<W'.heap.size->fk W' Bs (bs ++ [Np.jp H k sn.data.toList]++List.replicate (l.length - (i+1)) [])->Gm w.heap.size Bs w1 ⟨a.data.toList,l⟩ H (.int .i64 k) (.int .i64 (i+1)) W'):=jq (λW' h1 h2 h3=>by
       refine⟨i+1,k,bs ++ [Np.jp H k sn.data.toList],by show i+1<=l.length;omega,hk,by go_num,rfl,by simp[b7],jq h1,jq h3,h2,QK,jq λj x' b' hx' hb'=>?_,jq λj y x' hj hy hx'=>?_⟩
       ·have hx':l[j]?=some x':=hx';by_cases e:j<i
        ·rw[List.getElem?_append_left (by omega)] at hb';exact HT.out j x' b' hx' hb'
        ·have B8:j=i:=by have:=(cQ.1 hb').1;simp at this;omega
         subst B8;rw[HX.out] at hx';cases hx';rw[oQ (by omega),b7,Nat.sub_self] at hb'
         cases hb'
         rw[<-aZ.out];exact NV.out _ k hk Aw.out Hc.out
       ·obtain⟨q1,e1⟩:=cQ.1 HX.out;have hx':l[i+1]?=some x':=hx';obtain⟨q2,e2⟩:=cQ.1 hx';have h4:=HO.out.names (show i<i+1 by omega) q2;dsimp only at h4;rw[e1,e2,<-aZ.out] at h4;exact OT (Aw.out j y hj hy) h4)
      have rF:=jq (uL.out.trans (cn.out.mono uL.out.size));have Aa:Hid (Below Bs w1 w6):=aeX HB rF.out;have vM:Bs<w6.heap.size:=by have:=rF.out.size;omega
      have jB:Hid (fk w6 Bs (bs++List.replicate (l.length - i) [])):=jq (HR.out.keep rF.out (by omega));by_cases gH:k=0
      ·have gY:decide ((0:Int)<(k:Int))=false:=by simp;omega
       have jO:decide (0<k)=false:=by simp;omega
       have n9:Hid (Np.jp H k sn.data.toList = []):=jq (by unfold Np.jp;rw[Qc (by omega)]);clear gH;go_wp2_with fail;go_roundw
       case rel=>exact kN.out _ Aa.out vM (by rw[n9.out,<-F3 ab];exact jB.out)
       ·simp[intOf]<;>omega
      ·obtain⟨m,l4⟩:∃ m,k=m+1:=⟨k - 1,by omega⟩;obtain⟨z,gG⟩:∃ z,H[m]?=some z:=⟨_,aQ (by omega)⟩;obtain⟨b3,o3,sz,Ew,akK,mE,KJ,g3⟩:=s5 ((HH.out.keep jt (HB.out.afK)).keep jt (rF.out.afK)) gG;have aCY:sz.size<=60:=by have:=s9 (AW.out z (gQ gG));rw[<-mE,bj] at this;exact this
       have CP:z≠[]:=λe=>by have:=AW.out z (gQ gG);rw[e] at this;exact absurd this (by decide)
       have Hg:Hid (Np.inL (Np.bO sn.data.toList) (Np.bO sz.data.toList)=Np.aX sn.data.toList z):=jq (by rw[mE];exact Np.ut CP);have n9:Hid (Np.jp H k sn.data.toList=if Np.aX sn.data.toList z=true then z else []):=jq (by unfold Np.jp;rw[l4,show m+1 - 1=m by omega,gG];simp);have yo:=jq mE;have gY:decide ((0:Int)<(k:Int))=true:=by simp;omega
       have jO:decide (0<k)=true:=by simp;omega
       have am:IntKind.i64.wrap ((k:Int) - 1)=(m:Int):=by rw[IntWalk.i64_in _ (by omega)];omega
       have jg:(0:Int)<=(m:Int):=by omega
       have qR:(m:Int)<(H.length:Int):=by omega
       clear gG mE l4 gH CP;simp only[Option.some.injEq,Addr.mk.injEq,and_true] at Ew;obtain⟨rfl,rfl⟩:=Ew;go_wp2_with fail;refine (FU sn sz (by omega) (by omega) _).mono ?_;rw[Hg.out];rintro e w7 ⟨rfl,dp⟩;have cZ:=jq dp;have mG:=dp.size;clear dp;have Ab:Hid (Below Bs w1 w7):=aeX Aa cZ.out;have By:Bs<w7.heap.size:=by omega
       have vt:Hid (fk w7 Bs (bs++List.replicate (l.length - i) [])):=jq (jB.out.keep cZ.out (by omega));have g37:w7.cell? ⟨b2,o2+m,none⟩=some (.string sz):=aeK cZ.out g3;obtain⟨s0,_,_,iR,oB⟩:=vt.out i [] (by rw[oQ (by omega),b7,Nat.sub_self,List.getElem?_replicate,Qb (by omega)])
       cases hu:Np.aX sn.data.toList z with
       | true=>
        have jC:Hid (Np.jp H k sn.data.toList=sz.data.toList):=jq (by rw[n9.out,hu,Qb rfl,yo.out]);clear hu;go_wp2_with fail;go_roundw
        case rel=>exact kN.out _ (Ab.out.setCell (by simp) _) (by simpa using By) (by rw[jC.out,<-Tw b7 ab];exact vt.out.store (by rw[List.length_append,List.length_replicate];omega) sz KJ)
        ·simp[intOf]<;>omega
       | false=>
        have jC:Hid (Np.jp H k sn.data.toList = []):=jq (by rw[n9.out,hu];rfl);clear hu;go_wp2_with fail;go_roundw
        case rel=>exact kN.out _ Ab.out By (by rw[jC.out,<-F3 ab];exact vt.out)
        ·simp[intOf]<;>omega
    ·have Hc:Hid (∀ (j:Nat) (y:List UInt8),k<=j->H[j]?=some y->0<Np.aL y sn.data.toList):=jq (λj z hj hz=>by have:=(cQ.1 hz).1;omega);have nB:decide ((k:Int)<(H.length:Int))=false:=by simp;omega
     have kN:Hid (∀ W',Below Bs w1 W'->Bs<W'.heap.size->fk W' Bs (bs ++ [Np.jp H k sn.data.toList]++List.replicate (l.length - (i+1)) [])->Gm w.heap.size Bs w1 ⟨a.data.toList,l⟩ H (.int .i64 k) (.int .i64 (i+1)) W'):=jq (λW' h1 h2 h3=>by
      refine⟨i+1,k,bs ++ [Np.jp H k sn.data.toList],by show i+1<=l.length;omega,hk,by go_num,rfl,by simp[b7],jq h1,jq h3,h2,QK,jq λj x' b' hx' hb'=>?_,jq λj y x' hj hy hx'=>?_⟩
      ·have hx':l[j]?=some x':=hx';by_cases e:j<i
       ·rw[List.getElem?_append_left (by omega)] at hb';exact HT.out j x' b' hx' hb'
       ·have B8:j=i:=by have:=(cQ.1 hb').1;simp at this;omega
        subst B8;rw[HX.out] at hx';cases hx';rw[oQ (by omega),b7,Nat.sub_self] at hb'
        cases hb'
        rw[<-aZ.out];exact NV.out _ k hk Aw.out Hc.out
      ·obtain⟨q1,e1⟩:=cQ.1 HX.out;have hx':l[i+1]?=some x':=hx';obtain⟨q2,e2⟩:=cQ.1 hx';have h4:=HO.out.names (show i<i+1 by omega) q2;dsimp only at h4;rw[e1,e2,<-aZ.out] at h4;exact OT (Aw.out j y hj hy) h4)
     have rF:=jq (uL.out);have Aa:Hid (Below Bs w1 wr):=aeX HB rF.out;have vM:Bs<wr.heap.size:=by have:=rF.out.size;omega
     have jB:Hid (fk wr Bs (bs++List.replicate (l.length - i) [])):=jq (HR.out.keep rF.out (by omega));by_cases gH:k=0
     ·have gY:decide ((0:Int)<(k:Int))=false:=by simp;omega
      have jO:decide (0<k)=false:=by simp;omega
      have n9:Hid (Np.jp H k sn.data.toList = []):=jq (by unfold Np.jp;rw[Qc (by omega)]);clear gH;go_wp2_with fail;go_roundw
      case rel=>exact kN.out _ Aa.out vM (by rw[n9.out,<-F3 ab];exact jB.out)
      ·simp[intOf]<;>omega
     ·obtain⟨m,l4⟩:∃ m,k=m+1:=⟨k - 1,by omega⟩;obtain⟨z,gG⟩:∃ z,H[m]?=some z:=⟨_,aQ (by omega)⟩;obtain⟨b3,o3,sz,Ew,akK,mE,KJ,g3⟩:=s5 ((HH.out.keep jt (HB.out.afK)).keep jt (rF.out.afK)) gG;have aCY:sz.size<=60:=by have:=s9 (AW.out z (gQ gG));rw[<-mE,bj] at this;exact this
      have CP:z≠[]:=λe=>by have:=AW.out z (gQ gG);rw[e] at this;exact absurd this (by decide)
      have Hg:Hid (Np.inL (Np.bO sn.data.toList) (Np.bO sz.data.toList)=Np.aX sn.data.toList z):=jq (by rw[mE];exact Np.ut CP);have n9:Hid (Np.jp H k sn.data.toList=if Np.aX sn.data.toList z=true then z else []):=jq (by unfold Np.jp;rw[l4,show m+1 - 1=m by omega,gG];simp);have yo:=jq mE;have gY:decide ((0:Int)<(k:Int))=true:=by simp;omega
      have jO:decide (0<k)=true:=by simp;omega
      have am:IntKind.i64.wrap ((k:Int) - 1)=(m:Int):=by rw[IntWalk.i64_in _ (by omega)];omega
      have jg:(0:Int)<=(m:Int):=by omega
      have qR:(m:Int)<(H.length:Int):=by omega
      clear gG mE l4 gH CP;subst Ew;go_wp2_with fail;refine (FU sn sz (by omega) (by omega) _).mono ?_;rw[Hg.out];rintro e w7 ⟨rfl,dp⟩;have cZ:=jq dp;have mG:=dp.size;clear dp;have Ab:Hid (Below Bs w1 w7):=aeX Aa cZ.out;have By:Bs<w7.heap.size:=by omega
      have vt:Hid (fk w7 Bs (bs++List.replicate (l.length - i) [])):=jq (jB.out.keep cZ.out (by omega));have g37:w7.cell? ⟨b3,o3+m,none⟩=some (.string sz):=aeK cZ.out g3;obtain⟨s0,_,_,iR,oB⟩:=vt.out i [] (by rw[oQ (by omega),b7,Nat.sub_self,List.getElem?_replicate,Qb (by omega)])
      cases hu:Np.aX sn.data.toList z with
      | true=>
       have jC:Hid (Np.jp H k sn.data.toList=sz.data.toList):=jq (by rw[n9.out,hu,Qb rfl,yo.out]);clear hu;go_wp2_with fail;go_roundw
       case rel=>exact kN.out _ (Ab.out.setCell (by simp) _) (by simpa using By) (by rw[jC.out,<-Tw b7 ab];exact vt.out.store (by rw[List.length_append,List.length_replicate];omega) sz KJ)
       ·simp[intOf]<;>omega
      | false=>
       have jC:Hid (Np.jp H k sn.data.toList = []):=jq (by rw[n9.out,hu];rfl);clear hu;go_wp2_with fail;go_roundw
       case rel=>exact kN.out _ Ab.out By (by rw[jC.out,<-F3 ab];exact vt.out)
       ·simp[intOf]<;>omega
  ·have Kb:i=l.length:=by omega
   have HE:Hid (SlR RTx 1 wr wr.heap.size (.slice (some ⟨Bs,0,none⟩) l.length l.length) (Np.dL ⟨a.data.toList,l⟩)):=jq (by
    have h1:=HR.out;have e:l.length - i=0:=by omega
    dsimp only at h1;rw[e,List.replicate_zero,List.append_nil] at h1;have h2:=h1.slr nh (by omega);have h3:=Np.YC HO.out (B:=bs) (by rw[b7];exact Kb) HT.out;rw[<-h3];rw[b7,Kb] at h2;exact h2)
   clear Kb;go_wp2_with fail;go_ret;exact⟨_,rfl,HE.out,aH.out⟩
theorem a3Y(a:ByteArray)(v:Value)(l:List Np.Signed)(bY:l.length<=20000)(ho:Np.InOrder ⟨a.data.toList,l⟩)(hv:∀ x∈l,Np.al x.set.name=true)(w:World)(hd:SlR br 5 w w.heap.size v l) :
 Calls prog 162 #[.agg #[.string a,v]] w (ahZ w.heap.size w (.bool (Np.yes (Np.qj l (Np.dL ⟨a.data.toList,l⟩))))):=by
 obtain⟨B,hB⟩:=afZ (Np.dL ⟨a.data.toList,l⟩);have jH:B.length=l.length:=by rw[<-hB];exact Np.tE _
 obtain⟨r,hr⟩:=afZ (Np.yes (Np.qj l (Np.dL ⟨a.data.toList,l⟩)));rw[hr];rw[hB] at hr;have HR:=jq hr;have fL:=jq jH;have da:=jq hB;have HD:=jq hd;have HO:=jq ho;have HV:=jq hv;obtain⟨A,c,rfl,bw,bT⟩:=ak hd;clear hr hd ho hv hB jH;have HW:=blW w;go_enter func162,ntmps162;go_wp2_with fail;refine (Tk a _ l bY HO.out HV.out _ (HD.out.later aP bK (HW.out _))).mono ?_;rintro e w1 ⟨bv,rfl,eC,av⟩;have dG:w.heap.size<w1.heap.size:=by have:=av.size;simp at this;omega
 have c1':w1.cell? ⟨w.heap.size,1,none⟩=some (.slice A l.length c):=by rw[av.cell (by simp)];go_simp
 have aF:=jq ((HW.out _).trans (av.mono (by simp)));obtain⟨A2,c2,rfl,dE,dF⟩:=ak eC;rw[da.out] at dE dF eC |-;rw[fL.out] at dE dF eC |-;have mR:=jq eC;clear av eC;go_wp2_with fail;go_loopw [4] (λi wr=>∃ k:Nat,k<=l.length/\i = .int .i64 k/\Hid (Below w1.heap.size w1 wr)/\Hid (∀ j x b,j<k->l[j]?=some x->B[j]?=some b->Np.kH x.set b)) (λi _=>l.length - (intOf i).toNat)
 case atStart=>exact⟨0,jQ _,rfl,jq (vQ _ _),jq (λj x b hj=>by omega)⟩
 case round=>
  obtain⟨k,hk,rfl,HB,HA⟩:=hrel;have ay:=HB.out.size;have aH:=aeX aF HB.out;have d1:wr.cell? ⟨w.heap.size,1,none⟩=some (.slice A l.length c):=aeK HB.out c1';by_cases ab:k<l.length
  ·obtain⟨x,ae⟩:∃ x,l[k]?=some x:=⟨_,aQ ab⟩;obtain⟨bb,eD⟩:∃ bb,B[k]?=some bb:=⟨_,aQ (by rw[fL.out];omega)⟩;obtain⟨b,o,c',sn,dv,sv,hA,bZ,_,aD,cu,aY,aN,e0,e1,e2,e3,e4⟩:=dB (HD.out.keep aP aH.out) ae
   cases hA
   obtain⟨b2,o2,sb,rfl,yN,mD,KI,g0⟩:=s5 (mR.out.keep jt HB.out) eD;have HN:Hid (Np.kH x.set bb->∀ j x b,j<k+1->l[j]?=some x->B[j]?=some b->Np.kH x.set b):=jq (λh j x b hj hx hb=>by
    by_cases e:j=k
    ·subst e;rw[ae] at hx;rw[eD] at hb;cases hx;cases hb;exact h
    ·exact HA.out j x b (by omega) hx hb)
   have HF:Hid (¬ Np.kH x.set bb->r=false):=jq (λh=>by
    rw[<-HR.out];exact Np.aR λq=>h (q k _ _ ae eD))
   clear ae eD;obtain⟨Ad,cd,rfl,_,_⟩:=ak aY;obtain⟨As,cs,rfl,_,_⟩:=ak aN;have hcell:wr.cell? ⟨w.heap.size,1,none⟩=some (.slice (some ⟨b,o,none⟩) l.length c):=aeK HB.out c1';have du:w.heap.size<wr.heap.size:=by omega
   have av:b<wr.heap.size:=by omega
   have aa:b2<wr.heap.size:=by omega
   have bA:Hid (∀ o,Below w1.heap.size w1 (wr.alloc o)):=jq (λo=>HB.out.alloc HB.out.size _);have o4:Hid (∀ o,Below w.heap.size w (wr.alloc o)):=jq (λo=>aH.out.alloc (by omega) _);have cj:=kNN k;have ck:(k:Int)<(l.length:Int):=by omega
   have aZ:=jq aD;have eO:=jq mD;obtain⟨ty,cw⟩:=afZ x.set.type;have fB:=jq cw;rw[cw] at e1;clear aD mD aY aN cw e4;by_cases dD:bb = []
   ·obtain rfl:sb=⟨#[]⟩:=iC (by rw[eO.out,dD]);have bW:=jq (OY (x:=x.set) dD);clear dD;by_cases h6:ty=6
    ·have HX:Hid (r=false):=jq (HF.out λh=>(bW.out.1 h) (fB.out.trans h6));subst h6;go_wp2_with fail;go_quiet (fail);obtain⟨w2,aj⟩:=afZ ((wr.alloc (.cells #[.string sn,.int .i64 6,.int .i64 x.set.life,.slice Ad x.set.data.length cd] 26)).drewN nq);rw[aj];have cP:Below wr.heap.size wr w2:=by rw[<-aj];exact below_drewN (blAl) _
     have p1:w2.cell? ⟨wr.heap.size,1,none⟩=some (.int .i64 6):=by rw[<-aj];simp[go_sem]
     have g02:w2.cell? ⟨b2,o2+k,none⟩=some (.string ⟨#[]⟩):=aeK cP g0;have ew:=jq (HB.out.trans (cP.mono HB.out.size));have po:=aeX aH cP;clear cP aj g0;go_wp2_with fail;go_ret;exact⟨ag HX.out.symm,po.out⟩
    ·have HX:=jq (HN.out (bW.out.2 λh=>h6 (fB.out.symm.trans h)));have h6':(ty == 6)=false:=by simpa using h6
     clear h6;go_wp2_with fail;go_quiet (fail);obtain⟨w2,aj⟩:=afZ ((wr.alloc (.cells #[.string sn,.int .i64 ty,.int .i64 x.set.life,.slice Ad x.set.data.length cd] 26)).drewN nq);rw[aj];have cP:Below wr.heap.size wr w2:=by rw[<-aj];exact below_drewN (blAl) _
     have p1:w2.cell? ⟨wr.heap.size,1,none⟩=some (.int .i64 ty):=by rw[<-aj];simp[go_sem]
     have g02:w2.cell? ⟨b2,o2+k,none⟩=some (.string ⟨#[]⟩):=aeK cP g0;have ew:=jq (HB.out.trans (cP.mono HB.out.size));have po:=aeX aH cP;clear cP aj g0;go_wp2_with fail;go_roundw
     case rel=>exact⟨k+1,by omega,by go_num,jq ew.out,jq HX.out⟩
     ·simp[intOf]<;>omega
   ·have y9:(sb.toList == [])=false:=by rw[dQ,eO.out];simpa using dD
    by_cases im:bb=x.set.name
    ·have JQ:(sn.toList == sb.toList)=true:=by rw[dQ,dQ,eO.out,aZ.out];simpa using im.symm
     have bW:=jq (OZ (x:=x.set) dD im);clear dD im;by_cases ht:ty=2\/ty=6\/ty=8\/ty=1
     ·have HX:=jq (HN.out (bW.out.2 (by rw[fB.out];exact ht)));rcases ht with rfl | rfl | rfl | rfl
      ·skip
       go_wp2_with fail;go_quiet (fail);obtain⟨w2,aj⟩:=afZ ((wr.alloc (.cells #[.string sn,.int .i64 2,.int .i64 x.set.life,.slice Ad x.set.data.length cd] 26)).drewN nq);rw[aj];have cP:Below wr.heap.size wr w2:=by rw[<-aj];exact below_drewN (blAl) _
       have p1:w2.cell? ⟨wr.heap.size,1,none⟩=some (.int .i64 2):=by rw[<-aj];simp[go_sem]
       have g02:w2.cell? ⟨b2,o2+k,none⟩=some (.string sb):=aeK cP g0;have ew:=jq (HB.out.trans (cP.mono HB.out.size));have po:=aeX aH cP;clear cP aj g0;go_wp2_with fail;go_roundw
       case rel=>exact⟨k+1,by omega,by go_num,jq ew.out,jq HX.out⟩
       ·simp[intOf]<;>omega
      ·skip
       go_wp2_with fail;go_quiet (fail);obtain⟨w2,aj⟩:=afZ ((wr.alloc (.cells #[.string sn,.int .i64 6,.int .i64 x.set.life,.slice Ad x.set.data.length cd] 26)).drewN nq);rw[aj];have cP:Below wr.heap.size wr w2:=by rw[<-aj];exact below_drewN (blAl) _
       have p1:w2.cell? ⟨wr.heap.size,1,none⟩=some (.int .i64 6):=by rw[<-aj];simp[go_sem]
       have g02:w2.cell? ⟨b2,o2+k,none⟩=some (.string sb):=aeK cP g0;have ew:=jq (HB.out.trans (cP.mono HB.out.size));have po:=aeX aH cP;clear cP aj g0;go_wp2_with fail;go_roundw
       case rel=>exact⟨k+1,by omega,by go_num,jq ew.out,jq HX.out⟩
       ·simp[intOf]<;>omega
      ·skip
       go_wp2_with fail;go_quiet (fail);obtain⟨w2,aj⟩:=afZ ((wr.alloc (.cells #[.string sn,.int .i64 8,.int .i64 x.set.life,.slice Ad x.set.data.length cd] 26)).drewN nq);rw[aj];have cP:Below wr.heap.size wr w2:=by rw[<-aj];exact below_drewN (blAl) _
       have p1:w2.cell? ⟨wr.heap.size,1,none⟩=some (.int .i64 8):=by rw[<-aj];simp[go_sem]
       have g02:w2.cell? ⟨b2,o2+k,none⟩=some (.string sb):=aeK cP g0;have ew:=jq (HB.out.trans (cP.mono HB.out.size));have po:=aeX aH cP;clear cP aj g0;go_wp2_with fail;go_roundw
       case rel=>exact⟨k+1,by omega,by go_num,jq ew.out,jq HX.out⟩
       ·simp[intOf]<;>omega
      ·skip
       go_wp2_with fail;go_quiet (fail);obtain⟨w2,aj⟩:=afZ ((wr.alloc (.cells #[.string sn,.int .i64 1,.int .i64 x.set.life,.slice Ad x.set.data.length cd] 26)).drewN nq);rw[aj];have cP:Below wr.heap.size wr w2:=by rw[<-aj];exact below_drewN (blAl) _
       have p1:w2.cell? ⟨wr.heap.size,1,none⟩=some (.int .i64 1):=by rw[<-aj];simp[go_sem]
       have g02:w2.cell? ⟨b2,o2+k,none⟩=some (.string sb):=aeK cP g0;have ew:=jq (HB.out.trans (cP.mono HB.out.size));have po:=aeX aH cP;clear cP aj g0;go_wp2_with fail;go_roundw
       case rel=>exact⟨k+1,by omega,by go_num,jq ew.out,jq HX.out⟩
       ·simp[intOf]<;>omega
     ·have HX:Hid (r=false):=jq (HF.out λh=>ht (by have:=bW.out.1 h;rwa [fB.out] at this));have t1:(ty != 2)=true:=by simp;omega
      have t2:(ty != 6)=true:=by simp;omega
      have t3:(ty != 8)=true:=by simp;omega
      have t4:(ty != 1)=true:=by simp;omega
      clear ht;go_wp2_with fail;go_quiet (fail);obtain⟨w2,aj⟩:=afZ ((wr.alloc (.cells #[.string sn,.int .i64 ty,.int .i64 x.set.life,.slice Ad x.set.data.length cd] 26)).drewN nq);rw[aj];have cP:Below wr.heap.size wr w2:=by rw[<-aj];exact below_drewN (blAl) _
      have p1:w2.cell? ⟨wr.heap.size,1,none⟩=some (.int .i64 ty):=by rw[<-aj];simp[go_sem]
      have g02:w2.cell? ⟨b2,o2+k,none⟩=some (.string sb):=aeK cP g0;have ew:=jq (HB.out.trans (cP.mono HB.out.size));have po:=aeX aH cP;clear cP aj g0;go_wp2_with fail;go_ret;exact⟨ag HX.out.symm,po.out⟩
    ·have JQ:(sn.toList == sb.toList)=false:=by rw[dQ,dQ,eO.out,aZ.out];simpa using λe:x.set.name=bb=>im e.symm
     have bW:=jq (O0 (x:=x.set) dD im);clear dD im;by_cases ht:ty=1
     ·have HX:=jq (HN.out (bW.out.2 (by rw[fB.out];exact ht)));subst ht;go_wp2_with fail;go_quiet (fail);obtain⟨w2,aj⟩:=afZ ((wr.alloc (.cells #[.string sn,.int .i64 1,.int .i64 x.set.life,.slice Ad x.set.data.length cd] 26)).drewN nq);rw[aj];have cP:Below wr.heap.size wr w2:=by rw[<-aj];exact below_drewN (blAl) _
      have p1:w2.cell? ⟨wr.heap.size,1,none⟩=some (.int .i64 1):=by rw[<-aj];simp[go_sem]
      have g02:w2.cell? ⟨b2,o2+k,none⟩=some (.string sb):=aeK cP g0;have ew:=jq (HB.out.trans (cP.mono HB.out.size));have po:=aeX aH cP;clear cP aj g0;go_wp2_with fail;go_roundw
      case rel=>exact⟨k+1,by omega,by go_num,jq ew.out,jq HX.out⟩
      ·simp[intOf]<;>omega
     ·have HX:Hid (r=false):=jq (HF.out λh=>ht (by have:=bW.out.1 h;rwa [fB.out] at this));have t4:(ty != 1)=true:=by simpa using ht
      clear ht;go_wp2_with fail;go_quiet (fail);obtain⟨w2,aj⟩:=afZ ((wr.alloc (.cells #[.string sn,.int .i64 ty,.int .i64 x.set.life,.slice Ad x.set.data.length cd] 26)).drewN nq);rw[aj];have cP:Below wr.heap.size wr w2:=by rw[<-aj];exact below_drewN (blAl) _
      have p1:w2.cell? ⟨wr.heap.size,1,none⟩=some (.int .i64 ty):=by rw[<-aj];simp[go_sem]
      have g02:w2.cell? ⟨b2,o2+k,none⟩=some (.string sb):=aeK cP g0;have ew:=jq (HB.out.trans (cP.mono HB.out.size));have po:=aeX aH cP;clear cP aj g0;go_wp2_with fail;go_ret;exact⟨ag HX.out.symm,po.out⟩
  ·go_wp2_with fail;go_ret;refine⟨ag ?_,aH.out⟩;rw[<-HR.out];exact (Np.bV λi x b hx hb=>HA.out i x b (by have:=(cQ.1 hx).1;omega) hx hb).symm
def oi(w:World)(B:Nat)(xs:List Value):Prop:=∀ j x,xs[j]?=some x->w.cell? ⟨B,j,none⟩=some x/\w.frozen? ⟨B,j,none⟩=false
theorem oi.keep{w w':World}{B n:Nat}{xs:List Value}(h:oi w B xs)(hb:Below n w w')(hB:B<n):oi w' B xs:=λj x hx=>by
 obtain⟨h3,h4⟩:=h j x hx;exact⟨(hb.cell (p:=⟨B,j,none⟩) hB).trans h3,(hb.frozen (p:=⟨B,j,none⟩) hB).trans h4⟩
theorem oi.store{w:World}{B:Nat}{xs:List Value}(h:oi w B xs){k:Nat}(hk:k<xs.length)(u:Value):oi (w.setCell ⟨B,k,none⟩ u) B (xs.set k u):=λj x hx=>by
 rw[List.getElem?_set] at hx;by_cases Cb:k=j
 ·subst Cb;rw[Qb rfl,Qb hk] at hx
  cases hx
  obtain⟨h3,h4⟩:=h k _ (aQ hk);exact⟨by simp[World.cell?_setCell_same,h3],(World.frozen?_setCell _ _ _ _).trans h4⟩
 ·rw[Qc Cb] at hx;obtain⟨h3,h4⟩:=h j x hx;exact⟨by rw[xQ _ _ _ _ (by simp<;>omega)];exact h3,(World.frozen?_setCell _ _ _ _).trans h4⟩
def Bc(_:World)(_:Nat)(e:List Value)(x:Bool):Prop:=e = [.bool x]
theorem a0K:dl Bc:=λ_ _ _ _ _ h _=>h
theorem oi.slr{w:World}{B:Nat}{xs:List Bool}(h:oi w B (xs.map Value.bool))(hB:B<w.heap.size)(hl:xs.length<=140737488355328):SlR Bc 1 w w.heap.size (.slice (some ⟨B,0,none⟩) xs.length xs.length) xs:=
 ⟨_,_,rfl,bQ _,hl,λj x hx=>by
  obtain⟨h3,_⟩:=h j (.bool x) (by rw[List.getElem?_map,hx];rfl);refine⟨B,0,[.bool x],rfl,hB,rfl,λi v hv=>?_,rfl⟩
  match i,hv with
  | 0,hv=>cases hv;simpa using h3⟩
theorem YF{w:World}{B n c:Nat}{A:Option Addr}{xs:List Bool}(h:SlR Bc 1 w B (.slice A n c) xs){k:Nat}{x:Bool}(hx:xs[k]?=some x):∃ (b o:Nat),A=some ⟨b,o,none⟩/\b<B/\w.cell? ⟨b,o+k,none⟩=some (.bool x):=by
 obtain⟨A',c',hv,hc,_,he⟩:=h;simp only[Value.slice.injEq] at hv;obtain⟨rfl,_,_⟩:=hv;obtain⟨b,o,e,rfl,hb,_,hce,rfl⟩:=he k x hx;exact⟨b,o,rfl,hb,by have:=hce 0 _ rfl;simpa using this⟩
theorem aPJ(n j:Nat)(hj:j<n):(madeCells #[Value.bool false] n)[j]?=some (.bool false):=by
 unfold madeCells;simp[hj,Nat.mod_one]
theorem Tryz.infoBoolZ:(prog.info? 4).map (λi=>(i.zero,i.size,i.bytes))=some (some (.bool false),1,1):=by kernel_rfl
theorem aPK(n:Nat)(hn:n<=20000)(w:World):(Instr.makeSlice 237 (.int .i64 n) (.int .i64 n)).run prog w = .ok (.slice (some ⟨w.heap.size,0,none⟩) n n) (w.alloc (.cells (madeCells #[Value.bool false] n) 4)):=by
 obtain⟨i,hi,hp⟩:=Option.map_eq_some_iff.1 Tryz.infoBoolZ;simp only[Prod.mk.injEq] at hp;obtain⟨hz,hs,hb⟩:=hp
 have:=run_make (P:=prog) w 237 4 i (.bool false) underlying237 hi hz .i64 .i64 n n (by omega) (Int.le_refl _) (by rw[hb];omega) (by omega)
 rw[hs] at this;simpa [Value.cells] using this
def Np.nP(x:Np.Signed)(b:List UInt8):Bool:=b == []||(x.set.type != 2&&x.set.type != 1)
def Np.mJ(l:List Np.Signed)(B:List (List UInt8)):List Bool:=(l.zip B).map λp=>Np.nP p.1 p.2
theorem SK{l:List Np.Signed}{B:List (List UInt8)}{k:Nat}{x:Np.Signed}{b:List UInt8}(hx:l[k]?=some x)(hb:B[k]?=some b):(Np.mJ l B)[k]?=some (Np.nP x b):=by
 unfold Np.mJ;rw[List.getElem?_map,(List.getElem?_zip_eq_some (z:=(x,b))).2 ⟨hx,hb⟩];rfl
theorem a5Z(a:ByteArray)(v:Value)(l:List Np.Signed)(bY:l.length<=20000)(ho:Np.InOrder ⟨a.data.toList,l⟩)(hv:∀ x∈l,Np.al x.set.name=true)(w:World)(hd:SlR br 5 w w.heap.size v l) :
 Calls prog 238 #[.agg #[.string a,v]] w (xK Bc 1 w (Np.mJ l (Np.dL ⟨a.data.toList,l⟩))):=by
 obtain⟨B,hB⟩:=afZ (Np.dL ⟨a.data.toList,l⟩);have jH:B.length=l.length:=by rw[<-hB];exact Np.tE _
 have HB':=jq hB;have fL:=jq jH;have nY:Hid ((Np.mJ l B).length=l.length):=jq (by unfold Np.mJ;rw[List.length_map,List.length_zip,jH,Nat.min_self]);have HD:=jq hd;have HO:=jq ho;have HV:=jq hv;obtain⟨A,c,rfl,bw,bT⟩:=ak hd;rw[hB];clear hd ho hv hB jH;have HW:=blW w;go_enter func238,ntmps238;go_wp2_with fail;refine (Tk a _ l bY HO.out HV.out _ (HD.out.later aP bK (HW.out _))).mono ?_;rintro e w1 ⟨bv,rfl,eC,av⟩;have dG:w.heap.size<w1.heap.size:=by have:=av.size;simp at this;omega
 have c1':w1.cell? ⟨w.heap.size,1,none⟩=some (.slice A l.length c):=by rw[av.cell (by simp)];go_simp
 have aF:=jq ((HW.out _).trans (av.mono (by simp)));obtain⟨A2,c2,rfl,dE,dF⟩:=ak eC;rw[HB'.out] at dE dF eC |-;rw[fL.out] at dE dF eC |-;have mR:=jq eC;clear av eC;have ir:=aPK l.length bY;have HZ:Hid (∀ j,j<l.length->(madeCells #[Value.bool false] l.length)[j]?=some (.bool false)):=jq (λj hj=>aPJ _ _ hj);generalize madeCells #[Value.bool false] l.length=Z at ir HZ;go_wp2_with fail;obtain⟨Bs,ni⟩:=afZ w1.heap.size;obtain⟨w2,aj⟩:=afZ (w1.alloc (.cells Z 4));have aa:Below Bs w1 w2:=by rw[<-aj,<-ni];exact blAl
 have aO:Bs<w2.heap.size:=by rw[<-aj];simp;omega
 have gP:Hid (oi w2 Bs (((Np.mJ l B).take 0).map Value.bool++List.replicate (l.length - 0) (Value.bool false))):=jq (λj x hx=>by
  rw[List.take_zero,List.map_nil,List.nil_append,Nat.sub_zero,List.getElem?_replicate] at hx;split at hx
  ·rename_i hj
   cases hx
   refine⟨?_,?_⟩
   ·rw[<-aj,<-ni];simp[go_sem];exact HZ.out j hj
   ·rw[<-aj,<-ni];simp[go_sem]
  ·cases hx)
 have ah:=jq aa;rw[aj,ni];clear aj aa ir HZ;go_loopw [5] (λi wr=>∃ k:Nat,k<=l.length/\i = .int .i64 k/\Hid (Below Bs w1 wr)/\Bs<wr.heap.size/\Hid (oi wr Bs (((Np.mJ l B).take k).map Value.bool++List.replicate (l.length - k) (Value.bool false)))) (λi _=>l.length - (intOf i).toNat)
 case atStart=>exact⟨0,jQ _,rfl,ah,aO,gP⟩
 case round=>
  obtain⟨k,hk,rfl,HB,nh,HR⟩:=hrel;have d1:wr.cell? ⟨w.heap.size,1,none⟩=some (.slice A l.length c):=aeK HB.out c1';have aH:Hid (Below w.heap.size w wr):=aeX aF HB.out;have du:w.heap.size<wr.heap.size:=by omega
  by_cases ab:k<l.length
  ·obtain⟨x,ae⟩:∃ x,l[k]?=some x:=⟨_,aQ ab⟩;obtain⟨bb,eD⟩:∃ bb,B[k]?=some bb:=⟨_,aQ (by rw[fL.out];omega)⟩;obtain⟨b,o,c',sn,dv,sv,hA,bZ,_,aD,cu,aY,aN,f0,f1,f2,f3,f4⟩:=dB (HD.out.keep aP aH.out) ae
   cases hA
   obtain⟨b2,o2,sb,rfl,yN,mD,KI,g0⟩:=s5 ((mR.out.keep jt (HB.out.afK))) eD;have eO:=jq mD;have cj:=kNN k;have ck:(k:Int)<(l.length:Int):=by omega
   have av:b<wr.heap.size:=by omega
   have iY:Hid (∀ q,Np.nP x bb=q->∀ W,oi W Bs (((Np.mJ l B).take k).map Value.bool++List.replicate (l.length - k) (Value.bool false))->oi (W.setCell ⟨Bs,k,none⟩ (.bool q)) Bs (((Np.mJ l B).take (k+1)).map Value.bool++List.replicate (l.length - (k+1)) (Value.bool false))):=jq (λq hq W hW=>by
    obtain⟨hko,he⟩:=cQ.1 (SK ae eD);have h1:=hW.store (k:=k) (by rw[List.length_append,List.length_map,List.length_take,List.length_replicate,nY.out];omega) (.bool q);have h2:(((Np.mJ l B).take k).map Value.bool++List.replicate (l.length - k) (Value.bool false)).set k (Value.bool q)=((Np.mJ l B).take (k+1)).map Value.bool++List.replicate (l.length - (k+1)) (Value.bool false):=by
     rw[show l.length - k=(l.length - (k+1))+1 by omega,List.replicate_succ,List.set_append_right _ _ (by rw[List.length_map,List.length_take];omega),List.length_map,List.length_take,nY.out,show k - min k l.length=0 by omega,List.set_cons_zero,fQ hko,he,hq,List.map_append,List.append_assoc];rfl
    rw[h2] at h1;exact h1)
   obtain⟨iR,oB⟩:=HR.out k (Value.bool false) (by rw[oQ (by rw[List.length_map,List.length_take];omega),List.length_map,List.length_take,nY.out,show k - min k l.length=0 by omega,List.getElem?_replicate,Qb (by omega)]);obtain⟨ty,cw⟩:=afZ x.set.type;have kT:Hid (∀ q,(bb == []||(ty != 2&&ty != 1))=q->Np.nP x bb=q):=jq (λq h=>by unfold Np.nP;rw[cw];exact h);rw[cw] at f1;clear ae eD aD mD aY aN cw f2 f3 f4;by_cases dD:bb = []
   ·obtain rfl:sb=⟨#[]⟩:=iC (by rw[eO.out,dD]);have HX:=jq (iY.out true (kT.out true (by simp[dD])));clear dD;go_wp2_with fail;go_roundw
    case rel=>exact⟨k+1,by omega,by go_num,jq (HB.out.setCell (by simp) _),by simpa using nh,jq (HX.out _ HR.out)⟩
    ·simp[intOf]<;>omega
   ·have y9:(sb.toList == [])=false:=by rw[dQ,eO.out];simpa using dD
    by_cases h2:ty=2
    ·have HX:=jq (iY.out false (kT.out false (by simp[dD,h2])));subst h2;clear dD;go_wp2_with fail;go_roundw
     case rel=>exact⟨k+1,by omega,by go_num,jq (HB.out.setCell (by simp) _),by simpa using nh,jq (HX.out _ HR.out)⟩
     ·simp[intOf]<;>omega
    ·by_cases h1:ty=1
     ·have HX:=jq (iY.out false (kT.out false (by simp[dD,h1])));subst h1;clear dD;go_wp2_with fail;go_roundw
      case rel=>exact⟨k+1,by omega,by go_num,jq (HB.out.setCell (by simp) _),by simpa using nh,jq (HX.out _ HR.out)⟩
      ·simp[intOf]<;>omega
     ·have HX:=jq (iY.out true (kT.out true (by simp[h1,h2])));have t1:(ty != 2)=true:=by simpa using h2
      have t2:(ty != 1)=true:=by simpa using h1
      clear dD h1 h2;go_wp2_with fail;go_roundw
      case rel=>exact⟨k+1,by omega,by go_num,jq (HB.out.setCell (by simp) _),by simpa using nh,jq (HX.out _ HR.out)⟩
      ·simp[intOf]<;>omega
  ·have HE:Hid (SlR Bc 1 wr wr.heap.size (.slice (some ⟨Bs,0,none⟩) l.length l.length) (Np.mJ l B)):=jq (by
    have h1:=HR.out;rw[kQ (by rw[nY.out];omega),show l.length - k=0 by omega,List.replicate_zero,List.append_nil] at h1;have h2:=h1.slr nh (by rw[nY.out];omega);rw[nY.out] at h2;exact h2)
   go_wp2_with fail;go_ret;exact⟨_,rfl,HE.out,aH.out⟩
theorem SL{x:Np.Signed}{b:List UInt8} : (Np.nP x b=false)↔(b≠[]/\(x.set.type=2\/x.set.type=1)):=by
 unfold Np.nP;by_cases h0:b = []<;>by_cases h2:x.set.type=2<;>by_cases h1:x.set.type=1<;>simp[h0,h2,h1]
def Np.zW(a:List UInt8)(l:List Np.Signed)(B:List (List UInt8)):Prop:=∀ (k:Nat) (x:Np.Signed) (b:List UInt8),l[k]?=some x->B[k]?=some b->Np.go a x.sigs/\(Np.nP x b=false->x.sigs = [])
theorem a3X(a:ByteArray)(v:Value)(l:List Np.Signed)(bY:l.length<=20000)(ho:Np.InOrder ⟨a.data.toList,l⟩)(hv:∀ x∈l,Np.al x.set.name=true)(w:World)(hd:SlR br 5 w w.heap.size v l) :
 Calls prog 163 #[.agg #[.string a,v]] w (ahZ w.heap.size w (.bool (Np.yes (Np.zW a.data.toList l (Np.dL ⟨a.data.toList,l⟩))))):=by
 obtain⟨B,hB⟩:=afZ (Np.dL ⟨a.data.toList,l⟩);have jH:B.length=l.length:=by rw[<-hB];exact Np.tE _
 rw[hB];obtain⟨r,hr⟩:=afZ (Np.yes (Np.zW a.data.toList l B));rw[hr];have HR:=jq hr;have HB':=jq hB;have fL:=jq jH;have nY:Hid ((Np.mJ l B).length=l.length):=jq (by unfold Np.mJ;rw[List.length_map,List.length_zip,jH,Nat.min_self]);have HD:=jq hd;have HO:=jq ho;have HV:=jq hv;obtain⟨A,c,rfl,bw,bT⟩:=ak hd;clear hd ho hv hB jH hr;have HW:=blW w;go_enter func163,ntmps163;go_wp2_with fail;refine (a5Z a _ l bY HO.out HV.out _ (HD.out.later aP bK (HW.out _))).mono ?_;rintro e w1 ⟨bv,rfl,eC,av⟩;have dG:w.heap.size<w1.heap.size:=by have:=av.size;simp at this;omega
 have c0':w1.cell? ⟨w.heap.size,0,none⟩=some (.string a):=by rw[av.cell (by simp)];go_simp
 have c1':w1.cell? ⟨w.heap.size,1,none⟩=some (.slice A l.length c):=by rw[av.cell (by simp)];go_simp
 have aF:=jq ((HW.out _).trans (av.mono (by simp)));obtain⟨A2,c2,rfl,dE,dF⟩:=ak eC;rw[HB'.out] at dE dF eC |-;rw[nY.out] at dE dF eC |-;have mR:=jq eC;clear av eC;go_wp2_with fail;go_loopw [4] (λi wr=>∃ k:Nat,k<=l.length/\i = .int .i64 k/\Hid (Below w1.heap.size w1 wr)/\Hid (∀ (j:Nat) (x:Np.Signed) (b:List UInt8),j<k->l[j]?=some x->B[j]?=some b->Np.go a.data.toList x.sigs/\(Np.nP x b=false->x.sigs = []))) (λi _=>l.length - (intOf i).toNat)
 case atStart=>exact⟨0,jQ _,rfl,jq (vQ _ _),jq (λj x b hj=>by omega)⟩
 case round=>
  obtain⟨k,hk,rfl,HB,HA⟩:=hrel;have ay:=HB.out.size;have aH:=aeX aF HB.out;have d0:wr.cell? ⟨w.heap.size,0,none⟩=some (.string a):=aeK HB.out c0';have d1:wr.cell? ⟨w.heap.size,1,none⟩=some (.slice A l.length c):=aeK HB.out c1';have du:w.heap.size<wr.heap.size:=by omega
  by_cases ab:k<l.length
  ·obtain⟨x,ae⟩:∃ x,l[k]?=some x:=⟨_,aQ ab⟩;obtain⟨bb,eD⟩:∃ bb,B[k]?=some bb:=⟨_,aQ (by rw[fL.out];omega)⟩;obtain⟨b,o,c',sn,dv,sv,hA,bZ,_,aD,cu,aY,aN,f0,f1,f2,f3,f4⟩:=dB (HD.out.keep aP aH.out) ae
   cases hA
   obtain⟨As,cs,rfl,_,_⟩:=ak aN;obtain⟨b2,o2,rfl,yN,g0⟩:=YF (mR.out.keep a0K HB.out) (SK ae eD);have HN:Hid (Np.go a.data.toList x.sigs->(Np.nP x bb=false->x.sigs = [])->∀ (j:Nat) (y:Np.Signed) (b:List UInt8),j<k+1->l[j]?=some y->B[j]?=some b->Np.go a.data.toList y.sigs/\(Np.nP y b=false->y.sigs = [])):=jq (λh1 h2 j y b hj hy hb=>by
    by_cases e:j=k
    ·subst e;rw[ae] at hy;rw[eD] at hb;cases hy;cases hb;exact⟨h1,h2⟩
    ·exact HA.out j y b (by omega) hy hb)
   have HF:Hid (¬ (Np.go a.data.toList x.sigs/\(Np.nP x bb=false->x.sigs = []))->r=false):=jq (λh=>by
    rw[<-HR.out];exact Np.aR λq=>h (q k _ _ ae eD))
   have cj:=kNN k;have ck:(k:Int)<(l.length:Int):=by omega
   have av:b<wr.heap.size:=by omega
   have aa:b2<wr.heap.size:=by omega
   have nv:∀ (g:bN wr) (p:Addr),p.block<wr.heap.size->g.w.cell? p=wr.cell? p:=λg p h=>g.cell p h;obtain⟨bf,tN⟩:=afZ (Np.yes (Np.go a.data.toList x.sigs));have Dj:=jq tN;have bP:∀ g:bN wr,Calls prog 151 #[.slice As x.sigs.length cs,.string a] g.w λe w'=>e = .returned (.bool bf)/\Below g.w.heap.size g.w w':=λg=>by
    rw[<-tN];exact a5X a _ x.sigs g.w ((aN.keep eL (g.below.afK)).more fJ (by have:=g.size;omega))
   have HC:=jq bP;obtain⟨ow,how⟩:=afZ (Np.nP x bb);have eu:=jq how;rw[how] at g0;clear ae eD aD aY aN tN bP how f0 f1 f2 f3
   cases bf with
   | false=>
    have HX:Hid (r=false):=jq (HF.out λh=>by have:=Np.bV h.1;rw[Dj.out] at this;cases this);go_wp2_with fail;refine agY ?_
    repeat (go_big_quiet_step ((go_at_call 151;exact Calls.grow_of (HC.out _))))
    refine wpQuiet_nil ?_;rintro _ ⟨g,rfl⟩;go_wp2_with fail;go_ret;exact⟨ag HX.out.symm,aH.out.trans (g.below.afK)⟩
   | true=>
    have M3:Hid (Np.go a.data.toList x.sigs):=jq (Np.eZ.1 Dj.out)
    cases ow with
    | true=>
     have HX:=jq (HN.out M3.out (λh=>by rw[eu.out] at h;cases h));go_wp2_with fail;refine agY ?_
     repeat (go_big_quiet_step ((go_at_call 151;exact Calls.grow_of (HC.out _))))
     refine wpQuiet_nil ?_;rintro _ ⟨g,rfl⟩;go_wp2_with fail;go_roundw
     case rel=>exact⟨k+1,by omega,by go_num,aeX HB g.below,jq HX.out⟩
     ·simp[intOf]<;>omega
    | false=>
     obtain⟨N,hN⟩:=afZ x.sigs.length;have iF:=jq hN;rw[hN] at f4 HC;clear hN;by_cases h0:N=0
     ·have HX:=jq (HN.out M3.out (λ_=>rQ (iF.out.trans h0)));subst h0;go_wp2_with fail;refine agY ?_
      repeat (go_big_quiet_step ((go_at_call 151;exact Calls.grow_of (HC.out _))))
      refine wpQuiet_nil ?_;rintro _ ⟨g,rfl⟩;go_wp2_with fail;go_roundw
      case rel=>exact⟨k+1,by omega,by go_num,aeX HB g.below,jq HX.out⟩
      ·simp[intOf]<;>omega
     ·have HX:Hid (r=false):=jq (HF.out λh=>h0 (by have:=h.2 eu.out;rw[this] at iF;exact iF.out.symm));have hp:decide ((0:Int)<(N:Int))=true:=by simp;omega
      have Kt:decide (0<N)=true:=by simp;omega
      clear h0;go_wp2_with fail;refine agY ?_
      repeat (go_big_quiet_step ((go_at_call 151;exact Calls.grow_of (HC.out _))))
      refine wpQuiet_nil ?_;rintro _ ⟨g,rfl⟩;go_wp2_with fail;go_ret;exact⟨ag HX.out.symm,aH.out.trans (g.below.afK)⟩
  ·go_wp2_with fail;go_ret;refine⟨ag ?_,aH.out⟩;rw[<-HR.out];exact (Np.bV λi x b hx hb=>HA.out i x b (by have:=(cQ.1 hx).1;omega) hx hb).symm
theorem aRX{x:List UInt8}(h:Np.al x=true):x≠[]:=by
 rintro rfl;revert h;decide
def XX(w1:World)(apex:List UInt8)(l:List Np.Signed)(i:Value)(wr:World):Prop:=
 ∃ k:Nat,k<=l.length/\i = .int .i64 k/\Below w1.heap.size w1 wr/\Hid (∀ j x,j<k->l[j]?=some x->Np.dT x.set=true)/\Hid (Np.jG apex none l=Np.jG apex (qi l k) (l.drop k))
theorem a5Q(a:ByteArray)(ha:a.size<=140737488355328)(v:Value)(l:List Np.Signed)(bY:l.length<=20000)(w:World)(hd:SlR br 5 w w.heap.size v l) :
 Calls prog 159 #[.agg #[.string a,v]] w (ahZ w.heap.size w (.bool (Np.eK ⟨a.data.toList,l⟩))):=by
 have HD:=jq hd;obtain⟨A,c,rfl,bw,bT,-⟩:=hd;have HW:=blW w;go_enter func159,ntmps159;go_wp2_with fail;refine (xw _ ha _).mono ?_;rintro e w1 ⟨rfl,hb⟩;have c0:w1.cell? ⟨w.heap.size,0,none⟩=some (.string a):=by rw[hb.cell (by simp)];go_simp
 have c1:w1.cell? ⟨w.heap.size,1,none⟩=some (.slice A l.length c):=by rw[hb.cell (by simp)];go_simp
 have dG:w.heap.size<w1.heap.size:=by have:=hb.size;simp at this;omega
 have aF:=jq ((HW.out _).trans (hb.mono (by simp)));clear hb
 cases qY:Np.al a.data.toList with
 | false=>
  have HF:Hid (Np.eK ⟨a.data.toList,l⟩=false):=jq (by unfold Np.eK;rw[qY];rfl);clear qY;go_wp2_with fail;go_ret;exact⟨ag HF.out.symm,aF.out⟩
 | true=>
  have yr:=jq qY;have haz:=uu qY;clear qY;go_wp2_with fail;refine (Tp a yr.out _).mono ?_;rintro e w0 ⟨rfl,dm⟩;have KH:=dm.size;replace c0:w0.cell? ⟨w.heap.size,0,none⟩=some (.string a):=(dm.cell (by simpa using dG)).trans c0;replace c1:w0.cell? ⟨w.heap.size,1,none⟩=some (.slice A l.length c):=(dm.cell (by simpa using dG)).trans c1;replace aF:=aeX aF dm;replace dG:w.heap.size<w0.heap.size:=by omega
  clear dm KH;obtain⟨w1,rfl⟩:=afJ w0
  cases bg:Np.eH a.data.toList with
  | true=>
   have HF:Hid (Np.eK ⟨a.data.toList,l⟩=false):=jq (by unfold Np.eK;rw[bg];simp);go_wp2_with (go_at_call 225;refine (FW a ha _).mono ?_;rintro e w' ⟨rfl,rfl⟩);go_ret;exact⟨ag HF.out.symm,aF.out⟩
  | false=>
   have HF:Hid (Np.eK ⟨a.data.toList,l⟩=Np.jG a.data.toList none l):=jq (by unfold Np.eK;rw[bg,yr.out];simp);go_wp2_with (go_at_call 225;refine (FW a ha _).mono ?_;rintro e w' ⟨rfl,rfl⟩);clear bg;go_loopw [3] (λi wr=>XX w1 a.data.toList l i wr) (λi _=>l.length - (intOf i).toNat)
   case atStart=>exact⟨0,jQ _,rfl,vQ _ _,jq (λj x hj=>by omega),jq rfl⟩
   case round=>
    obtain⟨k,hk,rfl,aM,HV,HG⟩:=hrel;have aEJ:=aM.size;have d0:wr.cell? ⟨w.heap.size,0,none⟩=some (.string a):=by rw[aM.cell (by simpa using dG)];exact c0
    have d1:wr.cell? ⟨w.heap.size,1,none⟩=some (.slice A l.length c):=by rw[aM.cell (by simpa using dG)];exact c1
    have du:w.heap.size<wr.heap.size:=by omega
    by_cases ab:k<l.length
    ·have lY:Below w.heap.size w wr:=aF.out.trans (aM.afK);have ae:=aQ ab;obtain⟨b,o,c',sn,dv,sv,hA,bZ,_,aD,ay,aY,aN,e0,e1,e2,e3,e4⟩:=dB (HD.out.keep aP lY) ae
     cases hA
     generalize hx:l[k]=x at *;clear hx;obtain⟨Ad,cd,rfl,JX,nC⟩:=ak aY;have jy:=jq aY;have HX:=jq ae;have uh:(⟨sn.data.toList,x.set.type,x.set.life,x.set.data⟩:Np.DSet)=x.set:=by rw[aD]
     have DU:=jq uh;have aZ:=jq aD;have aS:=jq aM;have xP:=jq lY;have qv:=jq (HG.out.trans (Up ae (qi l k)));clear aY aN ae aD aM lY c0 c1 uh e4;go_wp2_with fail;have dW:Below wr.heap.size wr (wr.alloc (.cells #[.string sn,.int .i64 x.set.type,.int .i64 x.set.life,.slice Ad x.set.data.length cd] 26)):=blAl;have p0:=World.cell?_alloc_new wr #[.string sn,.int .i64 x.set.type,.int .i64 x.set.life,.slice Ad x.set.data.length cd] 26 0;have p1:=World.cell?_alloc_new wr #[.string sn,.int .i64 x.set.type,.int .i64 x.set.life,.slice Ad x.set.data.length cd] 26 1;have p2:=World.cell?_alloc_new wr #[.string sn,.int .i64 x.set.type,.int .i64 x.set.life,.slice Ad x.set.data.length cd] 26 2;have p3:=World.cell?_alloc_new wr #[.string sn,.int .i64 x.set.type,.int .i64 x.set.life,.slice Ad x.set.data.length cd] 26 3;have gw:wr.heap.size<(wr.alloc (.cells #[.string sn,.int .i64 x.set.type,.int .i64 x.set.life,.slice Ad x.set.data.length cd] 26)).heap.size:=by simp
     generalize wr.alloc (.cells #[.string sn,.int .i64 x.set.type,.int .i64 x.set.life,.slice Ad x.set.data.length cd] 26)=wa at dW p0 p1 p2 p3 gw |-;have fK:=jq dW;have uK:=aeX xP dW;replace d0:wa.cell? ⟨w.heap.size,0,none⟩=some (.string a):=by rw[dW.cell (by simpa using du)];exact d0
     replace d1:wa.cell? ⟨w.heap.size,1,none⟩=some (.slice (some ⟨b,o,none⟩) l.length c):=by rw[dW.cell (by simpa using du)];exact d1
     replace p0:wa.cell? ⟨wr.heap.size,0,none⟩=some (.string sn):=p0;replace p1:wa.cell? ⟨wr.heap.size,1,none⟩=some (.int .i64 x.set.type):=p1;replace p2:wa.cell? ⟨wr.heap.size,2,none⟩=some (.int .i64 x.set.life):=p2;replace p3:wa.cell? ⟨wr.heap.size,3,none⟩=some (.slice Ad x.set.data.length cd):=p3;have nv:∀ (g:bN wa) (p:Addr),p.block<wa.heap.size->g.w.cell? p=wa.cell? p:=λg p h=>g.cell p h;have bOY:w.heap.size<wa.heap.size:=by omega
     have bEQ:b<wa.heap.size:=by omega
     have Vq:=jq ((jy.out.keep cJ (fK.out.afK)).more di (show w.heap.size<=wa.heap.size by omega));clear dW e0 e1 e2 e3;have bP:∀ g:bN wa,Calls prog 150 #[.agg #[.string sn,.int .i64 x.set.type,.int .i64 x.set.life,.slice Ad x.set.data.length cd]] g.w λe w'=>e = .returned (.bool (Np.dT x.set))/\Below g.w.heap.size g.w w':=λg=>by
      rw[<-DU.out];exact Tn sn ay _ _ _ x.set.data _ (Vq.out.later cJ di g.below)
     cases fy:Np.dT x.set with
     | false=>
      rw[fy] at bP;have jx:=jq bP;have j8:=jq fy;clear bP fy;refine agY ?_
      repeat (go_big_quiet_step ((go_at_call 150;exact Calls.grow_of (jx.out _))))
      refine wpQuiet_nil ?_;rintro _ ⟨g,rfl⟩;go_wp2_with fail;go_ret;refine⟨ag ?_,uK.out.trans (g.below.afK)⟩;rw[HF.out,qv.out,j8.out,Bool.and_false];rfl
     | true=>
      rw[fy] at bP;have jx:=jq bP;have j8:=jq fy;have ly:Np.al sn.data.toList=true:=by rw[aZ.out];exact (Np.zP fy).1
      have dV:=jq ly;have aAY:=uu ly;have hin:∀ g:bN wa,Calls prog 222 #[.string sn,.string a] g.w λe w'=>e = .returned (.bool (Np.aX sn.data.toList a.data.toList))/\Below g.w.heap.size g.w w':=λg=>by
       rw[<-Np.ut (aRX yr.out)];exact FU sn a (by omega) (by omega) _
      have BL:∀ j y,j<k+1->l[j]?=some y->Np.dT y.set=true:=λj y hj hy=>by
       by_cases e:j=k
       ·subst e;rw[HX.out] at hy;cases hy;exact fy
       ·exact HV.out j y (by omega) hy
      have qm:=jq BL;clear bP fy ly BL
      cases eV:Np.aX sn.data.toList a.data.toList with
      | false=>
       rw[eV] at hin;have mp:=jq hin;have AS:=jq eV;clear eV hin;refine agY ?_
       repeat (go_big_quiet_step (first
        | (go_at_call 150;exact Calls.grow_of (jx.out _))
        | (go_at_call 222;exact Calls.grow_of (mp.out _))))
       refine wpQuiet_nil ?_;rintro _ ⟨g,rfl⟩;go_wp2_with fail;go_ret;refine⟨ag ?_,uK.out.trans (g.below.afK)⟩;rw[HF.out,qv.out,<-aZ.out,dV.out,AS.out];rfl
      | true=>
       rw[eV] at hin;have mp:=jq hin;have CB:Np.jG a.data.toList none l=((match qi l k with | none=>true | some q=>decide (Np.gE q x.set<0))&&Np.jG a.data.toList (qi l (k+1)) (l.drop (k+1))):=by
        rw[qv.out,<-aZ.out,dV.out,eV,j8.out,Gk HX.out];rfl
       have cV:=jq CB;clear eV hin CB;by_cases cj:k=0
       ·subst cj;refine agY ?_
        repeat (go_big_quiet_step (first
         | (go_at_call 150;exact Calls.grow_of (jx.out _))
         | (go_at_call 222;exact Calls.grow_of (mp.out _))))
        refine wpQuiet_nil ?_;rintro _ ⟨g,rfl⟩;go_wp2_with fail;go_roundw
        case rel=>exact⟨1,by omega,by go_num,aS.out.trans ((fK.out.trans (g.below.afK)).mono aS.out.size),qm,jq (by rw[cV.out];rfl)⟩
        ·simp[intOf]<;>omega
       ·obtain⟨i,rfl⟩:∃ i,k=i+1:=⟨k - 1,by omega⟩;have r9:=aQ (show i<l.length by omega);obtain⟨b',o',c'',sq,dq,sg,pz,BN,_,ku,Rp,BZ,_,f0,f1,f2,f3,_⟩:=dB ((HD.out.keep aP uK.out)) r9
        cases pz
        generalize hy:l[i]=y at *;clear hy;obtain⟨Aq,cq,rfl,hcq,QD⟩:=ak BZ;have Rj:(⟨sq.data.toList,y.set.type,y.set.life,y.set.data⟩:Np.DSet)=y.set:=by rw[ku]
        have RE:Np.al sq.data.toList=true:=by rw[ku];exact (Np.zP (HV.out i y (by omega) r9)).1
        have QY:qi l (i+1)=some y.set:=Gk r9;have vm:=jq QY;have QR:∀ g:bN wa,Calls prog 234 #[.agg #[.string sq,.int .i64 y.set.type,.int .i64 y.set.life,.slice Aq y.set.data.length cq],.agg #[.string sn,.int .i64 x.set.type,.int .i64 x.set.life,.slice Ad x.set.data.length cd]] g.w λe w'=>e = .returned (.int .i64 (Np.gE y.set x.set))/\Below g.w.heap.size g.w w':=λg=>by
         have:=a5K sq sn y.set.type y.set.life x.set.type x.set.life (.slice Aq y.set.data.length cq) (.slice Ad x.set.data.length cd) y.set.data x.set.data RE dV.out g.w
         rw[Rj,DU.out] at this;exact this
        have Nr:=jq QR;clear Rj QY BZ ku r9 QR RE;have ki:(0:Int)<=(i:Int):=by omega
        have l3:(i:Int)<(l.length:Int):=by omega
        have awJ:(0:Int)<(((i+1:Nat)):Int):=by omega
        have am:IntKind.i64.wrap (((i+1:Nat):Int) - 1)=(i:Int):=by rw[IntWalk.i64_in _ (by omega)];omega
        by_cases fW:Np.gE y.set x.set<0
        ·have kM:=jq (uQ fW);have JY:¬ (0<=Np.gE y.set x.set):=by omega
         refine agY ?_
         repeat (go_big_quiet_step (first
          | (go_at_call 150;exact Calls.grow_of (jx.out _))
          | (go_at_call 222;exact Calls.grow_of (mp.out _))
          | (go_at_call 234;exact Calls.grow_of (Nr.out _))))
         refine wpQuiet_nil ?_;rintro _ ⟨g,rfl⟩;go_wp2_with fail;go_roundw
         case rel=>
          refine⟨i+1+1,by omega,by go_num,aS.out.trans ((fK.out.trans (g.below.afK)).mono aS.out.size),qm,jq ?_⟩;rw[cV.out,vm.out];simp only[kM.out,Bool.true_and]
         case measure=>simp[intOf]<;>omega
        ·have kM:=jq (tQ fW);have JY:0<=Np.gE y.set x.set:=by omega
         refine agY ?_
         repeat (go_big_quiet_step (first
          | (go_at_call 150;exact Calls.grow_of (jx.out _))
          | (go_at_call 222;exact Calls.grow_of (mp.out _))
          | (go_at_call 234;exact Calls.grow_of (Nr.out _))))
         refine wpQuiet_nil ?_;rintro _ ⟨g,rfl⟩;go_wp2_with fail;go_ret;refine⟨ag ?_,uK.out.trans (g.below.afK)⟩;rw[HF.out,cV.out,vm.out];simp only[kM.out,Bool.false_and]
    ·go_wp2_with fail;go_ret;refine⟨ag ?_,aF.out.trans (aM.afK)⟩;rw[HF.out,HG.out,List.drop_eq_nil_of_le (by omega)];rfl
theorem a4K(v:Value)(l:List Np.Host)(w:World)(hd:SlR gp 3 w w.heap.size v l) :
 Calls prog 87 #[v] w (ahZ w.heap.size w (.bool (Np.yes (Np.VHosts l)))):=by
 obtain⟨r,hr⟩:=afZ (Np.yes (Np.VHosts l));rw[hr];have HR:=jq hr;have HD:=jq hd;obtain⟨A,c,rfl,bw,bT⟩:=ak hd;clear hr hd;by_cases vL:l.length<=64
 ·have Gt:=jq vL;go_enter func87,ntmps87;go_wp2_with fail;go_loopw [3] (λi wr=>∃ k:Nat,k<=l.length/\i = .int .i64 k/\Hid (Below w.heap.size w wr)/\Hid (∀ j x,j<k->l[j]?=some x->Np.HostOk x)/\Hid (((l.take k).map (·.addr)).Nodup)) (λi _=>l.length - (intOf i).toNat)
  case atStart=>exact⟨0,jQ _,rfl,jq (vQ _ _),jq (λj x hj=>by omega),jq (by simp)⟩
  case round=>
   obtain⟨k,hk,rfl,HB,HA,AC⟩:=hrel;have du:=HB.out.size;by_cases ab:k<l.length
   ·obtain⟨x,ae⟩:∃ x,l[k]?=some x:=⟨_,aQ ab⟩;obtain⟨b,o,sn,rfl,bZ,aD,cu,f0,f1,f2⟩:=zf (HD.out.keep gy HB.out) ae;have ht:l.take (k+1)=l.take k ++ [x]:=by
     obtain⟨hl,he⟩:=cQ.1 ae;rw[fQ hl,he]
    have HT:=jq ht;have HN:Hid (Np.HostOk x->∀ j y,j<k+1->l[j]?=some y->Np.HostOk y):=jq (λh j y hj hy=>by
     by_cases e:j=k
     ·subst e;rw[ae] at hy;cases hy;exact h
     ·exact HA.out j y (by omega) hy)
    have HF:Hid (¬ Np.HostOk x->r=false):=jq (λh=>by rw[<-HR.out];exact Np.aR λq=>h (q.each x (gQ ae)));have rp:Hid (x.addr∈(l.take k).map (·.addr)->r=false):=jq (λh=>by
     rw[<-HR.out];refine Np.aR λq=>?_;have h1:=q.addrs;have h2:(l.take (k+1)).map (·.addr) <+: l.map (·.addr):=by rw[List.map_take];exact List.take_prefix _ _
     have h3:=h1.sublist h2.sublist;rw[ht,List.map_append,List.nodup_append] at h3;exact h3.2.2 x.addr h x.addr (by simp) rfl)
    have aZ:=jq aD;have fK:Hid (∀ o,Below wr.heap.size wr (wr.alloc o)):=jq (λo=>blAl);obtain⟨w2,aj⟩:=afZ (wr.alloc (.cells #[.string sn,.int .i64 x.addr,.int .i64 x.owner] 101));have aa:Below wr.heap.size wr w2:=by rw[<-aj];exact fK.out _
    have p0:w2.cell? ⟨wr.heap.size,0,none⟩=some (.string sn):=by rw[<-aj];simp[go_sem]
    have p1:w2.cell? ⟨wr.heap.size,1,none⟩=some (.int .i64 x.addr):=by rw[<-aj];simp[go_sem]
    have p2:w2.cell? ⟨wr.heap.size,2,none⟩=some (.int .i64 x.owner):=by rw[<-aj];simp[go_sem]
    have aO:wr.heap.size<w2.heap.size:=by rw[<-aj];simp
    have ah:=jq aa;have cj:=kNN k;have ck:(k:Int)<(l.length:Int):=by omega
    clear ae aD ht aa;go_wp2_with fail;clear aj f0 f1 f2;refine (xw sn cu _).mono ?_;rintro e w3 ⟨rfl,ai⟩;have dR:=ai.size;have aw:=aeX ah ai;replace p0:w3.cell? ⟨wr.heap.size,0,none⟩=some (.string sn):=(ai.cell (by simpa using aO)).trans p0;replace p1:w3.cell? ⟨wr.heap.size,1,none⟩=some (.int .i64 x.addr):=(ai.cell (by simpa using aO)).trans p1;replace p2:w3.cell? ⟨wr.heap.size,2,none⟩=some (.int .i64 x.owner):=(ai.cell (by simpa using aO)).trans p2;clear ai
    cases ly:Np.al sn.data.toList with
    | false=>
     have HX:Hid (r=false):=jq (HF.out λh=>by have:=h.name;rw[<-aZ.out,ly] at this;cases this);clear ly;go_wp2_with fail;go_ret;exact⟨ag HX.out.symm,HB.out.trans (aw.out.afK)⟩
    | true=>
     have dV:=jq ly;clear ly;go_wp2_with fail;refine (Tp sn dV.out _).mono ?_;rintro e w4 ⟨rfl,ar⟩;have fz:=ar.size;have bi:=aeX aw ar;replace p1:=aeK ar p1;replace p2:=aeK ar p2;clear ar p0
     cases sM:Np.eH sn.data.toList with
     | true=>
      have HX:Hid (r=false):=jq (HF.out λh=>by have:=h.wild;rw[<-aZ.out,sM] at this;cases this);clear sM;go_wp2_with fail;go_ret;exact⟨ag HX.out.symm,HB.out.trans (bi.out.afK)⟩
     | false=>
      have IC:=jq sM;clear sM;have nr:decide (x.addr<1)=true\/decide (x.addr<1)=false/\(decide (1000000<x.addr)=true\/decide (1000000<x.addr)=false/\(decide (x.owner<0)=true\/decide (x.owner<0)=false/\(decide (31<x.owner)=true\/decide (31<x.owner)=false))):=by
       simp only[Qa,decide_eq_false_iff_not];omega
      rcases nr with d1 | ⟨d1,d2 | ⟨d2,d3 | ⟨d3,d4 | d4⟩⟩⟩
      rotate_right
      ·have bW:Hid (Np.HostOk x):=jq (by
        simp only[decide_eq_false_iff_not] at d1 d2 d3 d4;exact⟨by rw[<-aZ.out];exact dV.out,by rw[<-aZ.out];exact IC.out,by omega,by omega⟩)
       go_wp2_with fail;obtain⟨wo,rfl⟩:=afJ wr;go_loopw [6] (λi wx=>∃ m:Nat,m<=k/\i = .int .i64 m/\Hid (Below w4.heap.size w4 wx)/\Hid (∀ j y,j<m->l[j]?=some y->y.addr≠x.addr)) (λi _=>k - (intOf i).toNat)
       case atStart=>exact⟨0,jQ _,rfl,jq (vQ _ _),jq (λj y hj=>by omega)⟩
       case round=>
        obtain⟨m,hm,rfl,fe,HX⟩:=hrel;have hzx:=fe.out.size;have q1:wr.cell? ⟨wo.heap.size,1,none⟩=some (.int .i64 x.addr):=aeK fe.out p1;have aS:Hid (Below wo.heap.size wo wr):=aeX bi fe.out;by_cases E3:m<k
        ·obtain⟨y,fq⟩:∃ y,l[m]?=some y:=⟨_,aQ (by omega)⟩;obtain⟨b9,o9,sy,Px,_,_,_,_,g1,_⟩:=zf (HD.out.keep gy (HB.out.trans (aS.out.afK))) fq;simp only[Option.some.injEq,Addr.mk.injEq,and_true] at Px;obtain⟨rfl,rfl⟩:=Px;have gY:(0:Int)<=(m:Int):=by omega
         have Cg:(m:Int)<(l.length:Int):=by omega
         have ir:decide ((m:Int)<(k:Int))=true:=by simp;omega
         by_cases he:y.addr=x.addr
         ·have HY:Hid (r=false):=jq (rp.out (List.mem_map.2 ⟨y,List.mem_iff_getElem?.2 ⟨m,by rw[List.getElem?_take,Qb E3];exact fq⟩,he⟩));have ge:(y.addr == x.addr)=true:=by simpa using he
          clear he fq;go_wp2_with fail;go_quiet (fail);go_wp2_with fail;go_ret;exact⟨ag HY.out.symm,below_drewN (HB.out.trans (aS.out.afK)) _⟩
         ·have HY:Hid (∀ j z,j<m+1->l[j]?=some z->z.addr≠x.addr):=jq (λj z hj hz=>by
           by_cases e:j=m
           ·subst e;rw[fq] at hz;cases hz;exact he
           ·exact HX.out j z (by omega) hz)
          have ge:(y.addr == x.addr)=false:=by simpa using he
          clear he fq;go_wp2_with fail;go_quiet (fail);go_wp2_with fail;go_roundw
          case rel=>exact⟨m+1,by omega,by go_num,jq (below_drewN fe.out _),HY⟩
          ·simp[intOf]<;>omega
        ·have ir:decide ((m:Int)<(k:Int))=false:=by simp;omega
         have Hz:Hid (((l.take (k+1)).map (·.addr)).Nodup):=jq (by
          rw[HT.out,List.map_append,List.nodup_append];refine⟨AC.out,by simp,λy hy z hz e=>?_⟩;simp at hz;obtain⟨u,hu,zk⟩:=List.mem_map.1 hy;obtain⟨j,hj,rfl⟩:=nQ.1 hu;rw[List.length_take] at hj;rw[List.getElem_take] at zk;exact HX.out j _ (by omega) (aQ (by omega)) (by rw[zk,e,hz]))
         go_wp2_with fail;go_roundw
         case rel=>exact⟨k+1,by omega,by go_num,aeX HB aS.out,jq (HN.out bW.out),Hz⟩
         ·simp[intOf]<;>omega
      all_goals
       have HX:Hid (r=false):=jq (HF.out λh=>by
        have h1:=h.addr;have h2:=h.owner;simp only[Qa,decide_eq_false_iff_not] at *;omega)
       go_wp2_with fail;go_ret;exact⟨ag HX.out.symm,HB.out.trans (bi.out.afK)⟩
   ·go_wp2_with fail;go_ret;refine⟨ag ?_,HB.out⟩;rw[<-HR.out];refine (Np.bV ⟨Gt.out,λx hx=>?_,?_⟩).symm
    ·obtain⟨j,hj,rfl⟩:=nQ.1 hx;exact HA.out j _ (by omega) (aQ hj)
    ·have:=AC.out
     rwa [kQ (by omega)] at this
 ·have HX:Hid (r=false):=jq (by rw[<-HR.out];exact Np.aR λq=>vL q.few);have afQ:64<l.length:=by omega
  clear vL;go_enter func87,ntmps87;go_wp2_with fail;go_ret;exact⟨ag HX.out.symm,vQ _ _⟩
theorem Gb{α:Type}{R:aiQ α}{sz n c:Nat}{w:World}{B:Nat}{xs:List α}(h:SlR R sz w B (.slice none n c) xs):n=0/\xs = []:=by
 obtain⟨A',c',hA',_,_,bL⟩:=h;simp only[Value.slice.injEq] at hA';obtain⟨rfl,rfl,rfl⟩:=hA'
 cases xs with
 | nil=>exact⟨rfl,rfl⟩
 | cons x xs=>
  obtain⟨b,o,e,hA,_⟩:=bL 0 x rfl
  cases hA
theorem Tryz.infoCloneDatum:(prog.info? 128).map (λi=>(i.zero,i.size,i.bytes))=some (some (.agg #[.string ⟨#[]⟩,.int .i64 0,.int .i64 0]),3,32):=by kernel_rfl
theorem IU(v:Value)(xs:List Np.Datum)(hl:xs.length<=1000000)(w:World)(h:SlR ci 3 w w.heap.size v xs) :
 Calls prog 68 #[v] w λe w'=>∃ v',e = .returned v'/\bD ci 3 128 w.heap.size w.heap.size w' v' xs/\Below w.heap.size w w':=by
 have HD:=jq h;obtain⟨A,c,rfl,bw,bT⟩:=ak h;clear h;have heq:=run_eql_slice_nil (P:=prog) w 24 128 A xs.length c underlying24;have bA:Hid (Below w.heap.size w (w.alloc (.cells #[] 128))):=jq (blAl);obtain⟨i0,hi,dP,bF,aO⟩:=info_parts Tryz.infoCloneDatum
 cases A with
 | none=>
  obtain⟨hn,rfl⟩:=Gb HD.out;rw[List.length_nil] at heq |-;simp only[Option.isNone_none] at heq;go_enter func68,ntmps68;go_wp2_with fail;go_ret;exact⟨_,rfl,bD.nil _,vQ _ _⟩
 | some ad=>
  go_enter func68,ntmps68;go_wp2_with (at_builtin;refine De (R:=ci) (sz:=3) _ rfl _ _ 24 rfl w.heap.size w.heap.size 128 i0 (.agg #[.string ⟨#[]⟩,.int .i64 0,.int .i64 0]) 32 underlying24 hi dP bF aO rfl (by decide) _ [] rfl (bD.empty w (bQ _)) (some ad) c w.heap.size xs rfl (HD.out.keep cJ bA.out) (λr y h=>by (obtain⟨s,_,_,rfl⟩:=h;intro u hu;simp at hu;try rcases hu with rfl | rfl | rfl | rfl | rfl | rfl<;>rfl)) (by simp[maxLen];omega) (by simp;omega) (by simp) (bQ _) (bQ _) cJ di ?_;intro v3 w3 km ai qQ;have H3:=jq (And.intro km (bA.out.trans ai));clear km ai qQ);go_ret;exact⟨_,rfl,H3.out.1,H3.out.2⟩
theorem Tryz.infoCloneSig:(prog.info? 50).map (λi=>(i.zero,i.size,i.bytes))=some (some (.agg #[.string ⟨#[]⟩,.int .i64 0,.int .i64 0,.int .i64 0,.int .i64 0,.int .u64 0]),6,56):=by kernel_rfl
theorem OO(v:Value)(xs:List Np.Sig)(hl:xs.length<=1000000)(w:World)(h:SlR fi 6 w w.heap.size v xs) :
 Calls prog 142 #[v] w λe w'=>∃ v',e = .returned v'/\bD fi 6 50 w.heap.size w.heap.size w' v' xs/\Below w.heap.size w w':=by
 have HD:=jq h;obtain⟨A,c,rfl,bw,bT⟩:=ak h;clear h;have heq:=run_eql_slice_nil (P:=prog) w 40 50 A xs.length c underlying40;have bA:Hid (Below w.heap.size w (w.alloc (.cells #[] 50))):=jq (blAl);obtain⟨i0,hi,dP,bF,aO⟩:=info_parts Tryz.infoCloneSig
 cases A with
 | none=>
  obtain⟨hn,rfl⟩:=Gb HD.out;rw[List.length_nil] at heq |-;simp only[Option.isNone_none] at heq;go_enter func142,ntmps142;go_wp2_with fail;go_ret;exact⟨_,rfl,bD.nil _,vQ _ _⟩
 | some ad=>
  go_enter func142,ntmps142;go_wp2_with (at_builtin;refine De (R:=fi) (sz:=6) _ rfl _ _ 40 rfl w.heap.size w.heap.size 50 i0 (.agg #[.string ⟨#[]⟩,.int .i64 0,.int .i64 0,.int .i64 0,.int .i64 0,.int .u64 0]) 56 underlying40 hi dP bF aO rfl (by decide) _ [] rfl (bD.empty w (bQ _)) (some ad) c w.heap.size xs rfl (HD.out.keep eL bA.out) (λr y h=>by (obtain⟨s,_,_,rfl⟩:=h;intro u hu;simp at hu;try rcases hu with rfl | rfl | rfl | rfl | rfl | rfl<;>rfl)) (by simp[maxLen];omega) (by simp;omega) (by simp) (bQ _) (bQ _) eL fJ ?_;intro v3 w3 km ai qQ;have H3:=jq (And.intro km (bA.out.trans ai));clear km ai qQ);go_ret;exact⟨_,rfl,H3.out.1,H3.out.2⟩
theorem Tryz.infoCloneHost:(prog.info? 101).map (λi=>(i.zero,i.size,i.bytes))=some (some (.agg #[.string ⟨#[]⟩,.int .i64 0,.int .i64 0]),3,32):=by kernel_rfl
theorem YV(v:Value)(xs:List Np.Host)(hl:xs.length<=1000000)(w:World)(h:SlR gp 3 w w.heap.size v xs) :
 Calls prog 66 #[v] w λe w'=>∃ v',e = .returned v'/\bD gp 3 101 w.heap.size w.heap.size w' v' xs/\Below w.heap.size w w':=by
 have HD:=jq h;obtain⟨A,c,rfl,bw,bT⟩:=ak h;clear h;have heq:=run_eql_slice_nil (P:=prog) w 22 101 A xs.length c underlying22;have bA:Hid (Below w.heap.size w (w.alloc (.cells #[] 101))):=jq (blAl);obtain⟨i0,hi,dP,bF,aO⟩:=info_parts Tryz.infoCloneHost
 cases A with
 | none=>
  obtain⟨hn,rfl⟩:=Gb HD.out;rw[List.length_nil] at heq |-;simp only[Option.isNone_none] at heq;go_enter func66,ntmps66;go_wp2_with fail;go_ret;exact⟨_,rfl,bD.nil _,vQ _ _⟩
 | some ad=>
  go_enter func66,ntmps66;go_wp2_with (at_builtin;refine De (R:=gp) (sz:=3) _ rfl _ _ 22 rfl w.heap.size w.heap.size 101 i0 (.agg #[.string ⟨#[]⟩,.int .i64 0,.int .i64 0]) 32 underlying22 hi dP bF aO rfl (by decide) _ [] rfl (bD.empty w (bQ _)) (some ad) c w.heap.size xs rfl (HD.out.keep gy bA.out) (λr y h=>by (obtain⟨s,_,_,rfl⟩:=h;intro u hu;simp at hu;try rcases hu with rfl | rfl | rfl | rfl | rfl | rfl<;>rfl)) (by simp[maxLen];omega) (by simp;omega) (by simp) (bQ _) (bQ _) gy mN ?_;intro v3 w3 km ai qQ;have H3:=jq (And.intro km (bA.out.trans ai));clear km ai qQ);go_ret;exact⟨_,rfl,H3.out.1,H3.out.2⟩
theorem Tryz.infoCloneInt:(prog.info? 3).map (λi=>(i.zero,i.size,i.bytes))=some (some (.int .i64 0),1,8):=by kernel_rfl
theorem YX(v:Value)(xs:List Int)(hl:xs.length<=1000000)(w:World)(h:SlR ei 1 w w.heap.size v xs) :
 Calls prog 67 #[v] w λe w'=>∃ v',e = .returned v'/\bD ei 1 3 w.heap.size w.heap.size w' v' xs/\Below w.heap.size w w':=by
 have HD:=jq h;obtain⟨A,c,rfl,bw,bT⟩:=ak h;clear h;have heq:=run_eql_slice_nil (P:=prog) w 27 3 A xs.length c underlying27;have bA:Hid (Below w.heap.size w (w.alloc (.cells #[] 3))):=jq (blAl);obtain⟨i0,hi,dP,bF,aO⟩:=info_parts Tryz.infoCloneInt
 cases A with
 | none=>
  obtain⟨hn,rfl⟩:=Gb HD.out;rw[List.length_nil] at heq |-;simp only[Option.isNone_none] at heq;go_enter func67,ntmps67;go_wp2_with fail;go_ret;exact⟨_,rfl,bD.nil _,vQ _ _⟩
 | some ad=>
  go_enter func67,ntmps67;go_wp2_with (at_builtin;refine De (R:=ei) (sz:=1) _ rfl _ _ 27 rfl w.heap.size w.heap.size 3 i0 (.int .i64 0) 8 underlying27 hi dP bF aO rfl (by decide) _ [] rfl (bD.empty w (bQ _)) (some ad) c w.heap.size xs rfl (HD.out.keep kE bA.out) (λr y h=>by (obtain rfl:=h;intro u hu;simp at hu;try rcases hu with rfl | rfl | rfl | rfl | rfl | rfl<;>rfl)) (by simp[maxLen];omega) (by simp;omega) (by simp) (bQ _) (bQ _) kE qa ?_;intro v3 w3 km ai qQ;have H3:=jq (And.intro km (bA.out.trans ai));clear km ai qQ);go_ret;exact⟨_,rfl,H3.out.1,H3.out.2⟩
theorem bnX(n:ByteArray)(hn:n.size<=140737488355328)(ty:Int)(w:World) :
 Calls prog 111 #[.agg #[.string n,.int .i64 ty]] w λe w'=>e = .returned (.bool (Np.al n.data.toList&&(decide (1<=ty)&&decide (ty<=8))))/\Below w.heap.size w w':=by
 obtain⟨X,hX⟩:=afZ w.heap.size;obtain⟨w1,am⟩:=afZ (w.alloc (.cells #[.string n,.int .i64 ty] 31));have hb:Below w.heap.size w w1:=by rw[<-am];exact blAl
 have bF:w1.heap.size=X+1:=by rw[<-am,<-hX];simp
 have aF:=jq hb;have k0:w1.cell? ⟨X,0,none⟩=some (.string n):=by rw[<-am,<-hX];simp[go_sem]
 have k1:w1.cell? ⟨X,1,none⟩=some (.int .i64 ty):=by rw[<-am,<-hX];simp[go_sem]
 clear hb;go_enter func111,ntmps111;go_wp2_with fail
 try clear am
 refine (nameValid_any n hn w1).mono ?_;rintro e w2 ⟨rfl,hb⟩;replace k1:=aeK hb k1;have ah:=aeX aF hb;clear hb k0;obtain⟨r,hr⟩:=afZ (Np.al n.data.toList);have HR:=jq hr;rw[hr];clear hr
 cases r with
 | false=>
  go_wp2_with fail;exact bodyPost_ret (v:=.bool false) (by simp[results,results111,go_sem]) rfl ⟨by rw[HR.out];rfl,ah.out⟩
 | true=>
  by_cases h1:1<=ty
  ·have Jh:decide (1<=ty)=true:=uQ h1;go_wp2_with fail;exact bodyPost_ret (v:=.bool (decide (ty<=8))) (by simp[results,results111,go_sem]) rfl ⟨by rw[HR.out,Jh];rfl,ah.out⟩
  ·have Jh:decide (1<=ty)=false:=tQ h1;go_wp2_with fail;exact bodyPost_ret (v:=.bool false) (by simp[results,results111,go_sem]) rfl ⟨by rw[HR.out,Jh];rfl,ah.out⟩
theorem buZ(s z:ByteArray)(hs:s.size<=140737488355328)(hz:z.size<=140737488355328)(v1:Np.al s.data.toList=true)(v2:Np.al z.data.toList=true)(w:World) :
 Calls prog 115 #[.string s,.string z] w (ahZ w.heap.size w (.bool (Np.aX s.data.toList z.data.toList))):=by
 go_enter func115,ntmps115;go_wp2_with fail;refine (zN s z hs hz w v1 v2).mono ?_;rintro e w2 ⟨rfl,hb⟩;have HB:=jq hb;clear hb;go_wp2_with fail;exact bodyPost_ret (v:=.bool (Np.aX s.data.toList z.data.toList)) (by simp[results,results115,go_sem]) rfl ⟨rfl,HB.out⟩
theorem St(s z:ByteArray)(hs:s.size<=140737488355328)(hz:z.size<=140737488355328)(v1:Np.al s.data.toList=true)(v2:Np.al z.data.toList=true)(w:World) :
 Calls prog 264 #[.string s,.string z] w (ahZ w.heap.size w (.bool (Np.aX s.data.toList z.data.toList))):=by
 go_enter func264,ntmps264;go_wp2_with fail;refine (zN s z hs hz w v1 v2).mono ?_;rintro e w2 ⟨rfl,hb⟩;have HB:=jq hb;clear hb;go_wp2_with fail;exact bodyPost_ret (v:=.bool (Np.aX s.data.toList z.data.toList)) (by simp[results,results264,go_sem]) rfl ⟨rfl,HB.out⟩
theorem Sq(a b:ByteArray)(ha:a.size<=140737488355328)(hb':b.size<=140737488355328)(v1:Np.al a.data.toList=true)(v2:Np.al b.data.toList=true)(w:World) :
 Calls prog 332 #[.string a,.string b] w (ahZ w.heap.size w (.int .i64 (Np.aL a.data.toList b.data.toList))):=by
 go_enter func332,ntmps332;go_wp2_with fail;refine (compare_any a b ha hb' w).mono ?_;rintro e w2 ⟨rfl,hb⟩;have hcv:cmpVal a.data.toList b.data.toList = .tuple #[.int .i64 (Np.aL a.data.toList b.data.toList),.int .i64 0]:=by unfold cmpVal;rw[v1,v2];rfl
 rw[hcv];clear hcv;have HB:=jq hb;clear hb;go_wp2_with fail;exact bodyPost_ret (v:=.int .i64 (Np.aL a.data.toList b.data.toList)) (by simp[results,results332,go_sem]) rfl ⟨rfl,HB.out⟩
theorem SN(n:ByteArray)(ty:Int):pJ (n.data.toList,ty) = .agg #[.string n,.int .i64 ty]:=by
 unfold pJ aI;simp
def SX(kvs:List ((List UInt8×Int)×Value))(l:Option Int)(p:List UInt8×Int):Prop:=kvs.lookup p=l.map (Value.int .i64)
theorem Lc(V r:Nat)(kvs:List ((List UInt8×Int)×Value))(n:ByteArray)(ty:Int)(l:Option Int)(w:World)(hV:V<w.heap.size)(hc:w.cell? ⟨V,2,none⟩=some (.map (some r)))(hm:iH r kvs w)(hl:SX kvs l (n.data.toList,ty)) :
 Calls prog 263 #[.pointer (some ⟨V,0,none⟩),.string n,.int .i64 ty] w (ahZ w.heap.size w (.int .i64 (l.getD (-1)))):=by
 have hz:(zeroValue 3).run prog w = .ok (.int .i64 0) w:=zeroValue3 w;have gh:=a9K w 255 3 underlying255 r kvs hm (n.data.toList,ty) (.int .i64 0) hz;rw[SN,show kvs.lookup (n.data.toList,ty)=l.map (Value.int .i64) from hl] at gh;have HL:=jq hl;clear hl hz hm
 cases l with
 | none=>
  simp only[Option.map_none,Option.getD_none,Option.isSome_none] at gh;go_enter func263,ntmps263;go_wp2_with fail;exact bodyPost_ret (v:=.int .i64 (-1)) (by simp[results,results263,go_sem]) rfl ⟨rfl,vQ _ _⟩
 | some i=>
  simp only[Option.map_some,Option.getD_some,Option.isSome_some] at gh;go_enter func263,ntmps263;go_wp2_with fail;exact bodyPost_ret (v:=.int .i64 i) (by simp[results,results263,go_sem]) rfl ⟨rfl,vQ _ _⟩
theorem TW(V r:Nat)(kvs:List ((List UInt8×Int)×Value))(n:ByteArray)(l:Option Int)(w:World)(hV:V<w.heap.size)(h0:w.cell? ⟨V,0,none⟩=some (.string n))(hc:w.cell? ⟨V,2,none⟩=some (.map (some r)))(hm:iH r kvs w)(hl:SX kvs l (n.data.toList,4)) :
 Calls prog 267 #[.pointer (some ⟨V,0,none⟩)] w (ahZ w.heap.size w (.int .i64 (l.getD (-1)))):=by
 have HC:=jq (Lc V r kvs n 4 l w hV hc hm hl);clear hc hm hl;go_enter func267,ntmps267;go_wp2_with fail;refine HC.out.mono ?_;rintro e w2 ⟨rfl,hb⟩;have HB:=jq hb;clear hb;go_wp2_with fail;exact bodyPost_ret (v:=.int .i64 (l.getD (-1))) (by simp[results,results267,go_sem]) rfl ⟨rfl,HB.out⟩
end
section
open Go.RowKit Go.Shelf
attribute [local go_sem] Oper.semAt_some
theorem bcK(g:Nat)(cb:Array Value)(n:Nat)(hn:n<=1000000)(w:World)(eg:∀ args w,(callFunc g args).run prog w = .ok (.enter g args) w)
 (hf:∀ (i:Nat) (w':World),i<n->Below w.heap.size w w'->Calls prog g (#[.int .i64 i]++cb) w' λe w''=>∃ b,e = .returned (.bool b)/\Below w'.heap.size w' w'') :
 Calls prog 330 #[.int .i64 n,.func (.func g) #[] cb] w λe w'=>∃ i:Nat,i<=n/\e = .returned (.int .i64 i)/\Below w.heap.size w w':=by
 have HF:=jq hf;clear hf;go_enter func330,ntmps330;go_wp2_with fail;go_loopw [5,6] (λvi vj wr=>∃ i j:Nat,i<=j/\j<=n/\vi = .int .i64 i/\vj = .int .i64 j/\Hid (Below w.heap.size w wr)) (λvi vj _=>(intOf vj - intOf vi).toNat)
 case atStart=>exact⟨0,n,by omega,by omega,rfl,rfl,jq (vQ _ _)⟩
 case round=>
  obtain⟨i,j,de,hj,rfl,rfl,HB⟩:=hrel;by_cases ab:i<j
  ·have h1:(i:Int)<(j:Int):=by omega
   clear ab;go_wp2_with fail;obtain⟨h,hh⟩:∃ h:Nat,((i:Int)+(j:Int)) / 2=(h:Int):=⟨(i+j) / 2,by omega⟩;simp only[hh];have hi:i<=h:=by omega
   have pN:h<j:=by omega
   clear hh;refine (HF.out h wr (by omega) HB.out).mono ?_;rintro e w2 ⟨b,rfl,aa⟩;have ah:=jq (HB.out.trans (aa.mono HB.out.size));clear aa;have h9:(h:Int)<=1000000:=by omega
   cases b with
   | true=>
    go_wp2_with fail;go_roundw
    case rel=>exact⟨i,h,by omega,by omega,rfl,rfl,ah⟩
    case measure=>simp[intOf];omega
   | false=>
    go_wp2_with fail;go_roundw
    case rel=>exact⟨h+1,j,by omega,by omega,by go_num,rfl,ah⟩
    case measure=>simp[intOf];omega
  ·have h1:¬ (i:Int)<(j:Int):=by omega
   clear ab;go_wp2_with fail;go_ret;exact⟨i,by omega,rfl,HB.out⟩
def Np.kG(p:Nat->Bool)(i j:Nat):Nat:=if h:i<j then (if p ((i+j) / 2)=true then Np.kG p i ((i+j) / 2) else Np.kG p ((i+j) / 2+1) j) else i
termination_by j - i
decreasing_by all_goals omega
theorem Np.Lw(p:Nat->Bool){i j:Nat}(h:i<j):Np.kG p i j=if p ((i+j) / 2)=true then Np.kG p i ((i+j) / 2) else Np.kG p ((i+j) / 2+1) j:=by rw[Np.kG,dif_pos h]
theorem Np.Lv(p:Nat->Bool){i j:Nat}(h:j<=i):Np.kG p i j=i:=by rw[Np.kG,dif_neg (by omega)]
theorem Np.Gf(p:Nat->Bool):∀ (k i j:Nat),j - i<=k->i<=j->Np.kG p i j<=j
 | 0,i,j,h,de=>by rw[Np.Lv p (by omega)];omega
 | k+1,i,j,h,de=>by
   by_cases ab:i<j
   ·rw[Np.Lw p ab];split
    ·have:=Np.Gf p k i ((i+j) / 2) (by omega) (by omega);omega
    ·exact Np.Gf p k ((i+j) / 2+1) j (by omega) (by omega)
   ·rw[Np.Lv p (by omega)];omega
theorem bcJ(p:Nat->Bool)(g:Nat)(cb:Array Value)(n:Nat)(hn:n<=1000000)(w:World)(eg:∀ args w,(callFunc g args).run prog w = .ok (.enter g args) w)
 (hf:∀ (i:Nat) (w':World),i<n->Below w.heap.size w w'->Calls prog g (#[.int .i64 i]++cb) w' λe w''=>e = .returned (.bool (p i))/\Below w'.heap.size w' w'') :
 Calls prog 330 #[.int .i64 n,.func (.func g) #[] cb] w (ahZ w.heap.size w (.int .i64 (Np.kG p 0 n:Nat))):=by
 have HF:=jq hf;clear hf;go_enter func330,ntmps330;go_wp2_with fail;go_loopw [5,6] (λvi vj wr=>∃ i j:Nat,i<=j/\j<=n/\Hid (Np.kG p i j=Np.kG p 0 n)/\vi = .int .i64 i/\vj = .int .i64 j/\Hid (Below w.heap.size w wr)) (λvi vj _=>(intOf vj - intOf vi).toNat)
 case atStart=>exact⟨0,n,by omega,by omega,jq rfl,rfl,rfl,jq (vQ _ _)⟩
 case round=>
  obtain⟨i,j,de,hj,HS,rfl,rfl,HB⟩:=hrel;by_cases ab:i<j
  ·have h1:(i:Int)<(j:Int):=by omega
   clear ab;go_wp2_with fail;obtain⟨h,hh,Qp⟩:∃ h:Nat,((i:Int)+(j:Int)) / 2=(h:Int)/\(i+j) / 2=h:=⟨(i+j) / 2,by omega,rfl⟩;simp only[hh];have HH:=jq Qp;clear Qp;have hi:i<=h:=by omega
   have pN:h<j:=by omega
   clear hh;refine (HF.out h wr (by omega) HB.out).mono ?_;obtain⟨b,Ku⟩:=afZ (p h);rw[Ku];have AG:=jq Ku;clear Ku;rintro e w2 ⟨rfl,aa⟩;have ah:=jq (HB.out.trans (aa.mono HB.out.size));clear aa;have h9:(h:Int)<=1000000:=by omega
   cases b with
   | true=>
    go_wp2_with fail;go_roundw
    case rel=>exact⟨i,h,by omega,by omega,jq (by rw[<-HS.out,Np.Lw p (show i<j by omega),HH.out,AG.out];rfl),rfl,rfl,ah⟩
    case measure=>simp[intOf];omega
   | false=>
    go_wp2_with fail;go_roundw
    case rel=>exact⟨h+1,j,by omega,by omega,jq (by rw[<-HS.out,Np.Lw p (show i<j by omega),HH.out,AG.out];rfl),by go_num,rfl,ah⟩
    case measure=>simp[intOf];omega
  ·have h1:¬ (i:Int)<(j:Int):=by omega
   clear ab;go_wp2_with fail;go_ret;exact⟨by rw[<-HS.out,Np.Lv p (show j<=i by omega)];rfl,HB.out⟩
end
namespace D
open Go.RowKit
theorem O8(t:ByteArray)(hv:Np.al t.data.toList=true)(w:World) :
 Calls prog 118 #[.string t] w λe w'=>e = .returned (.int .i64 ((Np.bO t.data.toList).length:Int))/\Below w.heap.size w w':=by
 go_enter func118,ntmps118;go_wp2_with fail;refine (labels_any t hv w).mono ?_;rintro e w2 ⟨⟨v,rfl,hs⟩,hb⟩;obtain⟨A,c,rfl,_,_⟩:=ak hs;clear hs;have HB:=jq hb;clear hb;go_wp2_with fail;exact bodyPost_ret (v:=.int .i64 ((Np.bO t.data.toList).length:Int)) (by simp[results,results118,go_sem]) rfl ⟨rfl,HB.out⟩
theorem ask3_any(s z:ByteArray)(A A':Option Addr)(n c n' c':Nat)(v1:Np.al s.data.toList=true)(v2:Np.al z.data.toList=true)(l1:(Np.bO s.data.toList).length<=1000)(l2:(Np.bO z.data.toList).length<=1000)(w:World) :
 Calls prog 117 #[.agg #[.string s,.slice A n c],.agg #[.string z,.slice A' n' c']] w λe w'=>e = .returned (.int .i64 (((Np.bO z.data.toList).length:Int) - ((Np.bO s.data.toList).length:Int)))/\Below w.heap.size w w':=by
 obtain⟨W1,aB⟩:=afZ ((w.alloc (.cells #[.string s,.slice A n c] 44)).alloc (.cells #[.string z,.slice A' n' c'] 44));have av:Below w.heap.size w W1:=by rw[<-aB];exact ((vQ _ _).alloc (bQ _) _).alloc (by simp) _
 have bF:W1.heap.size=w.heap.size+2:=by rw[<-aB];simp
 have k0:W1.cell? ⟨w.heap.size,0,none⟩=some (.string s):=by rw[<-aB];simp[go_sem]
 have k1:W1.cell? ⟨w.heap.size+1,0,none⟩=some (.string z):=by rw[<-aB];simp[go_sem]
 have HB:=jq av;obtain⟨a,ha⟩:=afZ ((Np.bO s.data.toList).length);obtain⟨b,hb⟩:=afZ ((Np.bO z.data.toList).length);have GL:Hid (∀ g:bN W1,Calls prog 118 #[.string s] g.w λe w'=>e = .returned (.int .i64 (a:Int))/\Below g.w.heap.size g.w w'):=jq (λg=>by
  have:=O8 s v1 g.w
  rwa [ha] at this)
 have GN:Hid (∀ g:bN W1,Calls prog 118 #[.string z] g.w λe w'=>e = .returned (.int .i64 (b:Int))/\Below g.w.heap.size g.w w'):=jq (λg=>by
  have:=O8 z v2 g.w
  rwa [hb] at this)
 rw[ha] at l1;rw[hb] at l2;rw[ha,hb];have nv:∀ (g:bN W1) (p:Addr),p.block<W1.heap.size->g.w.cell? p=W1.cell? p:=λg p h=>g.cell p h;have eG:w.heap.size<W1.heap.size:=by omega
 have dO:w.heap.size+1<W1.heap.size:=by omega
 have gw:IntKind.i64.wrap ((b:Int) - (a:Int))=(b:Int) - (a:Int):=IntWalk.i64_in _ (by omega);clear av ha hb bF;go_enter func117,ntmps117;go_wp2_with fail;refine eM (by kernel_rfl) (by kernel_rfl) ?_
 repeat (go_big_quiet_step (fail))
 go_big_quiet_step ((go_at_call 118;exact Calls.grow_of (GN.out _)))
 repeat (go_big_quiet_step (fail))
 go_big_quiet_step ((go_at_call 118;exact Calls.grow_of (GL.out _)))
 repeat (go_big_quiet_step (fail))
 refine wpQuiet_nil ?_;rintro _ ⟨g,rfl⟩;have HE:=jq (HB.out.trans (g.below.mono HB.out.size));go_wp2_with fail;exact bodyPost_ret (v:=.int .i64 ((b:Int) - (a:Int))) (by simp[results,results117,go_sem]) rfl ⟨rfl,HE.out⟩
end D
section
open Go.RowKit
theorem Yt(s:ByteArray)(a o:Int)(ba:Nat)(addr:Int)(w:World)(hb:ba<w.heap.size)(ht:w.cell? ⟨ba,0,none⟩=some (.int .i64 addr)) :
 Calls prog 112 #[.agg #[.string s,.int .i64 a,.int .i64 o],.pointer (some ⟨ba,0,none⟩)] w (ahZ w.heap.size w (.bool (decide (a=addr)))):=by
 obtain⟨W1,aB⟩:=afZ (w.alloc (.cells #[.string s,.int .i64 a,.int .i64 o] 101));have av:Below w.heap.size w W1:=by rw[<-aB];exact blAl
 have k1:W1.cell? ⟨w.heap.size,1,none⟩=some (.int .i64 a):=by rw[<-aB];simp[go_sem]
 have kt:=(av.cell (p:=⟨ba,0,none⟩) hb).trans ht;have HB:=jq av;obtain⟨q,hq⟩:=afZ (a == addr);have HQ:Hid (decide (a=addr)=q):=jq (by rw[<-hq];by_cases h:a=addr<;>simp[h]);clear av;rw[HQ.out];go_enter func112,ntmps112;go_wp2_with fail;go_ret;exact⟨rfl,HB.out⟩
theorem Yu(h:Int)(s z:ByteArray)(A:Option Addr)(n c:Nat)(bh bq:Nat)(kk:Int)(hs:s.size<=140737488355328)(hz:z.size<=140737488355328)(v1:Np.al z.data.toList=true)(v2:Np.al s.data.toList=true)(w:World)(mx:bh<w.heap.size)(hbq:bq<w.heap.size)(KL:w.cell? ⟨bh,0,none⟩=some (.int .i64 kk))(CG:w.cell? ⟨bq,0,none⟩=some (.string z)) :
 Calls prog 114 #[.agg #[.int .i64 h,.string s,.slice A n c],.pointer (some ⟨bh,0,none⟩),.pointer (some ⟨bq,0,none⟩)] w (ahZ w.heap.size w (.bool (decide (h=kk)&&Np.aX z.data.toList s.data.toList))):=by
 obtain⟨W1,aB⟩:=afZ (w.alloc (.cells #[.int .i64 h,.string s,.slice A n c] 72));have av:Below w.heap.size w W1:=by rw[<-aB];exact blAl
 have k0:W1.cell? ⟨w.heap.size,0,none⟩=some (.int .i64 h):=by rw[<-aB];simp[go_sem]
 have k1:W1.cell? ⟨w.heap.size,1,none⟩=some (.string s):=by rw[<-aB];simp[go_sem]
 have kh:=(av.cell (p:=⟨bh,0,none⟩) mx).trans KL;have kq:=(av.cell (p:=⟨bq,0,none⟩) hbq).trans CG;have HB:=jq av;clear av;by_cases hh:h=kk
 ·have hhb:(h == kk)=true:=by simp[hh]
  rw[uQ hh,Bool.true_and];clear hh;go_enter func114,ntmps114;go_wp2_with fail;refine (buZ z s hz hs v1 v2 W1).mono ?_;rintro e w2 ⟨rfl,hb⟩;have HE:=jq (HB.out.trans (hb.mono HB.out.size));clear hb;go_wp2_with fail;exact bodyPost_ret (v:=.bool (Np.aX z.data.toList s.data.toList)) (by simp[results,results114,go_sem]) rfl ⟨rfl,HE.out⟩
 ·have hhb:(h == kk)=false:=by simp[hh]
  rw[tQ hh,Bool.false_and];clear hh;go_enter func114,ntmps114;go_wp2_with fail;exact bodyPost_ret (v:=.bool false) (by simp[results,results114,go_sem]) rfl ⟨rfl,HB.out⟩
end
end Go.Proofs.YtfnopgdcaanaiaaGreatDoor
