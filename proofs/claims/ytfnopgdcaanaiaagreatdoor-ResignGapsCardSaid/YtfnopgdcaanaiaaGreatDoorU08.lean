/- Parts of the proof. No condition. -/
import Derived.Deep.DeepCutAuto
import Derived.Test.YtfnopgdcaanaiaaGreatDoorU02
import Derived.Test.YtfnopgdcaanaiaaGreatDoorU04
import Derived.Test.YtfnopgdcaanaiaaGreatDoorU05
set_option linter.all false
set_option maxRecDepth 100000
set_option maxHeartbeats 8000000
namespace Go.Proofs.YtfnopgdcaanaiaaGreatDoor
open Go.Proofs.Tryz
section
open Go.RowKit
theorem C3(x:List UInt8)(hx:x.length<=140737488355328)(w:World):Calls prog 104 #[ay x] w (aeY w (.bool (Np.bP x))):=by
 have:=X9 ⟨x.toArray⟩ (by rw[<-aX];simpa using hx) w
 simpa using this
def CS(l:List (List UInt8))(j:Nat):Prop:=∃ x,l[j]?=some x/\(Np.bP x=true\/(j=0/\x = [42]))
theorem V7{l:List (List UInt8)}(h:∀ j,j<l.length->CS l j):Np.rR l=true:=by
 cases l with
 | nil=>rfl
 | cons a t=>
  unfold Np.rR;rw[Bool.and_eq_true];constructor
  ·obtain⟨x,hx,ho⟩:=h 0 (by simp);simp at hx;subst hx;rcases ho with ho | ⟨_,ho⟩ <;> simp[ho]
  ·rw[List.all_eq_true];intro y hy;obtain⟨j,hj,rfl⟩:=nQ.1 hy;obtain⟨x,hx,ho⟩:=h (j+1) (by simpa using hj);simp only[List.getElem?_cons_succ,aQ hj,Option.some.injEq] at hx;rcases ho with ho | ⟨h0,_⟩
   ·rw[hx];exact ho
   ·omega
theorem MB{l:List (List UInt8)}{j:Nat}{x:List UInt8}(hx:l[j]?=some x)(h1:Np.bP x=false)(h2:j=0->x≠[42]):Np.rR l=false:=by
 cases l with
 | nil=>simp at hx
 | cons a t=>
  unfold Np.rR
  cases j with
  | zero=>simp at hx;subst hx;simp[h1,h2 rfl]
  | succ j=>
   have:t.all Np.bP=false:=by
    rw[List.all_eq_false];exact⟨x,gQ (by simpa using hx),by simp[h1]⟩
   show ((Np.bP a||a == [42])&&t.all Np.bP)=false;rw[this,Bool.and_false]
theorem Hc:∀ l:List UInt8,(Np.aT l).length<=l.length+1:=by
 intro l
 induction l with
 | nil=>simp[Np.aT]
 | cons c r ih=>
  rw[Np.aT];split
  ·simp;omega
  ·split
   ·rename_i x xs hx;rw[hx] at ih;simp at ih |-;omega
   ·simp
theorem vS(s:ByteArray)(hs:s.size<=140737488355328)(w:World) :
 Calls prog 50 #[.string s] w (aeJ w.heap.size w (.bool (Np.aD s.data.toList))):=by
 rw[Np.Oy];by_cases h:s.data.toList = [46]
 ·have he:(s.toList == [46])=true:=by rw[dQ,h];rfl
  rw[Qb h];clear h;go_enter func50,ntmps50;go_wp2_with fail;go_ret;exact⟨rfl,vQ _ _⟩
 ·have he:(s.toList == [46])=false:=by rw[dQ];simpa using h
  rw[Qc h];clear h;by_cases BR:60<s.size
  ·rw[Qb (by rw[aX];exact BR)];have h6:60<(s.size:Int):=by omega
   go_enter func50,ntmps50;go_wp2_with fail;go_ret;exact⟨rfl,vQ _ _⟩
  ·rw[Qc (by rw[aX];exact BR)];have h6:(s.size:Int)<=60:=by omega
   have hlen:=Hc s.data.toList;have tE:∀ y∈Np.aT s.data.toList,y.length<=60:=λy hy=>by have:=Np.Hb hy;rw[aX] at this;omega
   rw[aX] at hlen;generalize hL:Np.aT s.data.toList=l at *;have HM:=jq tE;have sH:=jq hL;clear tE hL;go_enter func50,ntmps50;go_wp2_with fail;refine (Nt s (by omega) _).mono ?_;rw[sH.out];rintro e w1 ⟨v,rfl,hv,hb⟩;have HV:=jq hv;have HB:=jq hb;obtain⟨A,c,rfl,hc,_,_⟩:=hv;clear hb;go_wp2_with fail;go_loop [4] (λi=>∃ k:Nat,k<=l.length/\i = .int .i64 k/\Hid (∀ j,j<k->CS l j)) (λi=>l.length - (intOf i).toNat)
   case atStart=>exact⟨0,jQ _,rfl,jq (λj h=>by omega)⟩
   case round=>
    obtain⟨k,hk,rfl,HA⟩:=hrel;by_cases aa:k<l.length
    ·obtain⟨b,o,c',hA,_,_,hcell⟩:=Al HV.out (aQ aa)
     cases hA
     have hx:=HM.out _ (List.getElem_mem aa);have ac:l[k]?=some l[k]:=aQ aa;generalize l[k]=x at *;have HG:=jq ac;clear ac;have zh:CS l k->∀ j,j<k+1->CS l j:=λh j hj=>by
      by_cases e:j=k
      ·subst e;exact h
      ·exact HA.out j (by omega)
     have HX:=jq zh;clear zh
     cases hl:Np.bP x with
     | true=>
      have HL:=jq hl;go_wp2_with (go_at_call 104;refine (C3 _ (by omega) _).mono ?_;rintro e w' ⟨rfl,rfl⟩);go_round
      case rel=>exact⟨k+1,by omega,by go_num,jq (HX.out ⟨_,HG.out,.inl HL.out⟩)⟩
      case measure=>simp[intOf] <;> omega
     | false=>
      have HL:=jq hl;by_cases bL:k=0
      ·subst bL;simp only[Nat.add_zero] at hcell;by_cases Fk:x = [42]
       ·subst Fk;go_wp2_with (go_at_call 104;refine (C3 _ (by simp) _).mono ?_;rintro e w' ⟨rfl,rfl⟩);go_round
        case rel=>exact⟨1,by omega,by go_num,jq (HX.out ⟨_,HG.out,.inr ⟨rfl,rfl⟩⟩)⟩
        case measure=>simp[intOf] <;> omega
       ·have hne:(x == [42])=false:=by simpa using Fk
        go_wp2_with (go_at_call 104;refine (C3 _ (by omega) _).mono ?_;rintro e w' ⟨rfl,rfl⟩);go_ret;exact⟨ae (by rw[MB HG.out HL.out (λ_=>Fk)];rfl),HB.out⟩
      ·have hkp:(0:Int)<k:=by omega
       go_wp2_with (go_at_call 104;refine (C3 _ (by omega) _).mono ?_;rintro e w' ⟨rfl,rfl⟩);go_ret;exact⟨ae (by rw[MB HG.out HL.out (λe=>absurd e bL)];rfl),HB.out⟩
    ·have mg:Np.rR l=true:=V7 (λj hj=>HA.out j (by omega));have bk:=jq mg;clear mg;go_wp2_with fail;go_ret;exact⟨ae (by rw[bk.out,Bool.true_and,Bool.eq_iff_iff];simp;omega),HB.out⟩
theorem C2(s z:ByteArray)(hs:s.size<=1000)(hz:z.size<=1000)(w:World) :
 Calls prog 222 #[.string s,.string z] w (aeJ w.heap.size w (.bool (Np.inL (Np.dS s.data.toList) (Np.dS z.data.toList)))):=by
 have tn:∀ t:ByteArray,t.size<=1000->(Np.dS t.data.toList).length<=1001:=λt ht=>by
  unfold Np.dS;split
  ·simp
  ·have:=Hc t.data.toList;rw[aX] at this;omega
 have bh:=tn s hs;have cY:=tn z hz;clear tn;generalize lk:Np.dS s.data.toList=l at *;generalize tg:Np.dS z.data.toList=m at *;have pz:=jq lk;have Eb:=jq tg;clear lk tg;go_enter func222,ntmps222;go_wp2_with fail;refine (z6 s (by omega) _).mono ?_;rw[pz.out];rintro e w1 ⟨v,rfl,hv,hb⟩;have HV:=jq hv;have HB:=jq hb;obtain⟨A,c,rfl,hc,_,_⟩:=hv;clear hb;go_wp2_with fail;refine (z6 z (by omega) _).mono ?_;rw[Eb.out];rintro e w2 ⟨v2,rfl,qp,ab⟩;have gJ:=jq ((HV.out.keep Db ab).more NE ab.size);have lP:=jq qp;have ai:=jq (HB.out.trans (ab.mono HB.out.size));obtain⟨A2,c2,rfl,db,_,_⟩:=qp;clear ab HV;by_cases hlen:m.length<=l.length
 ·have ee:(m.length:Int)<=(l.length:Int):=by omega
  go_wp2_with fail;go_loopw [7] (λi wr=>∃ k:Nat,k<=m.length/\i = .int .i64 k/\Hid (∀ j,j<k->l[l.length - m.length+j]?=m[j]?)/\Hid (Below w2.heap.size w2 wr)) (λi _=>m.length - (intOf i).toNat)
  case atStart=>exact⟨0,jQ _,rfl,jq (λj h=>by omega),jq (vQ _ _)⟩
  case round=>
   obtain⟨k,hk,rfl,HA,HW⟩:=hrel;by_cases aa:k<m.length
   ·obtain⟨b,o,c',hA,_,_,hcell⟩:=Al (gJ.out.keep Db HW.out) (aQ (show l.length - m.length+k<l.length by omega))
    cases hA
    obtain⟨b2,o2,c2',nH,_,_,TE⟩:=Al (lP.out.keep Db HW.out) (aQ aa)
    cases nH
    have yN:l[l.length - m.length+k]?=some l[l.length - m.length+k]:=aQ _;have yO:m[k]?=some m[k]:=aQ aa;generalize l[l.length - m.length+k]=x at *;generalize m[k]=y at *;have uq:=jq yN;have ur:=jq yO;clear yN yO;have ak:IntKind.i64.wrap ((l.length:Int) - (m.length:Int))=(l.length:Int) - m.length:=IntWalk.i64_in _ (by omega);have ag:IntKind.i64.wrap ((l.length:Int) - (m.length:Int)+k)=(l.length:Int) - m.length+k:=IntWalk.i64_in _ (by omega);have e1:(0:Int)<=(l.length:Int) - m.length+k:=by omega
    have e2:(l.length:Int) - m.length+k<l.length:=by omega
    have e3:((l.length:Int) - m.length+k).toNat=l.length - m.length+k:=by omega
    have e4:(0:Int)<=k:=by omega
    have e5:(k:Int)<m.length:=by omega
    by_cases bF:x=y
    ·have hne:(!x == y)=false:=by simp[bF]
     have EO:=jq bF;clear bF;go_wp2_with fail;go_quiet (fail);go_wp2_with fail;go_roundw
     case rel=>
      refine⟨k+1,by omega,by go_num,jq (λj hj=>?_),jq (below_drewN HW.out _)⟩;by_cases e:j=k
      ·subst e;rw[uq.out,ur.out,EO.out]
      ·exact HA.out j (by omega)
     case measure=>simp[intOf] <;> omega
    ·have hne:(!x == y)=true:=by simp[bF]
     have EO:=jq bF;clear bF;go_wp2_with fail;go_quiet (fail);go_wp2_with fail;go_ret;refine⟨ae ?_,ai.out.trans ((below_drewN HW.out _).mono ai.out.size)⟩
     symm
     unfold Np.inL;rw[uQ hlen,Bool.true_and,beq_eq_false_iff_ne];intro h;have h1:=Qd (·[k]?) h;simp only[List.getElem?_drop] at h1;rw[uq.out,ur.out] at h1;exact EO.out (Option.some.inj h1)
   ·go_wp2_with fail;go_ret;refine⟨ae ?_,ai.out.trans (HW.out.mono ai.out.size)⟩
    symm
    unfold Np.inL;rw[uQ hlen,Bool.true_and,beq_iff_eq];apply List.ext_getElem?;intro j;rw[List.getElem?_drop];by_cases hj:j<m.length
    ·exact HA.out j (by omega)
    ·rw[List.getElem?_eq_none (by omega),List.getElem?_eq_none (by omega)]
 ·have ee:(l.length:Int)<(m.length:Int):=by omega
  go_wp2_with fail;go_ret;exact⟨ae (by unfold Np.inL;rw[tQ hlen];rfl),ai.out⟩
theorem C5{l:List (List UInt8)}{k:Nat}(h:l.length<=k):l.reverse.drop k = []:=List.drop_eq_nil_of_le (by simpa using h)
theorem Nw{l:List (List UInt8)}{k:Nat}(h:k<l.length):∃ x r,l.reverse.drop k=x::r:=⟨_,_,sQ (by simpa using h)⟩
theorem GZ(s z:ByteArray)(hs:s.size<=1000)(hz:z.size<=1000)(w:World) :
 Calls prog 164 #[.string s,.string z] w (aeJ w.heap.size w (.int .i64 (Np.aH s.data.toList z.data.toList))):=by
 rw[Np.xT,<-Np.zU,<-Np.zU];have tn:∀ t:ByteArray,t.size<=1000->(Np.dS t.data.toList).length<=1001:=λt ht=>by
  unfold Np.dS;split
  ·simp
  ·have:=Hc t.data.toList;rw[aX] at this;omega
 have bh:=tn s hs;have cY:=tn z hz;clear tn;generalize lk:Np.dS s.data.toList=l at *;generalize tg:Np.dS z.data.toList=m at *;have pz:=jq lk;have Eb:=jq tg;clear lk tg;go_enter func164,ntmps164;go_wp2_with fail;refine (z6 s (by omega) _).mono ?_;rw[pz.out];rintro e w1 ⟨v,rfl,hv,hb⟩;have HV:=jq hv;have HB:=jq hb;obtain⟨A,c,rfl,hc,_,_⟩:=hv;clear hb;go_wp2_with fail;refine (z6 z (by omega) _).mono ?_;rw[Eb.out];rintro e w2 ⟨v2,rfl,qp,ab⟩;have gJ:=jq ((HV.out.keep Db ab).more NE ab.size);have lP:=jq qp;have ai:=jq (HB.out.trans (ab.mono HB.out.size));obtain⟨A2,c2,rfl,db,_,_⟩:=qp;clear ab HV;go_wp2_with fail;go_loop [7] (λi=>∃ k:Nat,k<=l.length/\k<=m.length/\i = .int .i64 ((k:Int)+1)/\Hid (Np.bZ l.reverse m.reverse=Np.bZ (l.reverse.drop k) (m.reverse.drop k))) (λi=>l.length+1 - (intOf i).toNat)
 case atStart=>exact⟨0,jQ _,jQ _,rfl,jq rfl⟩
 case round=>
  obtain⟨k,bY,ir,rfl,HA⟩:=hrel;by_cases bU:k<l.length
  ·by_cases lC:k<m.length
   ·obtain⟨b,o,c',hA,_,_,hcell⟩:=Al gJ.out (aQ (show l.length - (k+1)<l.length by omega))
    cases hA
    obtain⟨b2,o2,c2',nH,_,_,TE⟩:=Al lP.out (aQ (show m.length - (k+1)<m.length by omega))
    cases nH
    have yN:l.reverse.drop k=l[l.length - (k+1)]::l.reverse.drop (k+1):=by
     rw[sQ (by simpa using bU),List.getElem_reverse];congr 2;omega
    have yO:m.reverse.drop k=m[m.length - (k+1)]::m.reverse.drop (k+1):=by
     rw[sQ (by simpa using lC),List.getElem_reverse];congr 2;omega
    generalize l[l.length - (k+1)]=x at *;generalize m[m.length - (k+1)]=y at *;have rJ:Np.bZ (l.reverse.drop k) (m.reverse.drop k)=if Np.bX x y≠0 then Np.bX x y else Np.bZ (l.reverse.drop (k+1)) (m.reverse.drop (k+1)):=by rw[yN,yO,Np.bZ]
    have HS:=jq rJ;clear yN yO rJ;have g1:((l.length:Int) - ((k:Int)+1)).toNat=l.length - (k+1):=by omega
    have g2:((m.length:Int) - ((k:Int)+1)).toNat=m.length - (k+1):=by omega
    have f1:(k:Int)+1<=l.length:=by omega
    have f2:(k:Int)+1<=m.length:=by omega
    rcases Np.uI x y with ⟨h1,h2⟩ | ⟨h1,h2,hn,h3⟩ | ⟨h1,h2,hn,h3⟩
    ·have H2:=jq h2;clear h2;go_wp2_with fail;go_ret;exact⟨gE (by rw[HA.out,HS.out,H2.out];rfl),ai.out⟩
    ·have H3:=jq h3;have hne:(!x == y)=true:=by simp[hn]
     clear h3 hn;go_wp2_with fail;go_ret;exact⟨gE (by rw[HA.out,HS.out,H3.out];rfl),ai.out⟩
    ·have H3:=jq h3;have hne:(!x == y)=false:=by simp[hn]
     clear h3 hn;go_wp2_with fail;go_round
     case rel=>exact⟨k+1,by omega,by omega,by go_num,jq (by rw[HA.out,HS.out,H3.out];rfl)⟩
     case measure=>simp[intOf] <;> omega
   ·have hm:k=m.length:=by omega
    have ct:(m.length:Int)<(k:Int)+1:=by omega
    have bG:(k:Int)+1<=l.length:=by omega
    have dL:(m.length:Int)<(l.length:Int):=by omega
    have hv:Np.bZ l.reverse m.reverse=1:=by
     obtain⟨x,r,e⟩:=Nw bU;rw[HA.out,C5 (l:=m) (by omega),e];rfl
    have ox:=jq hv;clear hv hm;go_wp2_with fail;go_ret;exact⟨gE ox.out.symm,ai.out⟩
  ·have hl:k=l.length:=by omega
   have bG:(l.length:Int)<(k:Int)+1:=by omega
   by_cases lC:k<m.length
   ·have dL:(l.length:Int)<(m.length:Int):=by omega
    have hv:Np.bZ l.reverse m.reverse = -1:=by
     obtain⟨x,r,e⟩:=Nw lC;rw[HA.out,C5 (l:=l) (by omega),e];rfl
    have ox:=jq hv;clear hv hl;go_wp2_with fail;go_ret;exact⟨gE ox.out.symm,ai.out⟩
   ·have dL:(l.length:Int)<=(m.length:Int):=by omega
    have ef:(m.length:Int)<=(l.length:Int):=by omega
    have hv:Np.bZ l.reverse m.reverse=0:=by
     rw[HA.out,C5 (l:=l) (by omega),C5 (l:=m) (by omega)];rfl
    have ox:=jq hv;clear hv hl;go_wp2_with fail;go_ret;exact⟨gE ox.out.symm,ai.out⟩
theorem C0(s z:ByteArray)(hs:s.size<=1000)(hz:z.size<=1000)(h1:Np.aD s.data.toList=true)(h2:Np.aD z.data.toList=true)(w:World) :
 Calls prog 304 #[.string s,.string z] w (aeJ w.heap.size w (.tuple #[.int .i64 (Np.aH s.data.toList z.data.toList),.int .i64 0])):=by
 have H1:=jq h1;have H2:=jq h2;clear h1 h2;go_enter func304,ntmps304;go_wp2_with fail;refine (vS s (by omega) _).mono ?_;rintro e w1 ⟨rfl,an⟩;have ar:=jq an;clear an;rw[H1.out];go_wp2_with fail;refine (vS z (by omega) _).mono ?_;rintro e w2 ⟨rfl,ab⟩;have ai:=jq (ar.out.trans (ab.mono ar.out.size));clear ab;rw[H2.out];go_wp2_with fail;refine (GZ s z hs hz _).mono ?_;rintro e w3 ⟨rfl,ah⟩;have aB:=jq (ai.out.trans (ah.mono ai.out.size));clear ah;go_wp2_with fail;go_ret2;exact⟨rfl,aB.out⟩
theorem XZ(k:Nat)(h1:1<=k)(h8:k<=8)(s:ByteArray)(hs:s.size<=140737488355328)(n m:Int)(w:World) :
 Calls prog 226 #[.int .i64 k,.agg #[.string s,.int .i64 n,.int .i64 m]] w
  λe w'=>e = .returned (.bool (Np.iZ (Np.bD k) ⟨s.data.toList,n,m⟩))/\Below w.heap.size w w':=by
 have hk:k=1\/k=2\/k=3\/k=4\/k=5\/k=6\/k=7\/k=8:=by omega
 rcases hk with rfl | rfl | rfl | rfl | rfl | rfl | rfl | rfl
 all_goals
  go_enter func226,ntmps226;go_wp2_with (first
   | (go_at_call 223;refine (Nv _ _ _ _).mono ?_;rintro e w' ⟨rfl,rfl⟩)
   | (go_at_call 50;refine (vS _ hs _).mono ?_;rintro e w' ⟨rfl,hb⟩;obtain⟨hc,hf⟩:=qT hb)
   | (go_at_call 225;refine (C4 _ hs _).mono ?_;rintro e w' ⟨rfl,rfl⟩)
   | (go_at_call 300;refine (Yh _ hs _).mono ?_;rintro e w' ⟨rfl,rfl⟩))
  all_goals
   go_ret;go_light;refine⟨ae ?_,?_⟩
   ·simp_all [Np.iZ,Np.ue,Np.bD,Np.rules,dQ] <;> (intros;first | omega | (rw[Bool.eq_iff_iff];simp;omega) | (rw[Bool.eq_iff_iff];simp;intros;omega) | (rw[Int.tmod_eq_emod_of_nonneg (by omega)];first | omega | (rw[Bool.eq_iff_iff];simp;omega)) | show False)
   ·first
     | exact (vQ _ w).alloc (bQ _) _
     | exact ((vQ _ w).alloc (bQ _) _).trans (hb.mono (by simp))
theorem NI(k:Nat)(h1:1<=k)(h8:k<=8):(Np.bD k).single=(decide ((k:Int)=3)||decide ((k:Int)=4)):=by
 have hk:k=1\/k=2\/k=3\/k=4\/k=5\/k=6\/k=7\/k=8:=by omega
 rcases hk with rfl | rfl | rfl | rfl | rfl | rfl | rfl | rfl <;> rfl
theorem NJ(k:Nat)(h1:1<=k)(h8:k<=8):(Np.bD k).wild=(decide ((k:Int)=1)||decide ((k:Int)=5)||decide ((k:Int)=8)):=by
 have hk:k=1\/k=2\/k=3\/k=4\/k=5\/k=6\/k=7\/k=8:=by omega
 rcases hk with rfl | rfl | rfl | rfl | rfl | rfl | rfl | rfl <;> rfl
theorem C1(k:Nat)(h1:1<=k)(h8:k<=8)(s:ByteArray)(hs:s.size<=140737488355328)(n m:Int)(w:World)(t:Bool)(ht:Np.iZ (Np.bD k) ⟨s.data.toList,n,m⟩=t) :
 Calls prog 226 #[.int .i64 k,.agg #[.string s,.int .i64 n,.int .i64 m]] w (aeJ w.heap.size w (.bool t)):=by
 subst ht;exact XZ k h1 h8 s hs n m w
theorem Nq(s t:ByteArray)(n1 m1 n2 m2:Int)(w:World)(r:Bool)(hr:decide (Np.oC ⟨s.data.toList,n1,m1⟩ ⟨t.data.toList,n2,m2⟩<0)=r) :
 Calls prog 227 #[.agg #[.string s,.int .i64 n1,.int .i64 m1],.agg #[.string t,.int .i64 n2,.int .i64 m2]] w (aeJ w.heap.size w (.bool r)):=by
 subst hr;exact Ya s t n1 m1 n2 m2 w
def QR(w1:World)(r:Np.Rule)(ds:List Np.Datum)(i:Value)(wr:World):Prop:=
 ∃ j:Nat,j<=ds.length/\i = .int .i64 j/\Below w1.heap.size w1 wr/\Np.il r none ds=Np.il r (ds.take j).getLast? (ds.drop j)
def t6(s:List UInt8)(ty life:Int)(n:Nat):Bool:=Np.aD s&&(decide (1<=ty)&&decide (ty<=8))&&(decide (0<=life)&&decide (life<=100000))&&(decide ((1:Int)<=n)&&decide ((n:Int)<=8))&&!((decide (ty=3)||decide (ty=4))&&decide ((1:Int)<n))
def JA(w:World)(s:ByteArray)(ty life:Int)(sl:Value)(wx:World):Prop:=
 Below w.heap.size w wx/\w.heap.size<wx.heap.size/\wx.cell? ⟨w.heap.size,0,none⟩=some (.string s)/\wx.cell? ⟨w.heap.size,1,none⟩=some (.int .i64 ty)/\wx.cell? ⟨w.heap.size,2,none⟩=some (.int .i64 life)/\wx.cell? ⟨w.heap.size,3,none⟩=some sl
theorem Ns(s:ByteArray)(hs:s.size<=140737488355328)(ty life:Int)(v:Value)(ds:List Np.Datum)(w:World)(hd:SlR bW 3 w w.heap.size v ds) :
 Calls prog 150 #[.agg #[.string s,.int .i64 ty,.int .i64 life,v]] w
  λe w'=>e = .returned (.bool (Np.da ⟨s.data.toList,ty,life,ds⟩))/\Below w.heap.size w w':=by
 have HD:=jq hd;obtain⟨A,c,rfl,aW,bh,eO⟩:=hd;clear eO;have fw:¬ (Np.aD s.data.toList=true/\(1<=ty/\ty<=8)/\(0<=life/\life<=100000)/\(1<=ds.length/\ds.length<=8)/\((ty=3\/ty=4)->ds.length<=1)/\(Np.dO s.data.toList=true->ty=1\/ty=5\/ty=8))->Np.da ⟨s.data.toList,ty,life,ds⟩=false:=λhin=>by
  cases hq:Np.da ⟨s.data.toList,ty,life,ds⟩ with
  | false=>rfl
  | true=>
   exfalso;unfold Np.da at hq;simp only[Bool.and_eq_true,Qa,Bool.not_eq_true'] at hq;obtain⟨⟨⟨⟨⟨⟨h1,h2⟩,h3⟩,h4⟩,h5⟩,h6⟩,_⟩:=hq;obtain⟨k,rfl⟩:=Int.eq_ofNat_of_zero_le (by omega:0<=ty);rw[NI k (by omega) (by omega)] at h5;rw[NJ k (by omega) (by omega)] at h6;refine hin ⟨h1,h2,h3,h4,λht=>?_,λhw=>?_⟩
   ·simp at h5;omega
   ·rw[hw] at h6;simp at h6;omega
 have la:=jq fw;clear fw;go_enter func150,ntmps150;go_upto_region 2 with fail
 go_cut [37] (λt wx=>JA w s ty life (.slice A ds.length c) wx/\t = .bool (!t6 s.data.toList ty life ds.length))
 case first=>
  go_wp2_with fail;refine (vS _ hs _).mono ?_;rintro e w1 ⟨rfl,hb⟩;have br:Below w.heap.size w w1:=((vQ _ w).alloc (bQ _) _).trans (hb.mono (by simp));have bU:w.heap.size<w1.heap.size:=by have:=hb.size;simp at this;omega
  have c0:w1.cell? ⟨w.heap.size,0,none⟩=some (.string s):=by rw[hb.cell (by simp)];go_simp
  have c1:w1.cell? ⟨w.heap.size,1,none⟩=some (.int .i64 ty):=by rw[hb.cell (by simp)];go_simp
  have c2:w1.cell? ⟨w.heap.size,2,none⟩=some (.int .i64 life):=by rw[hb.cell (by simp)];go_simp
  have c3:w1.cell? ⟨w.heap.size,3,none⟩=some (.slice A ds.length c):=by rw[hb.cell (by simp)];go_simp
  have HH:=jq (show JA w s ty life (.slice A ds.length c) w1 from ⟨br,bU,c0,c1,c2,c3⟩);clear hb br;go_wp2_with (first
   | (go_at_call 223;refine (Nv _ _ _ _).mono ?_;rintro e w' ⟨rfl,rfl⟩)
   | (go_at_call 224;refine (Yg _ _).mono ?_;rintro e w' ⟨rfl,rfl⟩))
  all_goals
   go_meet
   case rel=>
    refine⟨HH.out,?_⟩;clear HH la HD;go_light
    first
     | (simp_all [t6];done)
     | (simp_all [t6];omega)
     | (congr 1;rw[Bool.eq_iff_iff];simp_all [t6] <;> omega)
 case rest=>
  obtain⟨⟨br,Lw,c0,c1,c2,c3⟩,rfl⟩:=hcut;have az:=jq br;clear br
  cases hq:t6 s.data.toList ty life ds.length with
  | false=>
   have HQ:=jq hq;clear hq;go_wp2_with fail;go_ret;refine⟨ae (la.out λ⟨a1,a2,a3,a4,a5,_⟩=>?_).symm,az.out⟩
   have:=HQ.out
   simp[t6,a1,a2,a3] at this;omega
  | true=>
   have HQ:=jq hq;clear hq;go_upto_region 4 with fail
   go_cut [55] (λt wy=>wy=wc/\t = .bool (Np.dO s.data.toList&&(decide (ty≠1)&&(decide (ty≠5)&&decide (ty≠8)))))
   case first=>
    go_wp2_with (go_at_call 225;refine (C4 _ hs _).mono ?_;rintro e w' ⟨rfl,rfl⟩)
    all_goals
     go_meet
     case rel=>
      refine⟨rfl,?_⟩;clear la HD HQ;go_light
      first
       | (simp_all;done)
       | (simp_all;omega)
       | (congr 1;rw[Bool.eq_iff_iff];simp_all;done)
       | (congr 1;rw[Bool.eq_iff_iff];simp_all;omega)
   case rest=>
    obtain⟨rfl,rfl⟩:=hcut
    cases rD:(Np.dO s.data.toList&&(decide (ty≠1)&&(decide (ty≠5)&&decide (ty≠8)))) with
    | true=>
     have sL:=jq rD;clear rD;go_wp2_with fail;go_ret;refine⟨ae (la.out λ⟨_,_,_,_,_,a6⟩=>?_).symm,az.out⟩
     have:=sL.out
     simp at this
     have:=a6 this.1
     omega
    | false=>
     have hin:Np.aD s.data.toList=true/\(1<=ty/\ty<=8)/\(0<=life/\life<=100000)/\(1<=ds.length/\ds.length<=8)/\((ty=3\/ty=4)->ds.length<=1)/\(Np.dO s.data.toList=true->ty=1\/ty=5\/ty=8):=by
      have h:=HQ.out;simp[t6] at h;obtain⟨⟨⟨⟨h1,h2⟩,h3⟩,h4⟩,h5⟩:=h;refine⟨h1,h2,h3,by omega,by omega,λhw=>?_⟩;rw[hw] at rD;simp at rD;omega
     obtain⟨i1,⟨i2,i3⟩,⟨i4,i5⟩,⟨i6,i7⟩,i8,i9⟩:=hin;obtain⟨k,rfl⟩:=Int.eq_ofNat_of_zero_le (by omega:0<=ty);have hv:Np.da ⟨s.data.toList,k,life,ds⟩=Np.il (Np.bD k) none ds:=by
      unfold Np.da;simp only[NI k (by omega) (by omega),NJ k (by omega) (by omega),i1,uQ i2,uQ i3,uQ i4,uQ i5,uQ i6,uQ i7,Bool.true_and];have e1:((decide ((k:Int)=3)||decide ((k:Int)=4))&&decide (ds.length≠1))=false:=by
       rw[Bool.eq_false_iff];simp;omega
      have e2:(Np.dO s.data.toList&&!(decide ((k:Int)=1)||decide ((k:Int)=5)||decide ((k:Int)=8)))=false:=by
       cases hw:Np.dO s.data.toList with
       | false=>rfl
       | true=>have:=i9 hw;simp;omega
      rw[e1,e2];rfl
     have HV:=jq hv;have tm:1<=k:=by omega
     have B9:k<=8:=by omega
     clear hv i8 i9 rD i1 c0 c2 la HQ;go_wp2_with fail;go_loopw [4] (λi wr=>QR wc (Np.bD k) ds i wr) (λi _=>ds.length - (intOf i).toNat)
     case atStart=>exact⟨0,jQ _,rfl,vQ _ _,rfl⟩
     case round=>
      obtain⟨j,hj,rfl,aI,hg⟩:=hrel;have HG:=jq hg;clear hg;by_cases aa:j<ds.length
      ·have GD:=aI.size;have kr:Below w.heap.size w wr:=az.out.trans (aI.acQ);have Ve:w.heap.size<wr.heap.size:=by omega
       have d1:wr.cell? ⟨w.heap.size,1,none⟩=some (.int .i64 k):=by rw[aI.cell (by simpa using Lw)];exact c1
       have d3:wr.cell? ⟨w.heap.size,3,none⟩=some (.slice A ds.length c):=by rw[aI.cell (by simpa using Lw)];exact c3
       obtain⟨A',c',hA',_,_,aC⟩:=HD.out.keep cu kr
       cases hA'
       obtain⟨b,o,e,rfl,bp,_,hce,sd,rG,rH,rfl⟩:=aC j _ (aQ aa);have e0:wr.cell? ⟨b,o+j * 3,none⟩=some (.string sd):=hce 0 _ rfl;have e1:wr.cell? ⟨b,o+j * 3+1,none⟩=some (.int .i64 ds[j].n):=hce 1 _ rfl;have e2:wr.cell? ⟨b,o+j * 3+2,none⟩=some (.int .i64 ds[j].m):=hce 2 _ rfl;have bO:b<wr.heap.size:=by omega
       have nP:∀ (g:bi wr) (p:Addr),p.block<wr.heap.size->g.w.cell? p=wr.cell? p:=λg p h=>g.cell p h;have aL:=jq aI;have ul:=jq kr;have fC:=jq aC;have uy:=jq rG;have yF:(⟨sd.data.toList,ds[j].n,ds[j].m⟩:Np.Datum)=ds[j]:=by rw[uy.out]
       have po:=jq yF;clear hce aI kr aC rG c1 c3 yF GD;by_cases qq:Np.iZ (Np.bD k) ⟨sd.data.toList,ds[j].n,ds[j].m⟩=true
       ·have jP:=jq qq;clear qq;by_cases iS:j=0
        ·subst iS;simp only[Nat.zero_mul,Nat.add_zero] at e0 e1 e2;go_wp2_with fail;refine adX ?_
         repeat (go_big_quiet_step ((go_at_call 226;exact Calls.grow_of (C1 _ tm B9 _ rH _ _ _ true jP.out))))
         refine wpQuiet_nil ?_;rintro _ ⟨g,rfl⟩;go_wp2_with fail;go_roundw
         case rel=>
          go_light;have h1:=Np.KB (r:=Np.bD k) (aQ aa) (by rw[<-po.out];exact jP.out);exact⟨1,aa,by go_num,aL.out.trans (g.below.mono aL.out.size),by rw[<-h1];exact HG.out⟩
         case measure=>simp[intOf] <;> omega
        ·obtain⟨i,rfl⟩:∃ i,j=i+1:=⟨j - 1,by omega⟩;obtain⟨b',o',e',nH,yu,_,l6,sq,jt,U0,rfl⟩:=fC.out i _ (aQ (by omega))
         cases nH
         have f0:wr.cell? ⟨b,o+i * 3,none⟩=some (.string sq):=l6 0 _ rfl;have f1:wr.cell? ⟨b,o+i * 3+1,none⟩=some (.int .i64 (ds[i]'(by omega)).n):=l6 1 _ rfl;have f2:wr.cell? ⟨b,o+i * 3+2,none⟩=some (.int .i64 (ds[i]'(by omega)).m):=l6 2 _ rfl;have yE:(⟨sq.data.toList,(ds[i]'(by omega)).n,(ds[i]'(by omega)).m⟩:Np.Datum)=ds[i]'(by omega):=by rw[jt]
         have DU:=jq yE;clear l6 jt yE;have lw:(0:Int)<((i+1:Nat):Int):=by omega
         have h1:=Np.KC (r:=Np.bD k) (aQ (by omega:i<ds.length)) (aQ aa) (by rw[<-po.out];exact jP.out);rw[<-po.out,<-DU.out] at h1;have H1:=jq h1;clear h1;by_cases eY:Np.oC ⟨sq.data.toList,(ds[i]'(by omega)).n,(ds[i]'(by omega)).m⟩ ⟨sd.data.toList,ds[i+1].n,ds[i+1].m⟩<0
         ·have jI:=jq eY;have DS:=jq (uQ eY);clear eY;go_wp2_with fail;refine adX ?_
          repeat (go_big_quiet_step (first
           | (go_at_call 226;exact Calls.grow_of (C1 _ tm B9 _ rH _ _ _ true jP.out))
           | (go_at_call 227;exact Calls.grow_of (Nq _ _ _ _ _ _ _ true DS.out))))
          refine wpQuiet_nil ?_;rintro _ ⟨g,rfl⟩;go_wp2_with fail;go_roundw
          case rel=>
           go_light;exact⟨i+1+1,aa,by go_num,aL.out.trans (g.below.mono aL.out.size),by rw[HG.out,H1.out,Qb jI.out]⟩
          case measure=>simp[intOf] <;> omega
         ·have jI:=jq eY;have DS:=jq (tQ eY);clear eY;go_wp2_with fail;refine adX ?_
          repeat (go_big_quiet_step (first
           | (go_at_call 226;exact Calls.grow_of (C1 _ tm B9 _ rH _ _ _ true jP.out))
           | (go_at_call 227;exact Calls.grow_of (Nq _ _ _ _ _ _ _ false DS.out))))
          refine wpQuiet_nil ?_;rintro _ ⟨g,rfl⟩;go_wp2_with fail;go_ret;refine⟨ae ?_,ul.out.trans (g.below.acQ)⟩;rw[HV.out,HG.out,H1.out,Qc (by have:=jI.out;omega)]
       ·have zF:Np.iZ (Np.bD k) ⟨sd.data.toList,ds[j].n,ds[j].m⟩=false:=by simpa using qq
        have jP:=jq zF;clear qq zF;go_wp2_with fail;refine adX ?_
        repeat (go_big_quiet_step ((go_at_call 226;exact Calls.grow_of (C1 _ tm B9 _ rH _ _ _ false jP.out))))
        refine wpQuiet_nil ?_;rintro _ ⟨g,rfl⟩;go_wp2_with fail;go_ret;refine⟨ae ?_,ul.out.trans (g.below.acQ)⟩;rw[HV.out,HG.out,Np.KA (aQ aa) (by rw[<-po.out];exact jP.out)]
      ·go_wp2_with fail;go_ret;refine⟨ae ?_,az.out.trans (aI.acQ)⟩;rw[HV.out,HG.out,List.drop_eq_nil_of_le (by omega)];rfl
theorem vM{s:ByteArray}(h:Np.aD s.data.toList=true):s.size<=60:=by
 rw[Np.Oy] at h;split at h
 ·rename_i e;rw[<-aX,e];decide
 ·split at h
  ·cases h
  ·rename_i h6;rw[aX] at h6;omega
theorem Ye(s1 s2:ByteArray)(t1 l1 t2 l2:Int)(v1 v2:Value)(d1 d2:List Np.Datum)(n1:Np.aD s1.data.toList=true)(n2:Np.aD s2.data.toList=true)(w:World) :
 Calls prog 234 #[.agg #[.string s1,.int .i64 t1,.int .i64 l1,v1],.agg #[.string s2,.int .i64 t2,.int .i64 l2,v2]] w
  λe w'=>e = .returned (.int .i64 (Np.fM ⟨s1.data.toList,t1,l1,d1⟩ ⟨s2.data.toList,t2,l2,d2⟩))/\Below w.heap.size w w':=by
 have hw:∀ o o',Below w.heap.size w ((w.alloc o).alloc o'):=λo o'=>((vQ _ w).alloc (bQ _) _).alloc (by simp) _;have HW:=jq hw;clear hw;have bg:=vM n1;have aO:=vM n2;have N1:=jq n1;have N2:=jq n2;have hc:=Np.BC ⟨s1.data.toList,t1,l1,d1⟩ ⟨s2.data.toList,t2,l2,d2⟩;simp only at hc;rw[hc];clear n1 n2 hc;generalize hQ:Np.aH s1.data.toList s2.data.toList=q;have HQ:=jq hQ;clear hQ;have key:∀ r:Int,(q≠0->r=q)->(q=0->r=Np.b7 t1 t2)->(if q≠0 then q else Np.b7 t1 t2)=r:=λr h1 h2=>by
  by_cases h:q=0
  ·rw[Qc (λe=>e h),h2 h]
  ·rw[Qb h,h1 h]
 have KEY:=jq key;clear key;by_cases hq:q=0
 ·have KQ:=jq hq;subst hq;by_cases h1:t1<t2
  ·rw[KEY.out (-1) (λe=>absurd rfl e) (λ_=>by rw[Np.b7,Qb h1])];go_enter func234,ntmps234;go_wp2_with fail;refine (C0 s1 s2 (by omega) (by omega) N1.out N2.out _).mono ?_;rw[HQ.out];rintro e w1 ⟨rfl,hb⟩;obtain⟨aW,nO⟩:=qT hb;have HB:=jq ((HW.out _ _).trans (hb.mono (by simp;omega)));clear hb;go_wp2_with fail;go_ret;exact⟨rfl,HB.out⟩
  ·by_cases h2:t2<t1
   ·rw[KEY.out 1 (λe=>absurd rfl e) (λ_=>by rw[Np.b7,Qc h1,Qb h2])];go_enter func234,ntmps234;go_wp2_with fail;refine (C0 s1 s2 (by omega) (by omega) N1.out N2.out _).mono ?_;rw[HQ.out];rintro e w1 ⟨rfl,hb⟩;obtain⟨aW,nO⟩:=qT hb;have HB:=jq ((HW.out _ _).trans (hb.mono (by simp;omega)));clear hb;go_wp2_with fail;go_ret;exact⟨rfl,HB.out⟩
   ·rw[KEY.out 0 (λe=>absurd rfl e) (λ_=>by rw[Np.b7,Qc h1,Qc h2])];go_enter func234,ntmps234;go_wp2_with fail;refine (C0 s1 s2 (by omega) (by omega) N1.out N2.out _).mono ?_;rw[HQ.out];rintro e w1 ⟨rfl,hb⟩;obtain⟨aW,nO⟩:=qT hb;have HB:=jq ((HW.out _ _).trans (hb.mono (by simp;omega)));clear hb;go_wp2_with fail;go_ret;exact⟨rfl,HB.out⟩
 ·have rD:(q != 0)=true:=by simpa using hq
  rw[KEY.out q (λ_=>rfl) (λe=>absurd e hq)];clear hq;go_enter func234,ntmps234;go_wp2_with fail;refine (C0 s1 s2 (by omega) (by omega) N1.out N2.out _).mono ?_;rw[HQ.out];rintro e w1 ⟨rfl,hb⟩;obtain⟨aW,nO⟩:=qT hb;have HB:=jq ((HW.out _ _).trans (hb.mono (by simp;omega)));clear hb;go_wp2_with fail;go_ret;exact⟨rfl,HB.out⟩
end
end Go.Proofs.YtfnopgdcaanaiaaGreatDoor
