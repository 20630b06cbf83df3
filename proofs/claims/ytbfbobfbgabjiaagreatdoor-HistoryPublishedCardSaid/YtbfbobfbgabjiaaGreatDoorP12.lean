/- Parts of the proof. No condition. -/
import Derived.Deep.DeepCutAuto
import Derived.Test.YtbfbobfbgabjiaaGreatDoorP07
import Derived.Test.YtbfbobfbgabjiaaGreatDoorP08
import Derived.Test.YtbfbobfbgabjiaaGreatDoorP09
set_option linter.all false
set_option maxRecDepth 100000
set_option maxHeartbeats 8000000
namespace Go.Proofs.YtbfbobfbgabjiaaGreatDoor
open Go.Proofs.Tryz
section
open Go.RowKit
theorem Fo(x:List UInt8)(hx:x.length<=140737488355328)(w:World):Calls prog 80 #[aA x] w λe w'=>e = .returned (.bool (Np.cw x))/\w=w':=by
 have:=axQ ⟨x.toArray⟩ (by rw[<-aT]; simpa using hx) w
 simpa using this
def Fd(l:List (List UInt8))(j:Nat):Prop:=∃ x,l[j]?=some x/\(Np.cw x=true\/(j=0/\x = [42]))
theorem aeX{l:List (List UInt8)}(h:∀ j,j<l.length->Fd l j):Np.uo l=true:=by
 cases l with
 | nil=>rfl
 | cons a t=>
  unfold Np.uo;rw[Bool.and_eq_true];constructor
  ·obtain⟨x,hx,ho⟩:=h 0 (by simp);simp at hx; subst hx;rcases ho with ho | ⟨_,ho⟩ <;> simp[ho]
  ·rw[List.all_eq_true];intro y hy;obtain⟨j,hj,rfl⟩:=nQ.1 hy;obtain⟨x,hx,ho⟩:=h (j+1) (by simpa using hj);simp only[List.getElem?_cons_succ,aQ hj,Option.some.injEq] at hx;rcases ho with ho | ⟨h0,_⟩
   ·rw[hx]; exact ho
   ·omega
theorem Qp{l:List (List UInt8)}{j:Nat}{x:List UInt8}(hx:l[j]?=some x)(h1:Np.cw x=false)(h2:j=0->x≠[42]):Np.uo l=false:=by
 cases l with
 | nil=>simp at hx
 | cons a t=>
  unfold Np.uo
  cases j with
  | zero=>simp at hx; subst hx; simp[h1,h2 rfl]
  | succ j=>
   have:t.all Np.cw=false:=by
    rw[List.all_eq_false];exact⟨x,gQ (by simpa using hx),by simp[h1]⟩
   show ((Np.cw a||a == [42])&&t.all Np.cw)=false;rw[this,Bool.and_false]
theorem KR:∀ l:List UInt8,(Np.aR l).length<=l.length+1:=by
 intro l
 induction l with
 | nil=>simp[Np.aR]
 | cons c r ih=>
  rw[Np.aR];split
  ·simp; omega
  ·split
   ·rename_i x xs hx; rw[hx] at ih; simp at ih |-; omega
   ·simp
theorem zf(s:ByteArray)(hs:s.size<=140737488355328)(w:World) :
 Calls prog 34 #[.string s] w λe w'=>e = .returned (.bool (Np.aD s.data.toList))/\Below w.heap.size w w':=by
 rw[Np.RQ];by_cases h:s.data.toList = [46]
 ·have he:(s.toList == [46])=true:=by rw[dQ,h]; rfl
  rw[Qb h];clear h;go_enter func34,ntmps34;go_wp2_with fail;go_ret;exact⟨rfl,vQ _ _⟩
 ·have he:(s.toList == [46])=false:=by rw[dQ]; simpa using h
  rw[Qc h];clear h;by_cases DW:60<s.size
  ·rw[Qb (by rw[aT]; exact DW)];have h6:60<(s.size:Int):=by omega
   go_enter func34,ntmps34;go_wp2_with fail;go_ret;exact⟨rfl,vQ _ _⟩
  ·rw[Qc (by rw[aT]; exact DW)];have h6:(s.size:Int)<=60:=by omega
   have hlen:=KR s.data.toList;have wK:∀ y∈Np.aR s.data.toList,y.length<=60:=λy hy=>by have:=Np.KP hy; rw[aT] at this; omega
   rw[aT] at hlen;generalize hL:Np.aR s.data.toList=l at *;have HM:=jq wK;have Da:=jq hL;clear wK hL;go_enter func34,ntmps34;go_wp2_with fail;refine (Q4 s (by omega) _).mono ?_;rw[Da.out];rintro e w1 ⟨v,rfl,hv,hb⟩;have HV:=jq hv;have HB:=jq hb;obtain⟨A,c,rfl,hc,_,_⟩:=hv;clear hb;go_wp2_with fail;go_loop [4] (λi=>∃ k:Nat,k<=l.length/\i = .int .i64 k/\Hid (∀ j,j<k->Fd l j)) (λi=>l.length - (intOf i).toNat)
   case atStart=>exact⟨0,jQ _,rfl,jq (λj h=>by omega)⟩
   case round=>
    obtain⟨k,hk,rfl,HA⟩:=hrel;by_cases aa:k<l.length
    ·obtain⟨b,o,c',hA,_,_,hcell⟩:=CL HV.out (aQ aa)
     cases hA
     have hx:=HM.out _ (List.getElem_mem aa);have ac:l[k]?=some l[k]:=aQ aa;generalize l[k]=x at *;have HG:=jq ac;clear ac;have BY:Fd l k->∀ j,j<k+1->Fd l j:=λh j hj=>by
      by_cases e:j=k
      ·subst e; exact h
      ·exact HA.out j (by omega)
     have HX:=jq BY;clear BY
     cases hl:Np.cw x with
     | true=>
      have HL:=jq hl;go_wp2_with (go_at_call 80; refine (Fo _ (by omega) _).mono ?_; rintro e w' ⟨rfl,rfl⟩);go_round
      case rel=>exact⟨k+1,by omega,by go_num,jq (HX.out ⟨_,HG.out,.inl HL.out⟩)⟩
      case measure=>simp[intOf] <;> omega
     | false=>
      have HL:=jq hl;by_cases bH:k=0
      ·subst bH;simp only[Nat.add_zero] at hcell;by_cases IJ:x = [42]
       ·subst IJ;go_wp2_with (go_at_call 80; refine (Fo _ (by simp) _).mono ?_; rintro e w' ⟨rfl,rfl⟩);go_round
        case rel=>exact⟨1,by omega,by go_num,jq (HX.out ⟨_,HG.out,.inr ⟨rfl,rfl⟩⟩)⟩
        case measure=>simp[intOf] <;> omega
       ·have hne:(x == [42])=false:=by simpa using IJ
        go_wp2_with (go_at_call 80; refine (Fo _ (by omega) _).mono ?_; rintro e w' ⟨rfl,rfl⟩);go_ret;exact⟨ae (by rw[Qp HG.out HL.out (λ_=>IJ)]; rfl),HB.out⟩
      ·have hkp:(0:Int)<k:=by omega
       go_wp2_with (go_at_call 80; refine (Fo _ (by omega) _).mono ?_; rintro e w' ⟨rfl,rfl⟩);go_ret;exact⟨ae (by rw[Qp HG.out HL.out (λe=>absurd e bH)]; rfl),HB.out⟩
    ·have nG:Np.uo l=true:=aeX (λj hj=>HA.out j (by omega));have bR:=jq nG;clear nG;go_wp2_with fail;go_ret;exact⟨ae (by rw[bR.out,Bool.true_and,Bool.eq_iff_iff]; simp; omega),HB.out⟩
theorem Fn(s z:ByteArray)(hs:s.size<=1000)(hz:z.size<=1000)(w:World) :
 Calls prog 181 #[.string s,.string z] w λe w'=>e = .returned (.bool (Np.inL (Np.eB s.data.toList) (Np.eB z.data.toList)))/\Below w.heap.size w w':=by
 have vV:∀ t:ByteArray,t.size<=1000->(Np.eB t.data.toList).length<=1001:=λt ht=>by
  unfold Np.eB;split
  ·simp
  ·have:=KR t.data.toList; rw[aT] at this; omega
 have bi:=vV s hs;have dm:=vV z hz;clear vV;generalize g9:Np.eB s.data.toList=l at *;generalize pr:Np.eB z.data.toList=m at *;have la:=jq g9;have zX:=jq pr;clear g9 pr;go_enter func181,ntmps181;go_wp2_with fail;refine (CF s (by omega) _).mono ?_;rw[la.out];rintro e w1 ⟨v,rfl,hv,hb⟩;have HV:=jq hv;have HB:=jq hb;obtain⟨A,c,rfl,hc,_,_⟩:=hv;clear hb;go_wp2_with fail;refine (CF z (by omega) _).mono ?_;rw[zX.out];rintro e w2 ⟨v2,rfl,lz,ab⟩;have gq:=jq ((HV.out.keep Fx ab).more Rd ab.size);have jN:=jq lz;have al:=jq (HB.out.trans (ab.mono HB.out.size));obtain⟨A2,c2,rfl,dG,_,_⟩:=lz;clear ab HV;by_cases hlen:m.length<=l.length
 ·have gw:(m.length:Int)<=(l.length:Int):=by omega
  go_wp2_with fail;go_loopw [7] (λi wr=>∃ k:Nat,k<=m.length/\i = .int .i64 k/\Hid (∀ j,j<k->l[l.length - m.length+j]?=m[j]?)/\Hid (Below w2.heap.size w2 wr)) (λi _=>m.length - (intOf i).toNat)
  case atStart=>exact⟨0,jQ _,rfl,jq (λj h=>by omega),jq (vQ _ _)⟩
  case round=>
   obtain⟨k,hk,rfl,HA,HW⟩:=hrel;by_cases aa:k<m.length
   ·obtain⟨b,o,c',hA,_,_,hcell⟩:=CL (gq.out.keep Fx HW.out) (aQ (show l.length - m.length+k<l.length by omega))
    cases hA
    obtain⟨b2,o2,c2',pq,_,_,Yk⟩:=CL (jN.out.keep Fx HW.out) (aQ aa)
    cases pq
    have BI:l[l.length - m.length+k]?=some l[l.length - m.length+k]:=aQ _;have BJ:m[k]?=some m[k]:=aQ aa;generalize l[l.length - m.length+k]=x at *;generalize m[k]=y at *;have xG:=jq BI;have xH:=jq BJ;clear BI BJ;have ak:IntKind.i64.wrap ((l.length:Int) - (m.length:Int))=(l.length:Int) - m.length:=IntWalk.i64_in _ (by omega);have aj:IntKind.i64.wrap ((l.length:Int) - (m.length:Int)+k)=(l.length:Int) - m.length+k:=IntWalk.i64_in _ (by omega);have e1:(0:Int)<=(l.length:Int) - m.length+k:=by omega
    have e2:(l.length:Int) - m.length+k<l.length:=by omega
    have e3:((l.length:Int) - m.length+k).toNat=l.length - m.length+k:=by omega
    have e4:(0:Int)<=k:=by omega
    have e5:(k:Int)<m.length:=by omega
    by_cases bB:x=y
    ·have hne:(!x == y)=false:=by simp[bB]
     have AF:=jq bB;clear bB;go_wp2_with fail;go_quiet (fail);go_wp2_with fail;go_roundw
     case rel=>
      refine⟨k+1,by omega,by go_num,jq (λj hj=>?_),jq (below_drewN HW.out _)⟩;by_cases e:j=k
      ·subst e; rw[xG.out,xH.out,AF.out]
      ·exact HA.out j (by omega)
     case measure=>simp[intOf] <;> omega
    ·have hne:(!x == y)=true:=by simp[bB]
     have AF:=jq bB;clear bB;go_wp2_with fail;go_quiet (fail);go_wp2_with fail;go_ret;refine⟨ae ?_,al.out.trans ((below_drewN HW.out _).mono al.out.size)⟩
     symm
     unfold Np.inL;rw[uQ hlen,Bool.true_and,beq_eq_false_iff_ne];intro h;have h1:=Qd (·[k]?) h;simp only[List.getElem?_drop] at h1;rw[xG.out,xH.out] at h1;exact AF.out (Option.some.inj h1)
   ·go_wp2_with fail;go_ret;refine⟨ae ?_,al.out.trans (HW.out.mono al.out.size)⟩
    symm
    unfold Np.inL;rw[uQ hlen,Bool.true_and,beq_iff_eq];apply List.ext_getElem?;intro j;rw[List.getElem?_drop];by_cases hj:j<m.length
    ·exact HA.out j (by omega)
    ·rw[List.getElem?_eq_none (by omega),List.getElem?_eq_none (by omega)]
 ·have gw:(l.length:Int)<(m.length:Int):=by omega
  go_wp2_with fail;go_ret;exact⟨ae (by unfold Np.inL; rw[tQ hlen]; rfl),al.out⟩
theorem Fr{l:List (List UInt8)}{k:Nat}(h:l.length<=k):l.reverse.drop k = []:=List.drop_eq_nil_of_le (by simpa using h)
theorem Q7{l:List (List UInt8)}{k:Nat}(h:k<l.length):∃ x r,l.reverse.drop k=x::r:=⟨_,_,sQ (by simpa using h)⟩
theorem KD(s z:ByteArray)(hs:s.size<=1000)(hz:z.size<=1000)(w:World) :
 Calls prog 100 #[.string s,.string z] w λe w'=>e = .returned (.int .i64 (Np.aI s.data.toList z.data.toList))/\Below w.heap.size w w':=by
 rw[Np.AT,<-Np.Cx,<-Np.Cx];have vV:∀ t:ByteArray,t.size<=1000->(Np.eB t.data.toList).length<=1001:=λt ht=>by
  unfold Np.eB;split
  ·simp
  ·have:=KR t.data.toList; rw[aT] at this; omega
 have bi:=vV s hs;have dm:=vV z hz;clear vV;generalize g9:Np.eB s.data.toList=l at *;generalize pr:Np.eB z.data.toList=m at *;have la:=jq g9;have zX:=jq pr;clear g9 pr;go_enter func100,ntmps100;go_wp2_with fail;refine (CF s (by omega) _).mono ?_;rw[la.out];rintro e w1 ⟨v,rfl,hv,hb⟩;have HV:=jq hv;have HB:=jq hb;obtain⟨A,c,rfl,hc,_,_⟩:=hv;clear hb;go_wp2_with fail;refine (CF z (by omega) _).mono ?_;rw[zX.out];rintro e w2 ⟨v2,rfl,lz,ab⟩;have gq:=jq ((HV.out.keep Fx ab).more Rd ab.size);have jN:=jq lz;have al:=jq (HB.out.trans (ab.mono HB.out.size));obtain⟨A2,c2,rfl,dG,_,_⟩:=lz;clear ab HV;go_wp2_with fail;go_loop [7] (λi=>∃ k:Nat,k<=l.length/\k<=m.length/\i = .int .i64 ((k:Int)+1)/\Hid (Np.cG l.reverse m.reverse=Np.cG (l.reverse.drop k) (m.reverse.drop k))) (λi=>l.length+1 - (intOf i).toNat)
 case atStart=>exact⟨0,jQ _,jQ _,rfl,jq rfl⟩
 case round=>
  obtain⟨k,bG,kA,rfl,HA⟩:=hrel;by_cases ep:k<l.length
  ·by_cases tR:k<m.length
   ·obtain⟨b,o,c',hA,_,_,hcell⟩:=CL gq.out (aQ (show l.length - (k+1)<l.length by omega))
    cases hA
    obtain⟨b2,o2,c2',pq,_,_,Yk⟩:=CL jN.out (aQ (show m.length - (k+1)<m.length by omega))
    cases pq
    have BI:l.reverse.drop k=l[l.length - (k+1)]::l.reverse.drop (k+1):=by
     rw[sQ (by simpa using ep),List.getElem_reverse];congr 2; omega
    have BJ:m.reverse.drop k=m[m.length - (k+1)]::m.reverse.drop (k+1):=by
     rw[sQ (by simpa using tR),List.getElem_reverse];congr 2; omega
    generalize l[l.length - (k+1)]=x at *;generalize m[m.length - (k+1)]=y at *;have Cf:Np.cG (l.reverse.drop k) (m.reverse.drop k)=if Np.cF x y≠0 then Np.cF x y else Np.cG (l.reverse.drop (k+1)) (m.reverse.drop (k+1)):=by rw[BI,BJ,Np.cG]
    have HS:=jq Cf;clear BI BJ Cf;have g1:((l.length:Int) - ((k:Int)+1)).toNat=l.length - (k+1):=by omega
    have g2:((m.length:Int) - ((k:Int)+1)).toNat=m.length - (k+1):=by omega
    have f1:(k:Int)+1<=l.length:=by omega
    have f2:(k:Int)+1<=m.length:=by omega
    rcases Np.x9 x y with ⟨h1,h2⟩ | ⟨h1,h2,hn,h3⟩ | ⟨h1,h2,hn,h3⟩
    ·have H2:=jq h2;clear h2;go_wp2_with fail;go_ret;exact⟨iK (by rw[HA.out,HS.out,H2.out]; rfl),al.out⟩
    ·have H3:=jq h3;have hne:(!x == y)=true:=by simp[hn]
     clear h3 hn;go_wp2_with fail;go_ret;exact⟨iK (by rw[HA.out,HS.out,H3.out]; rfl),al.out⟩
    ·have H3:=jq h3;have hne:(!x == y)=false:=by simp[hn]
     clear h3 hn;go_wp2_with fail;go_round
     case rel=>exact⟨k+1,by omega,by omega,by go_num,jq (by rw[HA.out,HS.out,H3.out]; rfl)⟩
     case measure=>simp[intOf] <;> omega
   ·have hm:k=m.length:=by omega
    have be:(m.length:Int)<(k:Int)+1:=by omega
    have aO:(k:Int)+1<=l.length:=by omega
    have cP:(m.length:Int)<(l.length:Int):=by omega
    have hv:Np.cG l.reverse m.reverse=1:=by
     obtain⟨x,r,e⟩:=Q7 ep;rw[HA.out,Fr (l:=m) (by omega),e]; rfl
    have fK:=jq hv;clear hv hm;go_wp2_with fail;go_ret;exact⟨iK fK.out.symm,al.out⟩
  ·have hl:k=l.length:=by omega
   have aO:(l.length:Int)<(k:Int)+1:=by omega
   by_cases tR:k<m.length
   ·have cP:(l.length:Int)<(m.length:Int):=by omega
    have hv:Np.cG l.reverse m.reverse = -1:=by
     obtain⟨x,r,e⟩:=Q7 tR;rw[HA.out,Fr (l:=l) (by omega),e]; rfl
    have fK:=jq hv;clear hv hl;go_wp2_with fail;go_ret;exact⟨iK fK.out.symm,al.out⟩
   ·have cP:(l.length:Int)<=(m.length:Int):=by omega
    have cW:(m.length:Int)<=(l.length:Int):=by omega
    have hv:Np.cG l.reverse m.reverse=0:=by
     rw[HA.out,Fr (l:=l) (by omega),Fr (l:=m) (by omega)]; rfl
    have fK:=jq hv;clear hv hl;go_wp2_with fail;go_ret;exact⟨iK fK.out.symm,al.out⟩
theorem Fl(s z:ByteArray)(hs:s.size<=1000)(hz:z.size<=1000)(h1:Np.aD s.data.toList=true)(h2:Np.aD z.data.toList=true)(w:World) :
 Calls prog 229 #[.string s,.string z] w λe w'=>e = .returned (.tuple #[.int .i64 (Np.aI s.data.toList z.data.toList),.int .i64 0])/\Below w.heap.size w w':=by
 have H1:=jq h1;have H2:=jq h2;clear h1 h2;go_enter func229,ntmps229;go_wp2_with fail;refine (zf s (by omega) _).mono ?_;rintro e w1 ⟨rfl,ap⟩;have ay:=jq ap;clear ap;rw[H1.out];go_wp2_with fail;refine (zf z (by omega) _).mono ?_;rintro e w2 ⟨rfl,ab⟩;have al:=jq (ay.out.trans (ab.mono ay.out.size));clear ab;rw[H2.out];go_wp2_with fail;refine (KD s z hs hz _).mono ?_;rintro e w3 ⟨rfl,ag⟩;have ar:=jq (al.out.trans (ag.mono al.out.size));clear ag;go_wp2_with fail;go_ret2;exact⟨rfl,ar.out⟩
theorem avY(k:Nat)(h1:1<=k)(h8:k<=8)(s:ByteArray)(hs:s.size<=140737488355328)(n m:Int)(w:World) :
 Calls prog 179 #[.int .i64 k,.agg #[.string s,.int .i64 n,.int .i64 m]] w
  λe w'=>e = .returned (.bool (Np.kj (Np.bX k) ⟨s.data.toList,n,m⟩))/\Below w.heap.size w w':=by
 have hk:k=1\/k=2\/k=3\/k=4\/k=5\/k=6\/k=7\/k=8:=by omega
 rcases hk with rfl | rfl | rfl | rfl | rfl | rfl | rfl | rfl
 all_goals
  go_enter func179,ntmps179;go_wp2_with (first
   | (go_at_call 176; refine (Q6 _ _ _ _).mono ?_; rintro e w' ⟨rfl,rfl⟩)
   | (go_at_call 34; refine (zf _ hs _).mono ?_; rintro e w' ⟨rfl,hb⟩; obtain⟨hc,hf⟩:=tq hb)
   | (go_at_call 178; refine (Fp _ hs _).mono ?_; rintro e w' ⟨rfl,rfl⟩)
   | (go_at_call 228; refine (ayJ _ hs _).mono ?_; rintro e w' ⟨rfl,rfl⟩))
  all_goals
   go_ret;go_light;refine⟨ae ?_,?_⟩
   ·simp_all [Np.kj,Np.xq,Np.bX,Np.rules,dQ] <;> (intros; first | omega | (rw[Bool.eq_iff_iff]; simp; omega) | (rw[Bool.eq_iff_iff]; simp; intros; omega) | (rw[Int.tmod_eq_emod_of_nonneg (by omega)]; first | omega | (rw[Bool.eq_iff_iff]; simp; omega)) | show False)
   ·first
     | exact (vQ _ w).alloc (bQ _) _
     | exact ((vQ _ w).alloc (bQ _) _).trans (hb.mono (by simp))
theorem Rg(k:Nat)(h1:1<=k)(h8:k<=8):(Np.bX k).single=(decide ((k:Int)=3)||decide ((k:Int)=4)):=by
 have hk:k=1\/k=2\/k=3\/k=4\/k=5\/k=6\/k=7\/k=8:=by omega
 rcases hk with rfl | rfl | rfl | rfl | rfl | rfl | rfl | rfl <;> rfl
theorem Rh(k:Nat)(h1:1<=k)(h8:k<=8):(Np.bX k).wild=(decide ((k:Int)=1)||decide ((k:Int)=5)||decide ((k:Int)=8)):=by
 have hk:k=1\/k=2\/k=3\/k=4\/k=5\/k=6\/k=7\/k=8:=by omega
 rcases hk with rfl | rfl | rfl | rfl | rfl | rfl | rfl | rfl <;> rfl
theorem Fm(k:Nat)(h1:1<=k)(h8:k<=8)(s:ByteArray)(hs:s.size<=140737488355328)(n m:Int)(w:World)(t:Bool)(ht:Np.kj (Np.bX k) ⟨s.data.toList,n,m⟩=t) :
 Calls prog 179 #[.int .i64 k,.agg #[.string s,.int .i64 n,.int .i64 m]] w λe w'=>e = .returned (.bool t)/\Below w.heap.size w w':=by
 subst ht;exact avY k h1 h8 s hs n m w
theorem Q1(s t:ByteArray)(n1 m1 n2 m2:Int)(w:World)(r:Bool)(hr:decide (Np.qr ⟨s.data.toList,n1,m1⟩ ⟨t.data.toList,n2,m2⟩<0)=r) :
 Calls prog 180 #[.agg #[.string s,.int .i64 n1,.int .i64 m1],.agg #[.string t,.int .i64 n2,.int .i64 m2]] w λe w'=>e = .returned (.bool r)/\Below w.heap.size w w':=by
 subst hr;exact axZ s t n1 m1 n2 m2 w
def U3(w1:World)(r:Np.Rule)(ds:List Np.Datum)(i:Value)(wr:World):Prop:=
 ∃ j:Nat,j<=ds.length/\i = .int .i64 j/\Below w1.heap.size w1 wr/\Np.jo r none ds=Np.jo r (ds.take j).getLast? (ds.drop j)
def xm(s:List UInt8)(ty life:Int)(n:Nat):Bool:=Np.aD s&&(decide (1<=ty)&&decide (ty<=8))&&(decide (0<=life)&&decide (life<=100000))&&(decide ((1:Int)<=n)&&decide ((n:Int)<=8))&&!((decide (ty=3)||decide (ty=4))&&decide ((1:Int)<n))
def MS(w:World)(s:ByteArray)(ty life:Int)(sl:Value)(wx:World):Prop:=
 Below w.heap.size w wx/\w.heap.size<wx.heap.size/\wx.cell? ⟨w.heap.size,0,none⟩=some (.string s)/\wx.cell? ⟨w.heap.size,1,none⟩=some (.int .i64 ty)/\wx.cell? ⟨w.heap.size,2,none⟩=some (.int .i64 life)/\wx.cell? ⟨w.heap.size,3,none⟩=some sl
theorem Q3(s:ByteArray)(hs:s.size<=140737488355328)(ty life:Int)(v:Value)(ds:List Np.Datum)(w:World)(hd:SlR cr 3 w w.heap.size v ds) :
 Calls prog 111 #[.agg #[.string s,.int .i64 ty,.int .i64 life,v]] w
  λe w'=>e = .returned (.bool (Np.dX ⟨s.data.toList,ty,life,ds⟩))/\Below w.heap.size w w':=by
 have HD:=jq hd;obtain⟨A,c,rfl,aV,bi,iF⟩:=hd;clear iF;have ig:¬ (Np.aD s.data.toList=true/\(1<=ty/\ty<=8)/\(0<=life/\life<=100000)/\(1<=ds.length/\ds.length<=8)/\((ty=3\/ty=4)->ds.length<=1)/\(Np.eK s.data.toList=true->ty=1\/ty=5\/ty=8))->Np.dX ⟨s.data.toList,ty,life,ds⟩=false:=λhin=>by
  cases hq:Np.dX ⟨s.data.toList,ty,life,ds⟩ with
  | false=>rfl
  | true=>
   exfalso;unfold Np.dX at hq;simp only[Bool.and_eq_true,Qa,Bool.not_eq_true'] at hq;obtain⟨⟨⟨⟨⟨⟨h1,h2⟩,h3⟩,h4⟩,h5⟩,h6⟩,_⟩:=hq;obtain⟨k,rfl⟩:=Int.eq_ofNat_of_zero_le (by omega:0<=ty);rw[Rg k (by omega) (by omega)] at h5;rw[Rh k (by omega) (by omega)] at h6;refine hin ⟨h1,h2,h3,h4,λht=>?_,λhw=>?_⟩
   ·simp at h5; omega
   ·rw[hw] at h6; simp at h6; omega
 have km:=jq ig;clear ig;go_enter func111,ntmps111;go_upto_region 2 with fail
 go_cut [37] (λt wx=>MS w s ty life (.slice A ds.length c) wx/\t = .bool (!xm s.data.toList ty life ds.length))
 case first=>
  go_wp2_with fail;refine (zf _ hs _).mono ?_;rintro e w1 ⟨rfl,hb⟩;have cV:Below w.heap.size w w1:=((vQ _ w).alloc (bQ _) _).trans (hb.mono (by simp));have ep:w.heap.size<w1.heap.size:=by have:=hb.size; simp at this; omega
  have c0:w1.cell? ⟨w.heap.size,0,none⟩=some (.string s):=by rw[hb.cell (by simp)]; go_simp
  have c1:w1.cell? ⟨w.heap.size,1,none⟩=some (.int .i64 ty):=by rw[hb.cell (by simp)]; go_simp
  have c2:w1.cell? ⟨w.heap.size,2,none⟩=some (.int .i64 life):=by rw[hb.cell (by simp)]; go_simp
  have c3:w1.cell? ⟨w.heap.size,3,none⟩=some (.slice A ds.length c):=by rw[hb.cell (by simp)]; go_simp
  have HH:=jq (show MS w s ty life (.slice A ds.length c) w1 from ⟨cV,ep,c0,c1,c2,c3⟩);clear hb cV;go_wp2_with (first
   | (go_at_call 176; refine (Q6 _ _ _ _).mono ?_; rintro e w' ⟨rfl,rfl⟩)
   | (go_at_call 177; refine (ayZ _ _).mono ?_; rintro e w' ⟨rfl,rfl⟩))
  all_goals
   go_meet
   case rel=>
    refine⟨HH.out,?_⟩;clear HH km HD;go_light
    first
     | (simp_all [xm]; done)
     | (simp_all [xm]; omega)
     | (congr 1; rw[Bool.eq_iff_iff]; simp_all [xm] <;> omega)
 case rest=>
  obtain⟨⟨cV,O1,c0,c1,c2,c3⟩,rfl⟩:=hcut;have aw:=jq cV;clear cV
  cases hq:xm s.data.toList ty life ds.length with
  | false=>
   have HQ:=jq hq;clear hq;go_wp2_with fail;go_ret;refine⟨ae (km.out λ⟨a1,a2,a3,a4,a5,_⟩=>?_).symm,aw.out⟩
   have:=HQ.out
   simp[xm,a1,a2,a3] at this;omega
  | true=>
   have HQ:=jq hq;clear hq;go_upto_region 4 with fail
   go_cut [55] (λt wy=>wy=wc/\t = .bool (Np.eK s.data.toList&&(decide (ty≠1)&&(decide (ty≠5)&&decide (ty≠8)))))
   case first=>
    go_wp2_with (go_at_call 178; refine (Fp _ hs _).mono ?_; rintro e w' ⟨rfl,rfl⟩)
    all_goals
     go_meet
     case rel=>
      refine⟨rfl,?_⟩;clear km HD HQ;go_light
      first
       | (simp_all; done)
       | (simp_all; omega)
       | (congr 1; rw[Bool.eq_iff_iff]; simp_all; done)
       | (congr 1; rw[Bool.eq_iff_iff]; simp_all; omega)
   case rest=>
    obtain⟨rfl,rfl⟩:=hcut
    cases ua:(Np.eK s.data.toList&&(decide (ty≠1)&&(decide (ty≠5)&&decide (ty≠8)))) with
    | true=>
     have ve:=jq ua;clear ua;go_wp2_with fail;go_ret;refine⟨ae (km.out λ⟨_,_,_,_,_,a6⟩=>?_).symm,aw.out⟩
     have:=ve.out
     simp at this
     have:=a6 this.1
     omega
    | false=>
     have hin:Np.aD s.data.toList=true/\(1<=ty/\ty<=8)/\(0<=life/\life<=100000)/\(1<=ds.length/\ds.length<=8)/\((ty=3\/ty=4)->ds.length<=1)/\(Np.eK s.data.toList=true->ty=1\/ty=5\/ty=8):=by
      have h:=HQ.out;simp[xm] at h;obtain⟨⟨⟨⟨h1,h2⟩,h3⟩,h4⟩,h5⟩:=h;refine⟨h1,h2,h3,by omega,by omega,λhw=>?_⟩;rw[hw] at ua;simp at ua;omega
     obtain⟨i1,⟨i2,i3⟩,⟨i4,i5⟩,⟨i6,i7⟩,i8,i9⟩:=hin;obtain⟨k,rfl⟩:=Int.eq_ofNat_of_zero_le (by omega:0<=ty);have hv:Np.dX ⟨s.data.toList,k,life,ds⟩=Np.jo (Np.bX k) none ds:=by
      unfold Np.dX;simp only[Rg k (by omega) (by omega),Rh k (by omega) (by omega),i1,uQ i2,uQ i3,uQ i4,uQ i5,uQ i6,uQ i7,Bool.true_and];have e1:((decide ((k:Int)=3)||decide ((k:Int)=4))&&decide (ds.length≠1))=false:=by
       rw[Bool.eq_false_iff]; simp; omega
      have e2:(Np.eK s.data.toList&&!(decide ((k:Int)=1)||decide ((k:Int)=5)||decide ((k:Int)=8)))=false:=by
       cases hw:Np.eK s.data.toList with
       | false=>rfl
       | true=>have:=i9 hw; simp; omega
      rw[e1,e2]; rfl
     have HV:=jq hv;have Ef:1<=k:=by omega
     have Eg:k<=8:=by omega
     clear hv i8 i9 ua i1 c0 c2 km HQ;go_wp2_with fail;go_loopw [4] (λi wr=>U3 wc (Np.bX k) ds i wr) (λi _=>ds.length - (intOf i).toNat)
     case atStart=>exact⟨0,jQ _,rfl,vQ _ _,rfl⟩
     case round=>
      obtain⟨j,hj,rfl,aG,hg⟩:=hrel;have HG:=jq hg;clear hg;by_cases aa:j<ds.length
      ·have J9:=aG.size;have lV:Below w.heap.size w wr:=aw.out.trans (aG.mono (by omega));have yN:w.heap.size<wr.heap.size:=by omega
       have d1:wr.cell? ⟨w.heap.size,1,none⟩=some (.int .i64 k):=by rw[aG.cell (by simpa using O1)]; exact c1
       have d3:wr.cell? ⟨w.heap.size,3,none⟩=some (.slice A ds.length c):=by rw[aG.cell (by simpa using O1)]; exact c3
       obtain⟨A',c',hA',_,_,br⟩:=HD.out.keep cB lV
       cases hA'
       obtain⟨b,o,e,rfl,bS,_,hce,sd,uc,ud,rfl⟩:=br j _ (aQ aa);have e0:wr.cell? ⟨b,o+j * 3,none⟩=some (.string sd):=hce 0 _ rfl;have e1:wr.cell? ⟨b,o+j * 3+1,none⟩=some (.int .i64 ds[j].n):=hce 1 _ rfl;have e2:wr.cell? ⟨b,o+j * 3+2,none⟩=some (.int .i64 ds[j].m):=hce 2 _ rfl;have dz:b<wr.heap.size:=by omega
       have nD:∀ (g:bF wr) (p:Addr),p.block<wr.heap.size->g.w.cell? p=wr.cell? p:=λg p h=>g.cell p h;have aB:=jq aG;have xC:=jq lV;have Gr:=jq br;have ry:=jq uc;have BD:(⟨sd.data.toList,ds[j].n,ds[j].m⟩:Np.Datum)=ds[j]:=by rw[ry.out]
       have re:=jq BD;clear hce aG lV br uc c1 c3 BD J9;by_cases pO:Np.kj (Np.bX k) ⟨sd.data.toList,ds[j].n,ds[j].m⟩=true
       ·have lh:=jq pO;clear pO;by_cases iH:j=0
        ·subst iH;simp only[Nat.zero_mul,Nat.add_zero] at e0 e1 e2;go_wp2_with fail;refine fe (by kernel_rfl) (by kernel_rfl) ?_
         repeat (go_big_quiet_step ((go_at_call 179; exact Calls.grow_of (Fm _ Ef Eg _ ud _ _ _ true lh.out))))
         refine wpQuiet_nil ?_;rintro _ ⟨g,rfl⟩;go_wp2_with fail;go_roundw
         case rel=>
          go_light;have h1:=Np.NU (r:=Np.bX k) (aQ aa) (by rw[<-re.out]; exact lh.out);exact⟨1,aa,by go_num,aB.out.trans (g.below.mono aB.out.size),by rw[<-h1]; exact HG.out⟩
         case measure=>simp[intOf] <;> omega
        ·obtain⟨i,rfl⟩:∃ i,j=i+1:=⟨j - 1,by omega⟩;obtain⟨b',o',e',pq,vR,_,lq,sq,jx,ZF,rfl⟩:=Gr.out i _ (aQ (by omega))
         cases pq
         have f0:wr.cell? ⟨b,o+i * 3,none⟩=some (.string sq):=lq 0 _ rfl;have f1:wr.cell? ⟨b,o+i * 3+1,none⟩=some (.int .i64 (ds[i]'(by omega)).n):=lq 1 _ rfl;have f2:wr.cell? ⟨b,o+i * 3+2,none⟩=some (.int .i64 (ds[i]'(by omega)).m):=lq 2 _ rfl;have BC:(⟨sq.data.toList,(ds[i]'(by omega)).n,(ds[i]'(by omega)).m⟩:Np.Datum)=ds[i]'(by omega):=by rw[jx]
         have Gk:=jq BC;clear lq jx BC;have qE:(0:Int)<((i+1:Nat):Int):=by omega
         have h1:=Np.NV (r:=Np.bX k) (aQ (by omega:i<ds.length)) (aQ aa) (by rw[<-re.out]; exact lh.out);rw[<-re.out,<-Gk.out] at h1;have H1:=jq h1;clear h1;by_cases fN:Np.qr ⟨sq.data.toList,(ds[i]'(by omega)).n,(ds[i]'(by omega)).m⟩ ⟨sd.data.toList,ds[i+1].n,ds[i+1].m⟩<0
         ·have kW:=jq fN;have Gi:=jq (uQ fN);clear fN;go_wp2_with fail;refine fe (by kernel_rfl) (by kernel_rfl) ?_
          repeat (go_big_quiet_step (first
           | (go_at_call 179; exact Calls.grow_of (Fm _ Ef Eg _ ud _ _ _ true lh.out))
           | (go_at_call 180; exact Calls.grow_of (Q1 _ _ _ _ _ _ _ true Gi.out))))
          refine wpQuiet_nil ?_;rintro _ ⟨g,rfl⟩;go_wp2_with fail;go_roundw
          case rel=>
           go_light;exact⟨i+1+1,aa,by go_num,aB.out.trans (g.below.mono aB.out.size),by rw[HG.out,H1.out,Qb kW.out]⟩
          case measure=>simp[intOf] <;> omega
         ·have kW:=jq fN;have Gi:=jq (tQ fN);clear fN;go_wp2_with fail;refine fe (by kernel_rfl) (by kernel_rfl) ?_
          repeat (go_big_quiet_step (first
           | (go_at_call 179; exact Calls.grow_of (Fm _ Ef Eg _ ud _ _ _ true lh.out))
           | (go_at_call 180; exact Calls.grow_of (Q1 _ _ _ _ _ _ _ false Gi.out))))
          refine wpQuiet_nil ?_;rintro _ ⟨g,rfl⟩;go_wp2_with fail;go_ret;refine⟨ae ?_,xC.out.trans (g.below.mono (by omega))⟩;rw[HV.out,HG.out,H1.out,Qc (by have:=kW.out; omega)]
       ·have Cm:Np.kj (Np.bX k) ⟨sd.data.toList,ds[j].n,ds[j].m⟩=false:=by simpa using pO
        have lh:=jq Cm;clear pO Cm;go_wp2_with fail;refine fe (by kernel_rfl) (by kernel_rfl) ?_
        repeat (go_big_quiet_step ((go_at_call 179; exact Calls.grow_of (Fm _ Ef Eg _ ud _ _ _ false lh.out))))
        refine wpQuiet_nil ?_;rintro _ ⟨g,rfl⟩;go_wp2_with fail;go_ret;refine⟨ae ?_,xC.out.trans (g.below.mono (by omega))⟩;rw[HV.out,HG.out,Np.NT (aQ aa) (by rw[<-re.out]; exact lh.out)]
      ·go_wp2_with fail;go_ret;refine⟨ae ?_,aw.out.trans (aG.mono (by omega))⟩;rw[HV.out,HG.out,List.drop_eq_nil_of_le (by omega)];rfl
theorem yY{s:ByteArray}(h:Np.aD s.data.toList=true):s.size<=60:=by
 rw[Np.RQ] at h;split at h
 ·rename_i e; rw[<-aT,e]; decide
 ·split at h
  ·cases h
  ·rename_i h6; rw[aT] at h6; omega
theorem axY(s1 s2:ByteArray)(t1 l1 t2 l2:Int)(v1 v2:Value)(d1 d2:List Np.Datum)(n1:Np.aD s1.data.toList=true)(n2:Np.aD s2.data.toList=true)(w:World) :
 Calls prog 182 #[.agg #[.string s1,.int .i64 t1,.int .i64 l1,v1],.agg #[.string s2,.int .i64 t2,.int .i64 l2,v2]] w
  λe w'=>e = .returned (.int .i64 (Np.gK ⟨s1.data.toList,t1,l1,d1⟩ ⟨s2.data.toList,t2,l2,d2⟩))/\Below w.heap.size w w':=by
 have hw:∀ o o',Below w.heap.size w ((w.alloc o).alloc o'):=λo o'=>((vQ _ w).alloc (bQ _) _).alloc (by simp) _;have HW:=jq hw;clear hw;have bL:=yY n1;have aM:=yY n2;have N1:=jq n1;have N2:=jq n2;have hc:=Np.DG ⟨s1.data.toList,t1,l1,d1⟩ ⟨s2.data.toList,t2,l2,d2⟩;simp only at hc;rw[hc];clear n1 n2 hc;generalize hQ:Np.aI s1.data.toList s2.data.toList=q;have HQ:=jq hQ;clear hQ;have key:∀ r:Int,(q≠0->r=q)->(q=0->r=Np.cJ t1 t2)->(if q≠0 then q else Np.cJ t1 t2)=r:=λr h1 h2=>by
  by_cases h:q=0
  ·rw[Qc (λe=>e h),h2 h]
  ·rw[Qb h,h1 h]
 have KEY:=jq key;clear key;by_cases hq:q=0
 ·have KQ:=jq hq;subst hq;by_cases h1:t1<t2
  ·rw[KEY.out (-1) (λe=>absurd rfl e) (λ_=>by rw[Np.cJ,Qb h1])];go_enter func182,ntmps182;go_wp2_with fail;refine (Fl s1 s2 (by omega) (by omega) N1.out N2.out _).mono ?_;rw[HQ.out];rintro e w1 ⟨rfl,hb⟩;obtain⟨aV,tJ⟩:=tq hb;have HB:=jq ((HW.out _ _).trans (hb.mono (by simp; omega)));clear hb;go_wp2_with fail;go_ret;exact⟨rfl,HB.out⟩
  ·by_cases h2:t2<t1
   ·rw[KEY.out 1 (λe=>absurd rfl e) (λ_=>by rw[Np.cJ,Qc h1,Qb h2])];go_enter func182,ntmps182;go_wp2_with fail;refine (Fl s1 s2 (by omega) (by omega) N1.out N2.out _).mono ?_;rw[HQ.out];rintro e w1 ⟨rfl,hb⟩;obtain⟨aV,tJ⟩:=tq hb;have HB:=jq ((HW.out _ _).trans (hb.mono (by simp; omega)));clear hb;go_wp2_with fail;go_ret;exact⟨rfl,HB.out⟩
   ·rw[KEY.out 0 (λe=>absurd rfl e) (λ_=>by rw[Np.cJ,Qc h1,Qc h2])];go_enter func182,ntmps182;go_wp2_with fail;refine (Fl s1 s2 (by omega) (by omega) N1.out N2.out _).mono ?_;rw[HQ.out];rintro e w1 ⟨rfl,hb⟩;obtain⟨aV,tJ⟩:=tq hb;have HB:=jq ((HW.out _ _).trans (hb.mono (by simp; omega)));clear hb;go_wp2_with fail;go_ret;exact⟨rfl,HB.out⟩
 ·have ua:(q != 0)=true:=by simpa using hq
  rw[KEY.out q (λ_=>rfl) (λe=>absurd e hq)];clear hq;go_enter func182,ntmps182;go_wp2_with fail;refine (Fl s1 s2 (by omega) (by omega) N1.out N2.out _).mono ?_;rw[HQ.out];rintro e w1 ⟨rfl,hb⟩;obtain⟨aV,tJ⟩:=tq hb;have HB:=jq ((HW.out _ _).trans (hb.mono (by simp; omega)));clear hb;go_wp2_with fail;go_ret;exact⟨rfl,HB.out⟩
theorem KS{c:UInt8}{r:List UInt8}(hc:c≠46):∃ x xs,Np.aR (c::r)=(c::x)::xs:=by
 unfold Np.aR;rw[Qc hc]
 cases Np.aR r with
 | nil=>exact⟨[],[],rfl⟩
 | cons x xs=>exact⟨x,xs,rfl⟩
theorem RX{l:List UInt8}(h:Np.aD l=true):Np.eK l=((Np.eB l).head? == some [42]):=by
 unfold Np.eB;by_cases hd:l = [46]
 ·subst hd; decide
 ·rw[Qc hd]
  cases l with
  | nil=>exact absurd h (by decide)
  | cons c r=>
   have hg:Np.fp (Np.aR (c::r)).reverse 0 false=true:=by
    unfold Np.aD at h;rw[Qc hd] at h;split at h
    ·cases h
    ·exact h
   have hl:=Np.NW _ _ _ hg;by_cases hc:c=46
   ·subst hc;have e:Np.aR (46::r) = []::Np.aR r:=by rw[Np.aR,Qb rfl]
    rw[e] at hl
    have:=hl [] (by simp)
    rcases this with h1 | h1
    ·cases h1
    ·exact absurd h1 (by decide)
   ·obtain⟨x,xs,e⟩:=KS (r:=r) hc;rw[e] at hl |-;rw[Bool.eq_iff_iff];simp only[Np.eK,List.head?_cons,beq_iff_eq,Option.some.injEq,List.cons.injEq];constructor
    ·rintro rfl;rcases hl (42::x) (by simp) with h1 | h1
     ·simpa using h1
     ·exfalso;unfold Np.cw at h1;simp only[Bool.and_eq_true,List.all_cons] at h1;exact absurd h1.2.1 (by decide)
    ·exact λh=>h.1
theorem Q5(s:ByteArray)(h:Np.aD s.data.toList=true)(w:World) :
 Calls prog 110 #[.string s] w λe w'=>e = .returned (.bool (Np.eK s.data.toList))/\Below w.heap.size w w':=by
 have hw:=RX h;have am:=yY h;obtain⟨ps,gi⟩:∃ ps,Np.eB s.data.toList=ps:=⟨_,rfl⟩;obtain⟨r,hr⟩:∃ r,(ps.head? == some [42])=r:=⟨_,rfl⟩;rw[hw,gi,hr];have rv:=jq gi;have HR:=jq hr;clear hw h gi hr;go_enter func110,ntmps110;go_wp2_with fail;refine (CF s (by omega) _).mono ?_;rw[rv.out];rintro e w1 ⟨v,rfl,hv,hb⟩;have HB:=jq hb;clear hb;obtain⟨A,c,rfl,hc,hl,he⟩:=hv
 cases ps with
 | nil=>
  have HX:Hid (r=false):=jq (by rw[<-HR.out]; rfl);go_wp2_with fail;go_ret;exact⟨ae HX.out.symm,HB.out⟩
 | cons x xs=>
  obtain⟨b,o,e,rfl,bZ,_,hce,hx⟩:=he 0 x rfl;have hx':e = [aA x]:=hx;subst hx';have h0:w1.cell? ⟨b,o,none⟩=some (aA x):=by have:=hce 0 _ rfl; simpa using this
  have HX:Hid ((x == [42])=r):=jq (by rw[<-HR.out,List.head?_cons,Bool.eq_iff_iff]; simp);obtain⟨n,hn⟩:∃ n,(x::xs).length=n:=⟨_,rfl⟩;have mJ:0<n:=by rw[<-hn]; simp
  have Y7:(0:Int)<(n:Int):=by omega
  rw[hn];clear he hce hx hc hl hn;go_wp2_with fail
  all_goals
   go_ret;refine⟨ae ?_,HB.out⟩;rw[<-HX.out]
end
end Go.Proofs.YtbfbobfbgabjiaaGreatDoor
