/- No condition. -/
import Derived.Deep.DeepCutAuto
import Derived.Test.YtadhigmjilijcaaGreatDoorH04
import Derived.Test.YtadhigmjilijcaaGreatDoorH05
set_option linter.all false
set_option maxRecDepth 100000
set_option maxHeartbeats 8000000
namespace Go.Proofs.YtadhigmjilijcaaGreatDoor
open Go.Proofs.Tryz
section
open Go.RowKit
theorem GM(x:List UInt8)(hx:x.length<=140737488355328)(w:World):Calls prog 56 #[bB x] w (aCY w (.bool (Np.cD x))):=by
 have:=boK ⟨x.toArray⟩ (by rw[<-bO];simpa using hx) w
 simpa using this
def GF(l:List (List UInt8))(j:Nat):Prop:=∃ x,l[j]?=some x/\(Np.cD x=true\/(j=0/\x = [42]))
theorem a9K{l:List (List UInt8)}(h:∀ j,j<l.length->GF l j):Np.iE l=true:=by
 cases l with
 | nil=>rfl
 | cons a t=>
  unfold Np.iE;rw[Bool.and_eq_true];constructor
  ·obtain⟨x,hx,ho⟩:=h 0 (by simp);simp at hx;subst hx;rcases ho with ho | ⟨_,ho⟩<;>simp[ho]
  ·rw[List.all_eq_true];intro y hy;obtain⟨j,hj,rfl⟩:=nQ.1 hy;obtain⟨x,hx,ho⟩:=h (j+1) (by simpa using hj);simp only[List.getElem?_cons_succ,aQ hj,Option.some.injEq] at hx;rcases ho with ho | ⟨h0,_⟩
   ·rw[hx];exact ho
   ·omega
theorem TM{l:List (List UInt8)}{j:Nat}{x:List UInt8}(hx:l[j]?=some x)(h1:Np.cD x=false)(h2:j=0->x≠[42]):Np.iE l=false:=by
 cases l with
 | nil=>simp at hx
 | cons a t=>
  unfold Np.iE
  cases j with
  | zero=>simp at hx;subst hx;simp[h1,h2 rfl]
  | succ j=>
   have:t.all Np.cD=false:=by
    rw[List.all_eq_false];exact⟨x,gQ (by simpa using hx),by simp[h1]⟩
   show ((Np.cD a||a == [42])&&t.all Np.cD)=false;rw[this,Bool.and_false]
theorem Mg:∀ l:List UInt8,(Np.be l).length<=l.length+1:=by
 intro l
 induction l with
 | nil=>simp[Np.be]
 | cons c r ih=>
  rw[Np.be];split
  ·simp;omega
  ·split
   ·rename_i x xs hx;rw[hx] at ih;simp at ih |-;omega
   ·simp
theorem vH(s:ByteArray)(hs:s.size<=140737488355328)(w:World) :
 Calls prog 20 #[.string s] w (aCX w.heap.size w (.bool (Np.ai s.data.toList))):=by
 rw[Np.yt];by_cases h:s.data.toList = [46]
 ·have he:(s.toList == [46])=true:=by rw[dQ,h];rfl
  rw[QbQ h];clear h;go_enter func20,ntmps20;go_wp2_with fail;go_ret;exact⟨rfl,vQ _ _⟩
 ·have he:(s.toList == [46])=false:=by rw[dQ];simpa using h
  rw[Qc h];clear h;by_cases qh:60<s.size
  ·rw[QbQ (by rw[bO];exact qh)];have h6:60<(s.size:Int):=by omega
   go_enter func20,ntmps20;go_wp2_with fail;go_ret;exact⟨rfl,vQ _ _⟩
  ·rw[Qc (by rw[bO];exact qh)];have h6:(s.size:Int)<=60:=by omega
   have hlen:=Mg s.data.toList;have F3:∀ y∈Np.be s.data.toList,y.length<=60:=λy hy=>by have:=Np.Mf hy;rw[bO] at this;omega
   rw[bO] at hlen;generalize hL:Np.be s.data.toList=l at *;have HM:=jq F3;have cF:=jq hL;clear F3 hL;go_enter func20,ntmps20;go_wp2_with fail;refine (Us s (by omega) _).mono ?_;rw[cF.out];rintro e w1 ⟨v,rfl,hv,hb⟩;have HV:=jq hv;have HB:=jq hb;obtain⟨A,c,rfl,hc,_,_⟩:=hv;clear hb;go_wp2_with fail;go_loop [4] (λi=>∃ k:Nat,k<=l.length/\i = .int .i64 k/\Hid (∀ j,j<k->GF l j)) (λi=>l.length - (intOf i).toNat)
   case atStart=>exact⟨0,jQ _,rfl,jq (λj h=>by omega)⟩
   case round=>
    obtain⟨k,hk,rfl,HA⟩:=hrel;by_cases ag:k<l.length
    ·obtain⟨b,o,c',hA,_,_,hcell⟩:=DR HV.out (aQ ag)
     cases hA
     have hx:=HM.out _ (List.getElem_mem ag);have aF:l[k]?=some l[k]:=aQ ag;generalize l[k]=x at *;have HG:=jq aF;clear aF;have C6:GF l k->∀ j,j<k+1->GF l j:=λh j hj=>by
      by_cases e:j=k
      ·subst e;exact h
      ·exact HA.out j (by omega)
     have HX:=jq C6;clear C6
     cases hl:Np.cD x with
     | true=>
      have HL:=jq hl;go_wp2_with (go_at_call 56;refine (GM _ (by omega) _).mono ?_;rintro e w' ⟨rfl,rfl⟩);go_round
      case rel=>exact⟨k+1,by omega,by go_num,jq (HX.out ⟨_,HG.out,.inl HL.out⟩)⟩
      ·simp[intOf]<;>omega
     | false=>
      have HL:=jq hl;by_cases df:k=0
      ·subst df;simp only[Nat.add_zero] at hcell;by_cases JU:x = [42]
       ·subst JU;go_wp2_with (go_at_call 56;refine (GM _ (by simp) _).mono ?_;rintro e w' ⟨rfl,rfl⟩);go_round
        case rel=>exact⟨1,by omega,by go_num,jq (HX.out ⟨_,HG.out,.inr ⟨rfl,rfl⟩⟩)⟩
        ·simp[intOf]<;>omega
       ·have hne:(x == [42])=false:=by simpa using JU
        go_wp2_with (go_at_call 56;refine (GM _ (by omega) _).mono ?_;rintro e w' ⟨rfl,rfl⟩);go_ret;exact⟨aj (by rw[TM HG.out HL.out (λ_=>JU)];rfl),HB.out⟩
      ·have hkp:(0:Int)<k:=by omega
       go_wp2_with (go_at_call 56;refine (GM _ (by omega) _).mono ?_;rintro e w' ⟨rfl,rfl⟩);go_ret;exact⟨aj (by rw[TM HG.out HL.out (λe=>absurd e df)];rfl),HB.out⟩
    ·have fe:Np.iE l=true:=a9K (λj hj=>HA.out j (by omega));have dj:=jq fe;clear fe;go_wp2_with fail;go_ret;exact⟨aj (by rw[dj.out,Bool.true_and,Bool.eq_iff_iff];simp;omega),HB.out⟩
theorem DH(s z:ByteArray)(hs:s.size<=1000)(hz:z.size<=1000)(w:World) :
 Calls prog 21 #[.string s,.string z] w (aCX w.heap.size w (.bool (Np.inL (Np.bC s.data.toList) (Np.bC z.data.toList)))):=by
 have xy:∀ t:ByteArray,t.size<=1000->(Np.bC t.data.toList).length<=1001:=λt ht=>by
  unfold Np.bC;split
  ·simp
  ·have:=Mg t.data.toList;rw[bO] at this;omega
 have cP:=xy s hs;have ei:=xy z hz;clear xy;generalize om:Np.bC s.data.toList=l at *;generalize Cm:Np.bC z.data.toList=m at *;have Iy:=jq om;have Iz:=jq Cm;clear om Cm;go_enter func21,ntmps21;go_wp2_with fail;refine (DI s (by omega) _).mono ?_;rw[Iy.out];rintro e w1 ⟨v,rfl,hv,hb⟩;have HV:=jq hv;have HB:=jq hb;obtain⟨A,c,rfl,hc,_,_⟩:=hv;clear hb;go_wp2_with fail;refine (DI z (by omega) _).mono ?_;rw[Iz.out];rintro e w2 ⟨v2,rfl,tT,ae⟩;have pW:=jq ((HV.out.keep GR ae).more UD ae.size);have sY:=jq tT;have am:=jq (HB.out.trans (ae.mono HB.out.size));obtain⟨A2,c2,rfl,cH,_,_⟩:=tT;clear ae HV;by_cases hlen:m.length<=l.length
 ·have kZ:(m.length:Int)<=(l.length:Int):=by omega
  go_wp2_with fail;go_loopw [7] (λi wr=>∃ k:Nat,k<=m.length/\i = .int .i64 k/\Hid (∀ j,j<k->l[l.length - m.length+j]?=m[j]?)/\Hid (Below w2.heap.size w2 wr)) (λi _=>m.length - (intOf i).toNat)
  case atStart=>exact⟨0,jQ _,rfl,jq (λj h=>by omega),jq (vQ _ _)⟩
  case round=>
   obtain⟨k,hk,rfl,HA,HW⟩:=hrel;by_cases ag:k<m.length
   ·obtain⟨b,o,c',hA,_,_,hcell⟩:=DR (pW.out.keep GR HW.out) (aQ (show l.length - m.length+k<l.length by omega))
    cases hA
    obtain⟨b2,o2,c2',qi,_,_,aKK⟩:=DR (sY.out.keep GR HW.out) (aQ ag)
    cases qi
    have CN:l[l.length - m.length+k]?=some l[l.length - m.length+k]:=aQ _;have CO:m[k]?=some m[k]:=aQ ag;generalize l[l.length - m.length+k]=x at *;generalize m[k]=y at *;have pS:=jq CN;have lD:=jq CO;clear CN CO;have ah:IntKind.i64.wrap ((l.length:Int) - (m.length:Int))=(l.length:Int) - m.length:=IntWalk.i64_in _ (by omega);have ar:IntKind.i64.wrap ((l.length:Int) - (m.length:Int)+k)=(l.length:Int) - m.length+k:=IntWalk.i64_in _ (by omega);have e1:(0:Int)<=(l.length:Int) - m.length+k:=by omega
    have e2:(l.length:Int) - m.length+k<l.length:=by omega
    have e3:((l.length:Int) - m.length+k).toNat=l.length - m.length+k:=by omega
    have e4:(0:Int)<=k:=by omega
    have e5:(k:Int)<m.length:=by omega
    by_cases dY:x=y
    ·have hne:(!x == y)=false:=by simp[dY]
     have wJ:=jq dY;clear dY;go_wp2_with fail;go_quiet (fail);go_wp2_with fail;go_roundw
     case rel=>
      refine⟨k+1,by omega,by go_num,jq (λj hj=>?_),jq (below_drewN HW.out _)⟩;by_cases e:j=k
      ·subst e;rw[pS.out,lD.out,wJ.out]
      ·exact HA.out j (by omega)
     case measure=>simp[intOf]<;>omega
    ·have hne:(!x == y)=true:=by simp[dY]
     have wJ:=jq dY;clear dY;go_wp2_with fail;go_quiet (fail);go_wp2_with fail;go_ret;refine⟨aj ?_,am.out.trans ((below_drewN HW.out _).mono am.out.size)⟩
     symm
     unfold Np.inL;rw[uQ hlen,Bool.true_and,beq_eq_false_iff_ne];intro h;have h1:=Qd (·[k]?) h;simp only[List.getElem?_drop] at h1;rw[pS.out,lD.out] at h1;exact wJ.out (Option.some.inj h1)
   ·go_wp2_with fail;go_ret;refine⟨aj ?_,am.out.trans (HW.out.mono am.out.size)⟩
    symm
    unfold Np.inL;rw[uQ hlen,Bool.true_and,beq_iff_eq];apply List.ext_getElem?;intro j;rw[List.getElem?_drop];by_cases hj:j<m.length
    ·exact HA.out j (by omega)
    ·rw[List.getElem?_eq_none (by omega),List.getElem?_eq_none (by omega)]
 ·have kZ:(l.length:Int)<(m.length:Int):=by omega
  go_wp2_with fail;go_ret;exact⟨aj (by unfold Np.inL;rw[tQ hlen];rfl),am.out⟩
theorem GP{l:List (List UInt8)}{k:Nat}(h:l.length<=k):l.reverse.drop k = []:=List.drop_eq_nil_of_le (by simpa using h)
theorem Uv{l:List (List UInt8)}{k:Nat}(h:k<l.length):∃ x r,l.reverse.drop k=x::r:=⟨_,_,sQ (by simpa using h)⟩
theorem Up(s z:ByteArray)(hs:s.size<=1000)(hz:z.size<=1000)(w:World) :
 Calls prog 194 #[.string s,.string z] w (aCX w.heap.size w (.int .i64 (Np.br s.data.toList z.data.toList))):=by
 rw[Np.B6,<-Np.oI,<-Np.oI];have xy:∀ t:ByteArray,t.size<=1000->(Np.bC t.data.toList).length<=1001:=λt ht=>by
  unfold Np.bC;split
  ·simp
  ·have:=Mg t.data.toList;rw[bO] at this;omega
 have cP:=xy s hs;have ei:=xy z hz;clear xy;generalize om:Np.bC s.data.toList=l at *;generalize Cm:Np.bC z.data.toList=m at *;have Iy:=jq om;have Iz:=jq Cm;clear om Cm;go_enter func194,ntmps194;go_wp2_with fail;refine (DI s (by omega) _).mono ?_;rw[Iy.out];rintro e w1 ⟨v,rfl,hv,hb⟩;have HV:=jq hv;have HB:=jq hb;obtain⟨A,c,rfl,hc,_,_⟩:=hv;clear hb;go_wp2_with fail;refine (DI z (by omega) _).mono ?_;rw[Iz.out];rintro e w2 ⟨v2,rfl,tT,ae⟩;have pW:=jq ((HV.out.keep GR ae).more UD ae.size);have sY:=jq tT;have am:=jq (HB.out.trans (ae.mono HB.out.size));obtain⟨A2,c2,rfl,cH,_,_⟩:=tT;clear ae HV;go_wp2_with fail;go_loop [7] (λi=>∃ k:Nat,k<=l.length/\k<=m.length/\i = .int .i64 ((k:Int)+1)/\Hid (Np.dt l.reverse m.reverse=Np.dt (l.reverse.drop k) (m.reverse.drop k))) (λi=>l.length+1 - (intOf i).toNat)
 case atStart=>exact⟨0,jQ _,jQ _,rfl,jq rfl⟩
 case round=>
  obtain⟨k,dg,qD,rfl,HA⟩:=hrel;by_cases eH:k<l.length
  ·by_cases tG:k<m.length
   ·obtain⟨b,o,c',hA,_,_,hcell⟩:=DR pW.out (aQ (show l.length - (k+1)<l.length by omega))
    cases hA
    obtain⟨b2,o2,c2',qi,_,_,aKK⟩:=DR sY.out (aQ (show m.length - (k+1)<m.length by omega))
    cases qi
    have CN:l.reverse.drop k=l[l.length - (k+1)]::l.reverse.drop (k+1):=by
     rw[sQ (by simpa using eH),List.getElem_reverse];congr 2;omega
    have CO:m.reverse.drop k=m[m.length - (k+1)]::m.reverse.drop (k+1):=by
     rw[sQ (by simpa using tG),List.getElem_reverse];congr 2;omega
    generalize l[l.length - (k+1)]=x at *;generalize m[m.length - (k+1)]=y at *;have Dh:Np.dt (l.reverse.drop k) (m.reverse.drop k)=if Np.dp x y≠0 then Np.dp x y else Np.dt (l.reverse.drop (k+1)) (m.reverse.drop (k+1)):=by rw[CN,CO,Np.dt]
    have HS:=jq Dh;clear CN CO Dh;have g1:((l.length:Int) - ((k:Int)+1)).toNat=l.length - (k+1):=by omega
    have g2:((m.length:Int) - ((k:Int)+1)).toNat=m.length - (k+1):=by omega
    have f1:(k:Int)+1<=l.length:=by omega
    have f2:(k:Int)+1<=m.length:=by omega
    rcases Np.zg x y with ⟨h1,h2⟩ | ⟨h1,h2,hn,h3⟩ | ⟨h1,h2,hn,h3⟩
    ·have H2:=jq h2;clear h2;go_wp2_with fail;go_ret;exact⟨jM (by rw[HA.out,HS.out,H2.out];rfl),am.out⟩
    ·have H3:=jq h3;have hne:(!x == y)=true:=by simp[hn]
     clear h3 hn;go_wp2_with fail;go_ret;exact⟨jM (by rw[HA.out,HS.out,H3.out];rfl),am.out⟩
    ·have H3:=jq h3;have hne:(!x == y)=false:=by simp[hn]
     clear h3 hn;go_wp2_with fail;go_round
     case rel=>exact⟨k+1,by omega,by omega,by go_num,jq (by rw[HA.out,HS.out,H3.out];rfl)⟩
     ·simp[intOf]<;>omega
   ·have hm:k=m.length:=by omega
    have mb:(m.length:Int)<(k:Int)+1:=by omega
    have CZ:(k:Int)+1<=l.length:=by omega
    have tI:(m.length:Int)<(l.length:Int):=by omega
    have hv:Np.dt l.reverse m.reverse=1:=by
     obtain⟨x,r,e⟩:=Uv eH;rw[HA.out,GP (l:=m) (by omega),e];rfl
    have BM:=jq hv;clear hv hm;go_wp2_with fail;go_ret;exact⟨jM BM.out.symm,am.out⟩
  ·have hl:k=l.length:=by omega
   have CZ:(l.length:Int)<(k:Int)+1:=by omega
   by_cases tG:k<m.length
   ·have tI:(l.length:Int)<(m.length:Int):=by omega
    have hv:Np.dt l.reverse m.reverse = -1:=by
     obtain⟨x,r,e⟩:=Uv tG;rw[HA.out,GP (l:=l) (by omega),e];rfl
    have BM:=jq hv;clear hv hl;go_wp2_with fail;go_ret;exact⟨jM BM.out.symm,am.out⟩
   ·have tI:(l.length:Int)<=(m.length:Int):=by omega
    have Sr:(m.length:Int)<=(l.length:Int):=by omega
    have hv:Np.dt l.reverse m.reverse=0:=by
     rw[HA.out,GP (l:=l) (by omega),GP (l:=m) (by omega)];rfl
    have BM:=jq hv;clear hv hl;go_wp2_with fail;go_ret;exact⟨jM BM.out.symm,am.out⟩
theorem GK(s z:ByteArray)(hs:s.size<=1000)(hz:z.size<=1000)(h1:Np.ai s.data.toList=true)(h2:Np.ai z.data.toList=true)(w:World) :
 Calls prog 192 #[.string s,.string z] w (aCX w.heap.size w (.tuple #[.int .i64 (Np.br s.data.toList z.data.toList),.int .i64 0])):=by
 have H1:=jq h1;have H2:=jq h2;clear h1 h2;go_enter func192,ntmps192;go_wp2_with fail;refine (vH s (by omega) _).mono ?_;rintro e w1 ⟨rfl,av⟩;have ay:=jq av;clear av;rw[H1.out];go_wp2_with fail;refine (vH z (by omega) _).mono ?_;rintro e w2 ⟨rfl,ae⟩;have am:=jq (ay.out.trans (ae.mono ay.out.size));clear ae;rw[H2.out];go_wp2_with fail;refine (Up s z hs hz _).mono ?_;rintro e w3 ⟨rfl,aq⟩;have aw:=jq (am.out.trans (aq.mono am.out.size));clear aq;go_wp2_with fail;go_ret2;exact⟨rfl,aw.out⟩
theorem bnY(k:Nat)(h1:1<=k)(h8:k<=8)(s:ByteArray)(hs:s.size<=140737488355328)(n m:Int)(w:World) :
 Calls prog 169 #[.int .i64 k,.agg #[.string s,.int .i64 n,.int .i64 m]] w
  λe w'=>e = .returned (.bool (Np.ml (Np.du k) ⟨s.data.toList,n,m⟩))/\Below w.heap.size w w':=by
 have hk:k=1\/k=2\/k=3\/k=4\/k=5\/k=6\/k=7\/k=8:=by omega
 rcases hk with rfl | rfl | rfl | rfl | rfl | rfl | rfl | rfl
 all_goals
  go_enter func169,ntmps169;go_wp2_with (first
   | (go_at_call 166;refine (Ut _ _ _ _).mono ?_;rintro e w' ⟨rfl,rfl⟩)
   | (go_at_call 20;refine (vH _ hs _).mono ?_;rintro e w' ⟨rfl,hb⟩;obtain⟨hc,hf⟩:=eh hb)
   | (go_at_call 168;refine (GN _ hs _).mono ?_;rintro e w' ⟨rfl,rfl⟩)
   | (go_at_call 237;refine (bpY _ hs _).mono ?_;rintro e w' ⟨rfl,rfl⟩))
  all_goals
   go_ret;go_light;refine⟨aj ?_,?_⟩
   ·simp_all [Np.ml,Np.DW,Np.du,Np.GS,dQ]<;>(intros;first | omega | (rw[Bool.eq_iff_iff];simp;omega) | (rw[Bool.eq_iff_iff];simp;intros;omega) | (rw[Int.tmod_eq_emod_of_nonneg (by omega)];first | omega | (rw[Bool.eq_iff_iff];simp;omega)) | show False)
   ·first
     | exact (vQ _ w).alloc (bQ _) _
     | exact ((vQ _ w).alloc (bQ _) _).trans (hb.mono (by simp))
theorem UH(k:Nat)(h1:1<=k)(h8:k<=8):(Np.du k).single=(decide ((k:Int)=3)||decide ((k:Int)=4)):=by
 have hk:k=1\/k=2\/k=3\/k=4\/k=5\/k=6\/k=7\/k=8:=by omega
 rcases hk with rfl | rfl | rfl | rfl | rfl | rfl | rfl | rfl<;>rfl
theorem UI(k:Nat)(h1:1<=k)(h8:k<=8):(Np.du k).wild=(decide ((k:Int)=1)||decide ((k:Int)=5)||decide ((k:Int)=8)):=by
 have hk:k=1\/k=2\/k=3\/k=4\/k=5\/k=6\/k=7\/k=8:=by omega
 rcases hk with rfl | rfl | rfl | rfl | rfl | rfl | rfl | rfl<;>rfl
theorem GL(k:Nat)(h1:1<=k)(h8:k<=8)(s:ByteArray)(hs:s.size<=140737488355328)(n m:Int)(w:World)(t:Bool)(ht:Np.ml (Np.du k) ⟨s.data.toList,n,m⟩=t) :
 Calls prog 169 #[.int .i64 k,.agg #[.string s,.int .i64 n,.int .i64 m]] w (aCX w.heap.size w (.bool t)):=by
 subst ht;exact bnY k h1 h8 s hs n m w
theorem Uo(s t:ByteArray)(n1 m1 n2 m2:Int)(w:World)(r:Bool)(hr:decide (Np.rH ⟨s.data.toList,n1,m1⟩ ⟨t.data.toList,n2,m2⟩<0)=r) :
 Calls prog 170 #[.agg #[.string s,.int .i64 n1,.int .i64 m1],.agg #[.string t,.int .i64 n2,.int .i64 m2]] w (aCX w.heap.size w (.bool r)):=by
 subst hr;exact boX s t n1 m1 n2 m2 w
def afX(w1:World)(r:Np.Rule)(ds:List Np.Datum)(i:Value)(wr:World):Prop:=
 ∃ j:Nat,j<=ds.length/\i = .int .i64 j/\Below w1.heap.size w1 wr/\Np.jy r none ds=Np.jy r (ds.take j).getLast? (ds.drop j)
def yf(s:List UInt8)(ty life:Int)(n:Nat):Bool:=Np.ai s&&(decide (1<=ty)&&decide (ty<=8))&&(decide (0<=life)&&decide (life<=100000))&&(decide ((1:Int)<=n)&&decide ((n:Int)<=8))&&!((decide (ty=3)||decide (ty=4))&&decide ((1:Int)<n))
def PN(w:World)(s:ByteArray)(ty life:Int)(sl:Value)(wx:World):Prop:=
 Below w.heap.size w wx/\w.heap.size<wx.heap.size/\wx.cell? ⟨w.heap.size,0,none⟩=some (.string s)/\wx.cell? ⟨w.heap.size,1,none⟩=some (.int .i64 ty)/\wx.cell? ⟨w.heap.size,2,none⟩=some (.int .i64 life)/\wx.cell? ⟨w.heap.size,3,none⟩=some sl
theorem Ur(s:ByteArray)(hs:s.size<=140737488355328)(ty life:Int)(v:Value)(ds:List Np.Datum)(w:World)(hd:SlR cm 3 w w.heap.size v ds) :
 Calls prog 100 #[.agg #[.string s,.int .i64 ty,.int .i64 life,v]] w
  λe w'=>e = .returned (.bool (Np.bi ⟨s.data.toList,ty,life,ds⟩))/\Below w.heap.size w w':=by
 have HD:=jq hd;obtain⟨A,c,rfl,aR,cP,cZ⟩:=hd;clear cZ;have dL:¬ (Np.ai s.data.toList=true/\(1<=ty/\ty<=8)/\(0<=life/\life<=100000)/\(1<=ds.length/\ds.length<=8)/\((ty=3\/ty=4)->ds.length<=1)/\(Np.dC s.data.toList=true->ty=1\/ty=5\/ty=8))->Np.bi ⟨s.data.toList,ty,life,ds⟩=false:=λhin=>by
  cases hq:Np.bi ⟨s.data.toList,ty,life,ds⟩ with
  | false=>rfl
  | true=>
   exfalso;unfold Np.bi at hq;simp only[Bool.and_eq_true,Qa,Bool.not_eq_true'] at hq;obtain⟨⟨⟨⟨⟨⟨h1,h2⟩,h3⟩,h4⟩,h5⟩,h6⟩,_⟩:=hq;obtain⟨k,rfl⟩:=Int.eq_ofNat_of_zero_le (by omega:0<=ty);rw[UH k (by omega) (by omega)] at h5;rw[UI k (by omega) (by omega)] at h6;refine hin ⟨h1,h2,h3,h4,λht=>?_,λhw=>?_⟩
   ·simp at h5;omega
   ·rw[hw] at h6;simp at h6;omega
 have lG:=jq dL;clear dL;go_enter func100,ntmps100;go_upto_region 2 with fail
 go_cut [37] (λt wx=>PN w s ty life (.slice A ds.length c) wx/\t = .bool (!yf s.data.toList ty life ds.length))
 case first=>
  go_wp2_with fail;refine (vH _ hs _).mono ?_;rintro e w1 ⟨rfl,hb⟩;have cL:Below w.heap.size w w1:=((vQ _ w).alloc (bQ _) _).trans (hb.mono (by simp));have eH:w.heap.size<w1.heap.size:=by have:=hb.size;simp at this;omega
  have c0:w1.cell? ⟨w.heap.size,0,none⟩=some (.string s):=by rw[hb.cell (by simp)];go_simp
  have c1:w1.cell? ⟨w.heap.size,1,none⟩=some (.int .i64 ty):=by rw[hb.cell (by simp)];go_simp
  have c2:w1.cell? ⟨w.heap.size,2,none⟩=some (.int .i64 life):=by rw[hb.cell (by simp)];go_simp
  have c3:w1.cell? ⟨w.heap.size,3,none⟩=some (.slice A ds.length c):=by rw[hb.cell (by simp)];go_simp
  have HH:=jq (show PN w s ty life (.slice A ds.length c) w1 from ⟨cL,eH,c0,c1,c2,c3⟩);clear hb cL;go_wp2_with (first
   | (go_at_call 166;refine (Ut _ _ _ _).mono ?_;rintro e w' ⟨rfl,rfl⟩)
   | (go_at_call 167;refine (bpX _ _).mono ?_;rintro e w' ⟨rfl,rfl⟩))
  all_goals
   go_meet
   case rel=>
    refine⟨HH.out,?_⟩;clear HH lG HD;go_light
    first
     | (simp_all [yf];done)
     | (simp_all [yf];omega)
     | (congr 1;rw[Bool.eq_iff_iff];simp_all [yf]<;>omega)
 case rest=>
  obtain⟨⟨cL,Sj,c0,c1,c2,c3⟩,rfl⟩:=hcut;have aD:=jq cL;clear cL
  cases hq:yf s.data.toList ty life ds.length with
  | false=>
   have HQ:=jq hq;clear hq;go_wp2_with fail;go_ret;refine⟨aj (lG.out λ⟨a1,a2,a3,a4,a5,_⟩=>?_).symm,aD.out⟩
   have:=HQ.out
   simp[yf,a1,a2,a3] at this;omega
  | true=>
   have HQ:=jq hq;clear hq;go_upto_region 4 with fail
   go_cut [55] (λt wy=>wy=wc/\t = .bool (Np.dC s.data.toList&&(decide (ty≠1)&&(decide (ty≠5)&&decide (ty≠8)))))
   case first=>
    go_wp2_with (go_at_call 168;refine (GN _ hs _).mono ?_;rintro e w' ⟨rfl,rfl⟩)
    all_goals
     go_meet
     case rel=>
      refine⟨rfl,?_⟩;clear lG HD HQ;go_light
      first
       | (simp_all;done)
       | (simp_all;omega)
       | (congr 1;rw[Bool.eq_iff_iff];simp_all;done)
       | (congr 1;rw[Bool.eq_iff_iff];simp_all;omega)
   case rest=>
    obtain⟨rfl,rfl⟩:=hcut
    cases eA:(Np.dC s.data.toList&&(decide (ty≠1)&&(decide (ty≠5)&&decide (ty≠8)))) with
    | true=>
     have gz:=jq eA;clear eA;go_wp2_with fail;go_ret;refine⟨aj (lG.out λ⟨_,_,_,_,_,a6⟩=>?_).symm,aD.out⟩
     have:=gz.out
     simp at this
     have:=a6 this.1
     omega
    | false=>
     have hin:Np.ai s.data.toList=true/\(1<=ty/\ty<=8)/\(0<=life/\life<=100000)/\(1<=ds.length/\ds.length<=8)/\((ty=3\/ty=4)->ds.length<=1)/\(Np.dC s.data.toList=true->ty=1\/ty=5\/ty=8):=by
      have h:=HQ.out;simp[yf] at h;obtain⟨⟨⟨⟨h1,h2⟩,h3⟩,h4⟩,h5⟩:=h;refine⟨h1,h2,h3,by omega,by omega,λhw=>?_⟩;rw[hw] at eA;simp at eA;omega
     obtain⟨i1,⟨i2,i3⟩,⟨i4,i5⟩,⟨i6,i7⟩,i8,i9⟩:=hin;obtain⟨k,rfl⟩:=Int.eq_ofNat_of_zero_le (by omega:0<=ty);have hv:Np.bi ⟨s.data.toList,k,life,ds⟩=Np.jy (Np.du k) none ds:=by
      unfold Np.bi;simp only[UH k (by omega) (by omega),UI k (by omega) (by omega),i1,uQ i2,uQ i3,uQ i4,uQ i5,uQ i6,uQ i7,Bool.true_and];have e1:((decide ((k:Int)=3)||decide ((k:Int)=4))&&decide (ds.length≠1))=false:=by
       rw[Bool.eq_false_iff];simp;omega
      have e2:(Np.dC s.data.toList&&!(decide ((k:Int)=1)||decide ((k:Int)=5)||decide ((k:Int)=8)))=false:=by
       cases hw:Np.dC s.data.toList with
       | false=>rfl
       | true=>have:=i9 hw;simp;omega
      rw[e1,e2];rfl
     have HV:=jq hv;have FK:1<=k:=by omega
     have FM:k<=8:=by omega
     clear hv i8 i9 eA i1 c0 c2 lG HQ;go_wp2_with fail;go_loopw [4] (λi wr=>afX wc (Np.du k) ds i wr) (λi _=>ds.length - (intOf i).toNat)
     case atStart=>exact⟨0,jQ _,rfl,vQ _ _,rfl⟩
     case round=>
      obtain⟨j,hj,rfl,aT,hg⟩:=hrel;have HG:=jq hg;clear hg;by_cases ag:j<ds.length
      ·have gJ:=aT.size;have mI:Below w.heap.size w wr:=aD.out.trans (aT.abQ);have fw:w.heap.size<wr.heap.size:=by omega
       have d1:wr.cell? ⟨w.heap.size,1,none⟩=some (.int .i64 k):=by rw[aT.cell (by simpa using Sj)];exact c1
       have d3:wr.cell? ⟨w.heap.size,3,none⟩=some (.slice A ds.length c):=by rw[aT.cell (by simpa using Sj)];exact c3
       obtain⟨A',c',hA',_,_,dS⟩:=HD.out.keep bM mI
       cases hA'
       obtain⟨b,o,e,rfl,cX,_,hce,sd,qP,tS,rfl⟩:=dS j _ (aQ ag);have e0:wr.cell? ⟨b,o+j * 3,none⟩=some (.string sd):=hce 0 _ rfl;have e1:wr.cell? ⟨b,o+j * 3+1,none⟩=some (.int .i64 ds[j].n):=hce 1 _ rfl;have e2:wr.cell? ⟨b,o+j * 3+2,none⟩=some (.int .i64 ds[j].m):=hce 2 _ rfl;have gO:b<wr.heap.size:=by omega
       have qC:∀ (g:ci wr) (p:Addr),p.block<wr.heap.size->g.w.cell? p=wr.cell? p:=λg p h=>g.cell p h;have bN:=jq aT;have yE:=jq mI;have Ic:=jq dS;have uz:=jq qP;have CG:(⟨sd.data.toList,ds[j].n,ds[j].m⟩:Np.Datum)=ds[j]:=by rw[uz.out]
       have sP:=jq CG;clear hce aT mI dS qP c1 c3 CG gJ;by_cases tU:Np.ml (Np.du k) ⟨sd.data.toList,ds[j].n,ds[j].m⟩=true
       ·have lL:=jq tU;clear tU;by_cases rS:j=0
        ·subst rS;simp only[Nat.zero_mul,Nat.add_zero] at e0 e1 e2;go_wp2_with fail;refine adK ?_
         repeat (go_big_quiet_step ((go_at_call 169;exact Calls.grow_of (GL _ FK FM _ tS _ _ _ true lL.out))))
         refine wpQuiet_nil ?_;rintro _ ⟨g,rfl⟩;go_wp2_with fail;go_roundw
         case rel=>
          go_light;have h1:=Np.QP (r:=Np.du k) (aQ ag) (by rw[<-sP.out];exact lL.out);exact⟨1,ag,by go_num,bN.out.trans (g.below.mono bN.out.size),by rw[<-h1];exact HG.out⟩
         case measure=>simp[intOf]<;>omega
        ·obtain⟨i,rfl⟩:∃ i,j=i+1:=⟨j - 1,by omega⟩;obtain⟨b',o',e',qi,FH,_,tw,sq,jm,aYK,rfl⟩:=Ic.out i _ (aQ (by omega))
         cases qi
         have f0:wr.cell? ⟨b,o+i * 3,none⟩=some (.string sq):=tw 0 _ rfl;have f1:wr.cell? ⟨b,o+i * 3+1,none⟩=some (.int .i64 (ds[i]'(by omega)).n):=tw 1 _ rfl;have f2:wr.cell? ⟨b,o+i * 3+2,none⟩=some (.int .i64 (ds[i]'(by omega)).m):=tw 2 _ rfl;have CF:(⟨sq.data.toList,(ds[i]'(by omega)).n,(ds[i]'(by omega)).m⟩:Np.Datum)=ds[i]'(by omega):=by rw[jm]
         have H9:=jq CF;clear tw jm CF;have iO:(0:Int)<((i+1:Nat):Int):=by omega
         have h1:=Np.QQ (r:=Np.du k) (aQ (by omega:i<ds.length)) (aQ ag) (by rw[<-sP.out];exact lL.out);rw[<-sP.out,<-H9.out] at h1;have H1:=jq h1;clear h1;by_cases kU:Np.rH ⟨sq.data.toList,(ds[i]'(by omega)).n,(ds[i]'(by omega)).m⟩ ⟨sd.data.toList,ds[i+1].n,ds[i+1].m⟩<0
         ·have pM:=jq kU;have jR:=jq (uQ kU);clear kU;go_wp2_with fail;refine adK ?_
          repeat (go_big_quiet_step (first
           | (go_at_call 169;exact Calls.grow_of (GL _ FK FM _ tS _ _ _ true lL.out))
           | (go_at_call 170;exact Calls.grow_of (Uo _ _ _ _ _ _ _ true jR.out))))
          refine wpQuiet_nil ?_;rintro _ ⟨g,rfl⟩;go_wp2_with fail;go_roundw
          case rel=>
           go_light;exact⟨i+1+1,ag,by go_num,bN.out.trans (g.below.mono bN.out.size),by rw[HG.out,H1.out,QbQ pM.out]⟩
          case measure=>simp[intOf]<;>omega
         ·have pM:=jq kU;have jR:=jq (tQ kU);clear kU;go_wp2_with fail;refine adK ?_
          repeat (go_big_quiet_step (first
           | (go_at_call 169;exact Calls.grow_of (GL _ FK FM _ tS _ _ _ true lL.out))
           | (go_at_call 170;exact Calls.grow_of (Uo _ _ _ _ _ _ _ false jR.out))))
          refine wpQuiet_nil ?_;rintro _ ⟨g,rfl⟩;go_wp2_with fail;go_ret;refine⟨aj ?_,yE.out.trans (g.below.abQ)⟩;rw[HV.out,HG.out,H1.out,Qc (by have:=pM.out;omega)]
       ·have Dl:Np.ml (Np.du k) ⟨sd.data.toList,ds[j].n,ds[j].m⟩=false:=by simpa using tU
        have lL:=jq Dl;clear tU Dl;go_wp2_with fail;refine adK ?_
        repeat (go_big_quiet_step ((go_at_call 169;exact Calls.grow_of (GL _ FK FM _ tS _ _ _ false lL.out))))
        refine wpQuiet_nil ?_;rintro _ ⟨g,rfl⟩;go_wp2_with fail;go_ret;refine⟨aj ?_,yE.out.trans (g.below.abQ)⟩;rw[HV.out,HG.out,Np.QO (aQ ag) (by rw[<-sP.out];exact lL.out)]
      ·go_wp2_with fail;go_ret;refine⟨aj ?_,aD.out.trans (aT.abQ)⟩;rw[HV.out,HG.out,List.drop_eq_nil_of_le (by omega)];rfl
theorem nS{s:ByteArray}(h:Np.ai s.data.toList=true):s.size<=60:=by
 rw[Np.yt] at h;split at h
 ·rename_i e;rw[<-bO,e];decide
 ·split at h
  ·cases h
  ·rename_i h6;rw[bO] at h6;omega
theorem bpJ(s1 s2:ByteArray)(t1 l1 t2 l2:Int)(v1 v2:Value)(d1 d2:List Np.Datum)(n1:Np.ai s1.data.toList=true)(n2:Np.ai s2.data.toList=true)(w:World) :
 Calls prog 132 #[.agg #[.string s1,.int .i64 t1,.int .i64 l1,v1],.agg #[.string s2,.int .i64 t2,.int .i64 l2,v2]] w
  λe w'=>e = .returned (.int .i64 (Np.ic ⟨s1.data.toList,t1,l1,d1⟩ ⟨s2.data.toList,t2,l2,d2⟩))/\Below w.heap.size w w':=by
 have hw:∀ o o',Below w.heap.size w ((w.alloc o).alloc o'):=λo o'=>((vQ _ w).alloc (bQ _) _).alloc (by simp) _;have HW:=jq hw;clear hw;have bG:=nS n1;have bL:=nS n2;have N1:=jq n1;have N2:=jq n2;have hc:=Np.Fa ⟨s1.data.toList,t1,l1,d1⟩ ⟨s2.data.toList,t2,l2,d2⟩;simp only at hc;rw[hc];clear n1 n2 hc;generalize hQ:Np.br s1.data.toList s2.data.toList=q;have HQ:=jq hQ;clear hQ;have key:∀ r:Int,(q≠0->r=q)->(q=0->r=Np.eD t1 t2)->(if q≠0 then q else Np.eD t1 t2)=r:=λr h1 h2=>by
  by_cases h:q=0
  ·rw[Qc (λe=>e h),h2 h]
  ·rw[QbQ h,h1 h]
 have KEY:=jq key;clear key;by_cases hq:q=0
 ·have KQ:=jq hq;subst hq;by_cases h1:t1<t2
  ·rw[KEY.out (-1) (λe=>absurd rfl e) (λ_=>by rw[Np.eD,QbQ h1])];go_enter func132,ntmps132;go_wp2_with fail;refine (GK s1 s2 (by omega) (by omega) N1.out N2.out _).mono ?_;rw[HQ.out];rintro e w1 ⟨rfl,hb⟩;obtain⟨aR,Ku⟩:=eh hb;have HB:=jq ((HW.out _ _).trans (hb.mono (by simp;omega)));clear hb;go_wp2_with fail;go_ret;exact⟨rfl,HB.out⟩
  ·by_cases h2:t2<t1
   ·rw[KEY.out 1 (λe=>absurd rfl e) (λ_=>by rw[Np.eD,Qc h1,QbQ h2])];go_enter func132,ntmps132;go_wp2_with fail;refine (GK s1 s2 (by omega) (by omega) N1.out N2.out _).mono ?_;rw[HQ.out];rintro e w1 ⟨rfl,hb⟩;obtain⟨aR,Ku⟩:=eh hb;have HB:=jq ((HW.out _ _).trans (hb.mono (by simp;omega)));clear hb;go_wp2_with fail;go_ret;exact⟨rfl,HB.out⟩
   ·rw[KEY.out 0 (λe=>absurd rfl e) (λ_=>by rw[Np.eD,Qc h1,Qc h2])];go_enter func132,ntmps132;go_wp2_with fail;refine (GK s1 s2 (by omega) (by omega) N1.out N2.out _).mono ?_;rw[HQ.out];rintro e w1 ⟨rfl,hb⟩;obtain⟨aR,Ku⟩:=eh hb;have HB:=jq ((HW.out _ _).trans (hb.mono (by simp;omega)));clear hb;go_wp2_with fail;go_ret;exact⟨rfl,HB.out⟩
 ·have eA:(q != 0)=true:=by simpa using hq
  rw[KEY.out q (λ_=>rfl) (λe=>absurd e hq)];clear hq;go_enter func132,ntmps132;go_wp2_with fail;refine (GK s1 s2 (by omega) (by omega) N1.out N2.out _).mono ?_;rw[HQ.out];rintro e w1 ⟨rfl,hb⟩;obtain⟨aR,Ku⟩:=eh hb;have HB:=jq ((HW.out _ _).trans (hb.mono (by simp;omega)));clear hb;go_wp2_with fail;go_ret;exact⟨rfl,HB.out⟩
end
end Go.Proofs.YtadhigmjilijcaaGreatDoor
