/- Parts of the proof. No condition. -/
import Derived.Deep.DeepCutAuto
import Derived.Maps.Own
import Derived.WideMake
import Derived.Test.YtbfbobfbgabjiaaGreatDoorM06
set_option linter.all false
set_option maxRecDepth 100000
set_option maxHeartbeats 8000000
namespace Go.Proofs.YtbfbobfbgabjiaaGreatDoor
open Go.Proofs.Tryz
section
open Go.RowKit
theorem Dt(x:List UInt8)(hx:x.length<=140737488355328)(w:World):Calls prog 80 #[aH x] w λe w'=>e = .returned (.bool (Np.cF x))/\w=w':=by
 have:=UF ⟨x.toArray⟩ (by rw[<-bn]; simpa using hx) w
 simpa using this
def Eb(l:List (List UInt8))(j:Nat):Prop:=∃ x,l[j]?=some x/\(Np.cF x=true\/(j=0/\x = [42]))
theorem US{l:List (List UInt8)}(h:∀ j,j<l.length->Eb l j):Np.tC l=true:=by
 cases l with
 | nil=>rfl
 | cons a t=>
  unfold Np.tC;rw[Bool.and_eq_true];constructor
  ·obtain⟨x,hx,ho⟩:=h 0 (by simp);simp at hx; subst hx;rcases ho with ho | ⟨_,ho⟩ <;> simp[ho]
  ·rw[List.all_eq_true];intro y hy;obtain⟨j,hj,rfl⟩:=nQ.1 hy;obtain⟨x,hx,ho⟩:=h (j+1) (by simpa using hj);simp only[List.getElem?_cons_succ,aQ hj,Option.some.injEq] at hx;rcases ho with ho | ⟨h0,_⟩
   ·rw[hx]; exact ho
   ·omega
theorem MQ{l:List (List UInt8)}{j:Nat}{x:List UInt8}(hx:l[j]?=some x)(h1:Np.cF x=false)(h2:j=0->x≠[42]):Np.tC l=false:=by
 cases l with
 | nil=>simp at hx
 | cons a t=>
  unfold Np.tC
  cases j with
  | zero=>simp at hx; subst hx; simp[h1,h2 rfl]
  | succ j=>
   have:t.all Np.cF=false:=by
    rw[List.all_eq_false];exact⟨x,gQ (by simpa using hx),by simp[h1]⟩
   show ((Np.cF a||a == [42])&&t.all Np.cF)=false;rw[this,Bool.and_false]
theorem Gs:∀ l:List UInt8,(Np.be l).length<=l.length+1:=by
 intro l
 induction l with
 | nil=>simp[Np.be]
 | cons c r ih=>
  rw[Np.be];split
  ·simp; omega
  ·split
   ·rename_i x xs hx; rw[hx] at ih; simp at ih |-; omega
   ·simp
theorem tq(s:ByteArray)(hs:s.size<=140737488355328)(w:World) :
 Calls prog 34 #[.string s] w λe w'=>e = .returned (.bool (Np.aG s.data.toList))/\Below w.heap.size w w':=by
 rw[Np.LZ];by_cases h:s.data.toList = [46]
 ·have he:(s.toList == [46])=true:=by rw[dQ,h]; rfl
  rw[Qb h];clear h;go_enter func34,ntmps34;go_wp2_with fail;go_ret;exact⟨rfl,vQ _ _⟩
 ·have he:(s.toList == [46])=false:=by rw[dQ]; simpa using h
  rw[Qc h];clear h;by_cases FQ:60<s.size
  ·rw[Qb (by rw[bn]; exact FQ)];have h6:60<(s.size:Int):=by omega
   go_enter func34,ntmps34;go_wp2_with fail;go_ret;exact⟨rfl,vQ _ _⟩
  ·rw[Qc (by rw[bn]; exact FQ)];have h6:(s.size:Int)<=60:=by omega
   have hlen:=Gs s.data.toList;have xp:∀ y∈Np.be s.data.toList,y.length<=60:=λy hy=>by have:=Np.Gi hy; rw[bn] at this; omega
   rw[bn] at hlen;generalize hL:Np.be s.data.toList=l at *;have HM:=jq xp;have Ff:=jq hL;clear xp hL;go_enter func34,ntmps34;go_wp2_with fail;refine (Mg s (by omega) _).mono ?_;rw[Ff.out];rintro e w1 ⟨v,rfl,hv,hb⟩;have HV:=jq hv;have HB:=jq hb;obtain⟨A,c,rfl,hc,_,_⟩:=hv;clear hb;go_wp2_with fail;go_loop [4] (λi=>∃ k:Nat,k<=l.length/\i = .int .i64 k/\Hid (∀ j,j<k->Eb l j)) (λi=>l.length - (intOf i).toNat)
   case atStart=>exact⟨0,jQ _,rfl,jq (λj h=>by omega)⟩
   case round=>
    obtain⟨k,hk,rfl,HA⟩:=hrel;by_cases ab:k<l.length
    ·obtain⟨b,o,c',hA,_,_,hcell⟩:=AH HV.out (aQ ab)
     cases hA
     have hx:=HM.out _ (List.getElem_mem ab);have ac:l[k]?=some l[k]:=aQ ab;generalize l[k]=x at *;have HG:=jq ac;clear ac;have BD:Eb l k->∀ j,j<k+1->Eb l j:=λh j hj=>by
      by_cases e:j=k
      ·subst e; exact h
      ·exact HA.out j (by omega)
     have HX:=jq BD;clear BD
     cases hl:Np.cF x with
     | true=>
      have HL:=jq hl;go_wp2_with (go_at_call 80; refine (Dt _ (by omega) _).mono ?_; rintro e w' ⟨rfl,rfl⟩);go_round
      case rel=>exact⟨k+1,by omega,by go_num,jq (HX.out ⟨_,HG.out,.inl HL.out⟩)⟩
      case measure=>simp[intOf] <;> omega
     | false=>
      have HL:=jq hl;by_cases bW:k=0
      ·subst bW;simp only[Nat.add_zero] at hcell;by_cases Lh:x = [42]
       ·subst Lh;go_wp2_with (go_at_call 80; refine (Dt _ (by simp) _).mono ?_; rintro e w' ⟨rfl,rfl⟩);go_round
        case rel=>exact⟨1,by omega,by go_num,jq (HX.out ⟨_,HG.out,.inr ⟨rfl,rfl⟩⟩)⟩
        case measure=>simp[intOf] <;> omega
       ·have hne:(x == [42])=false:=by simpa using Lh
        go_wp2_with (go_at_call 80; refine (Dt _ (by omega) _).mono ?_; rintro e w' ⟨rfl,rfl⟩);go_ret;exact⟨aj (by rw[MQ HG.out HL.out (λ_=>Lh)]; rfl),HB.out⟩
      ·have hkp:(0:Int)<k:=by omega
       go_wp2_with (go_at_call 80; refine (Dt _ (by omega) _).mono ?_; rintro e w' ⟨rfl,rfl⟩);go_ret;exact⟨aj (by rw[MQ HG.out HL.out (λe=>absurd e bW)]; rfl),HB.out⟩
    ·have nV:Np.tC l=true:=US (λj hj=>HA.out j (by omega));have bZ:=jq nV;clear nV;go_wp2_with fail;go_ret;exact⟨aj (by rw[bZ.out,Bool.true_and,Bool.eq_iff_iff]; simp; omega),HB.out⟩
theorem DF(s z:ByteArray)(hs:s.size<=1000)(hz:z.size<=1000)(w:World) :
 Calls prog 181 #[.string s,.string z] w λe w'=>e = .returned (.bool (Np.inL (Np.eW s.data.toList) (Np.eW z.data.toList)))/\Below w.heap.size w w':=by
 have xF:∀ t:ByteArray,t.size<=1000->(Np.eW t.data.toList).length<=1001:=λt ht=>by
  unfold Np.eW;split
  ·simp
  ·have:=Gs t.data.toList; rw[bn] at this; omega
 have bH:=xF s hs;have dz:=xF z hz;clear xF;generalize iH:Np.eW s.data.toList=l at *;generalize pL:Np.eW z.data.toList=m at *;have l9:=jq iH;have By:=jq pL;clear iH pL;go_enter func181,ntmps181;go_wp2_with fail;refine (zS s (by omega) _).mono ?_;rw[l9.out];rintro e w1 ⟨v,rfl,hv,hb⟩;have HV:=jq hv;have HB:=jq hb;obtain⟨A,c,rfl,hc,_,_⟩:=hv;clear hb;go_wp2_with fail;refine (zS z (by omega) _).mono ?_;rw[By.out];rintro e w2 ⟨v2,rfl,qW,aa⟩;have ie:=jq ((HV.out.keep DL aa).more Oy aa.size);have kr:=jq qW;have ak:=jq (HB.out.trans (aa.mono HB.out.size));obtain⟨A2,c2,rfl,eB,_,_⟩:=qW;clear aa HV;by_cases hlen:m.length<=l.length
 ·have g8:(m.length:Int)<=(l.length:Int):=by omega
  go_wp2_with fail;go_loopw [7] (λi wr=>∃ k:Nat,k<=m.length/\i = .int .i64 k/\Hid (∀ j,j<k->l[l.length - m.length+j]?=m[j]?)/\Hid (Below w2.heap.size w2 wr)) (λi _=>m.length - (intOf i).toNat)
  case atStart=>exact⟨0,jQ _,rfl,jq (λj h=>by omega),jq (vQ _ _)⟩
  case round=>
   obtain⟨k,hk,rfl,HA,HW⟩:=hrel;by_cases ab:k<m.length
   ·obtain⟨b,o,c',hA,_,_,hcell⟩:=AH (ie.out.keep DL HW.out) (aQ (show l.length - m.length+k<l.length by omega))
    cases hA
    obtain⟨b2,o2,c2',pZ,_,_,aVX⟩:=AH (kr.out.keep DL HW.out) (aQ ab)
    cases pZ
    have AV:l[l.length - m.length+k]?=some l[l.length - m.length+k]:=aQ _;have Ch:m[k]?=some m[k]:=aQ ab;generalize l[l.length - m.length+k]=x at *;generalize m[k]=y at *;have zz:=jq AV;have oe:=jq Ch;clear AV Ch;have al:IntKind.i64.wrap ((l.length:Int) - (m.length:Int))=(l.length:Int) - m.length:=IntWalk.i64_in _ (by omega);have ai:IntKind.i64.wrap ((l.length:Int) - (m.length:Int)+k)=(l.length:Int) - m.length+k:=IntWalk.i64_in _ (by omega);have e1:(0:Int)<=(l.length:Int) - m.length+k:=by omega
    have e2:(l.length:Int) - m.length+k<l.length:=by omega
    have e3:((l.length:Int) - m.length+k).toNat=l.length - m.length+k:=by omega
    have e4:(0:Int)<=k:=by omega
    have e5:(k:Int)<m.length:=by omega
    by_cases cI:x=y
    ·have hne:(!x == y)=false:=by simp[cI]
     have pp:=jq cI;clear cI;go_wp2_with fail;go_quiet (fail);go_wp2_with fail;go_roundw
     case rel=>
      refine⟨k+1,by omega,by go_num,jq (λj hj=>?_),jq (below_drewN HW.out _)⟩;by_cases e:j=k
      ·subst e; rw[zz.out,oe.out,pp.out]
      ·exact HA.out j (by omega)
     case measure=>simp[intOf] <;> omega
    ·have hne:(!x == y)=true:=by simp[cI]
     have pp:=jq cI;clear cI;go_wp2_with fail;go_quiet (fail);go_wp2_with fail;go_ret;refine⟨aj ?_,ak.out.trans ((below_drewN HW.out _).mono ak.out.size)⟩
     symm
     unfold Np.inL;rw[uQ hlen,Bool.true_and,beq_eq_false_iff_ne];intro h;have h1:=Qd (·[k]?) h;simp only[List.getElem?_drop] at h1;rw[zz.out,oe.out] at h1;exact pp.out (Option.some.inj h1)
   ·go_wp2_with fail;go_ret;refine⟨aj ?_,ak.out.trans (HW.out.mono ak.out.size)⟩
    symm
    unfold Np.inL;rw[uQ hlen,Bool.true_and,beq_iff_eq];apply List.ext_getElem?;intro j;rw[List.getElem?_drop];by_cases hj:j<m.length
    ·exact HA.out j (by omega)
    ·rw[List.getElem?_eq_none (by omega),List.getElem?_eq_none (by omega)]
 ·have g8:(l.length:Int)<(m.length:Int):=by omega
  go_wp2_with fail;go_ret;exact⟨aj (by unfold Np.inL; rw[tQ hlen]; rfl),ak.out⟩
theorem DU{l:List (List UInt8)}{k:Nat}(h:l.length<=k):l.reverse.drop k = []:=List.drop_eq_nil_of_le (by simpa using h)
theorem OA{l:List (List UInt8)}{k:Nat}(h:k<l.length):∃ x r,l.reverse.drop k=x::r:=⟨_,_,sQ (by simpa using h)⟩
theorem Gm(s z:ByteArray)(hs:s.size<=1000)(hz:z.size<=1000)(w:World) :
 Calls prog 100 #[.string s,.string z] w λe w'=>e = .returned (.int .i64 (Np.aM s.data.toList z.data.toList))/\Below w.heap.size w w':=by
 rw[Np.zX,<-Np.zZ,<-Np.zZ];have xF:∀ t:ByteArray,t.size<=1000->(Np.eW t.data.toList).length<=1001:=λt ht=>by
  unfold Np.eW;split
  ·simp
  ·have:=Gs t.data.toList; rw[bn] at this; omega
 have bH:=xF s hs;have dz:=xF z hz;clear xF;generalize iH:Np.eW s.data.toList=l at *;generalize pL:Np.eW z.data.toList=m at *;have l9:=jq iH;have By:=jq pL;clear iH pL;go_enter func100,ntmps100;go_wp2_with fail;refine (zS s (by omega) _).mono ?_;rw[l9.out];rintro e w1 ⟨v,rfl,hv,hb⟩;have HV:=jq hv;have HB:=jq hb;obtain⟨A,c,rfl,hc,_,_⟩:=hv;clear hb;go_wp2_with fail;refine (zS z (by omega) _).mono ?_;rw[By.out];rintro e w2 ⟨v2,rfl,qW,aa⟩;have ie:=jq ((HV.out.keep DL aa).more Oy aa.size);have kr:=jq qW;have ak:=jq (HB.out.trans (aa.mono HB.out.size));obtain⟨A2,c2,rfl,eB,_,_⟩:=qW;clear aa HV;go_wp2_with fail;go_loop [7] (λi=>∃ k:Nat,k<=l.length/\k<=m.length/\i = .int .i64 ((k:Int)+1)/\Hid (Np.cO l.reverse m.reverse=Np.cO (l.reverse.drop k) (m.reverse.drop k))) (λi=>l.length+1 - (intOf i).toNat)
 case atStart=>exact⟨0,jQ _,jQ _,rfl,jq rfl⟩
 case round=>
  obtain⟨k,bV,kW,rfl,HA⟩:=hrel;by_cases fh:k<l.length
  ·by_cases qU:k<m.length
   ·obtain⟨b,o,c',hA,_,_,hcell⟩:=AH ie.out (aQ (show l.length - (k+1)<l.length by omega))
    cases hA
    obtain⟨b2,o2,c2',pZ,_,_,aVX⟩:=AH kr.out (aQ (show m.length - (k+1)<m.length by omega))
    cases pZ
    have AV:l.reverse.drop k=l[l.length - (k+1)]::l.reverse.drop (k+1):=by
     rw[sQ (by simpa using fh),List.getElem_reverse];congr 2; omega
    have Ch:m.reverse.drop k=m[m.length - (k+1)]::m.reverse.drop (k+1):=by
     rw[sQ (by simpa using qU),List.getElem_reverse];congr 2; omega
    generalize l[l.length - (k+1)]=x at *;generalize m[m.length - (k+1)]=y at *;have Bm:Np.cO (l.reverse.drop k) (m.reverse.drop k)=if Np.cP x y≠0 then Np.cP x y else Np.cO (l.reverse.drop (k+1)) (m.reverse.drop (k+1)):=by rw[AV,Ch,Np.cO]
    have HS:=jq Bm;clear AV Ch Bm;have g1:((l.length:Int) - ((k:Int)+1)).toNat=l.length - (k+1):=by omega
    have g2:((m.length:Int) - ((k:Int)+1)).toNat=m.length - (k+1):=by omega
    have f1:(k:Int)+1<=l.length:=by omega
    have f2:(k:Int)+1<=m.length:=by omega
    rcases Np.yn x y with ⟨h1,h2⟩ | ⟨h1,h2,hn,h3⟩ | ⟨h1,h2,hn,h3⟩
    ·have H2:=jq h2;clear h2;go_wp2_with fail;go_ret;exact⟨ik (by rw[HA.out,HS.out,H2.out]; rfl),ak.out⟩
    ·have H3:=jq h3;have hne:(!x == y)=true:=by simp[hn]
     clear h3 hn;go_wp2_with fail;go_ret;exact⟨ik (by rw[HA.out,HS.out,H3.out]; rfl),ak.out⟩
    ·have H3:=jq h3;have hne:(!x == y)=false:=by simp[hn]
     clear h3 hn;go_wp2_with fail;go_round
     case rel=>exact⟨k+1,by omega,by omega,by go_num,jq (by rw[HA.out,HS.out,H3.out]; rfl)⟩
     case measure=>simp[intOf] <;> omega
   ·have hm:k=m.length:=by omega
    have aK:(m.length:Int)<(k:Int)+1:=by omega
    have aJ:(k:Int)+1<=l.length:=by omega
    have bk:(m.length:Int)<(l.length:Int):=by omega
    have hv:Np.cO l.reverse m.reverse=1:=by
     obtain⟨x,r,e⟩:=OA fh;rw[HA.out,DU (l:=m) (by omega),e]; rfl
    have nY:=jq hv;clear hv hm;go_wp2_with fail;go_ret;exact⟨ik nY.out.symm,ak.out⟩
  ·have hl:k=l.length:=by omega
   have aJ:(l.length:Int)<(k:Int)+1:=by omega
   by_cases qU:k<m.length
   ·have bk:(l.length:Int)<(m.length:Int):=by omega
    have hv:Np.cO l.reverse m.reverse = -1:=by
     obtain⟨x,r,e⟩:=OA qU;rw[HA.out,DU (l:=l) (by omega),e]; rfl
    have nY:=jq hv;clear hv hl;go_wp2_with fail;go_ret;exact⟨ik nY.out.symm,ak.out⟩
   ·have bk:(l.length:Int)<=(m.length:Int):=by omega
    have bl:(m.length:Int)<=(l.length:Int):=by omega
    have hv:Np.cO l.reverse m.reverse=0:=by
     rw[HA.out,DU (l:=l) (by omega),DU (l:=m) (by omega)]; rfl
    have nY:=jq hv;clear hv hl;go_wp2_with fail;go_ret;exact⟨ik nY.out.symm,ak.out⟩
theorem C8(s z:ByteArray)(hs:s.size<=1000)(hz:z.size<=1000)(h1:Np.aG s.data.toList=true)(h2:Np.aG z.data.toList=true)(w:World) :
 Calls prog 229 #[.string s,.string z] w λe w'=>e = .returned (.tuple #[.int .i64 (Np.aM s.data.toList z.data.toList),.int .i64 0])/\Below w.heap.size w w':=by
 have H1:=jq h1;have H2:=jq h2;clear h1 h2;go_enter func229,ntmps229;go_wp2_with fail;refine (tq s (by omega) _).mono ?_;rintro e w1 ⟨rfl,aq⟩;have aF:=jq aq;clear aq;rw[H1.out];go_wp2_with fail;refine (tq z (by omega) _).mono ?_;rintro e w2 ⟨rfl,aa⟩;have ak:=jq (aF.out.trans (aa.mono aF.out.size));clear aa;rw[H2.out];go_wp2_with fail;refine (Gm s z hs hz _).mono ?_;rintro e w3 ⟨rfl,ah⟩;have av:=jq (ak.out.trans (ah.mono ak.out.size));clear ah;go_wp2_with fail;go_ret2;exact⟨rfl,av.out⟩
theorem UH(k:Nat)(h1:1<=k)(h8:k<=8)(s:ByteArray)(hs:s.size<=140737488355328)(n m:Int)(w:World) :
 Calls prog 179 #[.int .i64 k,.agg #[.string s,.int .i64 n,.int .i64 m]] w
  λe w'=>e = .returned (.bool (Np.jX (Np.cm k) ⟨s.data.toList,n,m⟩))/\Below w.heap.size w w':=by
 have hk:k=1\/k=2\/k=3\/k=4\/k=5\/k=6\/k=7\/k=8:=by omega
 rcases hk with rfl | rfl | rfl | rfl | rfl | rfl | rfl | rfl
 all_goals
  go_enter func179,ntmps179;go_wp2_with (first
   | (go_at_call 176; refine (L0 _ _ _ _).mono ?_; rintro e w' ⟨rfl,rfl⟩)
   | (go_at_call 34; refine (tq _ hs _).mono ?_; rintro e w' ⟨rfl,hb⟩; obtain⟨hc,hf⟩:=tN hb)
   | (go_at_call 178; refine (Dj _ hs _).mono ?_; rintro e w' ⟨rfl,rfl⟩)
   | (go_at_call 228; refine (Vj _ hs _).mono ?_; rintro e w' ⟨rfl,rfl⟩))
  all_goals
   go_ret;go_light;refine⟨aj ?_,?_⟩
   ·simp_all [Np.jX,Np.vf,Np.cm,Np.rules,dQ] <;> (intros; first | omega | (rw[Bool.eq_iff_iff]; simp; omega) | (rw[Bool.eq_iff_iff]; simp; intros; omega) | (rw[Int.tmod_eq_emod_of_nonneg (by omega)]; first | omega | (rw[Bool.eq_iff_iff]; simp; omega)) | show False)
   ·first
     | exact (vQ _ w).alloc (bQ _) _
     | exact ((vQ _ w).alloc (bQ _) _).trans (hb.mono (by simp))
theorem MH(k:Nat)(h1:1<=k)(h8:k<=8):(Np.cm k).single=(decide ((k:Int)=3)||decide ((k:Int)=4)):=by
 have hk:k=1\/k=2\/k=3\/k=4\/k=5\/k=6\/k=7\/k=8:=by omega
 rcases hk with rfl | rfl | rfl | rfl | rfl | rfl | rfl | rfl <;> rfl
theorem NW(k:Nat)(h1:1<=k)(h8:k<=8):(Np.cm k).wild=(decide ((k:Int)=1)||decide ((k:Int)=5)||decide ((k:Int)=8)):=by
 have hk:k=1\/k=2\/k=3\/k=4\/k=5\/k=6\/k=7\/k=8:=by omega
 rcases hk with rfl | rfl | rfl | rfl | rfl | rfl | rfl | rfl <;> rfl
theorem Dc(k:Nat)(h1:1<=k)(h8:k<=8)(s:ByteArray)(hs:s.size<=140737488355328)(n m:Int)(w:World)(t:Bool)(ht:Np.jX (Np.cm k) ⟨s.data.toList,n,m⟩=t) :
 Calls prog 179 #[.int .i64 k,.agg #[.string s,.int .i64 n,.int .i64 m]] w λe w'=>e = .returned (.bool t)/\Below w.heap.size w w':=by
 subst ht;exact UH k h1 h8 s hs n m w
theorem Mh(s t:ByteArray)(n1 m1 n2 m2:Int)(w:World)(r:Bool)(hr:decide (Np.qG ⟨s.data.toList,n1,m1⟩ ⟨t.data.toList,n2,m2⟩<0)=r) :
 Calls prog 180 #[.agg #[.string s,.int .i64 n1,.int .i64 m1],.agg #[.string t,.int .i64 n2,.int .i64 m2]] w λe w'=>e = .returned (.bool r)/\Below w.heap.size w w':=by
 subst hr;exact Vl s t n1 m1 n2 m2 w
def VQ(w1:World)(r:Np.Rule)(ds:List Np.Datum)(i:Value)(wr:World):Prop:=
 ∃ j:Nat,j<=ds.length/\i = .int .i64 j/\Below w1.heap.size w1 wr/\Np.jI r none ds=Np.jI r (ds.take j).getLast? (ds.drop j)
def vD(s:List UInt8)(ty life:Int)(n:Nat):Bool:=Np.aG s&&(decide (1<=ty)&&decide (ty<=8))&&(decide (0<=life)&&decide (life<=100000))&&(decide ((1:Int)<=n)&&decide ((n:Int)<=8))&&!((decide (ty=3)||decide (ty=4))&&decide ((1:Int)<n))
def Pd(w:World)(s:ByteArray)(ty life:Int)(sl:Value)(wx:World):Prop:=
 Below w.heap.size w wx/\w.heap.size<wx.heap.size/\wx.cell? ⟨w.heap.size,0,none⟩=some (.string s)/\wx.cell? ⟨w.heap.size,1,none⟩=some (.int .i64 ty)/\wx.cell? ⟨w.heap.size,2,none⟩=some (.int .i64 life)/\wx.cell? ⟨w.heap.size,3,none⟩=some sl
theorem LN(s:ByteArray)(hs:s.size<=140737488355328)(ty life:Int)(v:Value)(ds:List Np.Datum)(w:World)(hd:SlR cG 3 w w.heap.size v ds) :
 Calls prog 111 #[.agg #[.string s,.int .i64 ty,.int .i64 life,v]] w
  λe w'=>e = .returned (.bool (Np.ee ⟨s.data.toList,ty,life,ds⟩))/\Below w.heap.size w w':=by
 have HD:=jq hd;obtain⟨A,c,rfl,bC,bH,jP⟩:=hd;clear jP;have iG:¬ (Np.aG s.data.toList=true/\(1<=ty/\ty<=8)/\(0<=life/\life<=100000)/\(1<=ds.length/\ds.length<=8)/\((ty=3\/ty=4)->ds.length<=1)/\(Np.fp s.data.toList=true->ty=1\/ty=5\/ty=8))->Np.ee ⟨s.data.toList,ty,life,ds⟩=false:=λhin=>by
  cases hq:Np.ee ⟨s.data.toList,ty,life,ds⟩ with
  | false=>rfl
  | true=>
   exfalso;unfold Np.ee at hq;simp only[Bool.and_eq_true,Qa,Bool.not_eq_true'] at hq;obtain⟨⟨⟨⟨⟨⟨h1,h2⟩,h3⟩,h4⟩,h5⟩,h6⟩,_⟩:=hq;obtain⟨k,rfl⟩:=Int.eq_ofNat_of_zero_le (by omega:0<=ty);rw[MH k (by omega) (by omega)] at h5;rw[NW k (by omega) (by omega)] at h6;refine hin ⟨h1,h2,h3,h4,λht=>?_,λhw=>?_⟩
   ·simp at h5; omega
   ·rw[hw] at h6; simp at h6; omega
 have mX:=jq iG;clear iG;go_enter func111,ntmps111;go_upto_region 2 with fail
 go_cut [37] (λt wx=>Pd w s ty life (.slice A ds.length c) wx/\t = .bool (!vD s.data.toList ty life ds.length))
 case first=>
  go_wp2_with fail;refine (tq _ hs _).mono ?_;rintro e w1 ⟨rfl,hb⟩;have da:Below w.heap.size w w1:=((vQ _ w).alloc (bQ _) _).trans (hb.mono (by simp));have fh:w.heap.size<w1.heap.size:=by have:=hb.size; simp at this; omega
  have c0:w1.cell? ⟨w.heap.size,0,none⟩=some (.string s):=by rw[hb.cell (by simp)]; go_simp
  have c1:w1.cell? ⟨w.heap.size,1,none⟩=some (.int .i64 ty):=by rw[hb.cell (by simp)]; go_simp
  have c2:w1.cell? ⟨w.heap.size,2,none⟩=some (.int .i64 life):=by rw[hb.cell (by simp)]; go_simp
  have c3:w1.cell? ⟨w.heap.size,3,none⟩=some (.slice A ds.length c):=by rw[hb.cell (by simp)]; go_simp
  have HH:=jq (show Pd w s ty life (.slice A ds.length c) w1 from ⟨da,fh,c0,c1,c2,c3⟩);clear hb da;go_wp2_with (first
   | (go_at_call 176; refine (L0 _ _ _ _).mono ?_; rintro e w' ⟨rfl,rfl⟩)
   | (go_at_call 177; refine (T5 _ _).mono ?_; rintro e w' ⟨rfl,rfl⟩))
  all_goals
   go_meet
   case rel=>
    refine⟨HH.out,?_⟩;clear HH mX HD;go_light
    first
     | (simp_all [vD]; done)
     | (simp_all [vD]; omega)
     | (congr 1; rw[Bool.eq_iff_iff]; simp_all [vD] <;> omega)
 case rest=>
  obtain⟨⟨da,SI,c0,c1,c2,c3⟩,rfl⟩:=hcut;have aD:=jq da;clear da
  cases hq:vD s.data.toList ty life ds.length with
  | false=>
   have HQ:=jq hq;clear hq;go_wp2_with fail;go_ret;refine⟨aj (mX.out λ⟨a1,a2,a3,a4,a5,_⟩=>?_).symm,aD.out⟩
   have:=HQ.out
   simp[vD,a1,a2,a3] at this;omega
  | true=>
   have HQ:=jq hq;clear hq;go_upto_region 4 with fail
   go_cut [55] (λt wy=>wy=wc/\t = .bool (Np.fp s.data.toList&&(decide (ty≠1)&&(decide (ty≠5)&&decide (ty≠8)))))
   case first=>
    go_wp2_with (go_at_call 178; refine (Dj _ hs _).mono ?_; rintro e w' ⟨rfl,rfl⟩)
    all_goals
     go_meet
     case rel=>
      refine⟨rfl,?_⟩;clear mX HD HQ;go_light
      first
       | (simp_all; done)
       | (simp_all; omega)
       | (congr 1; rw[Bool.eq_iff_iff]; simp_all; done)
       | (congr 1; rw[Bool.eq_iff_iff]; simp_all; omega)
   case rest=>
    obtain⟨rfl,rfl⟩:=hcut
    cases um:(Np.fp s.data.toList&&(decide (ty≠1)&&(decide (ty≠5)&&decide (ty≠8)))) with
    | true=>
     have wv:=jq um;clear um;go_wp2_with fail;go_ret;refine⟨aj (mX.out λ⟨_,_,_,_,_,a6⟩=>?_).symm,aD.out⟩
     have:=wv.out
     simp at this
     have:=a6 this.1
     omega
    | false=>
     have hin:Np.aG s.data.toList=true/\(1<=ty/\ty<=8)/\(0<=life/\life<=100000)/\(1<=ds.length/\ds.length<=8)/\((ty=3\/ty=4)->ds.length<=1)/\(Np.fp s.data.toList=true->ty=1\/ty=5\/ty=8):=by
      have h:=HQ.out;simp[vD] at h;obtain⟨⟨⟨⟨h1,h2⟩,h3⟩,h4⟩,h5⟩:=h;refine⟨h1,h2,h3,by omega,by omega,λhw=>?_⟩;rw[hw] at um;simp at um;omega
     obtain⟨i1,⟨i2,i3⟩,⟨i4,i5⟩,⟨i6,i7⟩,i8,i9⟩:=hin;obtain⟨k,rfl⟩:=Int.eq_ofNat_of_zero_le (by omega:0<=ty);have hv:Np.ee ⟨s.data.toList,k,life,ds⟩=Np.jI (Np.cm k) none ds:=by
      unfold Np.ee;simp only[MH k (by omega) (by omega),NW k (by omega) (by omega),i1,uQ i2,uQ i3,uQ i4,uQ i5,uQ i6,uQ i7,Bool.true_and];have e1:((decide ((k:Int)=3)||decide ((k:Int)=4))&&decide (ds.length≠1))=false:=by
       rw[Bool.eq_false_iff]; simp; omega
      have e2:(Np.fp s.data.toList&&!(decide ((k:Int)=1)||decide ((k:Int)=5)||decide ((k:Int)=8)))=false:=by
       cases hw:Np.fp s.data.toList with
       | false=>rfl
       | true=>have:=i9 hw; simp; omega
      rw[e1,e2]; rfl
     have HV:=jq hv;have FL:1<=k:=by omega
     have E8:k<=8:=by omega
     clear hv i8 i9 um i1 c0 c2 mX HQ;go_wp2_with fail;go_loopw [4] (λi wr=>VQ wc (Np.cm k) ds i wr) (λi _=>ds.length - (intOf i).toNat)
     case atStart=>exact⟨0,jQ _,rfl,vQ _ _,rfl⟩
     case round=>
      obtain⟨j,hj,rfl,aw,hg⟩:=hrel;have HG:=jq hg;clear hg;by_cases ab:j<ds.length
      ·have K9:=aw.size;have mj:Below w.heap.size w wr:=aD.out.trans (aw.mono (by omega));have hw0:w.heap.size<wr.heap.size:=by omega
       have d1:wr.cell? ⟨w.heap.size,1,none⟩=some (.int .i64 k):=by rw[aw.cell (by simpa using SI)]; exact c1
       have d3:wr.cell? ⟨w.heap.size,3,none⟩=some (.slice A ds.length c):=by rw[aw.cell (by simpa using SI)]; exact c3
       obtain⟨A',c',hA',_,_,bU⟩:=HD.out.keep cL mj
       cases hA'
       obtain⟨b,o,e,rfl,bg,_,hce,sd,ur,uh,rfl⟩:=bU j _ (aQ ab);have e0:wr.cell? ⟨b,o+j * 3,none⟩=some (.string sd):=hce 0 _ rfl;have e1:wr.cell? ⟨b,o+j * 3+1,none⟩=some (.int .i64 ds[j].n):=hce 1 _ rfl;have e2:wr.cell? ⟨b,o+j * 3+2,none⟩=some (.int .i64 ds[j].m):=hce 2 _ rfl;have dF:b<wr.heap.size:=by omega
       have kq:∀ (g:bE wr) (p:Addr),p.block<wr.heap.size->g.w.cell? p=wr.cell? p:=λg p h=>g.cell p h;have ay:=jq aw;have za:=jq mj;have Kp:=jq bU;have sP:=jq ur;have CP:(⟨sd.data.toList,ds[j].n,ds[j].m⟩:Np.Datum)=ds[j]:=by rw[sP.out]
       have th:=jq CP;clear hce aw mj bU ur c1 c3 CP K9;by_cases pR:Np.jX (Np.cm k) ⟨sd.data.toList,ds[j].n,ds[j].m⟩=true
       ·have lG:=jq pR;clear pR;by_cases jx:j=0
        ·subst jx;simp only[Nat.zero_mul,Nat.add_zero] at e0 e1 e2;go_wp2_with fail;refine en (by kernel_rfl) (by kernel_rfl) ?_
         repeat (go_big_quiet_step ((go_at_call 179; exact Calls.grow_of (Dc _ FL E8 _ uh _ _ _ true lG.out))))
         refine wpQuiet_nil ?_;rintro _ ⟨g,rfl⟩;go_wp2_with fail;go_roundw
         case rel=>
          go_light;have h1:=Np.LU (r:=Np.cm k) (aQ ab) (by rw[<-th.out]; exact lG.out);exact⟨1,ab,by go_num,ay.out.trans (g.below.mono ay.out.size),by rw[<-h1]; exact HG.out⟩
         case measure=>simp[intOf] <;> omega
        ·obtain⟨i,rfl⟩:∃ i,j=i+1:=⟨j - 1,by omega⟩;obtain⟨b',o',e',pZ,xP,_,pk,sq,ll,a0Q,rfl⟩:=Kp.out i _ (aQ (by omega))
         cases pZ
         have f0:wr.cell? ⟨b,o+i * 3,none⟩=some (.string sq):=pk 0 _ rfl;have f1:wr.cell? ⟨b,o+i * 3+1,none⟩=some (.int .i64 (ds[i]'(by omega)).n):=pk 1 _ rfl;have f2:wr.cell? ⟨b,o+i * 3+2,none⟩=some (.int .i64 (ds[i]'(by omega)).m):=pk 2 _ rfl;have Cy:(⟨sq.data.toList,(ds[i]'(by omega)).n,(ds[i]'(by omega)).m⟩:Np.Datum)=ds[i]'(by omega):=by rw[ll]
         have Kc:=jq Cy;clear pk ll Cy;have nj:(0:Int)<((i+1:Nat):Int):=by omega
         have h1:=Np.L6 (r:=Np.cm k) (aQ (by omega:i<ds.length)) (aQ ab) (by rw[<-th.out]; exact lG.out);rw[<-th.out,<-Kc.out] at h1;have H1:=jq h1;clear h1;by_cases gG:Np.qG ⟨sq.data.toList,(ds[i]'(by omega)).n,(ds[i]'(by omega)).m⟩ ⟨sd.data.toList,ds[i+1].n,ds[i+1].m⟩<0
         ·have lJ:=jq gG;have Kk:=jq (uQ gG);clear gG;go_wp2_with fail;refine en (by kernel_rfl) (by kernel_rfl) ?_
          repeat (go_big_quiet_step (first
           | (go_at_call 179; exact Calls.grow_of (Dc _ FL E8 _ uh _ _ _ true lG.out))
           | (go_at_call 180; exact Calls.grow_of (Mh _ _ _ _ _ _ _ true Kk.out))))
          refine wpQuiet_nil ?_;rintro _ ⟨g,rfl⟩;go_wp2_with fail;go_roundw
          case rel=>
           go_light;exact⟨i+1+1,ab,by go_num,ay.out.trans (g.below.mono ay.out.size),by rw[HG.out,H1.out,Qb lJ.out]⟩
          case measure=>simp[intOf] <;> omega
         ·have lJ:=jq gG;have Kk:=jq (tQ gG);clear gG;go_wp2_with fail;refine en (by kernel_rfl) (by kernel_rfl) ?_
          repeat (go_big_quiet_step (first
           | (go_at_call 179; exact Calls.grow_of (Dc _ FL E8 _ uh _ _ _ true lG.out))
           | (go_at_call 180; exact Calls.grow_of (Mh _ _ _ _ _ _ _ false Kk.out))))
          refine wpQuiet_nil ?_;rintro _ ⟨g,rfl⟩;go_wp2_with fail;go_ret;refine⟨aj ?_,za.out.trans (g.below.mono (by omega))⟩;rw[HV.out,HG.out,H1.out,Qc (by have:=lJ.out; omega)]
       ·have AW:Np.jX (Np.cm k) ⟨sd.data.toList,ds[j].n,ds[j].m⟩=false:=by simpa using pR
        have lG:=jq AW;clear pR AW;go_wp2_with fail;refine en (by kernel_rfl) (by kernel_rfl) ?_
        repeat (go_big_quiet_step ((go_at_call 179; exact Calls.grow_of (Dc _ FL E8 _ uh _ _ _ false lG.out))))
        refine wpQuiet_nil ?_;rintro _ ⟨g,rfl⟩;go_wp2_with fail;go_ret;refine⟨aj ?_,za.out.trans (g.below.mono (by omega))⟩;rw[HV.out,HG.out,Np.Mk (aQ ab) (by rw[<-th.out]; exact lG.out)]
      ·go_wp2_with fail;go_ret;refine⟨aj ?_,aD.out.trans (aw.mono (by omega))⟩;rw[HV.out,HG.out,List.drop_eq_nil_of_le (by omega)];rfl
theorem ye{s:ByteArray}(h:Np.aG s.data.toList=true):s.size<=60:=by
 rw[Np.LZ] at h;split at h
 ·rename_i e; rw[<-bn,e]; decide
 ·split at h
  ·cases h
  ·rename_i h6; rw[bn] at h6; omega
theorem Tx(s1 s2:ByteArray)(t1 l1 t2 l2:Int)(v1 v2:Value)(d1 d2:List Np.Datum)(n1:Np.aG s1.data.toList=true)(n2:Np.aG s2.data.toList=true)(w:World) :
 Calls prog 182 #[.agg #[.string s1,.int .i64 t1,.int .i64 l1,v1],.agg #[.string s2,.int .i64 t2,.int .i64 l2,v2]] w
  λe w'=>e = .returned (.int .i64 (Np.io ⟨s1.data.toList,t1,l1,d1⟩ ⟨s2.data.toList,t2,l2,d2⟩))/\Below w.heap.size w w':=by
 have hw:∀ o o',Below w.heap.size w ((w.alloc o).alloc o'):=λo o'=>((vQ _ w).alloc (bQ _) _).alloc (by simp) _;have HW:=jq hw;clear hw;have bI:=ye n1;have aN:=ye n2;have N1:=jq n1;have N2:=jq n2;have hc:=Np.DB ⟨s1.data.toList,t1,l1,d1⟩ ⟨s2.data.toList,t2,l2,d2⟩;simp only at hc;rw[hc];clear n1 n2 hc;generalize hQ:Np.aM s1.data.toList s2.data.toList=q;have HQ:=jq hQ;clear hQ;have key:∀ r:Int,(q≠0->r=q)->(q=0->r=Np.cX t1 t2)->(if q≠0 then q else Np.cX t1 t2)=r:=λr h1 h2=>by
  by_cases h:q=0
  ·rw[Qc (λe=>e h),h2 h]
  ·rw[Qb h,h1 h]
 have KEY:=jq key;clear key;by_cases hq:q=0
 ·have KQ:=jq hq;subst hq;by_cases h1:t1<t2
  ·rw[KEY.out (-1) (λe=>absurd rfl e) (λ_=>by rw[Np.cX,Qb h1])];go_enter func182,ntmps182;go_wp2_with fail;refine (C8 s1 s2 (by omega) (by omega) N1.out N2.out _).mono ?_;rw[HQ.out];rintro e w1 ⟨rfl,hb⟩;obtain⟨bC,uB⟩:=tN hb;have HB:=jq ((HW.out _ _).trans (hb.mono (by simp; omega)));clear hb;go_wp2_with fail;go_ret;exact⟨rfl,HB.out⟩
  ·by_cases h2:t2<t1
   ·rw[KEY.out 1 (λe=>absurd rfl e) (λ_=>by rw[Np.cX,Qc h1,Qb h2])];go_enter func182,ntmps182;go_wp2_with fail;refine (C8 s1 s2 (by omega) (by omega) N1.out N2.out _).mono ?_;rw[HQ.out];rintro e w1 ⟨rfl,hb⟩;obtain⟨bC,uB⟩:=tN hb;have HB:=jq ((HW.out _ _).trans (hb.mono (by simp; omega)));clear hb;go_wp2_with fail;go_ret;exact⟨rfl,HB.out⟩
   ·rw[KEY.out 0 (λe=>absurd rfl e) (λ_=>by rw[Np.cX,Qc h1,Qc h2])];go_enter func182,ntmps182;go_wp2_with fail;refine (C8 s1 s2 (by omega) (by omega) N1.out N2.out _).mono ?_;rw[HQ.out];rintro e w1 ⟨rfl,hb⟩;obtain⟨bC,uB⟩:=tN hb;have HB:=jq ((HW.out _ _).trans (hb.mono (by simp; omega)));clear hb;go_wp2_with fail;go_ret;exact⟨rfl,HB.out⟩
 ·have um:(q != 0)=true:=by simpa using hq
  rw[KEY.out q (λ_=>rfl) (λe=>absurd e hq)];clear hq;go_enter func182,ntmps182;go_wp2_with fail;refine (C8 s1 s2 (by omega) (by omega) N1.out N2.out _).mono ?_;rw[HQ.out];rintro e w1 ⟨rfl,hb⟩;obtain⟨bC,uB⟩:=tN hb;have HB:=jq ((HW.out _ _).trans (hb.mono (by simp; omega)));clear hb;go_wp2_with fail;go_ret;exact⟨rfl,HB.out⟩
theorem GD{c:UInt8}{r:List UInt8}(hc:c≠46):∃ x xs,Np.be (c::r)=(c::x)::xs:=by
 unfold Np.be;rw[Qc hc]
 cases Np.be r with
 | nil=>exact⟨[],[],rfl⟩
 | cons x xs=>exact⟨x,xs,rfl⟩
theorem Nb{l:List UInt8}(h:Np.aG l=true):Np.fp l=((Np.eW l).head? == some [42]):=by
 unfold Np.eW;by_cases hd:l = [46]
 ·subst hd; decide
 ·rw[Qc hd]
  cases l with
  | nil=>exact absurd h (by decide)
  | cons c r=>
   have hg:Np.fO (Np.be (c::r)).reverse 0 false=true:=by
    unfold Np.aG at h;rw[Qc hd] at h;split at h
    ·cases h
    ·exact h
   have hl:=Np.MS _ _ _ hg;by_cases hc:c=46
   ·subst hc;have e:Np.be (46::r) = []::Np.be r:=by rw[Np.be,Qb rfl]
    rw[e] at hl
    have:=hl [] (by simp)
    rcases this with h1 | h1
    ·cases h1
    ·exact absurd h1 (by decide)
   ·obtain⟨x,xs,e⟩:=GD (r:=r) hc;rw[e] at hl |-;rw[Bool.eq_iff_iff];simp only[Np.fp,List.head?_cons,beq_iff_eq,Option.some.injEq,List.cons.injEq];constructor
    ·rintro rfl;rcases hl (42::x) (by simp) with h1 | h1
     ·simpa using h1
     ·exfalso;unfold Np.cF at h1;simp only[Bool.and_eq_true,List.all_cons] at h1;exact absurd h1.2.1 (by decide)
    ·exact λh=>h.1
theorem Mf(s:ByteArray)(h:Np.aG s.data.toList=true)(w:World) :
 Calls prog 110 #[.string s] w λe w'=>e = .returned (.bool (Np.fp s.data.toList))/\Below w.heap.size w w':=by
 have hw:=Nb h;have an:=ye h;obtain⟨ps,ew⟩:∃ ps,Np.eW s.data.toList=ps:=⟨_,rfl⟩;obtain⟨r,hr⟩:∃ r,(ps.head? == some [42])=r:=⟨_,rfl⟩;rw[hw,ew,hr];have s9:=jq ew;have HR:=jq hr;clear hw h ew hr;go_enter func110,ntmps110;go_wp2_with fail;refine (zS s (by omega) _).mono ?_;rw[s9.out];rintro e w1 ⟨v,rfl,hv,hb⟩;have HB:=jq hb;clear hb;obtain⟨A,c,rfl,hc,hl,he⟩:=hv
 cases ps with
 | nil=>
  have HX:Hid (r=false):=jq (by rw[<-HR.out]; rfl);go_wp2_with fail;go_ret;exact⟨aj HX.out.symm,HB.out⟩
 | cons x xs=>
  obtain⟨b,o,e,rfl,cD,_,hce,hx⟩:=he 0 x rfl;have hx':e = [aH x]:=hx;subst hx';have h0:w1.cell? ⟨b,o,none⟩=some (aH x):=by have:=hce 0 _ rfl; simpa using this
  have HX:Hid ((x == [42])=r):=jq (by rw[<-HR.out,List.head?_cons,Bool.eq_iff_iff]; simp);obtain⟨n,hn⟩:∃ n,(x::xs).length=n:=⟨_,rfl⟩;have mo:0<n:=by rw[<-hn]; simp
  have hnI:(0:Int)<(n:Int):=by omega
  rw[hn];clear he hce hx hc hl hn;go_wp2_with fail
  all_goals
   go_ret;refine⟨aj ?_,HB.out⟩;rw[<-HX.out]
end
section
open Go.RowKit Go.Shelf
attribute [local go_sem] Oper.semAt_some
theorem fR.block{w w':World}{B:Nat}{xs:List (List UInt8)}(h:fR w B xs)(hb:w'.heap[B]?=w.heap[B]?):fR w' B xs:=λj x hx=>by
 obtain⟨s,h1,h2,h3,h4⟩:=h j x hx;refine⟨s,h1,h2,(iQ (a:=⟨B,j,none⟩) hb).trans h3,?_⟩;rw[<-h4];simp only[World.frozen?,hb]
def PF(w:World)(M b5 b6:Nat)(pre:List (List UInt8))(S:Nat->Prop)(W:World):Prop:=
 (∀ k,S k↔k=M\/k=b5\/k=b6)/\Boxed W b5 38 (.slice (some ⟨M,0,none⟩) 8 8)/\Boxed W b6 3 (.int .i64 ((8 - pre.length:Nat):Int))/\pre.length<=8/\Hid (fR W M (List.replicate (8 - pre.length) []++pre.reverse))/\M<W.heap.size/\Below w.heap.size w W
theorem MR(w:World)(M b5 b6:Nat)(B:Nat)(hB:w.heap.size<=B):gh B (PF w M b5 b6):=by
 rintro s S W W' ⟨hS,h1,h2,h3,h4,h6,h5⟩ aB;refine⟨hS,kN h1 aB ((hS _).2 (.inr (.inl rfl))),kN h2 aB ((hS _).2 (.inr (.inr rfl))),h3,jq (h4.out.block ?_),lQ h6 aB.size,vw h5 aB hB (bQ _)⟩;exact aB.keep _ h6 (.inr ((hS _).2 (.inl rfl)))
theorem ZB{p:Nat}{pre:List (List UInt8)}{x:List UInt8}(hp:pre.length=p)(h8:p<8):(List.replicate (8 - p) []++pre.reverse).set (8 - (p+1)) x=List.replicate (8 - (p+1)) []++(pre ++ [x]).reverse:=by
 have e:List.replicate (8 - p) ([]:List UInt8)=List.replicate (8 - (p+1)) [] ++ [[]]:=by
  rw[show 8 - p=(8 - (p+1))+1 by omega,List.replicate_succ']
 rw[e,List.append_assoc,List.set_append_right _ _ (by rw[List.length_replicate]; exact bQ _),List.length_replicate,Nat.sub_self,List.reverse_append];rfl
theorem Gn:∀ (xs:List (List UInt8)) (n:Nat) (b:Bool),Np.fO xs n b=true->n<=8->n+xs.length<=8
 | [],n,b,_,h=>by simpa using h
 | x::xs,n,b,h,hn=>by
   unfold Np.fO at h;split at h
   ·cases h
   ·rename_i hc;simp only[Bool.or_eq_true,Qa,not_or] at hc;rw[List.length_cons];split at h
    ·have:=Gn xs (n+1) true h (by omega); omega
    ·split at h
     ·have:=Gn xs (n+1) false h (by omega); omega
     ·cases h
theorem Yk{l:List UInt8}(h:Np.aG l=true):(Np.bj l).length<=8:=by
 unfold Np.bj;split
 ·simp
 ·rename_i hd;unfold Np.aG at h;rw[Qc hd] at h;split at h
  ·cases h
  ·have:=Gn _ 0 false h (by omega)
   omega
theorem WD(t:ByteArray)(hv:Np.aG t.data.toList=true)(w:World) :
 Calls prog 137 #[.string t] w λe w'=>(∃ v,e = .returned (.tuple #[v,.int .i64 0])/\SlR RTx 1 w' w'.heap.size v (Np.eW t.data.toList))/\Below w.heap.size w w':=by
 have ht:t.size<=60:=ye hv;have Cw:Hid ((Np.bj t.data.toList).length<=8):=jq (Yk hv);have HV:=jq hv;clear hv;have gL:∀ w:World,(Instr.makeSlice 38 (.int .i64 8) (.int .i64 8)).run prog w = .ok (.slice (some ⟨w.heap.size,0,none⟩) 8 8) (w.alloc (.cells (madeCells #[Value.string ⟨#[]⟩] 8) 9)):=λw=>G6 8 (by decide) w;have HZ:Hid (∀ j,j<8->(madeCells #[Value.string ⟨#[]⟩] 8)[j]?=some (.string ⟨#[]⟩)):=jq (λj hj=>Hj _ _ hj);generalize madeCells #[Value.string ⟨#[]⟩] 8=Z at gL HZ;refine (callsIn_wide (n:=0)).1 ?_;refine callsIn_of_wp_marks func137 rfl trivial ?_ rfl;simp only[ntmps137,List.size_toArray,List.length_cons,List.length_nil,Nat.reduceAdd,Nat.reduceSub,Array.replicate_succ,Array.replicate_zero,List.push_toArray,List.append_toArray,List.nil_append,List.cons_append];gi_wp2_with fail;refine⟨trivial,rfl,?_⟩;refine (callsIn_wide.2 (valid_any t (by omega) _)).mono ?_;rintro e w1 ⟨rfl,aq⟩;rw[HV.out];have aF:=jq aq;have bI:=aq.size;clear aq;gi_wp2_with fail;have b5:=Boxed.new (w1.alloc (.cells Z 9)) 38 (.slice (some ⟨w1.heap.size,0,none⟩) 8 8);have b6:=Boxed.new ((w1.alloc (.cells Z 9)).alloc (.cells #[.slice (some ⟨w1.heap.size,0,none⟩) 8 8] 38)) 3 (.int .i64 8);simp only[World.size_alloc] at b5 b6;have hR0:fR (w1.alloc (.cells Z 9)) w1.heap.size (List.replicate 8 []):=λj x hx=>by
  rw[List.getElem?_replicate] at hx;split at hx
  ·rename_i hj
   cases hx
   exact⟨⟨#[]⟩,rfl,by decide,by simp[go_sem]; exact HZ.out j hj,by simp[go_sem]⟩
  ·cases hx
 refine Dh (n₀:=w.heap.size) (w0:=w) (first:=#[.string t]) (captured:=#[]) (gf:=98) rfl (enters_of func98 (by kernel_rfl) rfl) (mk:=λy=>#[.string t,y]) (λ_=>rfl)
  (Da t (by omega) _ w) (aF.out.trans ((((vQ _ w1).alloc (bQ _) _).alloc (by simp) _).alloc (by simp; omega) _ |>.mono bI)) (by simp; omega) (λ_=>rfl) (PF w w1.heap.size (w1.heap.size+1) (w1.heap.size+1+1)) (λ_ _ _ _=>False)
  (MR _ _ _ _ _ (by simp; omega)) (λc s S W W' h _=>h)
  (λk=>k=w1.heap.size\/k=w1.heap.size+1\/k=w1.heap.size+1+1) (by intro k h; omega) (by intro k h; simp; omega)
  ⟨λ_=>Iff.rfl,b5.alloc _,b6,by simp,jq ((hR0.keep (((vQ _ _).alloc (bQ _) _).alloc (by simp) _) (by simp))),by simp; omega,aF.out.trans ((((vQ _ w1).alloc (bQ _) _).alloc (by simp) _).alloc (by simp; omega) _ |>.mono bI)⟩ ?round ?done ?stop
 case round=>
  rintro l0 pre x S W cC hI gk;gi_wp2;refine⟨S,RdStep.refl _ _,λk e=>.inl e,gk,?_⟩;intro l W₂ aB;obtain⟨hS,c5,c6,h8,hrow,JK,hB⟩:=MR w _ _ _ _ (by simp; omega) pre S W W₂ hI aB;have lu:pre.length+1<=8:=by
   have:=cC.length_le
   have h9:=Cw.out;simp at this;omega
  have hx:x∈Np.bj t.data.toList:=cC.subset (by simp);have ue:x.length<=60:=by have:=Np.DS hx; rw[bn] at this; omega
  have nr:∀ k,S k->k<W₂.heap.size:=λk e=>lQ (gk k e) aB.size;obtain⟨j,hj⟩:∃ j,8 - (pre.length+1)=j:=⟨_,rfl⟩;have hq:((8 - pre.length:Nat):Int)=((j+1:Nat):Int):=by omega
  rw[hq] at c6;have hj8:j<8:=by omega
  obtain⟨sz,_,_,uz,sT⟩:=hrow.out j [] (by rw[List.getElem?_append_left (by rw[List.length_replicate]; omega),List.getElem?_replicate,Qb (by omega)]);have uU:Hid (∀ W',fR W' w1.heap.size (List.replicate (8 - pre.length) []++pre.reverse)->fR (W'.setCell ⟨w1.heap.size,j,none⟩ (aH x)) w1.heap.size (List.replicate (8 - (pre ++ [x]).length) []++(pre ++ [x]).reverse)):=jq (λW' hW=>by
   have h1:=hW.store (k:=j) (by rw[List.length_append,List.length_replicate,List.length_reverse]; omega) ⟨x.toArray⟩ (by rw[<-bn]; simp; omega);have e:((⟨x.toArray⟩:ByteArray).data.toList)=x:=by simp
   rw[e,<-hj,ZB rfl (by omega)] at h1;rw[List.length_append,List.length_singleton,<-hj];exact h1)
  have HOLD:=jq hrow.out;have cK:=jq c5;have cS:=jq c6;have c5c:=c5.cell;have c6c:=c6.cell;have c5f:=c5.frozen;have c6f:=c6.frozen;have al:IntKind.i64.wrap (((j+1:Nat):Int) - 1)=(j:Int):=by rw[IntWalk.i64_in _ (by omega)]; omega
  have jx:(0:Int)<=(j:Int):=by omega
  have qJ:(j:Int)<8:=by omega
  have HJ:=jq hj;clear hx hq cC hI hrow c5 c6 hj;have hlen:8 - (pre ++ [x]).length=j:=by rw[List.length_append,List.length_singleton]; exact HJ.out
  have zr:=jq hlen;clear hlen;gi_wp2;refine⟨S,((RdStep.refl S W₂).setCell (p:=⟨w1.heap.size+1+1,0,none⟩) (.inl ((hS _).2 (.inr (.inr rfl)))) _).setCell (p:=⟨w1.heap.size,j,none⟩) (.inl ((hS _).2 (.inl rfl))) _,λ_ e=>.inl e,λk e=>by have:=nr k e; simp[World.setCell]; omega,hS,?_,?_,by rw[List.length_append,List.length_singleton]; omega,jq (uU.out _ (HOLD.out.other (by simp <;> omega) _)),by simpa using JK,(hB.setCell (p:=⟨w1.heap.size+1+1,0,none⟩) (by simp; omega) _).setCell (p:=⟨w1.heap.size,j,none⟩) (by simpa using bI) _⟩
  ·exact fG (fG cK.out (p:=⟨w1.heap.size+1+1,0,none⟩) (by simp) _) (p:=⟨w1.heap.size,j,none⟩) (by simp) _
  ·rw[zr.out];exact fG (cS.out.set _) (p:=⟨w1.heap.size,j,none⟩) (by simp <;> omega) _
 case done=>
  rintro D S W hD g9 bM ⟨hS,c5,c6,h8,hrow,JK,hB⟩ hK;have c5c:=c5.cell;have c6c:=c6.cell;obtain⟨n,hn⟩:∃ n,(Np.bj t.data.toList).length=n:=⟨_,rfl⟩;rw[hn] at c6c h8;obtain⟨q,hq⟩:∃ q,8 - n=q:=⟨_,rfl⟩;rw[hq] at c6c;have vO:q<=8:=by omega
  have kJ:(0:Int)<=(q:Int):=by omega
  have IN:(q:Int)<=8:=by omega
  have HN:=jq hn;have HQ:=jq hq;have HMD:Hid (w1.heap.size≠D):=jq (λe=>g9 ((hS _).2 (.inl e.symm)));have uU:=jq hrow.out;have EC:Hid (Np.eW t.data.toList=(Np.bj t.data.toList).reverse):=jq (by rw[<-Np.zZ,List.reverse_reverse]);have wn:Hid (∀ x∈Np.bj t.data.toList,x.length<=140737488355328):=jq (λx hx=>by have:=Np.DS hx; rw[bn] at this; omega);clear hrow;by_cases mo:n=0
  ·have aPZ:q=8:=by omega
   have auK:Hid (Np.eW t.data.toList = []):=jq (by rw[EC.out,rQ (HN.out.trans mo)]; rfl);clear hn hq c5 c6 mo;subst aPZ;gi_wp2;exact pI hK (v:=.tuple #[.slice (some ⟨w1.heap.size,0,none⟩) 0 0,.int .i64 0]) (by simp[results,results137,go_sem]) ⟨⟨_,rfl,by rw[auK.out]; exact⟨_,_,rfl,by simp,by simp,λi x hx=>by simp at hx⟩⟩,py hB (by have:=aF.out.size; simp at hD; omega) _⟩
  ·have CO:q<8:=by omega
   have beK:(q:Int)<8:=by omega
   have gO:¬ q=8:=by omega
   have nf:Hid (8 - q=n):=jq (by omega);have hln:8 - q=n:=by omega
   clear hn hq c5 c6 mo;gi_wp2;refine pI hK (v:=.tuple #[.slice (some ⟨w1.heap.size,q,none⟩) n n,.int .i64 0]) (by simp[results,results137,go_sem]) ⟨⟨_,rfl,?_⟩,py hB (by have:=aF.out.size; simp at hD; omega) _⟩;have hr:fR (W.putObj D (.deferred none)) w1.heap.size (List.replicate (8 - (Np.bj t.data.toList).length) []++(Np.bj t.data.toList).reverse):=uU.out.block (zQ HMD.out);rw[EC.out];have wJ:(Np.bj t.data.toList).reverse.length=n:=by rw[List.length_reverse]; exact HN.out
   refine⟨_,n,by rw[wJ],by omega,by omega,λi x hx=>?_⟩;have hin:=(cQ.1 hx).1;obtain⟨s,h1,h2,h3,_⟩:=hr (q+i) x (by rw[HN.out,HQ.out,oQ (by rw[List.length_replicate]; omega),List.length_replicate,show q+i - q=i by omega]; exact hx);refine⟨w1.heap.size,q,[.string s],rfl,by simpa using JK,rfl,λj v hv=>?_,s,h1,h2,rfl⟩
   match j,hv with
   | 0,hv=>cases hv; simpa using h3
 case stop=>
  rintro D c pre S W hD g9 bM jf h hK;exact h.elim
theorem Un(s:ByteArray)(h:Np.aG s.data.toList=true)(w:World) :
 Calls prog 128 #[.string s] w λe w'=>e = .returned (.bool (Np.fp s.data.toList))/\Below w.heap.size w w':=by
 have hw:=Nb h;obtain⟨ps,ew⟩:∃ ps,Np.eW s.data.toList=ps:=⟨_,rfl⟩;obtain⟨r,hr⟩:∃ r,(ps.head? == some [42])=r:=⟨_,rfl⟩;rw[hw,ew,hr];have s9:=jq ew;have HR:=jq hr;have HV:=jq h;clear hw h ew hr;go_enter func128,ntmps128;go_wp2_with fail;refine (WD s HV.out _).mono ?_;rw[s9.out];rintro e w1 ⟨⟨v,rfl,hv⟩,hb⟩;have HB:=jq hb;clear hb;obtain⟨A,c,rfl,hc,hl,he⟩:=hv
 cases ps with
 | nil=>
  have HX:Hid (r=false):=jq (by rw[<-HR.out]; rfl);go_wp2_with fail;go_ret;exact⟨aj HX.out.symm,HB.out⟩
 | cons x xs=>
  obtain⟨b,o,e,rfl,cD,_,hce,sx,tV,_,rfl⟩:=he 0 x rfl;have h0:w1.cell? ⟨b,o,none⟩=some (.string sx):=by have:=hce 0 _ rfl; simpa using this
  obtain⟨q,hq⟩:∃ q,(sx.toList == [42])=q:=⟨_,rfl⟩;have HX:Hid (q=r):=jq (by rw[<-HR.out,<-hq,dQ,tV,List.head?_cons,Bool.eq_iff_iff]; simp);obtain⟨n,hn⟩:∃ n,(x::xs).length=n:=⟨_,rfl⟩;have mo:0<n:=by rw[<-hn]; simp
  have hnI:(0:Int)<(n:Int):=by omega
  rw[hn];clear he hce hc hl hn tV
  cases q with
  | true=>
   go_wp2_with fail;go_ret;exact⟨aj HX.out,HB.out⟩
  | false=>
   go_wp2_with fail;go_ret;exact⟨aj HX.out,HB.out⟩
end
section
open Go.RowKit Go.MapKept
def nO(r:Nat)(kvs:List (Int×Value))(w:World):Prop:=∃ es c,w.heap[r]?=some (.map es c)/\es.toList.map (λe=>(e.key,e.val))=kvs.map λp=>(Value.int .i64 p.1,p.2)
theorem nO.lt{r:Nat}{kvs:List (Int×Value)}{w:World}(h:nO r kvs w):r<w.heap.size:=by
 obtain⟨es,c,h,_⟩:=h;exact (eQ.1 h).1
theorem nO.keep{r:Nat}{kvs:List (Int×Value)}{w w':World}{n:Nat}(h:nO r kvs w)(hb:Below n w w')(hn:r<n):nO r kvs w':=by
 obtain⟨es,c,h,h2⟩:=h;exact⟨es,c,(hb.block r hn).trans h,h2⟩
theorem nO.made(w:World):nO w.heap.size [] (w.alloc (.map #[] 0)):=⟨#[],0,heap_alloc_new _ _,rfl⟩
theorem MT(x:Int):∀ (es:List MapEntry) (kvs:List (Int×Value)) (i:Nat),es.map (λe=>(e.key,e.val))=kvs.map (λp=>(Value.int .i64 p.1,p.2))->
 (∀ v,kvs.lookup x=some v->∃ j,Instr.findNow (.int .i64) (.int .i64 x) es i=some (some (j,v)))/\(kvs.lookup x=none->Instr.findNow (.int .i64) (.int .i64 x) es i=some none):=by
 intro es
 induction es with
 | nil=>
  intro kvs i h
  cases kvs with
  | nil=>exact⟨λv hv=>by simp at hv,λ_=>rfl⟩
  | cons=>simp at h
 | cons e es ih=>
  intro kvs i h
  cases kvs with
  | nil=>simp at h
  | cons p kvs=>
   obtain⟨y,u⟩:=p;simp only[List.map_cons,List.cons.injEq,Prod.mk.injEq] at h;obtain⟨⟨h1,h2⟩,h3⟩:=h;have hs:Instr.sameNow (.int .i64) (.int .i64 x) e.key=some (x == y):=by rw[h1]; simp[Instr.sameNow]
   by_cases cI:x=y
   ·subst cI;have hb:(x == x)=true:=by simp
    rw[hb] at hs;refine⟨λv hv=>⟨i,?_⟩,λhv=>?_⟩
    ·rw[List.lookup_cons_self] at hv;simp only[Instr.findNow,hs]
     cases hv
     rw[h2]
    ·rw[List.lookup_cons_self] at hv; cases hv
   ·have hb:(x == y)=false:=by simpa using cI
    rw[hb] at hs;have hl:((y,u)::kvs).lookup x=kvs.lookup x:=by rw[List.lookup_cons,hb]
    rw[hl];obtain⟨i1,i2⟩:=ih kvs (i+1) h3;refine⟨λv hv=>?_,λhv=>?_⟩
    ·obtain⟨j,hj⟩:=i1 v hv;exact⟨j,by simp only[Instr.findNow,hs]; exact hj⟩
    ·simp only[Instr.findNow,hs]; exact i2 hv
section
variable {P:Program} {ops:Array Oper} {rest:List Oper} {o:Oper} {a:Act} {Q:Exit->Act->World->Prop}
theorem Tq(w:World)(hg:o.guard=none)(m x v:Operand)(t:TypeId)(kx:o.op=Op.mapUpdate t m x v)(kt et:TypeId)(ht:P.underlying t=some (.map kt et))(hk:P.underlying kt=some (.int .i64))
 (r:Nat) (kvs:List (Int×Value)) (hm:a.eval m = .map (some r)) (hr:nO r kvs w) (key:Int) (hx:a.eval x = .int .i64 key) (val:Value) (hv:a.eval v=val) (iG:kvs.lookup key=none)
 (hK:∀ w',nO r (kvs ++ [(key,val)]) w'->Turned r w w'->wpList P ops Q rest (a.put o.dst undef) w'):wpList P ops Q (o::rest) a w:=by
 obtain⟨es,c,hr,he⟩:=hr;have hf:=(MT key es.toList kvs 0 he).2 iG;refine wpList_plain hg λK' hK'=>?_;have hc:(Instr.checkKey false 10000 kt (.int .i64 key)).run P w = .ok () w:=MapKept.run_checkKey (k:=.int .i64 key) hk (by simp[MapKept.IsKey]) false 9999;have dH:(Instr.mapUpdate t (.map (some r)) (.int .i64 key) val).run P w = .ok () { w with heap:=w.heap.setIfInBounds r (.map (es.push { key:=.int .i64 key,val:=val,born:=c }) (c+1)) }:=by
  simp[Instr.mapUpdate,run_underlying ht,MapKept.run_getObj_map hr,hc,MapKept.run_findKey hk hf,MapKept.run_setObj_map _ hr,Result.andThen]
 unfold Oper.wp;simp[execOp,kx,hm,hx,hv,dH,Result.andThen];have hl:r<w.heap.size:=(eQ.1 hr).1;refine hK' _ _ (hK _ ⟨_,_,by simp[hl]; exact⟨rfl,rfl⟩,by simp[he]⟩ ⟨rfl,rfl,rfl,by simp,λi hi=>by simp[Ne.symm hi]⟩)
theorem TP(w:World)(t kt et:TypeId)(ht:P.underlying t=some (.map kt et))(hk:P.underlying kt=some (.int .i64))(r:Nat)(kvs:List (Int×Value))(hr:nO r kvs w)(key:Int)(z:Value)(hz:(zeroValue et).run P w = .ok z w) :
 (Instr.lookup t (.map (some r)) (.int .i64 key) false).run P w = .ok ((kvs.lookup key).getD z) w:=by
 obtain⟨es,c,hr,he⟩:=hr;have hf:=MT key es.toList kvs 0 he;have hc:∀ b,(Instr.checkKey b 10000 kt (.int .i64 key)).run P w = .ok () w:=λb=>MapKept.run_checkKey (k:=.int .i64 key) hk (by simp[MapKept.IsKey]) b 9999
 cases hl:kvs.lookup key with
 | none=>simp[Instr.lookup,run_underlying ht,MapKept.run_getObj_map hr,hc,MapKept.run_findKey hk (hf.2 hl),Result.andThen,hz]
 | some v=>
  obtain⟨j,hj⟩:=hf.1 v hl;simp[Instr.lookup,run_underlying ht,MapKept.run_getObj_map hr,hc,MapKept.run_findKey hk hj,Result.andThen]
end
end
section
open Go.RowKit
def gW(_:World)(_:Nat)(e:List Value)(x:Np.Host):Prop:=∃ s:ByteArray,s.data.toList=x.name/\s.size<=140737488355328/\e = [.string s,.int .i64 x.addr,.int .i64 x.owner]
theorem fF:dK gW:=λ_ _ _ _ _ h _=>h
theorem jZ:dV gW:=λ_ _ _ _ _ h _=>h
theorem tH{w:World}{B n c:Nat}{A:Option Addr}{xs:List Np.Host}(h:SlR gW 3 w B (.slice A n c) xs){k:Nat}{x:Np.Host}(hx:xs[k]?=some x):∃ (b o:Nat) (s:ByteArray),A=some ⟨b,o,none⟩/\b<B/\s.data.toList=x.name/\s.size<=140737488355328/\w.cell? ⟨b,o+k * 3,none⟩=some (.string s)/\w.cell? ⟨b,o+k * 3+1,none⟩=some (.int .i64 x.addr)/\w.cell? ⟨b,o+k * 3+2,none⟩=some (.int .i64 x.owner):=by
 obtain⟨A',c',hv,hc,_,he⟩:=h;simp only[Value.slice.injEq] at hv;obtain⟨rfl,_,_⟩:=hv;obtain⟨b,o,e,rfl,hb,_,hce,s,h1,h2,rfl⟩:=he k x hx;exact⟨b,o,s,rfl,hb,h1,h2,by have:=hce 0 _ rfl; simpa using this,hce 1 _ rfl,hce 2 _ rfl⟩
theorem If{w:World}{B n c:Nat}{A:Option Addr}{xs:List Int}(h:SlR ip 1 w B (.slice A n c) xs){k:Nat}{x:Int}(hx:xs[k]?=some x):∃ (b o:Nat),A=some ⟨b,o,none⟩/\b<B/\w.cell? ⟨b,o+k,none⟩=some (.int .i64 x):=by
 obtain⟨A',c',hv,hc,_,he⟩:=h;simp only[Value.slice.injEq] at hv;obtain⟨rfl,_,_⟩:=hv;obtain⟨b,o,e,rfl,hb,_,hce,rfl⟩:=he k x hx;exact⟨b,o,rfl,hb,by have:=hce 0 _ rfl; simpa using this⟩
def Np.me(n:Int):Bool:=decide (1<=n)&&decide (n<=1000000)
theorem Gg(n:Int)(w:World) :
 Calls prog 129 #[.int .i64 n] w λe w'=>e = .returned (.bool (Np.me n))/\w=w':=by
 obtain⟨r,hr⟩:∃ r,Np.me n=r:=⟨_,rfl⟩;rw[hr];by_cases h1:1<=n
 ·by_cases h2:n<=1000000
  ·have HX:Hid (r=true):=jq (by rw[<-hr]; simp[Np.me,h1,h2]);clear hr;go_enter func129,ntmps129;go_wp2_with fail;go_ret;exact⟨aj HX.out.symm,rfl⟩
  ·have HX:Hid (r=false):=jq (by rw[<-hr]; simp[Np.me,h2]);clear hr;go_enter func129,ntmps129;go_wp2_with fail;go_ret;exact⟨aj HX.out.symm,rfl⟩
 ·have HX:Hid (r=false):=jq (by rw[<-hr]; simp[Np.me,h1]);clear hr;go_enter func129,ntmps129;go_wp2_with fail;go_ret;exact⟨aj HX.out.symm,rfl⟩
theorem M6(a:Int):∀ l:List Np.Host,(((l.map λh=>(h.addr,Value.bool true)).lookup a).getD (.bool false) = .bool (decide (a∈l.map (·.addr))))/\(a∉l.map (·.addr)->(l.map λh=>(h.addr,Value.bool true)).lookup a=none)
 | []=>⟨rfl,λ_=>rfl⟩
 | h::l=>by
   obtain⟨i1,i2⟩:=M6 a l;rw[List.map_cons,List.map_cons];by_cases e:a=h.addr
   ·subst e;rw[List.lookup_cons_self];exact⟨by simp,λhn=>absurd (by simp) hn⟩
   ·have hb:(a == h.addr)=false:=by simpa using e
    rw[List.lookup_cons,hb];exact⟨by rw[i1]; simp[e],λhn=>i2 λhm=>hn (mQ _ hm)⟩
theorem TJ(v:Value)(l:List Np.Host)(w:World)(hd:SlR gW 3 w w.heap.size v l) :
 Calls prog 73 #[v] w λe w'=>e = .returned (.bool (Np.yes (Np.VHosts l)))/\Below w.heap.size w w':=by
 obtain⟨r,hr⟩:∃ r,Np.yes (Np.VHosts l)=r:=⟨_,rfl⟩;rw[hr];have HR:=jq hr;have HD:=jq hd;obtain⟨A,c,rfl,bC,bH⟩:=ag hd;clear hr hd;by_cases wM:l.length<=64
 ·have Kn:=jq wM;have wN:∀ (w:World),(Instr.makeMap 184 none).run prog w = .ok (.map (some w.heap.size)) (w.alloc (.map #[] 0)):=λw=>by
   simp[Instr.makeMap,Result.andThen]
  go_enter func73,ntmps73;go_wp2_with fail;have vZ:=jq (nO.made w);have aq:Below w.heap.size w (w.alloc (.map #[] 0)):=(vQ _ w).alloc (bQ _) _;have aF:=jq aq;have bI:w.heap.size<(w.alloc (.map #[] 0)).heap.size:=by simp
  clear aq;generalize w.alloc (.map #[] 0)=w1 at *;go_loopw [12] (λi wr=>∃ k:Nat,k<=l.length/\i = .int .i64 k/\Hid (Below w.heap.size w wr)/\w.heap.size<wr.heap.size/\Hid (nO w.heap.size ((l.take k).map λh=>(h.addr,Value.bool true)) wr)/\Hid (∀ j x,j<k->l[j]?=some x->Np.HostOk x)/\Hid (((l.take k).map (·.addr)).Nodup)) (λi _=>l.length - (intOf i).toNat)
  case atStart=>exact⟨0,jQ _,rfl,aF,bI,vZ,jq (λj x hj=>by omega),jq (by simp)⟩
  case round=>
   obtain⟨k,hk,rfl,HB,dF,HM,HA,CN⟩:=hrel;by_cases ab:k<l.length
   ·obtain⟨x,ac⟩:∃ x,l[k]?=some x:=⟨_,aQ ab⟩;obtain⟨b,o,sn,rfl,bg,az,bL,f0,f1,f2⟩:=tH (HD.out.keep fF HB.out) ac;have ht:l.take (k+1)=l.take k ++ [x]:=by
     obtain⟨hl,he⟩:=cQ.1 ac;rw[fQ hl,he]
    have HT:=jq ht;have HN:Hid (Np.HostOk x->∀ j y,j<k+1->l[j]?=some y->Np.HostOk y):=jq (λh j y hj hy=>by
     by_cases e:j=k
     ·subst e; rw[ac] at hy; cases hy; exact h
     ·exact HA.out j y (by omega) hy)
    have HF:Hid (¬ Np.HostOk x->r=false):=jq (λh=>by rw[<-HR.out]; exact Np.aP λq=>h (q.each x (gQ ac)));have rY:Hid (x.addr∈(l.take k).map (·.addr)->r=false):=jq (λh=>by
     rw[<-HR.out];refine Np.aP λq=>?_;have h1:=q.addrs;have h2:(l.take (k+1)).map (·.addr) <+: l.map (·.addr):=by rw[List.map_take]; exact List.take_prefix _ _
     have h3:=h1.sublist h2.sublist;rw[ht,List.map_append,List.nodup_append] at h3;exact h3.2.2 x.addr h x.addr (by simp) rfl)
    have aS:=jq az;have ei:Hid (∀ o,Below wr.heap.size wr (wr.alloc o)):=jq (λo=>(vQ _ _).alloc (bQ _) _);obtain⟨w2,ai⟩:∃ w2,wr.alloc (.cells #[.string sn,.int .i64 x.addr,.int .i64 x.owner] 64)=w2:=⟨_,rfl⟩;have aa:Below wr.heap.size wr w2:=by rw[<-ai]; exact ei.out _
    have p0:w2.cell? ⟨wr.heap.size,0,none⟩=some (.string sn):=by rw[<-ai]; simp[go_sem]
    have p1:w2.cell? ⟨wr.heap.size,1,none⟩=some (.int .i64 x.addr):=by rw[<-ai]; simp[go_sem]
    have p2:w2.cell? ⟨wr.heap.size,2,none⟩=some (.int .i64 x.owner):=by rw[<-ai]; simp[go_sem]
    have aN:wr.heap.size<w2.heap.size:=by rw[<-ai]; simp
    have ak:=jq aa;clear ac az ht aa;go_wp2_with fail;clear ai f0 f1 f2;refine (nameValid_any sn bL _).mono ?_;rintro e w3 ⟨rfl,ah⟩;have dP:=ah.size;have av:=jq (ak.out.trans (ah.mono (by omega)));replace p0:w3.cell? ⟨wr.heap.size,0,none⟩=some (.string sn):=(ah.cell (by simpa using aN)).trans p0;replace p1:w3.cell? ⟨wr.heap.size,1,none⟩=some (.int .i64 x.addr):=(ah.cell (by simpa using aN)).trans p1;replace p2:w3.cell? ⟨wr.heap.size,2,none⟩=some (.int .i64 x.owner):=(ah.cell (by simpa using aN)).trans p2;clear ah
    cases lT:Np.aG sn.data.toList with
    | false=>
     have HX:Hid (r=false):=jq (HF.out λh=>by have:=h.name; rw[<-aS.out,lT] at this; cases this);clear lT;go_wp2_with fail;go_ret;exact⟨aj HX.out.symm,HB.out.trans (av.out.mono (by omega))⟩
    | true=>
     have iO:=jq lT;clear lT;go_wp2_with fail;refine (Un sn iO.out _).mono ?_;rintro e w4 ⟨rfl,am⟩;have ga:=am.size;have bD:=jq (av.out.trans (am.mono (by omega)));replace p1:w4.cell? ⟨wr.heap.size,1,none⟩=some (.int .i64 x.addr):=(am.cell (by dsimp only; omega)).trans p1;replace p2:w4.cell? ⟨wr.heap.size,2,none⟩=some (.int .i64 x.owner):=(am.cell (by dsimp only; omega)).trans p2;clear am p0
     cases rW:Np.fp sn.data.toList with
     | true=>
      have HX:Hid (r=false):=jq (HF.out λh=>by have:=h.wild; rw[<-aS.out,rW] at this; cases this);clear rW;go_wp2_with fail;go_ret;exact⟨aj HX.out.symm,HB.out.trans (bD.out.mono (by omega))⟩
     | false=>
      have xJ:=jq rW;clear rW;by_cases BP:x.owner<0
      ·have HX:Hid (r=false):=jq (HF.out λh=>by have:=h.owner; omega);go_wp2_with fail;go_ret;exact⟨aj HX.out.symm,HB.out.trans (bD.out.mono (by omega))⟩
      ·have g1:decide (x.owner<0)=false:=by simpa using BP
       by_cases iY:32<=x.owner
       ·have g2:decide (32<=x.owner)=true:=by simpa using iY
        have HX:Hid (r=false):=jq (HF.out λh=>by have:=h.owner; omega);go_wp2_with fail;go_ret;exact⟨aj HX.out.symm,HB.out.trans (bD.out.mono (by omega))⟩
       ·have g2:decide (32<=x.owner)=false:=by simpa using iY
        have gY:Hid (0<=x.owner/\x.owner<=31):=jq (by omega);clear BP iY
        cases xD:Np.me x.addr with
        | false=>
         have HX:Hid (r=false):=jq (HF.out λh=>by have:=h.addr; simp[Np.me] at xD; omega);have HC:Hid (∀ w,Calls prog 129 #[.int .i64 x.addr] w λe w'=>e = .returned (.bool false)/\w=w'):=jq (λw=>by rw[<-xD]; exact Gg _ _);clear xD;go_wp2_with (go_at_call 129; refine (HC.out _).mono ?_; rintro e w' ⟨rfl,rfl⟩);go_ret;exact⟨aj HX.out.symm,HB.out.trans (bD.out.mono (by omega))⟩
        | true=>
         have bZ:Hid (Np.HostOk x):=jq ⟨by rw[<-aS.out]; exact iO.out,by rw[<-aS.out]; exact xJ.out,by simp[Np.me] at xD; exact xD,gY.out⟩;have HC:Hid (∀ w,Calls prog 129 #[.int .i64 x.addr] w λe w'=>e = .returned (.bool true)/\w=w'):=jq (λw=>by rw[<-xD]; exact Gg _ _);have pj:Hid (nO w.heap.size ((l.take k).map λh=>(h.addr,Value.bool true)) w4):=jq (HM.out.keep bD.out dF);obtain⟨C0,Lc⟩:=M6 x.addr (l.take k);have mE:=TP (P:=prog) w4 184 3 4 underlying184 underlying3 w.heap.size _ pj.out x.addr (.bool false) (by kernel_rfl);rw[C0] at mE;clear xD C0;by_cases hin:x.addr∈(l.take k).map (·.addr)
         ·have HX:Hid (r=false):=jq (rY.out hin);rw[uQ hin] at mE;clear hin Lc;go_wp2_with (go_at_call 129; refine (HC.out _).mono ?_; rintro e w' ⟨rfl,rfl⟩);go_ret;exact⟨aj HX.out.symm,HB.out.trans (bD.out.mono (by omega))⟩
         ·have mX:=jq (Lc hin);have I9:Hid (((l.take (k+1)).map (·.addr)).Nodup):=jq (by
           rw[HT.out,List.map_append,List.nodup_append];refine⟨CN.out,by simp,λy hy z hz e=>?_⟩;simp at hz;exact hin (by rw[<-hz,<-e]; exact hy))
          rw[tQ hin] at mE;clear hin Lc;go_wp2_with (first
           | (go_at_call 129; refine (HC.out _).mono ?_; rintro e w' ⟨rfl,rfl⟩)
           | (at_mapUpdate; refine Tq _ rfl _ _ _ 184 rfl 3 4 underlying184 underlying3 w.heap.size _ rfl pj.out x.addr rfl (.bool true) rfl mX.out ?_; intro w5 mF mg; have H5:=jq (And.intro mF mg); clear mF mg))
          go_roundw
          case rel=>exact⟨k+1,by omega,by go_num,jq ((HB.out.trans (bD.out.mono (by omega))).trans (H5.out.2.below (bQ _))),by rw[H5.out.2.size]; omega,jq (by rw[HT.out,List.map_append]; exact H5.out.1),jq (HN.out bZ.out),I9⟩
          case measure=>simp[intOf] <;> omega
   ·go_wp2_with fail;go_ret;refine⟨aj ?_,HB.out⟩;rw[<-HR.out];refine (Np.bO ⟨Kn.out,λx hx=>?_,?_⟩).symm
    ·obtain⟨j,hj,rfl⟩:=nQ.1 hx;exact HA.out j _ (by omega) (aQ hj)
    ·have:=CN.out
     rwa [kQ (by omega)] at this
 ·have HX:Hid (r=false):=jq (by rw[<-HR.out]; exact Np.aP λq=>wM q.few);have aOY:64<l.length:=by omega
  clear wM;go_enter func73,ntmps73;go_wp2_with fail;go_ret;exact⟨aj HX.out.symm,vQ _ _⟩
end
end Go.Proofs.YtbfbobfbgabjiaaGreatDoor
