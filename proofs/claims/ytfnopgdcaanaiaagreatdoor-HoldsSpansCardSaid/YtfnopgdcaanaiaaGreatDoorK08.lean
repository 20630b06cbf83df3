/- Parts of the proof. No condition. -/
import Derived.Deep.DeepCutAuto
import Derived.Test.YtfnopgdcaanaiaaGreatDoorK06
set_option linter.all false
set_option maxRecDepth 100000
set_option maxHeartbeats 8000000
namespace Go.Proofs.YtfnopgdcaanaiaaGreatDoor
open Go.Proofs.Tryz
section
open Go.RowKit
def wK(l:List UInt8)(j:Nat):Prop:=∃ c,l[j]?=some c/\(Np.qk c=true\/Np.nh c=true\/(c=45/\0<j/\j+1<l.length))
theorem P0{c:UInt8}(h:Np.qk c=true\/Np.nh c=true):c≠45:=by rintro rfl;revert h;decide
theorem ZO{l:List UInt8}(h:∀ j,j<l.length->wK l j):Np.cg l=(decide (1<=l.length)&&decide (l.length<=12)):=by
 have aA:l.all Np.mj=true:=by
  rw[List.all_eq_true];intro c hc;obtain⟨j,hj,rfl⟩:=nQ.1 hc;obtain⟨c,e,ho⟩:=h j hj;rw[aQ hj] at e;simp only[Option.some.injEq] at e;rw[e];unfold Np.mj;rcases ho with ho | ho | ⟨ho,_⟩ <;> simp[ho]
 unfold Np.cg;rw[aA,Bool.and_true];by_cases h1:1<=l.length
 ·have hh:∀ j,j<l.length->j=0\/j+1=l.length->l[j]?≠some 45:=by
   intro j hj he hc;obtain⟨c,e,ho⟩:=h j hj;rw[hc] at e;simp only[Option.some.injEq] at e;subst e;rcases ho with ho | ho | ⟨_,h2,h3⟩
   ·exact P0 (.inl ho) rfl
   ·exact P0 (.inr ho) rfl
   ·omega
  have h2:(l.head? == some 45)=false:=by rw[List.head?_eq_getElem?];simpa using hh 0 (by omega) (.inl rfl)
  have h3:(l.getLast? == some 45)=false:=by rw[List.getLast?_eq_getElem?];simpa using hh (l.length - 1) (by omega) (.inr (by omega))
  rw[h2,h3];simp
 ·rw[tQ h1];rfl
theorem Py{l:List UInt8}{j:Nat}(hj:j<l.length)(h:¬ wK l j):Np.cg l=false:=by
 cases hl:Np.cg l with
 | false=>rfl
 | true=>
  exfalso;unfold Np.cg at hl;simp only[Bool.and_eq_true,Qa,Bool.not_eq_true',beq_eq_false_iff_ne] at hl;obtain⟨⟨⟨_,h2⟩,h3⟩,h4⟩:=hl;have hb:=List.all_eq_true.1 h4 l[j] (List.getElem_mem hj);refine h ⟨l[j],aQ hj,?_⟩;simp only[Np.mj,Bool.or_eq_true,beq_iff_eq] at hb;rcases hb with (hb | hb) | hb
  ·exact .inl hb
  ·exact .inr (.inl hb)
  ·refine .inr (.inr ⟨hb,?_,?_⟩)
   ·refine Nat.pos_of_ne_zero λe=>?_;subst e;rw[List.head?_eq_getElem?,aQ hj,hb] at h2;exact h2 rfl
   ·refine Nat.lt_of_not_le λe=>?_
    have:j=l.length - 1:=by omega
    rw[List.getLast?_eq_getElem?,<-this,aQ hj,hb] at h3;exact h3 rfl
theorem agZ(s:ByteArray)(k:Nat)(hk:k<s.size):wK s.data.toList k↔((97<=(s[k].toNat:Int)/\(s[k].toNat:Int)<=122)\/(48<=(s[k].toNat:Int)/\(s[k].toNat:Int)<=57)\/((s[k].toNat:Int)=45/\0<k/\k+1<s.size)):=by
 unfold wK;rw[x9 s k hk];simp only[Option.some.injEq,exists_eq_left'];have tb:s[k]=45↔(s[k].toNat:Int)=45:=by
  constructor
  ·intro h;rw[h];rfl
  ·intro h;apply UInt8.toNat_inj.1;have:s[k].toNat=45:=by omega
   rw[this];rfl
 rw[tb,aZ];unfold Np.qk Np.nh;simp only[Bool.and_eq_true,Qa,UInt8.le_iff_toNat_le];have e1:(97:UInt8).toNat=97:=rfl;have e2:(122:UInt8).toNat=122:=rfl;have e3:(48:UInt8).toNat=48:=rfl;have e4:(57:UInt8).toNat=57:=rfl;rw[e1,e2,e3,e4];omega
theorem aqK(s:ByteArray)(hs:s.size<=140737488355328)(w:World) :
 Calls prog 104 #[.string s] w λe w'=>e = .returned (.bool (Np.cg s.data.toList))/\w=w':=by
 go_enter func104,ntmps104;go_wp2;go_loop [3] (λi=>∃ k:Nat,k<=s.size/\i = .int .i64 k/\Hid (∀ j,j<k->wK s.data.toList j)) (λi=>s.size - (intOf i).toNat)
 case atStart=>exact⟨0,jQ _,rfl,jq (λj h=>by omega)⟩
 case round=>
  obtain⟨k,hk,rfl,HA⟩:=hrel;by_cases aa:k<s.size
  ·have hb:=zg s[k];have HN:=jq (agZ s k aa);have BP:wK s.data.toList k->∀ j,j<k+1->wK s.data.toList j:=λh j hj=>by
    by_cases e:j=k
    ·subst e;exact h
    ·exact HA.out j (by omega)
   have HX:=jq BP;clear BP;have bX:(0:Int)<=k:=by omega
   by_cases tb:(s[k].toNat:Int)=45
   ·have hE:((s[k].toNat:Int) == 45)=true:=by simp[tb]
    have Fz:=jq tb;have mT:(s[k].toNat:Int)<48:=by omega
    have aWY:(s[k].toNat:Int)<97:=by omega
    clear tb;by_cases hin:0<k/\k+1<s.size
    ·obtain⟨h1,h2⟩:=hin;have h3:(0:Int)<k:=by omega
     have h4:(k:Int)<(s.size:Int) - 1:=by omega
     go_wp2;go_round
     case rel=>exact⟨k+1,by omega,by go_num,jq (HX.out (HN.out.2 (.inr (.inr ⟨Fz.out,h1,h2⟩))))⟩
     case measure=>simp[intOf] <;> omega
    ·have HI:=jq hin;clear hin;go_wp2
     all_goals first
      | (go_ret
         exact⟨ag (Py (by rw[aZ];exact aa) (λh=>by have:=HN.out.1 h;have:=HI.out;omega)).symm,rfl⟩)
      | (exfalso;have:=HI.out;omega)
   ·have hE:((s[k].toNat:Int) == 45)=false:=by simp[tb]
    have Fz:=jq tb;clear tb;go_wp2
    all_goals first
     | (go_ret
        exact⟨ag (Py (by rw[aZ];exact aa) (λh=>by have:=HN.out.1 h;have:=Fz.out;omega)).symm,rfl⟩)
     | (go_round
        case rel=>exact⟨k+1,by omega,by go_num,jq (HX.out (HN.out.2 (by omega)))⟩
        case measure=>simp[intOf] <;> omega)
  ·have hf:Np.cg s.data.toList=(decide (1<=s.size)&&decide (s.size<=12)):=ZO (λj hj=>HA.out j (by rw[aZ] at hj;omega));have HF:=jq hf;clear hf;go_wp2
   all_goals
    go_ret;exact⟨ag (by rw[HF.out,Bool.eq_iff_iff];simp;omega),rfl⟩
theorem arY(s:ByteArray)(hs:s.size<=140737488355328)(w:World) :
 Calls prog 300 #[.string s] w λe w'=>e = .returned (.bool (Np.jC s.data.toList))/\w=w':=by
 go_enter func300,ntmps300;go_wp2
 all_goals first
  | (go_ret;exact⟨ag (Ps s ‹_›).symm,rfl⟩)
  | (go_ret;exact⟨ag (Pt s ‹_›).symm,rfl⟩)
  | (go_ret;exact⟨ag (Pu s (by omega) ‹_›).symm,rfl⟩)
  | (have h:((s[s.size - 1].toNat:Int) == 32)=true:=by assumption
     go_ret;exact⟨ag (Pv s (by omega) (by simpa using h)).symm,rfl⟩)
  | skip
 ·have h2:(s.size:Int)<=40:=by assumption
  have h3:¬ (s[0].toNat:Int)=32:=by assumption
  have h4:((s[s.size - 1].toNat:Int) == 32)=false:=by assumption
  have H4:=jq h4;clear h4;have H3:=jq h3;go_loop [4] (λi=>∃ k:Nat,k<=s.size/\i = .int .i64 k/\(s.data.toList.take k).all Np.nO=true) (λi=>s.size - (intOf i).toNat)
  case atStart=>exact⟨0,jQ _,rfl,rfl⟩
  case round=>
   obtain⟨k,hk,rfl,ha⟩:=hrel;have HA:=jq ha;clear ha;by_cases aa:k<s.size
   ·have hb:=zg s[k];by_cases hf:(97<=(s[k].toNat:Int)/\(s[k].toNat:Int)<=122)\/(48<=(s[k].toNat:Int)/\(s[k].toNat:Int)<=57)\/(s[k].toNat:Int)=32
    ·have hl:Np.nO s[k]=true:=by rw[DM];exact uQ hf
     have HL:=jq hl;clear hl;go_wp2
     all_goals first
      | (go_round
         case rel=>exact⟨k+1,by omega,by go_num,Hj s k aa _ HA.out HL.out⟩
         case measure=>simp[intOf] <;> omega)
      | (exfalso
         have hne:((s[k].toNat:Int) != 32)=true:=by assumption
         have BO:=bne_iff_ne.1 hne;omega)
    ·have hl:Np.nO s[k]=false:=by rw[DM];exact tQ hf
     have HL:=jq hl;clear hl;go_wp2
     all_goals first
      | (go_ret;exact⟨ag (Pw s k aa HL.out).symm,rfl⟩)
      | (exfalso;omega)
      | (exfalso
         have hne:((s[k].toNat:Int) != 32)=false:=by assumption
         have BO:(s[k].toNat:Int)=32:=by simpa using hne
         omega)
   ·go_wp2;go_ret;exact⟨ag (Px s (by omega) (by omega) H3.out (by simpa using H4.out) (by have:=HA.out;rwa [Ff s k (by omega)] at this)).symm,rfl⟩
theorem E2(s:ByteArray)(hs:s.size<=140737488355328)(w:World) :
 Calls prog 225 #[.string s] w λe w'=>e = .returned (.bool (Np.eh s.data.toList))/\w=w':=by
 by_cases h0:0<s.size
 ·have he:((s[0].toNat:Int) == 42)=Np.eh s.data.toList:=by
   unfold Np.eh;rw[Bt s h0]
   have:=ot s[0] 42 (by decide)
   rw[Bool.eq_iff_iff] at this |-;simp only[beq_iff_eq,Qa,Option.some.injEq] at this |-;exact this.symm
  have HE:=jq he;clear he;go_enter func225,ntmps225;go_wp2
  all_goals
   go_ret;exact⟨ag HE.out,rfl⟩
 ·have he:Np.eh s.data.toList=false:=by
   have:s.data.toList = []:=rQ (by rw[aZ];omega)
   rw[this];rfl
  have HE:=jq he;clear he;go_enter func225,ntmps225;go_wp2
  all_goals
   go_ret;exact⟨ag HE.out.symm,rfl⟩
theorem QQ(x lo hi:Int)(w:World) :
 Calls prog 223 #[.int .i64 x,.int .i64 lo,.int .i64 hi] w λe w'=>e = .returned (.bool (decide (lo<=x)&&decide (x<=hi)))/\w=w':=by
 by_cases h1:lo<=x
 all_goals
  go_enter func223,ntmps223;go_wp2;go_ret;exact⟨ag (by simp;omega),rfl⟩
theorem arX(x:Int)(w:World) :
 Calls prog 224 #[.int .i64 x] w λe w'=>e = .returned (.bool (decide (x=3)||decide (x=4)))/\w=w':=by
 by_cases h1:x=3
 ·subst h1;go_enter func224,ntmps224;go_wp2;go_ret;exact⟨rfl,rfl⟩
 ·have h2:(x == 3)=false:=by simpa using h1
  go_enter func224,ntmps224;go_wp2;go_ret;refine⟨ag ?_,rfl⟩;rw[tQ h1,Bool.false_or];rfl
theorem aqX(s t:ByteArray)(n1 m1 n2 m2:Int)(w:World) :
 Calls prog 227 #[.agg #[.string s,.int .i64 n1,.int .i64 m1],.agg #[.string t,.int .i64 n2,.int .i64 m2]] w
  λe w'=>e = .returned (.bool (decide (Np.pM ⟨s.data.toList,n1,m1⟩ ⟨t.data.toList,n2,m2⟩<0)))/\Below w.heap.size w w':=by
 rw[<-Np.aaY];have hw:∀ o o',Below w.heap.size w ((w.alloc o).alloc o'):=λo o'=>((vQ _ w).alloc (bQ _) _).alloc (by simp) _;have HW:=jq hw;clear hw;go_enter func227,ntmps227;go_wp2
 all_goals
  go_ret;refine⟨ag ?_,HW.out _ _⟩;go_light;simp_all [Np.JG,dQ]
theorem E1(x:List UInt8)(hx:x.length<=140737488355328)(w:World):Calls prog 104 #[aD x] w λe w'=>e = .returned (.bool (Np.cg x))/\w=w':=by
 have:=aqK ⟨x.toArray⟩ (by rw[<-aZ];simpa using hx) w
 simpa using this
def ER(l:List (List UInt8))(j:Nat):Prop:=∃ x,l[j]?=some x/\(Np.cg x=true\/(j=0/\x = [42]))
theorem Z3{l:List (List UInt8)}(h:∀ j,j<l.length->ER l j):Np.tX l=true:=by
 cases l with
 | nil=>rfl
 | cons a t=>
  unfold Np.tX;rw[Bool.and_eq_true];constructor
  ·obtain⟨x,hx,ho⟩:=h 0 (by simp);simp at hx;subst hx;rcases ho with ho | ⟨_,ho⟩ <;> simp[ho]
  ·rw[List.all_eq_true];intro y hy;obtain⟨j,hj,rfl⟩:=nQ.1 hy;obtain⟨x,hx,ho⟩:=h (j+1) (by simpa using hj);simp only[List.getElem?_cons_succ,aQ hj,Option.some.injEq] at hx;rcases ho with ho | ⟨h0,_⟩
   ·rw[hx];exact ho
   ·omega
theorem PI{l:List (List UInt8)}{j:Nat}{x:List UInt8}(hx:l[j]?=some x)(h1:Np.cg x=false)(h2:j=0->x≠[42]):Np.tX l=false:=by
 cases l with
 | nil=>simp at hx
 | cons a t=>
  unfold Np.tX
  cases j with
  | zero=>simp at hx;subst hx;simp[h1,h2 rfl]
  | succ j=>
   have:t.all Np.cg=false:=by
    rw[List.all_eq_false];exact⟨x,gQ (by simpa using hx),by simp[h1]⟩
   show ((Np.cg a||a == [42])&&t.all Np.cg)=false;rw[this,Bool.and_false]
theorem JZ:∀ l:List UInt8,(Np.aW l).length<=l.length+1:=by
 intro l
 induction l with
 | nil=>simp[Np.aW]
 | cons c r ih=>
  rw[Np.aW];split
  ·simp;omega
  ·split
   ·rename_i x xs hx;rw[hx] at ih;simp at ih |-;omega
   ·simp
theorem yW(s:ByteArray)(hs:s.size<=140737488355328)(w:World) :
 Calls prog 50 #[.string s] w λe w'=>e = .returned (.bool (Np.aG s.data.toList))/\Below w.heap.size w w':=by
 rw[Np.RE];by_cases h:s.data.toList = [46]
 ·have he:(s.toList == [46])=true:=by rw[dQ,h];rfl
  rw[Qb h];clear h;go_enter func50,ntmps50;go_wp2_with fail;go_ret;exact⟨rfl,vQ _ _⟩
 ·have he:(s.toList == [46])=false:=by rw[dQ];simpa using h
  rw[Qc h];clear h;by_cases DP:60<s.size
  ·rw[Qb (by rw[aZ];exact DP)];have h6:60<(s.size:Int):=by omega
   go_enter func50,ntmps50;go_wp2_with fail;go_ret;exact⟨rfl,vQ _ _⟩
  ·rw[Qc (by rw[aZ];exact DP)];have h6:(s.size:Int)<=60:=by omega
   have hlen:=JZ s.data.toList;have vT:∀ y∈Np.aW s.data.toList,y.length<=60:=λy hy=>by have:=Np.JY hy;rw[aZ] at this;omega
   rw[aZ] at hlen;generalize hL:Np.aW s.data.toList=l at *;have HM:=jq vT;have uA:=jq hL;clear vT hL;go_enter func50,ntmps50;go_wp2_with fail;refine (QO s (by omega) _).mono ?_;rw[uA.out];rintro e w1 ⟨v,rfl,hv,hb⟩;have HV:=jq hv;have HB:=jq hb;obtain⟨A,c,rfl,hc,_,_⟩:=hv;clear hb;go_wp2_with fail;go_loop [4] (λi=>∃ k:Nat,k<=l.length/\i = .int .i64 k/\Hid (∀ j,j<k->ER l j)) (λi=>l.length - (intOf i).toNat)
   case atStart=>exact⟨0,jQ _,rfl,jq (λj h=>by omega)⟩
   case round=>
    obtain⟨k,hk,rfl,HA⟩:=hrel;by_cases aa:k<l.length
    ·obtain⟨b,o,c',hA,_,_,hcell⟩:=CB HV.out (aQ aa)
     cases hA
     have hx:=HM.out _ (List.getElem_mem aa);have ab:l[k]?=some l[k]:=aQ aa;generalize l[k]=x at *;have HG:=jq ab;clear ab;have BP:ER l k->∀ j,j<k+1->ER l j:=λh j hj=>by
      by_cases e:j=k
      ·subst e;exact h
      ·exact HA.out j (by omega)
     have HX:=jq BP;clear BP
     cases hl:Np.cg x with
     | true=>
      have HL:=jq hl;go_wp2_with (go_at_call 104;refine (E1 _ (by omega) _).mono ?_;rintro e w' ⟨rfl,rfl⟩);go_round
      case rel=>exact⟨k+1,by omega,by go_num,jq (HX.out ⟨_,HG.out,.inl HL.out⟩)⟩
      case measure=>simp[intOf] <;> omega
     | false=>
      have HL:=jq hl;by_cases bX:k=0
      ·subst bX;simp only[Nat.add_zero] at hcell;by_cases H0:x = [42]
       ·subst H0;go_wp2_with (go_at_call 104;refine (E1 _ (by simp) _).mono ?_;rintro e w' ⟨rfl,rfl⟩);go_round
        case rel=>exact⟨1,by omega,by go_num,jq (HX.out ⟨_,HG.out,.inr ⟨rfl,rfl⟩⟩)⟩
        case measure=>simp[intOf] <;> omega
       ·have hne:(x == [42])=false:=by simpa using H0
        go_wp2_with (go_at_call 104;refine (E1 _ (by omega) _).mono ?_;rintro e w' ⟨rfl,rfl⟩);go_ret;exact⟨ag (by rw[PI HG.out HL.out (λ_=>H0)];rfl),HB.out⟩
      ·have Ej:(0:Int)<k:=by omega
       go_wp2_with (go_at_call 104;refine (E1 _ (by omega) _).mono ?_;rintro e w' ⟨rfl,rfl⟩);go_ret;exact⟨ag (by rw[PI HG.out HL.out (λe=>absurd e bX)];rfl),HB.out⟩
    ·have mV:Np.tX l=true:=Z3 (λj hj=>HA.out j (by omega));have bI:=jq mV;clear mV;go_wp2_with fail;go_ret;exact⟨ag (by rw[bI.out,Bool.true_and,Bool.eq_iff_iff];simp;omega),HB.out⟩
theorem E0(s z:ByteArray)(hs:s.size<=1000)(hz:z.size<=1000)(w:World) :
 Calls prog 222 #[.string s,.string z] w λe w'=>e = .returned (.bool (Np.inL (Np.ek s.data.toList) (Np.ek z.data.toList)))/\Below w.heap.size w w':=by
 have vB:∀ t:ByteArray,t.size<=1000->(Np.ek t.data.toList).length<=1001:=λt ht=>by
  unfold Np.ek;split
  ·simp
  ·have:=JZ t.data.toList;rw[aZ] at this;omega
 have bL:=vB s hs;have dF:=vB z hz;clear vB;generalize g9:Np.ek s.data.toList=l at *;generalize mJ:Np.ek z.data.toList=m at *;have kY:=jq g9;have zM:=jq mJ;clear g9 mJ;go_enter func222,ntmps222;go_wp2_with fail;refine (Cw s (by omega) _).mono ?_;rw[kY.out];rintro e w1 ⟨v,rfl,hv,hb⟩;have HV:=jq hv;have HB:=jq hb;obtain⟨A,c,rfl,hc,_,_⟩:=hv;clear hb;go_wp2_with fail;refine (Cw z (by omega) _).mono ?_;rw[zM.out];rintro e w2 ⟨v2,rfl,go,ac⟩;have eL:=jq ((HV.out.keep Fb ac).more QV ac.size);have gY:=jq go;have ak:=jq (HB.out.trans (ac.mono HB.out.size));obtain⟨A2,c2,rfl,ew,_,_⟩:=go;clear ac HV;by_cases hlen:m.length<=l.length
 ·have gk:(m.length:Int)<=(l.length:Int):=by omega
  go_wp2_with fail;go_loopw [7] (λi wr=>∃ k:Nat,k<=m.length/\i = .int .i64 k/\Hid (∀ j,j<k->l[l.length - m.length+j]?=m[j]?)/\Hid (Below w2.heap.size w2 wr)) (λi _=>m.length - (intOf i).toNat)
  case atStart=>exact⟨0,jQ _,rfl,jq (λj h=>by omega),jq (vQ _ _)⟩
  case round=>
   obtain⟨k,hk,rfl,HA,HW⟩:=hrel;by_cases aa:k<m.length
   ·obtain⟨b,o,c',hA,_,_,hcell⟩:=CB (eL.out.keep Fb HW.out) (aQ (show l.length - m.length+k<l.length by omega))
    cases hA
    obtain⟨b2,o2,c2',oP,_,_,Xr⟩:=CB (gY.out.keep Fb HW.out) (aQ aa)
    cases oP
    have Bv:l[l.length - m.length+k]?=some l[l.length - m.length+k]:=aQ _;have Bw:m[k]?=some m[k]:=aQ aa;generalize l[l.length - m.length+k]=x at *;generalize m[k]=y at *;have xy:=jq Bv;have mx:=jq Bw;clear Bv Bw;have aj:IntKind.i64.wrap ((l.length:Int) - (m.length:Int))=(l.length:Int) - m.length:=IntWalk.i64_in _ (by omega);have ae:IntKind.i64.wrap ((l.length:Int) - (m.length:Int)+k)=(l.length:Int) - m.length+k:=IntWalk.i64_in _ (by omega);have e1:(0:Int)<=(l.length:Int) - m.length+k:=by omega
    have e2:(l.length:Int) - m.length+k<l.length:=by omega
    have e3:((l.length:Int) - m.length+k).toNat=l.length - m.length+k:=by omega
    have e4:(0:Int)<=k:=by omega
    have e5:(k:Int)<m.length:=by omega
    by_cases b7:x=y
    ·have hne:(!x == y)=false:=by simp[b7]
     have nE:=jq b7;clear b7;go_wp2_with fail;go_quiet (fail);go_wp2_with fail;go_roundw
     case rel=>
      refine⟨k+1,by omega,by go_num,jq (λj hj=>?_),jq (below_drewN HW.out _)⟩;by_cases e:j=k
      ·subst e;rw[xy.out,mx.out,nE.out]
      ·exact HA.out j (by omega)
     case measure=>simp[intOf] <;> omega
    ·have hne:(!x == y)=true:=by simp[b7]
     have nE:=jq b7;clear b7;go_wp2_with fail;go_quiet (fail);go_wp2_with fail;go_ret;refine⟨ag ?_,ak.out.trans ((below_drewN HW.out _).mono ak.out.size)⟩
     symm
     unfold Np.inL;rw[uQ hlen,Bool.true_and,beq_eq_false_iff_ne];intro h;have h1:=Qd (·[k]?) h;simp only[List.getElem?_drop] at h1;rw[xy.out,mx.out] at h1;exact nE.out (Option.some.inj h1)
   ·go_wp2_with fail;go_ret;refine⟨ag ?_,ak.out.trans (HW.out.mono ak.out.size)⟩
    symm
    unfold Np.inL;rw[uQ hlen,Bool.true_and,beq_iff_eq];apply List.ext_getElem?;intro j;rw[List.getElem?_drop];by_cases hj:j<m.length
    ·exact HA.out j (by omega)
    ·rw[List.getElem?_eq_none (by omega),List.getElem?_eq_none (by omega)]
 ·have gk:(l.length:Int)<(m.length:Int):=by omega
  go_wp2_with fail;go_ret;exact⟨ag (by unfold Np.inL;rw[tQ hlen];rfl),ak.out⟩
theorem E4{l:List (List UInt8)}{k:Nat}(h:l.length<=k):l.reverse.drop k = []:=List.drop_eq_nil_of_le (by simpa using h)
theorem QR{l:List (List UInt8)}{k:Nat}(h:k<l.length):∃ x r,l.reverse.drop k=x::r:=⟨_,_,sQ (by simpa using h)⟩
theorem JQ(s z:ByteArray)(hs:s.size<=1000)(hz:z.size<=1000)(w:World) :
 Calls prog 164 #[.string s,.string z] w λe w'=>e = .returned (.int .i64 (Np.aI s.data.toList z.data.toList))/\Below w.heap.size w w':=by
 rw[Np.AE,<-Np.Cr,<-Np.Cr];have vB:∀ t:ByteArray,t.size<=1000->(Np.ek t.data.toList).length<=1001:=λt ht=>by
  unfold Np.ek;split
  ·simp
  ·have:=JZ t.data.toList;rw[aZ] at this;omega
 have bL:=vB s hs;have dF:=vB z hz;clear vB;generalize g9:Np.ek s.data.toList=l at *;generalize mJ:Np.ek z.data.toList=m at *;have kY:=jq g9;have zM:=jq mJ;clear g9 mJ;go_enter func164,ntmps164;go_wp2_with fail;refine (Cw s (by omega) _).mono ?_;rw[kY.out];rintro e w1 ⟨v,rfl,hv,hb⟩;have HV:=jq hv;have HB:=jq hb;obtain⟨A,c,rfl,hc,_,_⟩:=hv;clear hb;go_wp2_with fail;refine (Cw z (by omega) _).mono ?_;rw[zM.out];rintro e w2 ⟨v2,rfl,go,ac⟩;have eL:=jq ((HV.out.keep Fb ac).more QV ac.size);have gY:=jq go;have ak:=jq (HB.out.trans (ac.mono HB.out.size));obtain⟨A2,c2,rfl,ew,_,_⟩:=go;clear ac HV;go_wp2_with fail;go_loop [7] (λi=>∃ k:Nat,k<=l.length/\k<=m.length/\i = .int .i64 ((k:Int)+1)/\Hid (Np.cn l.reverse m.reverse=Np.cn (l.reverse.drop k) (m.reverse.drop k))) (λi=>l.length+1 - (intOf i).toNat)
 case atStart=>exact⟨0,jQ _,jQ _,rfl,jq rfl⟩
 case round=>
  obtain⟨k,bW,jw,rfl,HA⟩:=hrel;by_cases dG:k<l.length
  ·by_cases yt:k<m.length
   ·obtain⟨b,o,c',hA,_,_,hcell⟩:=CB eL.out (aQ (show l.length - (k+1)<l.length by omega))
    cases hA
    obtain⟨b2,o2,c2',oP,_,_,Xr⟩:=CB gY.out (aQ (show m.length - (k+1)<m.length by omega))
    cases oP
    have Bv:l.reverse.drop k=l[l.length - (k+1)]::l.reverse.drop (k+1):=by
     rw[sQ (by simpa using dG),List.getElem_reverse];congr 2;omega
    have Bw:m.reverse.drop k=m[m.length - (k+1)]::m.reverse.drop (k+1):=by
     rw[sQ (by simpa using yt),List.getElem_reverse];congr 2;omega
    generalize l[l.length - (k+1)]=x at *;generalize m[m.length - (k+1)]=y at *;have B5:Np.cn (l.reverse.drop k) (m.reverse.drop k)=if Np.cm x y≠0 then Np.cm x y else Np.cn (l.reverse.drop (k+1)) (m.reverse.drop (k+1)):=by rw[Bv,Bw,Np.cn]
    have HS:=jq B5;clear Bv Bw B5;have g1:((l.length:Int) - ((k:Int)+1)).toNat=l.length - (k+1):=by omega
    have g2:((m.length:Int) - ((k:Int)+1)).toNat=m.length - (k+1):=by omega
    have f1:(k:Int)+1<=l.length:=by omega
    have f2:(k:Int)+1<=m.length:=by omega
    rcases Np.xZ x y with ⟨h1,h2⟩ | ⟨h1,h2,hn,h3⟩ | ⟨h1,h2,hn,h3⟩
    ·have H2:=jq h2;clear h2;go_wp2_with fail;go_ret;exact⟨ja (by rw[HA.out,HS.out,H2.out];rfl),ak.out⟩
    ·have H3:=jq h3;have hne:(!x == y)=true:=by simp[hn]
     clear h3 hn;go_wp2_with fail;go_ret;exact⟨ja (by rw[HA.out,HS.out,H3.out];rfl),ak.out⟩
    ·have H3:=jq h3;have hne:(!x == y)=false:=by simp[hn]
     clear h3 hn;go_wp2_with fail;go_round
     case rel=>exact⟨k+1,by omega,by omega,by go_num,jq (by rw[HA.out,HS.out,H3.out];rfl)⟩
     case measure=>simp[intOf] <;> omega
   ·have hm:k=m.length:=by omega
    have bJ:(m.length:Int)<(k:Int)+1:=by omega
    have bp:(k:Int)+1<=l.length:=by omega
    have di:(m.length:Int)<(l.length:Int):=by omega
    have hv:Np.cn l.reverse m.reverse=1:=by
     obtain⟨x,r,e⟩:=QR dG;rw[HA.out,E4 (l:=m) (by omega),e];rfl
    have uN:=jq hv;clear hv hm;go_wp2_with fail;go_ret;exact⟨ja uN.out.symm,ak.out⟩
  ·have hl:k=l.length:=by omega
   have bp:(l.length:Int)<(k:Int)+1:=by omega
   by_cases yt:k<m.length
   ·have di:(l.length:Int)<(m.length:Int):=by omega
    have hv:Np.cn l.reverse m.reverse = -1:=by
     obtain⟨x,r,e⟩:=QR yt;rw[HA.out,E4 (l:=l) (by omega),e];rfl
    have uN:=jq hv;clear hv hl;go_wp2_with fail;go_ret;exact⟨ja uN.out.symm,ak.out⟩
   ·have di:(l.length:Int)<=(m.length:Int):=by omega
    have dO:(m.length:Int)<=(l.length:Int):=by omega
    have hv:Np.cn l.reverse m.reverse=0:=by
     rw[HA.out,E4 (l:=l) (by omega),E4 (l:=m) (by omega)];rfl
    have uN:=jq hv;clear hv hl;go_wp2_with fail;go_ret;exact⟨ja uN.out.symm,ak.out⟩
theorem EY(s z:ByteArray)(hs:s.size<=1000)(hz:z.size<=1000)(h1:Np.aG s.data.toList=true)(h2:Np.aG z.data.toList=true)(w:World) :
 Calls prog 304 #[.string s,.string z] w λe w'=>e = .returned (.tuple #[.int .i64 (Np.aI s.data.toList z.data.toList),.int .i64 0])/\Below w.heap.size w w':=by
 have H1:=jq h1;have H2:=jq h2;clear h1 h2;go_enter func304,ntmps304;go_wp2_with fail;refine (yW s (by omega) _).mono ?_;rintro e w1 ⟨rfl,aw⟩;have ay:=jq aw;clear aw;rw[H1.out];go_wp2_with fail;refine (yW z (by omega) _).mono ?_;rintro e w2 ⟨rfl,ac⟩;have ak:=jq (ay.out.trans (ac.mono ay.out.size));clear ac;rw[H2.out];go_wp2_with fail;refine (JQ s z hs hz _).mono ?_;rintro e w3 ⟨rfl,am⟩;have az:=jq (ak.out.trans (am.mono ak.out.size));clear am;go_wp2_with fail;go_ret2;exact⟨rfl,az.out⟩
theorem apJ(k:Nat)(h1:1<=k)(h8:k<=8)(s:ByteArray)(hs:s.size<=140737488355328)(n m:Int)(w:World) :
 Calls prog 226 #[.int .i64 k,.agg #[.string s,.int .i64 n,.int .i64 m]] w
  λe w'=>e = .returned (.bool (Np.jG (Np.bT k) ⟨s.data.toList,n,m⟩))/\Below w.heap.size w w':=by
 have hk:k=1\/k=2\/k=3\/k=4\/k=5\/k=6\/k=7\/k=8:=by omega
 rcases hk with rfl | rfl | rfl | rfl | rfl | rfl | rfl | rfl
 all_goals
  go_enter func226,ntmps226;go_wp2_with (first
   | (go_at_call 223;refine (QQ _ _ _ _).mono ?_;rintro e w' ⟨rfl,rfl⟩)
   | (go_at_call 50;refine (yW _ hs _).mono ?_;rintro e w' ⟨rfl,hb⟩;obtain⟨hc,hf⟩:=s5 hb)
   | (go_at_call 225;refine (E2 _ hs _).mono ?_;rintro e w' ⟨rfl,rfl⟩)
   | (go_at_call 300;refine (arY _ hs _).mono ?_;rintro e w' ⟨rfl,rfl⟩))
  all_goals
   go_ret;go_light;refine⟨ag ?_,?_⟩
   ·simp_all [Np.jG,Np.xb,Np.bT,Np.rules,dQ] <;> (intros;first | omega | (rw[Bool.eq_iff_iff];simp;omega) | (rw[Bool.eq_iff_iff];simp;intros;omega) | (rw[Int.tmod_eq_emod_of_nonneg (by omega)];first | omega | (rw[Bool.eq_iff_iff];simp;omega)) | show False)
   ·first
     | exact (vQ _ w).alloc (bQ _) _
     | exact ((vQ _ w).alloc (bQ _) _).trans (hb.mono (by simp))
theorem QZ(k:Nat)(h1:1<=k)(h8:k<=8):(Np.bT k).single=(decide ((k:Int)=3)||decide ((k:Int)=4)):=by
 have hk:k=1\/k=2\/k=3\/k=4\/k=5\/k=6\/k=7\/k=8:=by omega
 rcases hk with rfl | rfl | rfl | rfl | rfl | rfl | rfl | rfl <;> rfl
theorem Q0(k:Nat)(h1:1<=k)(h8:k<=8):(Np.bT k).wild=(decide ((k:Int)=1)||decide ((k:Int)=5)||decide ((k:Int)=8)):=by
 have hk:k=1\/k=2\/k=3\/k=4\/k=5\/k=6\/k=7\/k=8:=by omega
 rcases hk with rfl | rfl | rfl | rfl | rfl | rfl | rfl | rfl <;> rfl
theorem EZ(k:Nat)(h1:1<=k)(h8:k<=8)(s:ByteArray)(hs:s.size<=140737488355328)(n m:Int)(w:World)(t:Bool)(ht:Np.jG (Np.bT k) ⟨s.data.toList,n,m⟩=t) :
 Calls prog 226 #[.int .i64 k,.agg #[.string s,.int .i64 n,.int .i64 m]] w λe w'=>e = .returned (.bool t)/\Below w.heap.size w w':=by
 subst ht;exact apJ k h1 h8 s hs n m w
theorem QK(s t:ByteArray)(n1 m1 n2 m2:Int)(w:World)(r:Bool)(hr:decide (Np.pM ⟨s.data.toList,n1,m1⟩ ⟨t.data.toList,n2,m2⟩<0)=r) :
 Calls prog 227 #[.agg #[.string s,.int .i64 n1,.int .i64 m1],.agg #[.string t,.int .i64 n2,.int .i64 m2]] w λe w'=>e = .returned (.bool r)/\Below w.heap.size w w':=by
 subst hr;exact aqX s t n1 m1 n2 m2 w
def Ux(w1:World)(r:Np.Rule)(ds:List Np.Datum)(i:Value)(wr:World):Prop:=
 ∃ j:Nat,j<=ds.length/\i = .int .i64 j/\Below w1.heap.size w1 wr/\Np.iR r none ds=Np.iR r (ds.take j).getLast? (ds.drop j)
def wS(s:List UInt8)(ty life:Int)(n:Nat):Bool:=Np.aG s&&(decide (1<=ty)&&decide (ty<=8))&&(decide (0<=life)&&decide (life<=100000))&&(decide ((1:Int)<=n)&&decide ((n:Int)<=8))&&!((decide (ty=3)||decide (ty=4))&&decide ((1:Int)<n))
def L8(w:World)(s:ByteArray)(ty life:Int)(sl:Value)(wx:World):Prop:=
 Below w.heap.size w wx/\w.heap.size<wx.heap.size/\wx.cell? ⟨w.heap.size,0,none⟩=some (.string s)/\wx.cell? ⟨w.heap.size,1,none⟩=some (.int .i64 ty)/\wx.cell? ⟨w.heap.size,2,none⟩=some (.int .i64 life)/\wx.cell? ⟨w.heap.size,3,none⟩=some sl
theorem QM(s:ByteArray)(hs:s.size<=140737488355328)(ty life:Int)(v:Value)(ds:List Np.Datum)(w:World)(hd:SlR bF 3 w w.heap.size v ds) :
 Calls prog 150 #[.agg #[.string s,.int .i64 ty,.int .i64 life,v]] w
  λe w'=>e = .returned (.bool (Np.dj ⟨s.data.toList,ty,life,ds⟩))/\Below w.heap.size w w':=by
 have HD:=jq hd;obtain⟨A,c,rfl,bD,bL,ka⟩:=hd;clear ka;have gl:¬ (Np.aG s.data.toList=true/\(1<=ty/\ty<=8)/\(0<=life/\life<=100000)/\(1<=ds.length/\ds.length<=8)/\((ty=3\/ty=4)->ds.length<=1)/\(Np.eh s.data.toList=true->ty=1\/ty=5\/ty=8))->Np.dj ⟨s.data.toList,ty,life,ds⟩=false:=λhin=>by
  cases hq:Np.dj ⟨s.data.toList,ty,life,ds⟩ with
  | false=>rfl
  | true=>
   exfalso;unfold Np.dj at hq;simp only[Bool.and_eq_true,Qa,Bool.not_eq_true'] at hq;obtain⟨⟨⟨⟨⟨⟨h1,h2⟩,h3⟩,h4⟩,h5⟩,h6⟩,_⟩:=hq;obtain⟨k,rfl⟩:=Int.eq_ofNat_of_zero_le (by omega:0<=ty);rw[QZ k (by omega) (by omega)] at h5;rw[Q0 k (by omega) (by omega)] at h6;refine hin ⟨h1,h2,h3,h4,λht=>?_,λhw=>?_⟩
   ·simp at h5;omega
   ·rw[hw] at h6;simp at h6;omega
 have jL:=jq gl;clear gl;go_enter func150,ntmps150;go_upto_region 2 with fail
 go_cut [37] (λt wx=>L8 w s ty life (.slice A ds.length c) wx/\t = .bool (!wS s.data.toList ty life ds.length))
 case first=>
  go_wp2_with fail;refine (yW _ hs _).mono ?_;rintro e w1 ⟨rfl,hb⟩;have cC:Below w.heap.size w w1:=((vQ _ w).alloc (bQ _) _).trans (hb.mono (by simp));have dG:w.heap.size<w1.heap.size:=by have:=hb.size;simp at this;omega
  have c0:w1.cell? ⟨w.heap.size,0,none⟩=some (.string s):=by rw[hb.cell (by simp)];go_simp
  have c1:w1.cell? ⟨w.heap.size,1,none⟩=some (.int .i64 ty):=by rw[hb.cell (by simp)];go_simp
  have c2:w1.cell? ⟨w.heap.size,2,none⟩=some (.int .i64 life):=by rw[hb.cell (by simp)];go_simp
  have c3:w1.cell? ⟨w.heap.size,3,none⟩=some (.slice A ds.length c):=by rw[hb.cell (by simp)];go_simp
  have HH:=jq (show L8 w s ty life (.slice A ds.length c) w1 from ⟨cC,dG,c0,c1,c2,c3⟩);clear hb cC;go_wp2_with (first
   | (go_at_call 223;refine (QQ _ _ _ _).mono ?_;rintro e w' ⟨rfl,rfl⟩)
   | (go_at_call 224;refine (arX _ _).mono ?_;rintro e w' ⟨rfl,rfl⟩))
  all_goals
   go_meet
   case rel=>
    refine⟨HH.out,?_⟩;clear HH jL HD;go_light
    first
     | (simp_all [wS];done)
     | (simp_all [wS];omega)
     | (congr 1;rw[Bool.eq_iff_iff];simp_all [wS] <;> omega)
 case rest=>
  obtain⟨⟨cC,Ov,c0,c1,c2,c3⟩,rfl⟩:=hcut;have aB:=jq cC;clear cC
  cases hq:wS s.data.toList ty life ds.length with
  | false=>
   have HQ:=jq hq;clear hq;go_wp2_with fail;go_ret;refine⟨ag (jL.out λ⟨a1,a2,a3,a4,a5,_⟩=>?_).symm,aB.out⟩
   have:=HQ.out
   simp[wS,a1,a2,a3] at this;omega
  | true=>
   have HQ:=jq hq;clear hq;go_upto_region 4 with fail
   go_cut [55] (λt wy=>wy=wc/\t = .bool (Np.eh s.data.toList&&(decide (ty≠1)&&(decide (ty≠5)&&decide (ty≠8)))))
   case first=>
    go_wp2_with (go_at_call 225;refine (E2 _ hs _).mono ?_;rintro e w' ⟨rfl,rfl⟩)
    all_goals
     go_meet
     case rel=>
      refine⟨rfl,?_⟩;clear jL HD HQ;go_light
      first
       | (simp_all;done)
       | (simp_all;omega)
       | (congr 1;rw[Bool.eq_iff_iff];simp_all;done)
       | (congr 1;rw[Bool.eq_iff_iff];simp_all;omega)
   case rest=>
    obtain⟨rfl,rfl⟩:=hcut
    cases tJ:(Np.eh s.data.toList&&(decide (ty≠1)&&(decide (ty≠5)&&decide (ty≠8)))) with
    | true=>
     have uF:=jq tJ;clear tJ;go_wp2_with fail;go_ret;refine⟨ag (jL.out λ⟨_,_,_,_,_,a6⟩=>?_).symm,aB.out⟩
     have:=uF.out
     simp at this
     have:=a6 this.1
     omega
    | false=>
     have hin:Np.aG s.data.toList=true/\(1<=ty/\ty<=8)/\(0<=life/\life<=100000)/\(1<=ds.length/\ds.length<=8)/\((ty=3\/ty=4)->ds.length<=1)/\(Np.eh s.data.toList=true->ty=1\/ty=5\/ty=8):=by
      have h:=HQ.out;simp[wS] at h;obtain⟨⟨⟨⟨h1,h2⟩,h3⟩,h4⟩,h5⟩:=h;refine⟨h1,h2,h3,by omega,by omega,λhw=>?_⟩;rw[hw] at tJ;simp at tJ;omega
     obtain⟨i1,⟨i2,i3⟩,⟨i4,i5⟩,⟨i6,i7⟩,i8,i9⟩:=hin;obtain⟨k,rfl⟩:=Int.eq_ofNat_of_zero_le (by omega:0<=ty);have hv:Np.dj ⟨s.data.toList,k,life,ds⟩=Np.iR (Np.bT k) none ds:=by
      unfold Np.dj;simp only[QZ k (by omega) (by omega),Q0 k (by omega) (by omega),i1,uQ i2,uQ i3,uQ i4,uQ i5,uQ i6,uQ i7,Bool.true_and];have e1:((decide ((k:Int)=3)||decide ((k:Int)=4))&&decide (ds.length≠1))=false:=by
       rw[Bool.eq_false_iff];simp;omega
      have e2:(Np.eh s.data.toList&&!(decide ((k:Int)=1)||decide ((k:Int)=5)||decide ((k:Int)=8)))=false:=by
       cases hw:Np.eh s.data.toList with
       | false=>rfl
       | true=>have:=i9 hw;simp;omega
      rw[e1,e2];rfl
     have HV:=jq hv;have D4:1<=k:=by omega
     have D5:k<=8:=by omega
     clear hv i8 i9 tJ i1 c0 c2 jL HQ;go_wp2_with fail;go_loopw [4] (λi wr=>Ux wc (Np.bT k) ds i wr) (λi _=>ds.length - (intOf i).toNat)
     case atStart=>exact⟨0,jQ _,rfl,vQ _ _,rfl⟩
     case round=>
      obtain⟨j,hj,rfl,aL,hg⟩:=hrel;have HG:=jq hg;clear hg;by_cases aa:j<ds.length
      ·have Cg:=aL.size;have ls:Below w.heap.size w wr:=aB.out.trans (aL.mono (by omega));have Y7:w.heap.size<wr.heap.size:=by omega
       have d1:wr.cell? ⟨w.heap.size,1,none⟩=some (.int .i64 k):=by rw[aL.cell (by simpa using Ov)];exact c1
       have d3:wr.cell? ⟨w.heap.size,3,none⟩=some (.slice A ds.length c):=by rw[aL.cell (by simpa using Ov)];exact c3
       obtain⟨A',c',hA',_,_,bV⟩:=HD.out.keep cH ls
       cases hA'
       obtain⟨b,o,e,rfl,bU,_,hce,sd,tM,tN,rfl⟩:=bV j _ (aQ aa);have e0:wr.cell? ⟨b,o+j * 3,none⟩=some (.string sd):=hce 0 _ rfl;have e1:wr.cell? ⟨b,o+j * 3+1,none⟩=some (.int .i64 ds[j].n):=hce 1 _ rfl;have e2:wr.cell? ⟨b,o+j * 3+2,none⟩=some (.int .i64 ds[j].m):=hce 2 _ rfl;have cK:b<wr.heap.size:=by omega
       have tt:∀ (g:bK wr) (p:Addr),p.block<wr.heap.size->g.w.cell? p=wr.cell? p:=λg p h=>g.cell p h;have aU:=jq aL;have xp:=jq ls;have Gc:=jq bV;have qZ:=jq tM;have Bp:(⟨sd.data.toList,ds[j].n,ds[j].m⟩:Np.Datum)=ds[j]:=by rw[qZ.out]
       have qB:=jq Bp;clear hce aL ls bV tM c1 c3 Bp Cg;by_cases pk:Np.jG (Np.bT k) ⟨sd.data.toList,ds[j].n,ds[j].m⟩=true
       ·have ky:=jq pk;clear pk;by_cases ju:j=0
        ·subst ju;simp only[Nat.zero_mul,Nat.add_zero] at e0 e1 e2;go_wp2_with fail;refine f9 (by kernel_rfl) (by kernel_rfl) ?_
         repeat (go_big_quiet_step ((go_at_call 226;exact Calls.grow_of (EZ _ D4 D5 _ tN _ _ _ true ky.out))))
         refine wpQuiet_nil ?_;rintro _ ⟨g,rfl⟩;go_wp2_with fail;go_roundw
         case rel=>
          go_light;have h1:=Np.Nf (r:=Np.bT k) (aQ aa) (by rw[<-qB.out];exact ky.out);exact⟨1,aa,by go_num,aU.out.trans (g.below.mono aU.out.size),by rw[<-h1];exact HG.out⟩
         case measure=>simp[intOf] <;> omega
        ·obtain⟨i,rfl⟩:∃ i,j=i+1:=⟨j - 1,by omega⟩;obtain⟨b',o',e',oP,Bf,_,ru,sq,kh,YV,rfl⟩:=Gc.out i _ (aQ (by omega))
         cases oP
         have f0:wr.cell? ⟨b,o+i * 3,none⟩=some (.string sq):=ru 0 _ rfl;have f1:wr.cell? ⟨b,o+i * 3+1,none⟩=some (.int .i64 (ds[i]'(by omega)).n):=ru 1 _ rfl;have f2:wr.cell? ⟨b,o+i * 3+2,none⟩=some (.int .i64 (ds[i]'(by omega)).m):=ru 2 _ rfl;have Bo:(⟨sq.data.toList,(ds[i]'(by omega)).n,(ds[i]'(by omega)).m⟩:Np.Datum)=ds[i]'(by omega):=by rw[kh]
         have FZ:=jq Bo;clear ru kh Bo;have nT:(0:Int)<((i+1:Nat):Int):=by omega
         have h1:=Np.Ng (r:=Np.bT k) (aQ (by omega:i<ds.length)) (aQ aa) (by rw[<-qB.out];exact ky.out);rw[<-qB.out,<-FZ.out] at h1;have H1:=jq h1;clear h1;by_cases fE:Np.pM ⟨sq.data.toList,(ds[i]'(by omega)).n,(ds[i]'(by omega)).m⟩ ⟨sd.data.toList,ds[i+1].n,ds[i+1].m⟩<0
         ·have kq:=jq fE;have FU:=jq (uQ fE);clear fE;go_wp2_with fail;refine f9 (by kernel_rfl) (by kernel_rfl) ?_
          repeat (go_big_quiet_step (first
           | (go_at_call 226;exact Calls.grow_of (EZ _ D4 D5 _ tN _ _ _ true ky.out))
           | (go_at_call 227;exact Calls.grow_of (QK _ _ _ _ _ _ _ true FU.out))))
          refine wpQuiet_nil ?_;rintro _ ⟨g,rfl⟩;go_wp2_with fail;go_roundw
          case rel=>
           go_light;exact⟨i+1+1,aa,by go_num,aU.out.trans (g.below.mono aU.out.size),by rw[HG.out,H1.out,Qb kq.out]⟩
          case measure=>simp[intOf] <;> omega
         ·have kq:=jq fE;have FU:=jq (tQ fE);clear fE;go_wp2_with fail;refine f9 (by kernel_rfl) (by kernel_rfl) ?_
          repeat (go_big_quiet_step (first
           | (go_at_call 226;exact Calls.grow_of (EZ _ D4 D5 _ tN _ _ _ true ky.out))
           | (go_at_call 227;exact Calls.grow_of (QK _ _ _ _ _ _ _ false FU.out))))
          refine wpQuiet_nil ?_;rintro _ ⟨g,rfl⟩;go_wp2_with fail;go_ret;refine⟨ag ?_,xp.out.trans (g.below.mono (by omega))⟩;rw[HV.out,HG.out,H1.out,Qc (by have:=kq.out;omega)]
       ·have Cc:Np.jG (Np.bT k) ⟨sd.data.toList,ds[j].n,ds[j].m⟩=false:=by simpa using pk
        have ky:=jq Cc;clear pk Cc;go_wp2_with fail;refine f9 (by kernel_rfl) (by kernel_rfl) ?_
        repeat (go_big_quiet_step ((go_at_call 226;exact Calls.grow_of (EZ _ D4 D5 _ tN _ _ _ false ky.out))))
        refine wpQuiet_nil ?_;rintro _ ⟨g,rfl⟩;go_wp2_with fail;go_ret;refine⟨ag ?_,xp.out.trans (g.below.mono (by omega))⟩;rw[HV.out,HG.out,Np.Nd (aQ aa) (by rw[<-qB.out];exact ky.out)]
      ·go_wp2_with fail;go_ret;refine⟨ag ?_,aB.out.trans (aL.mono (by omega))⟩;rw[HV.out,HG.out,List.drop_eq_nil_of_le (by omega)];rfl
theorem yP{s:ByteArray}(h:Np.aG s.data.toList=true):s.size<=60:=by
 rw[Np.RE] at h;split at h
 ·rename_i e;rw[<-aZ,e];decide
 ·split at h
  ·cases h
  ·rename_i h6;rw[aZ] at h6;omega
theorem arJ(s1 s2:ByteArray)(t1 l1 t2 l2:Int)(v1 v2:Value)(d1 d2:List Np.Datum)(n1:Np.aG s1.data.toList=true)(n2:Np.aG s2.data.toList=true)(w:World) :
 Calls prog 234 #[.agg #[.string s1,.int .i64 t1,.int .i64 l1,v1],.agg #[.string s2,.int .i64 t2,.int .i64 l2,v2]] w
  λe w'=>e = .returned (.int .i64 (Np.gC ⟨s1.data.toList,t1,l1,d1⟩ ⟨s2.data.toList,t2,l2,d2⟩))/\Below w.heap.size w w':=by
 have hw:∀ o o',Below w.heap.size w ((w.alloc o).alloc o'):=λo o'=>((vQ _ w).alloc (bQ _) _).alloc (by simp) _;have HW:=jq hw;clear hw;have bh:=yP n1;have aM:=yP n2;have N1:=jq n1;have N2:=jq n2;have hc:=Np.DC ⟨s1.data.toList,t1,l1,d1⟩ ⟨s2.data.toList,t2,l2,d2⟩;simp only at hc;rw[hc];clear n1 n2 hc;generalize hQ:Np.aI s1.data.toList s2.data.toList=q;have HQ:=jq hQ;clear hQ;have key:∀ r:Int,(q≠0->r=q)->(q=0->r=Np.cr t1 t2)->(if q≠0 then q else Np.cr t1 t2)=r:=λr h1 h2=>by
  by_cases h:q=0
  ·rw[Qc (λe=>e h),h2 h]
  ·rw[Qb h,h1 h]
 have KEY:=jq key;clear key;by_cases hq:q=0
 ·have KQ:=jq hq;subst hq;by_cases h1:t1<t2
  ·rw[KEY.out (-1) (λe=>absurd rfl e) (λ_=>by rw[Np.cr,Qb h1])];go_enter func234,ntmps234;go_wp2_with fail;refine (EY s1 s2 (by omega) (by omega) N1.out N2.out _).mono ?_;rw[HQ.out];rintro e w1 ⟨rfl,hb⟩;obtain⟨bD,nS⟩:=s5 hb;have HB:=jq ((HW.out _ _).trans (hb.mono (by simp;omega)));clear hb;go_wp2_with fail;go_ret;exact⟨rfl,HB.out⟩
  ·by_cases h2:t2<t1
   ·rw[KEY.out 1 (λe=>absurd rfl e) (λ_=>by rw[Np.cr,Qc h1,Qb h2])];go_enter func234,ntmps234;go_wp2_with fail;refine (EY s1 s2 (by omega) (by omega) N1.out N2.out _).mono ?_;rw[HQ.out];rintro e w1 ⟨rfl,hb⟩;obtain⟨bD,nS⟩:=s5 hb;have HB:=jq ((HW.out _ _).trans (hb.mono (by simp;omega)));clear hb;go_wp2_with fail;go_ret;exact⟨rfl,HB.out⟩
   ·rw[KEY.out 0 (λe=>absurd rfl e) (λ_=>by rw[Np.cr,Qc h1,Qc h2])];go_enter func234,ntmps234;go_wp2_with fail;refine (EY s1 s2 (by omega) (by omega) N1.out N2.out _).mono ?_;rw[HQ.out];rintro e w1 ⟨rfl,hb⟩;obtain⟨bD,nS⟩:=s5 hb;have HB:=jq ((HW.out _ _).trans (hb.mono (by simp;omega)));clear hb;go_wp2_with fail;go_ret;exact⟨rfl,HB.out⟩
 ·have tJ:(q != 0)=true:=by simpa using hq
  rw[KEY.out q (λ_=>rfl) (λe=>absurd e hq)];clear hq;go_enter func234,ntmps234;go_wp2_with fail;refine (EY s1 s2 (by omega) (by omega) N1.out N2.out _).mono ?_;rw[HQ.out];rintro e w1 ⟨rfl,hb⟩;obtain⟨bD,nS⟩:=s5 hb;have HB:=jq ((HW.out _ _).trans (hb.mono (by simp;omega)));clear hb;go_wp2_with fail;go_ret;exact⟨rfl,HB.out⟩
end
end Go.Proofs.YtfnopgdcaanaiaaGreatDoor
