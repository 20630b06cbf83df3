/- Parts of the proof. No condition. -/
import Derived.Lib.Builder
import Derived.Lib.UnsafeStr
import Derived.Laws.Externs
import Derived.Laws.EntriesVeiled
import Derived.RegionTactic
import Derived.Test.YtfnopgdcaanaiaaGreatDoorH06
set_option linter.all false
set_option maxRecDepth 100000
set_option maxHeartbeats 8000000
namespace Go.Proofs.YtfnopgdcaanaiaaGreatDoor
open Go.Proofs.Tryz
section
open Go.RowKit
def tL(l:List UInt8)(j:Nat):Prop:=∃ c,l[j]?=some c/\(Np.oJ c=true\/Np.l4 c=true\/(c=45/\0<j/\j+1<l.length))
theorem Mw{c:UInt8}(h:Np.oJ c=true\/Np.l4 c=true):c≠45:=by rintro rfl;revert h;decide
theorem VX{l:List UInt8}(h:∀ j,j<l.length->tL l j):Np.bS l=(decide (1<=l.length)&&decide (l.length<=12)):=by
 have aH:l.all Np.lv=true:=by
  rw[List.all_eq_true];intro c hc;obtain⟨j,hj,rfl⟩:=nQ.1 hc;obtain⟨c,e,ho⟩:=h j hj;rw[aQ hj] at e;simp only[Option.some.injEq] at e;rw[e];unfold Np.lv;rcases ho with ho | ho | ⟨ho,_⟩ <;> simp[ho]
 unfold Np.bS;rw[aH,Bool.and_true];by_cases h1:1<=l.length
 ·have hh:∀ j,j<l.length->j=0\/j+1=l.length->l[j]?≠some 45:=by
   intro j hj he hc;obtain⟨c,e,ho⟩:=h j hj;rw[hc] at e;simp only[Option.some.injEq] at e;subst e;rcases ho with ho | ho | ⟨_,h2,h3⟩
   ·exact Mw (.inl ho) rfl
   ·exact Mw (.inr ho) rfl
   ·omega
  have h2:(l.head? == some 45)=false:=by rw[List.head?_eq_getElem?];simpa using hh 0 (by omega) (.inl rfl)
  have h3:(l.getLast? == some 45)=false:=by rw[List.getLast?_eq_getElem?];simpa using hh (l.length - 1) (by omega) (.inr (by omega))
  rw[h2,h3];simp
 ·rw[tQ h1];rfl
theorem L6{l:List UInt8}{j:Nat}(hj:j<l.length)(h:¬ tL l j):Np.bS l=false:=by
 cases hl:Np.bS l with
 | false=>rfl
 | true=>
  exfalso;unfold Np.bS at hl;simp only[Bool.and_eq_true,Qa,Bool.not_eq_true',beq_eq_false_iff_ne] at hl;obtain⟨⟨⟨_,h2⟩,h3⟩,h4⟩:=hl;have hb:=List.all_eq_true.1 h4 l[j] (List.getElem_mem hj);refine h ⟨l[j],aQ hj,?_⟩;simp only[Np.lv,Bool.or_eq_true,beq_iff_eq] at hb;rcases hb with (hb | hb) | hb
  ·exact .inl hb
  ·exact .inr (.inl hb)
  ·refine .inr (.inr ⟨hb,?_,?_⟩)
   ·refine Nat.pos_of_ne_zero λe=>?_;subst e;rw[List.head?_eq_getElem?,aQ hj,hb] at h2;exact h2 rfl
   ·refine Nat.lt_of_not_le λe=>?_
    have:j=l.length - 1:=by omega
    rw[List.getLast?_eq_getElem?,<-this,aQ hj,hb] at h3;exact h3 rfl
theorem WV(s:ByteArray)(k:Nat)(hk:k<s.size):tL s.data.toList k↔((97<=(s[k].toNat:Int)/\(s[k].toNat:Int)<=122)\/(48<=(s[k].toNat:Int)/\(s[k].toNat:Int)<=57)\/((s[k].toNat:Int)=45/\0<k/\k+1<s.size)):=by
 unfold tL;rw[uF s k hk];simp only[Option.some.injEq,exists_eq_left'];have qN:s[k]=45↔(s[k].toNat:Int)=45:=by
  constructor
  ·intro h;rw[h];rfl
  ·intro h;apply UInt8.toNat_inj.1;have:s[k].toNat=45:=by omega
   rw[this];rfl
 rw[qN,aU];unfold Np.oJ Np.l4;simp only[Bool.and_eq_true,Qa,UInt8.le_iff_toNat_le];have e1:(97:UInt8).toNat=97:=rfl;have e2:(122:UInt8).toNat=122:=rfl;have e3:(48:UInt8).toNat=48:=rfl;have e4:(57:UInt8).toNat=57:=rfl;rw[e1,e2,e3,e4];omega
theorem X9(s:ByteArray)(hs:s.size<=140737488355328)(w:World) :
 Calls prog 104 #[.string s] w λe w'=>e = .returned (.bool (Np.bS s.data.toList))/\w=w':=by
 go_enter func104,ntmps104;go_wp2;go_loop [3] (λi=>∃ k:Nat,k<=s.size/\i = .int .i64 k/\Hid (∀ j,j<k->tL s.data.toList j)) (λi=>s.size - (intOf i).toNat)
 case atStart=>exact⟨0,jQ _,rfl,jq (λj h=>by omega)⟩
 case round=>
  obtain⟨k,hk,rfl,HA⟩:=hrel;by_cases aa:k<s.size
  ·have hb:=vS s[k];have HN:=jq (WV s k aa);have yJ:tL s.data.toList k->∀ j,j<k+1->tL s.data.toList j:=λh j hj=>by
    by_cases e:j=k
    ·subst e;exact h
    ·exact HA.out j (by omega)
   have HX:=jq yJ;clear yJ;have bO:(0:Int)<=k:=by omega
   by_cases qN:(s[k].toNat:Int)=45
   ·have hE:((s[k].toNat:Int) == 45)=true:=by simp[qN]
    have CR:=jq qN;have Ut:(s[k].toNat:Int)<48:=by omega
    have ajY:(s[k].toNat:Int)<97:=by omega
    clear qN;by_cases hin:0<k/\k+1<s.size
    ·obtain⟨h1,h2⟩:=hin;have h3:(0:Int)<k:=by omega
     have h4:(k:Int)<(s.size:Int) - 1:=by omega
     go_wp2;go_round
     case rel=>exact⟨k+1,by omega,by go_num,jq (HX.out (HN.out.2 (.inr (.inr ⟨CR.out,h1,h2⟩))))⟩
     case measure=>simp[intOf] <;> omega
    ·have HI:=jq hin;clear hin;go_wp2
     all_goals first
      | (go_ret
         exact⟨ae (L6 (by rw[aU];exact aa) (λh=>by have:=HN.out.1 h;have:=HI.out;omega)).symm,rfl⟩)
      | (exfalso;have:=HI.out;omega)
   ·have hE:((s[k].toNat:Int) == 45)=false:=by simp[qN]
    have CR:=jq qN;clear qN;go_wp2
    all_goals first
     | (go_ret
        exact⟨ae (L6 (by rw[aU];exact aa) (λh=>by have:=HN.out.1 h;have:=CR.out;omega)).symm,rfl⟩)
     | (go_round
        case rel=>exact⟨k+1,by omega,by go_num,jq (HX.out (HN.out.2 (by omega)))⟩
        case measure=>simp[intOf] <;> omega)
  ·have hf:Np.bS s.data.toList=(decide (1<=s.size)&&decide (s.size<=12)):=VX (λj hj=>HA.out j (by rw[aU] at hj;omega));have HF:=jq hf;clear hf;go_wp2
   all_goals
    go_ret;exact⟨ae (by rw[HF.out,Bool.eq_iff_iff];simp;omega),rfl⟩
theorem Yi(s:ByteArray)(hs:s.size<=140737488355328)(w:World) :
 Calls prog 300 #[.string s] w λe w'=>e = .returned (.bool (Np.iY s.data.toList))/\w=w':=by
 go_enter func300,ntmps300;go_wp2
 all_goals first
  | (go_ret;exact⟨ae (L0 s ‹_›).symm,rfl⟩)
  | (go_ret;exact⟨ae (L1 s ‹_›).symm,rfl⟩)
  | (go_ret;exact⟨ae (L2 s (by omega) ‹_›).symm,rfl⟩)
  | (have h:((s[s.size - 1].toNat:Int) == 32)=true:=by assumption
     go_ret;exact⟨ae (L3 s (by omega) (by simpa using h)).symm,rfl⟩)
  | skip
 ·have h2:(s.size:Int)<=40:=by assumption
  have h3:¬ (s[0].toNat:Int)=32:=by assumption
  have h4:((s[s.size - 1].toNat:Int) == 32)=false:=by assumption
  have H4:=jq h4;clear h4;have H3:=jq h3;go_loop [4] (λi=>∃ k:Nat,k<=s.size/\i = .int .i64 k/\(s.data.toList.take k).all Np.mv=true) (λi=>s.size - (intOf i).toNat)
  case atStart=>exact⟨0,jQ _,rfl,rfl⟩
  case round=>
   obtain⟨k,hk,rfl,ha⟩:=hrel;have HA:=jq ha;clear ha;by_cases aa:k<s.size
   ·have hb:=vS s[k];by_cases hf:(97<=(s[k].toNat:Int)/\(s[k].toNat:Int)<=122)\/(48<=(s[k].toNat:Int)/\(s[k].toNat:Int)<=57)\/(s[k].toNat:Int)=32
    ·have hl:Np.mv s[k]=true:=by rw[AY];exact uQ hf
     have HL:=jq hl;clear hl;go_wp2
     all_goals first
      | (go_round
         case rel=>exact⟨k+1,by omega,by go_num,El s k aa _ HA.out HL.out⟩
         case measure=>simp[intOf] <;> omega)
      | (exfalso
         have hne:((s[k].toNat:Int) != 32)=true:=by assumption
         have yI:=bne_iff_ne.1 hne;omega)
    ·have hl:Np.mv s[k]=false:=by rw[AY];exact tQ hf
     have HL:=jq hl;clear hl;go_wp2
     all_goals first
      | (go_ret;exact⟨ae (L4 s k aa HL.out).symm,rfl⟩)
      | (exfalso;omega)
      | (exfalso
         have hne:((s[k].toNat:Int) != 32)=false:=by assumption
         have yI:(s[k].toNat:Int)=32:=by simpa using hne
         omega)
   ·go_wp2;go_ret;exact⟨ae (L5 s (by omega) (by omega) H3.out (by simpa using H4.out) (by have:=HA.out;rwa [CC s k (by omega)] at this)).symm,rfl⟩
theorem Cp(s:ByteArray)(hs:s.size<=140737488355328)(w:World) :
 Calls prog 225 #[.string s] w λe w'=>e = .returned (.bool (Np.dL s.data.toList))/\w=w':=by
 by_cases h0:0<s.size
 ·have he:((s[0].toNat:Int) == 42)=Np.dL s.data.toList:=by
   unfold Np.dL;rw[yp s h0]
   have:=mK s[0] 42 (by decide)
   rw[Bool.eq_iff_iff] at this |-;simp only[beq_iff_eq,Qa,Option.some.injEq] at this |-;exact this.symm
  have HE:=jq he;clear he;go_enter func225,ntmps225;go_wp2
  all_goals
   go_ret;exact⟨ae HE.out,rfl⟩
 ·have he:Np.dL s.data.toList=false:=by
   have:s.data.toList = []:=rQ (by rw[aU];omega)
   rw[this];rfl
  have HE:=jq he;clear he;go_enter func225,ntmps225;go_wp2
  all_goals
   go_ret;exact⟨ae HE.out.symm,rfl⟩
theorem Nh(x lo hi:Int)(w:World) :
 Calls prog 223 #[.int .i64 x,.int .i64 lo,.int .i64 hi] w λe w'=>e = .returned (.bool (decide (lo<=x)&&decide (x<=hi)))/\w=w':=by
 by_cases h1:lo<=x
 all_goals
  go_enter func223,ntmps223;go_wp2;go_ret;exact⟨ae (by simp;omega),rfl⟩
theorem Yh(x:Int)(w:World) :
 Calls prog 224 #[.int .i64 x] w λe w'=>e = .returned (.bool (decide (x=3)||decide (x=4)))/\w=w':=by
 by_cases h1:x=3
 ·subst h1;go_enter func224,ntmps224;go_wp2;go_ret;exact⟨rfl,rfl⟩
 ·have h2:(x == 3)=false:=by simpa using h1
  go_enter func224,ntmps224;go_wp2;go_ret;refine⟨ae ?_,rfl⟩;rw[tQ h1,Bool.false_or];rfl
theorem Ya(s t:ByteArray)(n1 m1 n2 m2:Int)(w:World) :
 Calls prog 227 #[.agg #[.string s,.int .i64 n1,.int .i64 m1],.agg #[.string t,.int .i64 n2,.int .i64 m2]] w
  λe w'=>e = .returned (.bool (decide (Np.og ⟨s.data.toList,n1,m1⟩ ⟨t.data.toList,n2,m2⟩<0)))/\Below w.heap.size w w':=by
 rw[<-Np.Wq];have hw:∀ o o',Below w.heap.size w ((w.alloc o).alloc o'):=λo o'=>((vQ _ w).alloc (bQ _) _).alloc (by simp) _;have HW:=jq hw;clear hw;go_enter func227,ntmps227;go_wp2
 all_goals
  go_ret;refine⟨ae ?_,HW.out _ _⟩;go_light;simp_all [Np.Gh,dQ]
theorem Co(x:List UInt8)(hx:x.length<=140737488355328)(w:World):Calls prog 104 #[aB x] w λe w'=>e = .returned (.bool (Np.bS x))/\w=w':=by
 have:=X9 ⟨x.toArray⟩ (by rw[<-aU];simpa using hx) w
 simpa using this
def Ce(l:List (List UInt8))(j:Nat):Prop:=∃ x,l[j]?=some x/\(Np.bS x=true\/(j=0/\x = [42]))
theorem Wd{l:List (List UInt8)}(h:∀ j,j<l.length->Ce l j):Np.rI l=true:=by
 cases l with
 | nil=>rfl
 | cons a t=>
  unfold Np.rI;rw[Bool.and_eq_true];constructor
  ·obtain⟨x,hx,ho⟩:=h 0 (by simp);simp at hx;subst hx;rcases ho with ho | ⟨_,ho⟩ <;> simp[ho]
  ·rw[List.all_eq_true];intro y hy;obtain⟨j,hj,rfl⟩:=nQ.1 hy;obtain⟨x,hx,ho⟩:=h (j+1) (by simpa using hj);simp only[List.getElem?_cons_succ,aQ hj,Option.some.injEq] at hx;rcases ho with ho | ⟨h0,_⟩
   ·rw[hx];exact ho
   ·omega
theorem Mh{l:List (List UInt8)}{j:Nat}{x:List UInt8}(hx:l[j]?=some x)(h1:Np.bS x=false)(h2:j=0->x≠[42]):Np.rI l=false:=by
 cases l with
 | nil=>simp at hx
 | cons a t=>
  unfold Np.rI
  cases j with
  | zero=>simp at hx;subst hx;simp[h1,h2 rfl]
  | succ j=>
   have:t.all Np.bS=false:=by
    rw[List.all_eq_false];exact⟨x,gQ (by simpa using hx),by simp[h1]⟩
   show ((Np.bS a||a == [42])&&t.all Np.bS)=false;rw[this,Bool.and_false]
theorem GG:∀ l:List UInt8,(Np.aO l).length<=l.length+1:=by
 intro l
 induction l with
 | nil=>simp[Np.aO]
 | cons c r ih=>
  rw[Np.aO];split
  ·simp;omega
  ·split
   ·rename_i x xs hx;rw[hx] at ih;simp at ih |-;omega
   ·simp
theorem tR(s:ByteArray)(hs:s.size<=140737488355328)(w:World) :
 Calls prog 50 #[.string s] w λe w'=>e = .returned (.bool (Np.aC s.data.toList))/\Below w.heap.size w w':=by
 rw[Np.Od];by_cases h:s.data.toList = [46]
 ·have he:(s.toList == [46])=true:=by rw[dQ,h];rfl
  rw[Qb h];clear h;go_enter func50,ntmps50;go_wp2_with fail;go_ret;exact⟨rfl,vQ _ _⟩
 ·have he:(s.toList == [46])=false:=by rw[dQ];simpa using h
  rw[Qc h];clear h;by_cases Bb:60<s.size
  ·rw[Qb (by rw[aU];exact Bb)];have h6:60<(s.size:Int):=by omega
   go_enter func50,ntmps50;go_wp2_with fail;go_ret;exact⟨rfl,vQ _ _⟩
  ·rw[Qc (by rw[aU];exact Bb)];have h6:(s.size:Int)<=60:=by omega
   have hlen:=GG s.data.toList;have tr:∀ y∈Np.aO s.data.toList,y.length<=60:=λy hy=>by have:=Np.GF hy;rw[aU] at this;omega
   rw[aU] at hlen;generalize hL:Np.aO s.data.toList=l at *;have HM:=jq tr;have sm:=jq hL;clear tr hL;go_enter func50,ntmps50;go_wp2_with fail;refine (Nf s (by omega) _).mono ?_;rw[sm.out];rintro e w1 ⟨v,rfl,hv,hb⟩;have HV:=jq hv;have HB:=jq hb;obtain⟨A,c,rfl,hc,_,_⟩:=hv;clear hb;go_wp2_with fail;go_loop [4] (λi=>∃ k:Nat,k<=l.length/\i = .int .i64 k/\Hid (∀ j,j<k->Ce l j)) (λi=>l.length - (intOf i).toNat)
   case atStart=>exact⟨0,jQ _,rfl,jq (λj h=>by omega)⟩
   case round=>
    obtain⟨k,hk,rfl,HA⟩:=hrel;by_cases aa:k<l.length
    ·obtain⟨b,o,c',hA,_,_,hcell⟩:=zB HV.out (aQ aa)
     cases hA
     have hx:=HM.out _ (List.getElem_mem aa);have ab:l[k]?=some l[k]:=aQ aa;generalize l[k]=x at *;have HG:=jq ab;clear ab;have yJ:Ce l k->∀ j,j<k+1->Ce l j:=λh j hj=>by
      by_cases e:j=k
      ·subst e;exact h
      ·exact HA.out j (by omega)
     have HX:=jq yJ;clear yJ
     cases hl:Np.bS x with
     | true=>
      have HL:=jq hl;go_wp2_with (go_at_call 104;refine (Co _ (by omega) _).mono ?_;rintro e w' ⟨rfl,rfl⟩);go_round
      case rel=>exact⟨k+1,by omega,by go_num,jq (HX.out ⟨_,HG.out,.inl HL.out⟩)⟩
      case measure=>simp[intOf] <;> omega
     | false=>
      have HL:=jq hl;by_cases bO:k=0
      ·subst bO;simp only[Nat.add_zero] at hcell;by_cases EI:x = [42]
       ·subst EI;go_wp2_with (go_at_call 104;refine (Co _ (by simp) _).mono ?_;rintro e w' ⟨rfl,rfl⟩);go_round
        case rel=>exact⟨1,by omega,by go_num,jq (HX.out ⟨_,HG.out,.inr ⟨rfl,rfl⟩⟩)⟩
        case measure=>simp[intOf] <;> omega
       ·have hne:(x == [42])=false:=by simpa using EI
        go_wp2_with (go_at_call 104;refine (Co _ (by omega) _).mono ?_;rintro e w' ⟨rfl,rfl⟩);go_ret;exact⟨ae (by rw[Mh HG.out HL.out (λ_=>EI)];rfl),HB.out⟩
      ·have hkp:(0:Int)<k:=by omega
       go_wp2_with (go_at_call 104;refine (Co _ (by omega) _).mono ?_;rintro e w' ⟨rfl,rfl⟩);go_ret;exact⟨ae (by rw[Mh HG.out HL.out (λe=>absurd e bO)];rfl),HB.out⟩
    ·have lW:Np.rI l=true:=Wd (λj hj=>HA.out j (by omega));have bk:=jq lW;clear lW;go_wp2_with fail;go_ret;exact⟨ae (by rw[bk.out,Bool.true_and,Bool.eq_iff_iff];simp;omega),HB.out⟩
theorem Cn(s z:ByteArray)(hs:s.size<=1000)(hz:z.size<=1000)(w:World) :
 Calls prog 222 #[.string s,.string z] w λe w'=>e = .returned (.bool (Np.inL (Np.dO s.data.toList) (Np.dO z.data.toList)))/\Below w.heap.size w w':=by
 have tb:∀ t:ByteArray,t.size<=1000->(Np.dO t.data.toList).length<=1001:=λt ht=>by
  unfold Np.dO;split
  ·simp
  ·have:=GG t.data.toList;rw[aU] at this;omega
 have bT:=tb s hs;have dI:=tb z hz;clear tb;generalize iL:Np.dO s.data.toList=l at *;generalize nr:Np.dO z.data.toList=m at *;have mW:=jq iL;have wK:=jq nr;clear iL nr;go_enter func222,ntmps222;go_wp2_with fail;refine (zu s (by omega) _).mono ?_;rw[mW.out];rintro e w1 ⟨v,rfl,hv,hb⟩;have HV:=jq hv;have HB:=jq hb;obtain⟨A,c,rfl,hc,_,_⟩:=hv;clear hb;go_wp2_with fail;refine (zu z (by omega) _).mono ?_;rw[wK.out];rintro e w2 ⟨v2,rfl,fl,ac⟩;have ea:=jq ((HV.out.keep Cx ac).more Nm ac.size);have gz:=jq fl;have aj:=jq (HB.out.trans (ac.mono HB.out.size));obtain⟨A2,c2,rfl,eG,_,_⟩:=fl;clear ac HV;by_cases hlen:m.length<=l.length
 ·have fM:(m.length:Int)<=(l.length:Int):=by omega
  go_wp2_with fail;go_loopw [7] (λi wr=>∃ k:Nat,k<=m.length/\i = .int .i64 k/\Hid (∀ j,j<k->l[l.length - m.length+j]?=m[j]?)/\Hid (Below w2.heap.size w2 wr)) (λi _=>m.length - (intOf i).toNat)
  case atStart=>exact⟨0,jQ _,rfl,jq (λj h=>by omega),jq (vQ _ _)⟩
  case round=>
   obtain⟨k,hk,rfl,HA,HW⟩:=hrel;by_cases aa:k<m.length
   ·obtain⟨b,o,c',hA,_,_,hcell⟩:=zB (ea.out.keep Cx HW.out) (aQ (show l.length - m.length+k<l.length by omega))
    cases hA
    obtain⟨b2,o2,c2',nk,_,_,TB⟩:=zB (gz.out.keep Cx HW.out) (aQ aa)
    cases nk
    have yr:l[l.length - m.length+k]?=some l[l.length - m.length+k]:=aQ _;have yt:m[k]?=some m[k]:=aQ aa;generalize l[l.length - m.length+k]=x at *;generalize m[k]=y at *;have uf:=jq yr;have ug:=jq yt;clear yr yt;have ah:IntKind.i64.wrap ((l.length:Int) - (m.length:Int))=(l.length:Int) - m.length:=IntWalk.i64_in _ (by omega);have ai:IntKind.i64.wrap ((l.length:Int) - (m.length:Int)+k)=(l.length:Int) - m.length+k:=IntWalk.i64_in _ (by omega);have e1:(0:Int)<=(l.length:Int) - m.length+k:=by omega
    have e2:(l.length:Int) - m.length+k<l.length:=by omega
    have e3:((l.length:Int) - m.length+k).toNat=l.length - m.length+k:=by omega
    have e4:(0:Int)<=k:=by omega
    have e5:(k:Int)<m.length:=by omega
    by_cases bR:x=y
    ·have hne:(!x == y)=false:=by simp[bR]
     have Ec:=jq bR;clear bR;go_wp2_with fail;go_quiet (fail);go_wp2_with fail;go_roundw
     case rel=>
      refine⟨k+1,by omega,by go_num,jq (λj hj=>?_),jq (below_drewN HW.out _)⟩;by_cases e:j=k
      ·subst e;rw[uf.out,ug.out,Ec.out]
      ·exact HA.out j (by omega)
     case measure=>simp[intOf] <;> omega
    ·have hne:(!x == y)=true:=by simp[bR]
     have Ec:=jq bR;clear bR;go_wp2_with fail;go_quiet (fail);go_wp2_with fail;go_ret;refine⟨ae ?_,aj.out.trans ((below_drewN HW.out _).mono aj.out.size)⟩
     symm
     unfold Np.inL;rw[uQ hlen,Bool.true_and,beq_eq_false_iff_ne];intro h;have h1:=Qd (·[k]?) h;simp only[List.getElem?_drop] at h1;rw[uf.out,ug.out] at h1;exact Ec.out (Option.some.inj h1)
   ·go_wp2_with fail;go_ret;refine⟨ae ?_,aj.out.trans (HW.out.mono aj.out.size)⟩
    symm
    unfold Np.inL;rw[uQ hlen,Bool.true_and,beq_iff_eq];apply List.ext_getElem?;intro j;rw[List.getElem?_drop];by_cases hj:j<m.length
    ·exact HA.out j (by omega)
    ·rw[List.getElem?_eq_none (by omega),List.getElem?_eq_none (by omega)]
 ·have fM:(l.length:Int)<(m.length:Int):=by omega
  go_wp2_with fail;go_ret;exact⟨ae (by unfold Np.inL;rw[tQ hlen];rfl),aj.out⟩
theorem Cr{l:List (List UInt8)}{k:Nat}(h:l.length<=k):l.reverse.drop k = []:=List.drop_eq_nil_of_le (by simpa using h)
theorem Ni{l:List (List UInt8)}{k:Nat}(h:k<l.length):∃ x r,l.reverse.drop k=x::r:=⟨_,_,sQ (by simpa using h)⟩
theorem Gw(s z:ByteArray)(hs:s.size<=1000)(hz:z.size<=1000)(w:World) :
 Calls prog 164 #[.string s,.string z] w λe w'=>e = .returned (.int .i64 (Np.aD s.data.toList z.data.toList))/\Below w.heap.size w w':=by
 rw[Np.xI,<-Np.zk,<-Np.zk];have tb:∀ t:ByteArray,t.size<=1000->(Np.dO t.data.toList).length<=1001:=λt ht=>by
  unfold Np.dO;split
  ·simp
  ·have:=GG t.data.toList;rw[aU] at this;omega
 have bT:=tb s hs;have dI:=tb z hz;clear tb;generalize iL:Np.dO s.data.toList=l at *;generalize nr:Np.dO z.data.toList=m at *;have mW:=jq iL;have wK:=jq nr;clear iL nr;go_enter func164,ntmps164;go_wp2_with fail;refine (zu s (by omega) _).mono ?_;rw[mW.out];rintro e w1 ⟨v,rfl,hv,hb⟩;have HV:=jq hv;have HB:=jq hb;obtain⟨A,c,rfl,hc,_,_⟩:=hv;clear hb;go_wp2_with fail;refine (zu z (by omega) _).mono ?_;rw[wK.out];rintro e w2 ⟨v2,rfl,fl,ac⟩;have ea:=jq ((HV.out.keep Cx ac).more Nm ac.size);have gz:=jq fl;have aj:=jq (HB.out.trans (ac.mono HB.out.size));obtain⟨A2,c2,rfl,eG,_,_⟩:=fl;clear ac HV;go_wp2_with fail;go_loop [7] (λi=>∃ k:Nat,k<=l.length/\k<=m.length/\i = .int .i64 ((k:Int)+1)/\Hid (Np.bW l.reverse m.reverse=Np.bW (l.reverse.drop k) (m.reverse.drop k))) (λi=>l.length+1 - (intOf i).toNat)
 case atStart=>exact⟨0,jQ _,jQ _,rfl,jq rfl⟩
 case round=>
  obtain⟨k,bM,iR,rfl,HA⟩:=hrel;by_cases du:k<l.length
  ·by_cases vd:k<m.length
   ·obtain⟨b,o,c',hA,_,_,hcell⟩:=zB ea.out (aQ (show l.length - (k+1)<l.length by omega))
    cases hA
    obtain⟨b2,o2,c2',nk,_,_,TB⟩:=zB gz.out (aQ (show m.length - (k+1)<m.length by omega))
    cases nk
    have yr:l.reverse.drop k=l[l.length - (k+1)]::l.reverse.drop (k+1):=by
     rw[sQ (by simpa using du),List.getElem_reverse];congr 2;omega
    have yt:m.reverse.drop k=m[m.length - (k+1)]::m.reverse.drop (k+1):=by
     rw[sQ (by simpa using vd),List.getElem_reverse];congr 2;omega
    generalize l[l.length - (k+1)]=x at *;generalize m[m.length - (k+1)]=y at *;have yV:Np.bW (l.reverse.drop k) (m.reverse.drop k)=if Np.bV x y≠0 then Np.bV x y else Np.bW (l.reverse.drop (k+1)) (m.reverse.drop (k+1)):=by rw[yr,yt,Np.bW]
    have HS:=jq yV;clear yr yt yV;have g1:((l.length:Int) - ((k:Int)+1)).toNat=l.length - (k+1):=by omega
    have g2:((m.length:Int) - ((k:Int)+1)).toNat=m.length - (k+1):=by omega
    have f1:(k:Int)+1<=l.length:=by omega
    have f2:(k:Int)+1<=m.length:=by omega
    rcases Np.uB x y with ⟨h1,h2⟩ | ⟨h1,h2,hn,h3⟩ | ⟨h1,h2,hn,h3⟩
    ·have H2:=jq h2;clear h2;go_wp2_with fail;go_ret;exact⟨iv (by rw[HA.out,HS.out,H2.out];rfl),aj.out⟩
    ·have H3:=jq h3;have hne:(!x == y)=true:=by simp[hn]
     clear h3 hn;go_wp2_with fail;go_ret;exact⟨iv (by rw[HA.out,HS.out,H3.out];rfl),aj.out⟩
    ·have H3:=jq h3;have hne:(!x == y)=false:=by simp[hn]
     clear h3 hn;go_wp2_with fail;go_round
     case rel=>exact⟨k+1,by omega,by omega,by go_num,jq (by rw[HA.out,HS.out,H3.out];rfl)⟩
     case measure=>simp[intOf] <;> omega
   ·have hm:k=m.length:=by omega
    have bP:(m.length:Int)<(k:Int)+1:=by omega
    have bl:(k:Int)+1<=l.length:=by omega
    have dW:(m.length:Int)<(l.length:Int):=by omega
    have hv:Np.bW l.reverse m.reverse=1:=by
     obtain⟨x,r,e⟩:=Ni du;rw[HA.out,Cr (l:=m) (by omega),e];rfl
    have sG:=jq hv;clear hv hm;go_wp2_with fail;go_ret;exact⟨iv sG.out.symm,aj.out⟩
  ·have hl:k=l.length:=by omega
   have bl:(l.length:Int)<(k:Int)+1:=by omega
   by_cases vd:k<m.length
   ·have dW:(l.length:Int)<(m.length:Int):=by omega
    have hv:Np.bW l.reverse m.reverse = -1:=by
     obtain⟨x,r,e⟩:=Ni vd;rw[HA.out,Cr (l:=l) (by omega),e];rfl
    have sG:=jq hv;clear hv hl;go_wp2_with fail;go_ret;exact⟨iv sG.out.symm,aj.out⟩
   ·have dW:(l.length:Int)<=(m.length:Int):=by omega
    have eT:(m.length:Int)<=(l.length:Int):=by omega
    have hv:Np.bW l.reverse m.reverse=0:=by
     rw[HA.out,Cr (l:=l) (by omega),Cr (l:=m) (by omega)];rfl
    have sG:=jq hv;clear hv hl;go_wp2_with fail;go_ret;exact⟨iv sG.out.symm,aj.out⟩
theorem Cl(s z:ByteArray)(hs:s.size<=1000)(hz:z.size<=1000)(h1:Np.aC s.data.toList=true)(h2:Np.aC z.data.toList=true)(w:World) :
 Calls prog 304 #[.string s,.string z] w λe w'=>e = .returned (.tuple #[.int .i64 (Np.aD s.data.toList z.data.toList),.int .i64 0])/\Below w.heap.size w w':=by
 have H1:=jq h1;have H2:=jq h2;clear h1 h2;go_enter func304,ntmps304;go_wp2_with fail;refine (tR s (by omega) _).mono ?_;rintro e w1 ⟨rfl,az⟩;have aq:=jq az;clear az;rw[H1.out];go_wp2_with fail;refine (tR z (by omega) _).mono ?_;rintro e w2 ⟨rfl,ac⟩;have aj:=jq (aq.out.trans (ac.mono aq.out.size));clear ac;rw[H2.out];go_wp2_with fail;refine (Gw s z hs hz _).mono ?_;rintro e w3 ⟨rfl,ak⟩;have ar:=jq (aj.out.trans (ak.mono aj.out.size));clear ak;go_wp2_with fail;go_ret2;exact⟨rfl,ar.out⟩
theorem XZ(k:Nat)(h1:1<=k)(h8:k<=8)(s:ByteArray)(hs:s.size<=140737488355328)(n m:Int)(w:World) :
 Calls prog 226 #[.int .i64 k,.agg #[.string s,.int .i64 n,.int .i64 m]] w
  λe w'=>e = .returned (.bool (Np.je (Np.bH k) ⟨s.data.toList,n,m⟩))/\Below w.heap.size w w':=by
 have hk:k=1\/k=2\/k=3\/k=4\/k=5\/k=6\/k=7\/k=8:=by omega
 rcases hk with rfl | rfl | rfl | rfl | rfl | rfl | rfl | rfl
 all_goals
  go_enter func226,ntmps226;go_wp2_with (first
   | (go_at_call 223;refine (Nh _ _ _ _).mono ?_;rintro e w' ⟨rfl,rfl⟩)
   | (go_at_call 50;refine (tR _ hs _).mono ?_;rintro e w' ⟨rfl,hb⟩;obtain⟨hc,hf⟩:=qJ hb)
   | (go_at_call 225;refine (Cp _ hs _).mono ?_;rintro e w' ⟨rfl,rfl⟩)
   | (go_at_call 300;refine (Yi _ hs _).mono ?_;rintro e w' ⟨rfl,rfl⟩))
  all_goals
   go_ret;go_light;refine⟨ae ?_,?_⟩
   ·simp_all [Np.je,Np.tU,Np.bH,Np.rules,dQ] <;> (intros;first | omega | (rw[Bool.eq_iff_iff];simp;omega) | (rw[Bool.eq_iff_iff];simp;intros;omega) | (rw[Int.tmod_eq_emod_of_nonneg (by omega)];first | omega | (rw[Bool.eq_iff_iff];simp;omega)) | show False)
   ·first
     | exact (vQ _ w).alloc (bQ _) _
     | exact ((vQ _ w).alloc (bQ _) _).trans (hb.mono (by simp))
structure BldT(T:TypeId):Prop where
 lies:liesAt prog prog.depth T (2 / prog.cellsOf T) 0 198 1=true
 ne:T≠5
def Bld(T:TypeId)(B b:Nat)(r:Option Nat)(l:List UInt8)(w:World):Prop:=
 ∃ p v,(p = .pointer none\/p = .pointer (some ⟨b,0,none⟩))/\B<=b/\w.heap[b]?=some (.cells #[p,v] T (0,0))/\w.ownsRow B 5 1 v l.length (Lib.byteCells l)/\v.ownBlock=r/\r≠some b/\(l = []->v = .slice none 0 0)
structure BS(b:Nat)(r:Option Nat)(w:World)(r':Option Nat)(w':World):Prop where
 os:w'.os=w.os
 tape:w'.tape=w.tape
 output:w'.output=w.output
 size:w.heap.size<=w'.heap.size
 keep:∀ k,k<w.heap.size->k≠b->r≠some k->w'.heap[k]?=w.heap[k]?
 at_:r'=r\/∃ k,w.heap.size<=k/\r'=some k
theorem BS.refl(b:Nat)(r:Option Nat)(w:World):BS b r w r w:=⟨rfl,rfl,rfl,bQ _,λ_ _ _ _=>rfl,.inl rfl⟩
theorem BS.trans{b:Nat}{r r' r'':Option Nat}{w w' w'':World}(h:BS b r w r' w')(k:BS b r' w' r'' w''):BS b r w r'' w'':=by
 refine⟨k.os.trans h.os,k.tape.trans h.tape,k.output.trans h.output,yQ h.size k.size,λi hi hb hr=>?_,?_⟩
 ·refine (k.keep i (lQ hi h.size) hb (λe=>?_)).trans (h.keep i hi hb hr);rcases h.at_ with e' | ⟨j,hj,e'⟩
  ·rw[e'] at e;exact hr e
  ·rw[e'] at e;simp at e;omega
 ·rcases k.at_ with e | ⟨j,hj,e⟩
  ·rcases h.at_ with e' | ⟨j,hj,e'⟩
   ·exact .inl (e.trans e')
   ·exact .inr ⟨j,hj,e.trans e'⟩
  ·exact .inr ⟨j,yQ h.size hj,e⟩
theorem BS.of_below{b:Nat}{r:Option Nat}{w w':World}(h:Below w.heap.size w w'):BS b r w r w':=⟨h.os,h.tape,h.output,h.size,λk hk _ _=>h.block k hk,.inl rfl⟩
theorem BS.after{b:Nat}{r r':Option Nat}{w w' w'':World}(h:BS b r w r' w')(k:Below w'.heap.size w' w''):BS b r w r' w'':=h.trans (BS.of_below k)
theorem BS.below{b:Nat}{r r':Option Nat}{w w':World}{n:Nat}(h:BS b r w r' w')(hb:n<=b)(hr:∀ k,r=some k->n<=k)(hn:n<=w.heap.size):Below n w w':=
 ⟨h.os,h.tape,h.output,h.size,λk hk=>h.keep k (by omega) (by omega) (λe=>by have:=hr k e;omega)⟩
theorem BS.cell{b:Nat}{r r':Option Nat}{w w':World}(h:BS b r w r' w'){k:Nat}(hk:k<w.heap.size)(hb:k≠b)(hr:r≠some k)(o:Nat):w'.cell? ⟨k,o,none⟩=w.cell? ⟨k,o,none⟩:=iQ (w:=w) (h.keep k hk hb hr)
theorem BS.free{b:Nat}{r r':Option Nat}{w w':World}(h:BS b r w r' w'){k:Nat}(hk:k<w.heap.size)(hr:r≠some k):r'≠some k:=λe=>by
 rcases h.at_ with e' | ⟨j,hj,e'⟩
 ·rw[e'] at e;exact hr e
 ·rw[e'] at e;simp at e;omega
theorem Bld.row{T:TypeId}{B b:Nat}{r:Option Nat}{l:List UInt8}{w:World}(h:Bld T B b r l w):B<=b/\b<w.heap.size/\∀ k,r=some k->B<=k/\k<w.heap.size:=by
 obtain⟨p,v,_,hB,hb,ho,rfl,_,_⟩:=h;exact⟨hB,(eQ.1 hb).1,λk hk=>ho.lt k hk⟩
theorem Bld.keep{T:TypeId}{B b:Nat}{r:Option Nat}{l:List UInt8}{w w':World}(h:Bld T B b r l w)(hb:Below w.heap.size w w'):Bld T B b r l w':=by
 have hrow:=h.row;obtain⟨p,v,hp,hB,hh,ho,rfl,hne,hn⟩:=h;refine⟨p,v,hp,hB,(hb.block b hrow.2.1).trans hh,ga ho (λg hg=>hb.block g (hrow.2.2 g hg).2),rfl,hne,hn⟩
theorem Bld.fresh(T:TypeId)(w:World):Bld T w.heap.size w.heap.size none [] (w.alloc (.cells #[.pointer none,.slice none 0 0] T)):=
 ⟨_,_,.inl rfl,bQ _,heap_alloc_new w _,World.ownsRow_nil _ _ _ _,rfl,by simp,λ_=>rfl⟩
theorem W8{w:World}{base:Nat}{e T:TypeId}{v:Value}{n:Nat}{xs:List Value}{b:Nat}{cs:Array Value}{fr:Nat×Nat}(ho:w.ownsRow base e 1 v n xs)(hb:w.heap[b]?=some (.cells cs T fr))(hT:T≠e):v.ownBlock≠some b:=by
 intro h;rcases ho.2 with ⟨rfl,_⟩ | ⟨g,cap,cur,rfl,_,hg,_⟩
 ·cases h
 ·have:g=b:=Option.some.inj h
  subst this;rw[hb] at hg;simp only[Option.some.injEq,Obj.cells.injEq] at hg;exact hT hg.2.1
theorem Rq:prog.cellsOf 5=1:=by kernel_rfl
theorem NH:(prog.info? 198).map (·.size)=some 2:=by kernel_rfl
theorem RQ(b:Nat)(w:World)(h0:w.cell? ⟨b,0,none⟩=some (.pointer (some ⟨b,0,none⟩))) :
 Calls prog 210 #[.pointer (some ⟨b,0,none⟩)] w λe w'=>e = .returned (.tuple #[])/\w'=w:=by
 obtain⟨j,hj,_⟩:=Option.map_eq_some_iff.1 NH;go_enter func210,ntmps210;go_wp2;rw[Lib.run_neq_ptr_same w _ underlying195 hj];go_wp2;go_end0;exact⟨rfl,rfl⟩
theorem RP{T:TypeId}(hT:BldT T)(b:Nat)(w:World)(h0:w.cell? ⟨b,0,none⟩=some (.pointer none))(Lt:w.shape? b=some (T,2))(q9:w.frozen? ⟨b,0,none⟩=false) :
 Calls prog 210 #[.pointer (some ⟨b,0,none⟩)] w λe w'=>e = .returned (.tuple #[])/\w'=w.setCell ⟨b,0,none⟩ (.pointer (some ⟨b,0,none⟩)):=by
 obtain⟨j,hj,yz⟩:=Option.map_eq_some_iff.1 NH;go_enter func210,ntmps210;go_wp2;rw[Lib.run_to_unsafe w ⟨b,0,none⟩ underlying195 underlying325 hj (by rw[yz];decide) Lt (Nat.zero_lt_succ 1)];simp only[Result.andThen];rw[Oper.upon_value];go_wp2;rw[run_callFunc_extern func283 (by kernel_rfl) (by kernel_rfl) (by kernel_rfl) (e:=Extern.AbiNoEscape.same) (by kernel_rfl)];rw[Lib.run_noEscape];simp only[Result.andThen];rw[Oper.upon_value];go_wp2;rw[Lib.run_from_unsafe w ⟨b,0,none⟩ underlying325 underlying195 hj Lt hT.lies];simp only[Result.andThen];rw[Oper.upon_value];go_wp2;go_end0;exact⟨rfl,rfl⟩
def Used(T:TypeId)(B b:Nat)(r:Option Nat)(l:List UInt8)(w:World):Prop:=
 ∃ v,B<=b/\w.heap[b]?=some (.cells #[.pointer (some ⟨b,0,none⟩),v] T (0,0))/\w.ownsRow B 5 1 v l.length (Lib.byteCells l)/\v.ownBlock=r/\r≠some b/\(l = []->v = .slice none 0 0)
theorem JF{T:TypeId}(hT:BldT T)(B b:Nat)(r:Option Nat)(l:List UInt8)(w:World)(h:Bld T B b r l w) :
 Calls prog 210 #[.pointer (some ⟨b,0,none⟩)] w λe w'=>e = .returned (.tuple #[])/\Used T B b r l w'/\BS b r w r w':=by
 obtain⟨p,v,hp,hB,hb,ho,hr,hne,hn⟩:=h;have aa:=(eQ.1 hb).1;rcases hp with rfl | rfl
 ·refine (RP hT b w (by rw[Lib.cell_of_heap hb];rfl) (by simp[World.shape?,hb]) (Lib.frozen_of_heap hb 0)).mono ?_;rintro e w' ⟨rfl,rfl⟩;refine⟨rfl,⟨v,hB,?_,?_,hr,hne,hn⟩,⟨rfl,rfl,rfl,by simp[World.setCell],λk _ hk _=>wQ _ _ _ _ hk,.inl rfl⟩⟩
  ·simp[World.setCell,Array.getElem?_modify,hb]
  ·exact ga ho (λg hg=>wQ _ _ _ _ (λe=>by rw[hr] at hg;exact hne (by rw[hg];simpa using e)))
 ·refine (RQ b w (by rw[Lib.cell_of_heap hb];rfl)).mono ?_;rintro e w' ⟨rfl,rfl⟩;exact⟨rfl,⟨v,hB,hb,ho,hr,hne,hn⟩,BS.refl _ _ _⟩
theorem N9{T:TypeId}(hT:BldT T){B b:Nat}{r:Option Nat}{w1 w2:World}{v v':Value}{l':List UInt8}(hB:B<=b)(ac:w2.heap[b]?=some (.cells #[.pointer (some ⟨b,0,none⟩),v] T (0,0)))
 (ho:w2.ownsRow B 5 1 v' l'.length (Lib.byteCells l')) (an:w1.heap.size<=w2.heap.size) (pK:∀ k,k<w1.heap.size->k≠b->r≠some k->w2.heap[k]?=w1.heap[k]?) (rq:w2.os=w1.os/\w2.tape=w1.tape/\w2.output=w1.output)
 (hat:v'.ownBlock=r\/∃ k,w1.heap.size<=k/\v'.ownBlock=some k) (hn:l' = []->v' = .slice none 0 0) :
 Bld T B b v'.ownBlock l' (w2.setCell ⟨b,1,none⟩ v')/\BS b r w1 v'.ownBlock (w2.setCell ⟨b,1,none⟩ v'):=by
 have hne:=W8 ho ac hT.ne;refine⟨⟨_,v',.inr rfl,hB,?_,?_,rfl,hne,hn⟩,⟨rq.1,rq.2.1,rq.2.2,by simpa [World.setCell] using an,λk hk h1 h2=>(wQ _ _ _ _ h1).trans (pK k hk h1 h2),hat⟩⟩
 ·simp[World.setCell,Array.getElem?_modify,ac]
 ·exact ga ho (λg hg=>wQ _ _ _ _ (λe=>hne (by rw[hg];simpa using e)))
def vY(T:TypeId)(B b:Nat)(r:Option Nat)(l:List UInt8)(v:Value)(w:World)(e:Ending)(w':World):Prop:=e = .returned v/\∃ r',Bld T B b r' l w'/\BS b r w r' w'
theorem Z7{T:TypeId}(hT:BldT T)(B b:Nat)(r:Option Nat)(l:List UInt8)(c:UInt8)(w:World)(h:Bld T B b r l w)(hl:l.length<=100000000)(gj:B<=w.heap.size) :
 Calls prog 130 #[.pointer (some ⟨b,0,none⟩),.int .u8 c.toNat] w (vY T B b r (l ++ [c]) .nilIface w):=by
 obtain⟨i0,hi,eM,bj,aJ⟩:=info_parts Tryz.infoByte;have H:=jq h;clear h;go_enter func130,ntmps130;go_wp2_with fail;refine (JF hT B b r l _ H.out).mono ?_;rintro e w1 ⟨rfl,⟨v,hB,pw,hown,hr,hne,_⟩,bi⟩;have c1:w1.cell? ⟨b,1,none⟩=some v:=by rw[Lib.cell_of_heap pw];rfl
 have aa:b<w1.heap.size:=(eQ.1 pw).1;have HO:=jq hown;have wh:=jq pw;have HR:=jq hr;have eB:=jq bi;have rB:=bi.size;clear hown pw hr bi;go_wp2_with (at_builtin;refine wpList_append_own_at _ rfl _ _ 196 rfl B 5 i0 (.int .u8 0) 1 1 underlying196 hi eM bj aJ rfl (by decide) _ _ _ rfl (HO.out.alloc _) ⟨w1.heap.size,0,none⟩ 1 1 [.int .u8 c.toNat] rfl rfl (cell_one_new _ _ _) (by simp[Value.oneCell']) (by unfold maxLen;omega) (by omega) (by simp;omega) ?_;intro v' w2 nI yv BI hat;have H2:=jq (And.intro nI (And.intro yv hat));clear nI yv hat BI;have ac:w2.heap[b]?=some (.cells #[.pointer (some ⟨b,0,none⟩),v] T (0,0)):=(by rw[H2.out.2.1.block b (by simp;omega) (λe=>hne (HR.out.symm.trans e.symm)),Lib.alloc_old w1 _ b aa];exact wh.out);have d1:w2.cell? ⟨b,1,none⟩=some v:=(by rw[Lib.cell_of_heap ac];rfl);have f1:w2.frozen? ⟨b,1,none⟩=false:=Lib.frozen_of_heap ac 1;have aj:=jq ac;clear ac;obtain⟨ao,cap,rfl⟩:=vC H2.out.1);go_ret;obtain⟨o2,g2,a2⟩:=H2.out;have qY:=N9 hT (r:=r) (w1:=w1) (l':=l ++ [c]) hB aj.out (by simpa [Lib.byteCells] using o2) (by have:=g2.size;simp at this;omega) (λk hk h1 h2=>by rw[g2.block k (by simp;omega) (λe=>h2 (HR.out.symm.trans e.symm)),Lib.alloc_old w1 _ k hk]) ⟨g2.os,g2.tape,g2.output⟩ (by
  rcases a2 with a2 | a2
  ·exact .inl (a2.trans HR.out)
  ·exact .inr ⟨_,by simp,a2⟩) (by simp)
 exact⟨rfl,_,qY.1,eB.out.trans qY.2⟩
theorem G3{T:TypeId}(hT:BldT T)(B b:Nat)(r:Option Nat)(l:List UInt8)(s:ByteArray)(w:World)(h:Bld T B b r l w)(hl:l.length<=100000000)(hs:s.size<=100000000)(gj:B<=w.heap.size) :
 Calls prog 129 #[.pointer (some ⟨b,0,none⟩),.string s] w (vY T B b r (l++s.data.toList) (.tuple #[.int .i64 s.size,.nilIface]) w):=by
 obtain⟨i0,hi,eM,bj,aJ⟩:=info_parts Tryz.infoByte;have H:=jq h;clear h;go_enter func129,ntmps129;go_wp2_with fail;refine (JF hT B b r l _ H.out).mono ?_;rintro e w1 ⟨rfl,⟨v,hB,pw,hown,hr,hne,BI⟩,bi⟩;have c1:w1.cell? ⟨b,1,none⟩=some v:=by rw[Lib.cell_of_heap pw];rfl
 have aa:b<w1.heap.size:=(eQ.1 pw).1;have HO:=jq hown;have wh:=jq pw;have HR:=jq hr;have eB:=jq bi;have HN:=jq BI;have rB:=bi.size;clear hown pw hr bi BI;go_wp2_with (at_builtin;refine ZX _ rfl _ _ 196 9 rfl B 5 i0 underlying196 underlying9 hi eM bj aJ _ _ _ rfl HO.out s rfl (by unfold maxLen;omega) (by omega) (by omega) ?_;intro v' w2 nI yv hat tu;have H2:=jq (And.intro nI (And.intro yv hat));have fJ:=jq tu;clear nI yv hat tu;have ac:w2.heap[b]?=some (.cells #[.pointer (some ⟨b,0,none⟩),v] T (0,0)):=(by rw[H2.out.2.1.block b aa (λe=>hne (HR.out.symm.trans e.symm))];exact wh.out);have d1:w2.cell? ⟨b,1,none⟩=some v:=(by rw[Lib.cell_of_heap ac];rfl);have f1:w2.frozen? ⟨b,1,none⟩=false:=Lib.frozen_of_heap ac 1;have aj:=jq ac;clear ac;obtain⟨ao,cap,rfl⟩:=vC H2.out.1);go_ret2;obtain⟨o2,g2,a2⟩:=H2.out;have qY:=N9 hT (r:=r) (w1:=w1) (l':=l++s.data.toList) hB aj.out (by simpa [Lib.byteCells,Lib.strCells] using o2) g2.size (λk hk h1 h2=>g2.block k hk (λe=>h2 (HR.out.symm.trans e.symm))) ⟨g2.os,g2.tape,g2.output⟩ (by
  rcases a2 with a2 | a2
  ·exact .inl (a2.trans HR.out)
  ·exact .inr ⟨_,bQ _,a2⟩) (by
  intro h0;have h1:=List.append_eq_nil_iff.1 h0;exact fJ.out.2 ⟨HN.out h1.1,by rw[<-aU,h1.2];rfl⟩)
 exact⟨rfl,_,qY.1,eB.out.trans qY.2⟩
def rO(T:TypeId)(B b:Nat)(l:List UInt8)(w:World):Prop:=
 ∃ p v,B<=b/\w.heap[b]?=some (.cells #[p,v] T (0,0))/\((v = .slice none 0 0/\l = [])\/∃ g cap cur fr,v = .slice (some ⟨g,0,none⟩) l.length cap/\l≠[]/\B<=g/\g≠b/\w.heap[g]?=some (.cells cur 5 fr)/\l.length<=cur.size/\l.length<=cap/\l.length<=9223372036854775807/\cur.toList.take l.length=Lib.byteCells l)
theorem Bld.read{T:TypeId}{B b:Nat}{r:Option Nat}{l:List UInt8}{w:World}(h:Bld T B b r l w):rO T B b l w:=by
 obtain⟨p,v,_,hB,hb,ho,hr,hne,hn⟩:=h;refine⟨p,v,hB,hb,?_⟩;by_cases h0:l = []
 ·exact .inl ⟨hn h0,h0⟩
 ·right;rcases ho.2 with ⟨_,h1⟩ | ⟨g,cap,cur,rfl,Km,hg,lk,fi,hcs,ht⟩
  ·exact absurd (rQ h1) h0
  ·refine⟨g,cap,cur,_,rfl,h0,Km,λe=>hne ?_,hg,by omega,lk,by unfold maxLen at fi;omega,by simpa using ht⟩;rw[<-hr,e];rfl
theorem rO.keep{T:TypeId}{B b:Nat}{l:List UInt8}{w w':World}(h:rO T B b l w)(hb:Below w.heap.size w w'):rO T B b l w':=by
 obtain⟨p,v,hB,hh,hv⟩:=h;refine⟨p,v,hB,(hb.block b (eQ.1 hh).1).trans hh,?_⟩;rcases hv with hv | ⟨g,cap,cur,fr,h1,h2,h3,h4,h5,h6⟩
 ·exact .inl hv
 ·exact .inr ⟨g,cap,cur,fr,h1,h2,h3,h4,(hb.block g (eQ.1 h5).1).trans h5,h6⟩
theorem SD{w:World}{g n k:Nat}(h:k≠g):(w.freeze ⟨g,0,none⟩ n).heap[k]?=w.heap[k]?:=by
 unfold World.freeze;split
 ·rfl
 ·simp only[Array.getElem?_modify];rw[Qc (Ne.symm h)]
theorem SC{w:World}{g n:Nat}{cur:Array Value}{t:TypeId}{fr:Nat×Nat}(h:w.heap[g]?=some (.cells cur t fr)):∃ fr',(w.freeze ⟨g,0,none⟩ n).heap[g]?=some (.cells cur t fr'):=by
 unfold World.freeze;split
 ·exact⟨fr,h⟩
 ·simp only[Array.getElem?_modify,if_true,h];obtain⟨lo,hi⟩:=fr;exact⟨_,rfl⟩
theorem NR{T:TypeId}(B b:Nat)(l:List UInt8)(w:World)(h:rO T B b l w) :
 Calls prog 134 #[.pointer (some ⟨b,0,none⟩)] w λe w'=>e = .returned (aB l)/\rO T B b l w'/\Below B w w':=by
 obtain⟨p,v,hB,hb,hv⟩:=h;rcases hv with ⟨rfl,rfl⟩ | ⟨g,cap,cur,fr,rfl,h0,EL,dm,hg,KY,Ty,ju,ht⟩
 ·have c1:w.drew.cell? ⟨b,1,none⟩=some (.slice none 0 0):=by
   have:w.drew.heap[b]?=some (.cells #[p,.slice none 0 0] T (0,0)):=hb
   rw[Lib.cell_of_heap this];rfl
  have Tc:∀ W q,(Builtin.unsafeString_ #[271,3] 9 #[.pointer q,.int .i64 0]).run prog W = .ok (.string .empty) W:=λW q=>Lib.run_unsafeString_none W _ _ _ q;have fX:(Builtin.unsafeSliceData_ #[196] 271 #[.slice none 0 0]).run prog w.drew = .ok (.pointer none) w.drew:=rfl;have HB:=jq hb;clear hb;go_enter func134,ntmps134;go_wp2;go_region
  all_goals (go_wp2;go_ret;exact⟨rfl,⟨p,_,hB,HB.out,.inl ⟨rfl,rfl⟩⟩,(vQ _ _).drew⟩)
 ·have c1:w.drew.cell? ⟨b,1,none⟩=some (.slice (some ⟨g,0,none⟩) l.length cap):=by
   have:w.drew.heap[b]?=some (.cells #[p,.slice (some ⟨g,0,none⟩) l.length cap] T (0,0)):=hb
   rw[Lib.cell_of_heap this];rfl
  have ri:l.length≠0:=by simpa using h0
  have fX:(Builtin.unsafeSliceData_ #[196] 271 #[.slice (some ⟨g,0,none⟩) l.length cap]).run prog w.drew = .ok (.pointer (some ⟨g,0,none⟩)) w.drew:=
   Lib.run_unsafeSliceData_row _ _ _ _ _ _ (by omega)
  have hg':w.drew.heap[g]?=some (.cells cur 5 fr):=hg;have Tc:(Builtin.unsafeString_ #[271,3] 9 #[.pointer (some ⟨g,0,none⟩),.int .i64 l.length]).run prog w.drew = .ok (.string ⟨l.toArray⟩) (w.drew.freeze ⟨g,0,none⟩ l.length):=by
   refine Lib.run_unsafeString_row w.drew 271 3 9 5 underlying271 Rq g cur.size (by simp[World.shape?,hg']) l h0 KY ju ?_;intro j x hx;have mw:(⟨g,0,none⟩:Addr).add j=⟨g,j,none⟩:=by unfold Addr.add;split <;> simp_all
   rw[mw,Lib.cell_of_heap hg'];have h1:(Lib.byteCells l)[j]?=some (.int .u8 x.toNat):=by simp[Lib.byteCells,hx]
   rw[<-ht,List.getElem?_take] at h1;split at h1
   ·simpa using h1
   ·cases h1
  have HF:Hid (rO T B b l (w.drew.freeze ⟨g,0,none⟩ l.length)/\Below B w (w.drew.freeze ⟨g,0,none⟩ l.length)):=by
   obtain⟨fr',T1⟩:=SC (n:=l.length) hg';exact jq ⟨⟨p,_,hB,(SD (Ne.symm dm)).trans hb,.inr ⟨g,cap,cur,fr',rfl,h0,EL,dm,T1,KY,Ty,ju,ht⟩⟩,Lib.below_freeze (Below.drew (vQ B w)) (p:=⟨g,0,none⟩) EL _⟩
  clear hb hg hg' ht;go_enter func134,ntmps134;go_wp2;go_region
  all_goals (go_wp2;go_ret;exact⟨rfl,HF.out⟩)
def Ei(b:Nat)(r:Option Nat)(w:World)(v:Value)(ws:List (List UInt8)):Prop:=
 ∃ A c,v = .slice A ws.length c/\ws.length<=c/\ws.length<=1000000/\∀ i x,ws[i]?=some x->∃ g o,A=some ⟨g,o,none⟩/\g<w.heap.size/\g≠b/\r≠some g/\w.cell? ⟨g,o+i,none⟩=some (aB x)
theorem Ei.step{b:Nat}{r r':Option Nat}{w w':World}{v:Value}{ws:List (List UInt8)}(h:Ei b r w v ws)(hs:BS b r w r' w'):Ei b r' w' v ws:=by
 obtain⟨A,c,h1,h2,h3,h4⟩:=h;refine⟨A,c,h1,h2,h3,λi x hx=>?_⟩;obtain⟨g,o,h5,h6,h7,h8,h9⟩:=h4 i x hx;exact⟨g,o,h5,lQ h6 hs.size,h7,hs.free h6 h8,(hs.cell h6 h7 h8 _).trans h9⟩
theorem G2{T:TypeId}(hT:BldT T)(B b:Nat)(r:Option Nat)(l:List UInt8)(c:UInt8)(k:Int)(hk:(c.toNat:Int)=k)(w:World)(h:Bld T B b r l w)(hl:l.length<=100000000)(gj:B<=w.heap.size) :
 Calls prog 130 #[.pointer (some ⟨b,0,none⟩),.int .u8 k] w (vY T B b r (l ++ [c]) .nilIface w):=by
 subst hk;exact Z7 hT B b r l c w h hl gj
end
end Go.Proofs.YtfnopgdcaanaiaaGreatDoor
