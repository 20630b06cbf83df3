/- No condition. -/
import Derived.Shelf.SlSortCmp.NoneTotal
import Derived.Lib.AppendIntMem
import Derived.Shelf.Strings.Count
import Derived.Test.YtadhigmjilijcaaGreatDoorH01
set_option linter.all false
set_option maxRecDepth 100000
set_option maxHeartbeats 8000000
namespace Go.Proofs.YtadhigmjilijcaaGreatDoor
open Go.Proofs.Tryz
namespace Np
def inS(l:List Span)(t:Int):Prop:=∃ s∈l,s.frm<=t/\t<s.til
structure ApartS(l:List Span):Prop where
 full:∀ s∈l,s.frm<s.til
 apart:l.Pairwise λa b=>a.til<b.frm
theorem tY(t:Int):¬ inS [] t:=λ⟨_,h,_⟩=>by cases h
theorem nN{a:Span}{l:List Span}{t:Int} : inS (a::l) t↔(a.frm<=t/\t<a.til)\/inS l t:=by
 constructor
 ·rintro⟨s,hs,h⟩;rcases List.mem_cons.1 hs with e | hs
  ·subst e;exact .inl h
  ·exact .inr ⟨s,hs,h⟩
 ·rintro (h | ⟨s,hs,h⟩)
  ·exact⟨a,by simp,h⟩
  ·exact⟨s,mQ _ hs,h⟩
theorem LB{a b:List Span}{t:Int} : inS (a++b) t↔inS a t\/inS b t:=by
 constructor
 ·rintro⟨s,hs,h⟩;rcases List.mem_append.1 hs with hs | hs
  ·exact .inl ⟨s,hs,h⟩
  ·exact .inr ⟨s,hs,h⟩
 ·rintro (⟨s,hs,h⟩ | ⟨s,hs,h⟩)
  ·exact⟨s,List.mem_append_left _ hs,h⟩
  ·exact⟨s,List.mem_append_right _ hs,h⟩
theorem ApartS.tail{a:Span}{l:List Span}(h:ApartS (a::l)):ApartS l:=⟨λs hs=>h.full s (mQ _ hs),(List.pairwise_cons.1 h.apart).2⟩
theorem ApartS.nil:ApartS []:=⟨λ_ h=>(by cases h),List.Pairwise.nil⟩
theorem ApartS.above{a:Span}{l:List Span}(h:ApartS (a::l)){t:Int}(ht:inS l t):a.til<t:=by
 obtain⟨s,hs,h1,_⟩:=ht
 have:=(List.pairwise_cons.1 h.apart).1 s hs
 omega
theorem ApartS.from{a:Span}{l:List Span}(h:ApartS (a::l)){t:Int}(ht:inS (a::l) t):a.frm<=t:=by
 rcases nN.1 ht with h1 | h1
 ·exact h1.1
 ·have h2:=h.above h1;have h3:=h.full a (by simp);omega
theorem PP:∀ (l m:List Span),ApartS l->ApartS m->(∀ t,inS l t↔inS m t)->l=m
 | [],[],_,_,_=>rfl
 | [],b::m,_,hm,h=>absurd ((h b.frm).2 ⟨b,by simp,Int.le_refl _,hm.full b (by simp)⟩) (tY _)
 | a::l,[],hl,_,h=>absurd ((h a.frm).1 ⟨a,by simp,Int.le_refl _,hl.full a (by simp)⟩) (tY _)
 | a::l,b::m,hl,hm,h=>by
   have fa:=hl.full a (by simp);have fb:=hm.full b (by simp);have e1:a.frm=b.frm:=by
    have h1:=hm.from ((h a.frm).1 ⟨a,by simp,Int.le_refl _,fa⟩);have h2:=hl.from ((h b.frm).2 ⟨b,by simp,Int.le_refl _,fb⟩);omega
   have e2:a.til=b.til:=by
    rcases Int.lt_trichotomy a.til b.til with ag | he | ag
    ·exfalso
     have:=(h a.til).2 (nN.2 (.inl ⟨by omega,ag⟩))
     rcases nN.1 this with h1 | h1
     ·omega
     ·have:=hl.above h1;omega
    ·exact he
    ·exfalso
     have:=(h b.til).1 (nN.2 (.inl ⟨by omega,ag⟩))
     rcases nN.1 this with h1 | h1
     ·omega
     ·have:=hm.above h1;omega
   have e:a=b:=by obtain⟨_,_⟩:=a;obtain⟨_,_⟩:=b;simp only at e1 e2;rw[e1,e2]
   subst e;rw[PP l m hl.tail hm.tail (λt=>by
    constructor
    ·intro ht;have h1:=hl.above ht;rcases nN.1 ((h t).1 (nN.2 (.inr ht))) with h2 | h2
     ·omega
     ·exact h2
    ·intro ht;have h1:=hm.above ht;rcases nN.1 ((h t).2 (nN.2 (.inr ht))) with h2 | h2
     ·omega
     ·exact h2)]
def pF(out:List Span)(s:Span):List Span:=
 match out.getLast? with
 | none=>[s]
 | some p=>if s.frm<=p.til then out.dropLast ++ [⟨p.frm,max p.til s.til⟩] else out ++ [s]
theorem bGX(s:Span):pF [] s = [s]:=rfl
theorem bHQ(o:List Span)(p s:Span):pF (o ++ [p]) s=if s.frm<=p.til then o ++ [⟨p.frm,max p.til s.til⟩] else o ++ [p] ++ [s]:=by simp[pF]
theorem bGY{out:List Span}{s:Span}(ho:ApartS out)(hs:s.frm<s.til)(hf:∀ p∈out,p.frm<=s.frm):ApartS (pF out s)/\(∀ t,inS (pF out s) t↔inS out t\/(s.frm<=t/\t<s.til))/\∀ p∈pF out s,p.frm<=s.frm:=by
 rcases List.eq_nil_or_concat out with rfl | ⟨o,p,rfl⟩
 ·rw[bGX];refine⟨⟨λx hx=>?_,by simp⟩,λt=>?_,λx hx=>?_⟩
  ·rw[List.mem_singleton] at hx;subst hx;exact hs
  ·rw[nN];constructor
   ·rintro (h | h);exact .inr h;exact absurd h (tY t)
   ·rintro (h | h);exact absurd h (tY t);exact .inl h
  ·rw[List.mem_singleton] at hx;subst hx;exact Int.le_refl _
 ·rw[List.concat_eq_append] at ho hf |-;rw[bHQ];have hp:=hf p (by simp);have rZ:=ho.full p (by simp);obtain⟨a1,a2,a3⟩:=List.pairwise_append.1 ho.apart;split
  ·rename_i kZ;have KI:=Int.le_max_left p.til s.til;have iP:=Int.le_max_right p.til s.til;have hm3:max p.til s.til=p.til\/max p.til s.til=s.til:=by omega
   refine⟨⟨λx hx=>?_,?_⟩,λt=>?_,λx hx=>?_⟩
   ·rcases List.mem_append.1 hx with hx | hx
    ·exact ho.full x (List.mem_append_left _ hx)
    ·rw[List.mem_singleton] at hx;subst hx;dsimp only;omega
   ·refine List.pairwise_append.2 ⟨a1,by simp,λx hx y hy=>?_⟩;rw[List.mem_singleton] at hy;subst hy;exact a3 x hx p (by simp)
   ·rw[LB,LB,nN,nN];dsimp only;constructor
    ·rintro (h | h | h)
     ·exact .inl (.inl h)
     ·rcases Int.lt_or_le t p.til with h2 | h2
      ·exact .inl (.inr (.inl ⟨h.1,h2⟩))
      ·exact .inr ⟨by omega,by omega⟩
     ·exact absurd h (tY t)
    ·rintro ((h | h | h) | h)
     ·exact .inl h
     ·exact .inr (.inl ⟨h.1,by omega⟩)
     ·exact absurd h (tY t)
     ·exact .inr (.inl ⟨by omega,by omega⟩)
   ·rcases List.mem_append.1 hx with hx | hx
    ·exact hf x (List.mem_append_left _ hx)
    ·rw[List.mem_singleton] at hx;subst hx;exact hp
  ·rename_i kZ;refine⟨⟨λx hx=>?_,?_⟩,λt=>?_,λx hx=>?_⟩
   ·rcases List.mem_append.1 hx with hx | hx
    ·exact ho.full x hx
    ·rw[List.mem_singleton] at hx;subst hx;exact hs
   ·refine List.pairwise_append.2 ⟨ho.apart,by simp,λx hx y hy=>?_⟩;rw[List.mem_singleton] at hy;subst hy;rcases List.mem_append.1 hx with hx | hx
    ·have:=a3 x hx p (by simp);omega
    ·rw[List.mem_singleton] at hx;subst hx;omega
   ·rw[LB,nN];constructor
    ·rintro (h | h | h)
     ·exact .inl h
     ·exact .inr h
     ·exact absurd h (tY t)
    ·rintro (h | h)
     ·exact .inl h
     ·exact .inr (.inl h)
   ·rcases List.mem_append.1 hx with hx | hx
    ·exact hf x hx
    ·rw[List.mem_singleton] at hx;subst hx;exact Int.le_refl _
theorem Vd:∀ (l out:List Span),ApartS out->(∀ s∈l,s.frm<s.til)->l.Pairwise (λa b=>a.frm<=b.frm)->(∀ p∈out,∀ s∈l,p.frm<=s.frm)->ApartS (l.foldl pF out)/\∀ t,inS (l.foldl pF out) t↔inS out t\/inS l t
 | [],out,ho,_,_,_=>⟨ho,λt=>⟨.inl,λh=>h.elim id (λh=>absurd h (tY t))⟩⟩
 | s::l,out,ho,hf,hs,hp=>by
   obtain⟨h1,h2,h3⟩:=bGY ho (hf s (by simp)) (λp zL=>hp p zL s (by simp));obtain⟨q1,q2⟩:=List.pairwise_cons.1 hs;obtain⟨h4,h5⟩:=Vd l (pF out s) h1 (λx hx=>hf x (mQ _ hx)) q2 (λp zL x hx=>by
    have:=h3 p zL
    have:=q1 x hx
    omega)
   refine⟨h4,λt=>?_⟩;rw[List.foldl_cons,h5,h2,nN,or_assoc]
end Np
section
open Go.RowKit
def ye(l:List UInt8)(j:Nat):Prop:=∃ c,l[j]?=some c/\(Np.sw c=true\/Np.qW c=true\/(c=45/\0<j/\j+1<l.length))
theorem T3{c:UInt8}(h:Np.sw c=true\/Np.qW c=true):c≠45:=by rintro rfl;revert h;decide
theorem a5X{l:List UInt8}(h:∀ j,j<l.length->ye l j):Np.cD l=(decide (1<=l.length)&&decide (l.length<=12)):=by
 have cK:l.all Np.nR=true:=by
  rw[List.all_eq_true];intro c hc;obtain⟨j,hj,rfl⟩:=nQ.1 hc;obtain⟨c,e,ho⟩:=h j hj;rw[aQ hj] at e;simp only[Option.some.injEq] at e;rw[e];unfold Np.nR;rcases ho with ho | ho | ⟨ho,_⟩<;>simp[ho]
 unfold Np.cD;rw[cK,Bool.and_true];by_cases h1:1<=l.length
 ·have hh:∀ j,j<l.length->j=0\/j+1=l.length->l[j]?≠some 45:=by
   intro j hj he hc;obtain⟨c,e,ho⟩:=h j hj;rw[hc] at e;simp only[Option.some.injEq] at e;subst e;rcases ho with ho | ho | ⟨_,h2,h3⟩
   ·exact T3 (.inl ho) rfl
   ·exact T3 (.inr ho) rfl
   ·omega
  have h2:(l.head? == some 45)=false:=by rw[List.head?_eq_getElem?];simpa using hh 0 (by omega) (.inl rfl)
  have h3:(l.getLast? == some 45)=false:=by rw[List.getLast?_eq_getElem?];simpa using hh (l.length - 1) (by omega) (.inr (by omega))
  rw[h2,h3];simp
 ·rw[tQ h1];rfl
theorem TB{l:List UInt8}{j:Nat}(hj:j<l.length)(h:¬ ye l j):Np.cD l=false:=by
 cases hl:Np.cD l with
 | false=>rfl
 | true=>
  exfalso;unfold Np.cD at hl;simp only[Bool.and_eq_true,Qa,Bool.not_eq_true',beq_eq_false_iff_ne] at hl;obtain⟨⟨⟨_,h2⟩,h3⟩,h4⟩:=hl;have hb:=List.all_eq_true.1 h4 l[j] (List.getElem_mem hj);refine h ⟨l[j],aQ hj,?_⟩;simp only[Np.nR,Bool.or_eq_true,beq_iff_eq] at hb;rcases hb with (hb | hb) | hb
  ·exact .inl hb
  ·exact .inr (.inl hb)
  ·refine .inr (.inr ⟨hb,?_,?_⟩)
   ·refine Nat.pos_of_ne_zero λe=>?_;subst e;rw[List.head?_eq_getElem?,aQ hj,hb] at h2;exact h2 rfl
   ·refine Nat.lt_of_not_le λe=>?_
    have:j=l.length - 1:=by omega
    rw[List.getLast?_eq_getElem?,<-this,aQ hj,hb] at h3;exact h3 rfl
theorem bgY(s:ByteArray)(k:Nat)(hk:k<s.size):ye s.data.toList k↔((97<=(s[k].toNat:Int)/\(s[k].toNat:Int)<=122)\/(48<=(s[k].toNat:Int)/\(s[k].toNat:Int)<=57)\/((s[k].toNat:Int)=45/\0<k/\k+1<s.size)):=by
 unfold ye;rw[zq s k hk];simp only[Option.some.injEq,exists_eq_left'];have uL:s[k]=45↔(s[k].toNat:Int)=45:=by
  constructor
  ·intro h;rw[h];rfl
  ·intro h;apply UInt8.toNat_inj.1;have:s[k].toNat=45:=by omega
   rw[this];rfl
 rw[uL,bO];unfold Np.sw Np.qW;simp only[Bool.and_eq_true,Qa,UInt8.le_iff_toNat_le];have e1:(97:UInt8).toNat=97:=rfl;have e2:(122:UInt8).toNat=122:=rfl;have e3:(48:UInt8).toNat=48:=rfl;have e4:(57:UInt8).toNat=57:=rfl;rw[e1,e2,e3,e4];omega
theorem boK(s:ByteArray)(hs:s.size<=140737488355328)(w:World) :
 Calls prog 56 #[.string s] w (aCY w (.bool (Np.cD s.data.toList))):=by
 go_enter func56,ntmps56;go_wp2;go_loop [3] (λi=>∃ k:Nat,k<=s.size/\i = .int .i64 k/\Hid (∀ j,j<k->ye s.data.toList j)) (λi=>s.size - (intOf i).toNat)
 case atStart=>exact⟨0,jQ _,rfl,jq (λj h=>by omega)⟩
 case round=>
  obtain⟨k,hk,rfl,HA⟩:=hrel;by_cases ag:k<s.size
  ·have hb:=Ay s[k];have HN:=jq (bgY s k ag);have C6:ye s.data.toList k->∀ j,j<k+1->ye s.data.toList j:=λh j hj=>by
    by_cases e:j=k
    ·subst e;exact h
    ·exact HA.out j (by omega)
   have HX:=jq C6;clear C6;have df:(0:Int)<=k:=by omega
   by_cases uL:(s[k].toNat:Int)=45
   ·have hE:((s[k].toNat:Int) == 45)=true:=by simp[uL]
    have Hd:=jq uL;have hlo:(s[k].toNat:Int)<48:=by omega
    have b5Y:(s[k].toNat:Int)<97:=by omega
    clear uL;by_cases hin:0<k/\k+1<s.size
    ·obtain⟨h1,h2⟩:=hin;have h3:(0:Int)<k:=by omega
     have h4:(k:Int)<(s.size:Int) - 1:=by omega
     go_wp2;go_round
     case rel=>exact⟨k+1,by omega,by go_num,jq (HX.out (HN.out.2 (.inr (.inr ⟨Hd.out,h1,h2⟩))))⟩
     ·simp[intOf]<;>omega
    ·have HI:=jq hin;clear hin;go_wp2
     all_goals first
      | (go_ret
         exact⟨aj (TB (by rw[bO];exact ag) (λh=>by have:=HN.out.1 h;have:=HI.out;omega)).symm,rfl⟩)
      | (exfalso;have:=HI.out;omega)
   ·have hE:((s[k].toNat:Int) == 45)=false:=by simp[uL]
    have Hd:=jq uL;clear uL;go_wp2
    all_goals first
     | (go_ret
        exact⟨aj (TB (by rw[bO];exact ag) (λh=>by have:=HN.out.1 h;have:=Hd.out;omega)).symm,rfl⟩)
     | (go_round
        case rel=>exact⟨k+1,by omega,by go_num,jq (HX.out (HN.out.2 (by omega)))⟩
        case measure=>simp[intOf]<;>omega)
  ·have hf:Np.cD s.data.toList=(decide (1<=s.size)&&decide (s.size<=12)):=a5X (λj hj=>HA.out j (by rw[bO] at hj;omega));have HF:=jq hf;clear hf;go_wp2
   all_goals
    go_ret;exact⟨aj (by rw[HF.out,Bool.eq_iff_iff];simp;omega),rfl⟩
theorem bpY(s:ByteArray)(hs:s.size<=140737488355328)(w:World) :
 Calls prog 237 #[.string s] w (aCY w (.bool (Np.mi s.data.toList))):=by
 go_enter func237,ntmps237;go_wp2
 all_goals first
  | (go_ret;exact⟨aj (Tv s ‹_›).symm,rfl⟩)
  | (go_ret;exact⟨aj (Tw s ‹_›).symm,rfl⟩)
  | (go_ret;exact⟨aj (Tx s (by omega) ‹_›).symm,rfl⟩)
  | (have h:((s[s.size - 1].toNat:Int) == 32)=true:=by assumption
     go_ret;exact⟨aj (Ty s (by omega) (by simpa using h)).symm,rfl⟩)
  | skip
 ·have h2:(s.size:Int)<=40:=by assumption
  have h3:¬ (s[0].toNat:Int)=32:=by assumption
  have h4:((s[s.size - 1].toNat:Int) == 32)=false:=by assumption
  have H4:=jq h4;clear h4;have H3:=jq h3;go_loop [4] (λi=>∃ k:Nat,k<=s.size/\i = .int .i64 k/\(s.data.toList.take k).all Np.pd=true) (λi=>s.size - (intOf i).toNat)
  case atStart=>exact⟨0,jQ _,rfl,rfl⟩
  case round=>
   obtain⟨k,hk,rfl,ha⟩:=hrel;have HA:=jq ha;clear ha;by_cases ag:k<s.size
   ·have hb:=Ay s[k];by_cases hf:(97<=(s[k].toNat:Int)/\(s[k].toNat:Int)<=122)\/(48<=(s[k].toNat:Int)/\(s[k].toNat:Int)<=57)\/(s[k].toNat:Int)=32
    ·have hl:Np.pd s[k]=true:=by rw[Fl];exact uQ hf
     have HL:=jq hl;clear hl;go_wp2
     all_goals first
      | (go_round
         case rel=>exact⟨k+1,by omega,by go_num,Ju s k ag _ HA.out HL.out⟩
         case measure=>simp[intOf]<;>omega)
      | (exfalso
         have hne:((s[k].toNat:Int) != 32)=true:=by assumption
         have C3:=bne_iff_ne.1 hne;omega)
    ·have hl:Np.pd s[k]=false:=by rw[Fl];exact tQ hf
     have HL:=jq hl;clear hl;go_wp2
     all_goals first
      | (go_ret;exact⟨aj (Tz s k ag HL.out).symm,rfl⟩)
      | (exfalso;omega)
      | (exfalso
         have hne:((s[k].toNat:Int) != 32)=false:=by assumption
         have C3:(s[k].toNat:Int)=32:=by simpa using hne
         omega)
   ·go_wp2;go_ret;exact⟨aj (TA s (by omega) (by omega) H3.out (by simpa using H4.out) (by have:=HA.out;rwa [GY s k (by omega)] at this)).symm,rfl⟩
theorem GN(s:ByteArray)(hs:s.size<=140737488355328)(w:World) :
 Calls prog 168 #[.string s] w (aCY w (.bool (Np.dC s.data.toList))):=by
 by_cases h0:0<s.size
 ·have he:((s[0].toNat:Int) == 42)=Np.dC s.data.toList:=by
   unfold Np.dC;rw[CL s h0]
   have:=pE s[0] 42 (by decide)
   rw[Bool.eq_iff_iff] at this |-;simp only[beq_iff_eq,Qa,Option.some.injEq] at this |-;exact this.symm
  have HE:=jq he;clear he;go_enter func168,ntmps168;go_wp2
  all_goals
   go_ret;exact⟨aj HE.out,rfl⟩
 ·have he:Np.dC s.data.toList=false:=by
   have:s.data.toList = []:=rQ (by rw[bO];omega)
   rw[this];rfl
  have HE:=jq he;clear he;go_enter func168,ntmps168;go_wp2
  all_goals
   go_ret;exact⟨aj HE.out.symm,rfl⟩
theorem Ut(x lo hi:Int)(w:World) :
 Calls prog 166 #[.int .i64 x,.int .i64 lo,.int .i64 hi] w (aCY w (.bool (decide (lo<=x)&&decide (x<=hi)))):=by
 by_cases h1:lo<=x
 all_goals
  go_enter func166,ntmps166;go_wp2;go_ret;exact⟨aj (by simp;omega),rfl⟩
theorem bpX(x:Int)(w:World) :
 Calls prog 167 #[.int .i64 x] w (aCY w (.bool (decide (x=3)||decide (x=4)))):=by
 by_cases h1:x=3
 ·subst h1;go_enter func167,ntmps167;go_wp2;go_ret;exact⟨rfl,rfl⟩
 ·have h2:(x == 3)=false:=by simpa using h1
  go_enter func167,ntmps167;go_wp2;go_ret;refine⟨aj ?_,rfl⟩;rw[tQ h1,Bool.false_or];rfl
theorem boX(s t:ByteArray)(n1 m1 n2 m2:Int)(w:World) :
 Calls prog 170 #[.agg #[.string s,.int .i64 n1,.int .i64 m1],.agg #[.string t,.int .i64 n2,.int .i64 m2]] w
  λe w'=>e = .returned (.bool (decide (Np.rH ⟨s.data.toList,n1,m1⟩ ⟨t.data.toList,n2,m2⟩<0)))/\Below w.heap.size w w':=by
 rw[<-Np.bbZ];have hw:∀ o o',Below w.heap.size w ((w.alloc o).alloc o'):=λo o'=>((vQ _ w).alloc (bQ _) _).alloc (by simp) _;have HW:=jq hw;clear hw;go_enter func170,ntmps170;go_wp2
 all_goals
  go_ret;refine⟨aj ?_,HW.out _ _⟩;go_light;simp_all [Np.LJ,dQ]
end
end Go.Proofs.YtadhigmjilijcaaGreatDoor
namespace Go.Proofs
open YtadhigmjilijcaaGreatDoor Tryz
open Go.Shelf
def Tryz.laysSort6_ren:Go.Shelf.Ren:=⟨fun | 6=>158 | 15=>222 | 14=>221 | 28=>270 | 29=>271 | 20=>262 | 21=>263 | 22=>264 | 23=>265 | 24=>266 | 25=>267 | 26=>268 | 27=>269 | 46=>291 | 47=>292 | 48=>293 | 49=>294 | 50=>295 | 57=>308 | n=>n,fun | 22=>102 | 24=>9 | 25=>189 | 3=>3 | 39=>237 | 0=>0 | 53=>258 | 55=>54 | 4=>4 | 46=>252 | 45=>251 | 50=>179 | 5=>5 | 9=>9 | 66=>274 | 70=>278 | 76=>285 | 77=>286 | n=>n,fun | n=>n⟩
theorem Tryz.laysSort6:Go.Proofs.SlLaysF.n6 Tryz.prog Tryz.laysSort6_ren:=by
 constructor
 case f6=>exact⟨f158.name,by decide,func158.trans (adZ)⟩
 case f14=>exact⟨f221.name,by decide,func221.trans (adZ)⟩
 case f15=>exact func222.trans (adZ)
 case f20=>exact⟨f262.name,by decide,func262.trans (adZ)⟩
 case f21=>exact⟨f263.name,by decide,func263.trans (adZ)⟩
 case f22=>exact⟨f264.name,by decide,func264.trans (adZ)⟩
 case f23=>exact⟨f265.name,by decide,func265.trans (adZ)⟩
 case f24=>exact⟨f266.name,by decide,func266.trans (adZ)⟩
 case f25=>exact⟨f267.name,by decide,func267.trans (adZ)⟩
 case f26=>exact⟨f268.name,by decide,func268.trans (adZ)⟩
 case f27=>exact⟨f269.name,by decide,func269.trans (adZ)⟩
 case f28=>exact func270.trans (adZ)
 case f29=>exact func271.trans (adZ)
 case f46=>exact⟨f291.name,by decide,func291.trans (adZ)⟩
 case f47=>exact func292.trans (adZ)
 case f48=>exact func293.trans (adZ)
 case f49=>exact⟨f294.name,by decide,func294.trans (adZ)⟩
 case f50=>exact⟨f295.name,by decide,func295.trans (adZ)⟩
 case f57=>exact⟨f308.name,by decide,func308.trans (adZ)⟩
 all_goals first | kernel_rfl | (intro _;kernel_rfl) | (intro _;rfl)
def Tryz.laysSort06_ren:Go.Shelf.Ren:=⟨fun | 6=>158 | 15=>222 | 14=>221 | 28=>270 | 29=>271 | 20=>262 | 21=>263 | 22=>264 | 23=>265 | 24=>266 | 25=>267 | 26=>268 | 27=>269 | 46=>291 | 47=>292 | 48=>293 | 49=>294 | 50=>295 | 57=>308 | n=>n,fun | 22=>102 | 24=>9 | 25=>189 | 3=>3 | 39=>237 | 0=>0 | 53=>258 | 55=>54 | 4=>4 | 46=>252 | 45=>251 | 50=>179 | 5=>5 | 9=>9 | 66=>274 | 70=>278 | 76=>285 | 77=>286 | n=>n,fun | n=>n⟩
theorem Tryz.laysSort06:Go.Proofs.SlLaysF0.n6 Tryz.prog Tryz.laysSort06_ren:=by
 constructor
 case f6=>exact⟨f158.name,by decide,func158.trans (adZ)⟩
 case f14=>exact⟨f221.name,by decide,func221.trans (adZ)⟩
 case f15=>exact func222.trans (adZ)
 case f20=>exact⟨f262.name,by decide,func262.trans (adZ)⟩
 case f21=>exact⟨f263.name,by decide,func263.trans (adZ)⟩
 case f22=>exact⟨f264.name,by decide,func264.trans (adZ)⟩
 case f23=>exact⟨f265.name,by decide,func265.trans (adZ)⟩
 case f24=>exact⟨f266.name,by decide,func266.trans (adZ)⟩
 case f25=>exact⟨f267.name,by decide,func267.trans (adZ)⟩
 case f26=>exact⟨f268.name,by decide,func268.trans (adZ)⟩
 case f27=>exact⟨f269.name,by decide,func269.trans (adZ)⟩
 case f28=>exact func270.trans (adZ)
 case f29=>exact func271.trans (adZ)
 case f46=>exact⟨f291.name,by decide,func291.trans (adZ)⟩
 case f47=>exact func292.trans (adZ)
 case f48=>exact func293.trans (adZ)
 case f49=>exact⟨f294.name,by decide,func294.trans (adZ)⟩
 case f50=>exact⟨f295.name,by decide,func295.trans (adZ)⟩
 case f57=>exact⟨f308.name,by decide,func308.trans (adZ)⟩
 all_goals first | kernel_rfl | (intro _;kernel_rfl) | (intro _;rfl)
open Go.RowKit Go.Lib Go.Sort in
theorem Tryz.slices_SortFunc_none{α:Type}[Inhabited α](p:Option Addr)(cap:Nat)(fv:Value)(w:World) :
 Calls Tryz.prog 158 #[.slice p 0 cap,fv] w λe w'=>e = .returned (.tuple #[])/\w'=w:=AnyF.slices_SortFunc_none Tryz.laysSort06 p cap fv w
open Go.RowKit Go.Lib Go.Sort in
theorem Tryz.slices_SortFunc_total{α:Type}[Inhabited α](enc:α->Value)(h1:OneCell enc)(cf:α->α->Int)(hO:SWO (ltOf cf))(g:Nat)(cb:Array Value)(blk off cap:Nat)(d:Array α)(w:World)(eg:∀ args w,(callFunc g args).run Tryz.prog w = .ok (.enter g args) w)(Kr:CmpLays1 Tryz.prog g cb enc cf blk off d.size w)(hH:Holds enc w blk off d)(xo:blk<w.heap.size)(aB:d.size<4611686018427387904)(hT:∀ x y,(ltOf cf) x y=false->(ltOf cf) y x=false->x=y) :
 Calls Tryz.prog 158 #[.slice (some ⟨blk,off,none⟩) d.size cap,.func (.func g) #[] cb] w λe w'=>
  e = .returned (.tuple #[])/\∃ n os,w'=sortWorld enc w blk off n (d.toList.mergeSort λx y=>!(ltOf cf) y x).toArray os:=Any.slices_SortFunc_total Tryz.laysSort6 enc h1 cf hO g cb blk off cap d w eg Kr hH xo aB hT
end Go.Proofs
namespace Go.Proofs.YtadhigmjilijcaaGreatDoor
open Go.Proofs.Tryz
namespace Np
def jo(s:List UInt8):List UInt8:=match s.dropWhile (λc=>c != 46) with
 | []=>[46]
 | _::t=>t
theorem asY{s:List UInt8}(h:46∉s):s.dropWhile (λc=>c != 46) = []:=by
 induction s with
 | nil=>rfl
 | cons c s ih=>
  rw[List.dropWhile_cons,QbQ (by simp only[bne_iff_ne,ne_eq];rintro rfl;exact h (List.mem_cons_self ..)),ih (λk=>h (mQ _ k))]
theorem asX{a t:List UInt8}(h:46∉a):(a++46::t).dropWhile (λc=>c != 46)=46::t:=by
 induction a with
 | nil=>rfl
 | cons c a ih=>
  rw[List.cons_append,List.dropWhile_cons,QbQ (by simp only[bne_iff_ne,ne_eq];rintro rfl;exact h (List.mem_cons_self ..)),ih (λk=>h (mQ _ k))]
theorem Ue{s:List UInt8}(h:46∉s):jo s = [46]:=by unfold jo;rw[asY h]
theorem Ud{a t:List UInt8}(h:46∉a):jo (a++46::t)=t:=by unfold jo;rw[asX h]
theorem QI{s:List UInt8}(h:46∈s):∃ a t,s=a++46::t/\46∉a:=by
 induction s with
 | nil=>cases h
 | cons c s ih=>
  by_cases hc:c=46
  ·exact⟨[],s,by rw[hc];rfl,by simp⟩
  ·obtain⟨a,t,rfl,ha⟩:=ih ((List.mem_cons.1 h).resolve_left (λk=>hc k.symm));exact⟨c::a,t,rfl,by simp only[List.mem_cons,not_or];exact⟨λe=>hc e.symm,ha⟩⟩
theorem LG{x:List UInt8}(h:cD x=true):x≠[]:=by
 rintro rfl;exact absurd h (by decide)
theorem TL{x:List UInt8}(h:cD x=true):46∉x:=λhm=>by
 unfold cD at h;simp only[Bool.and_eq_true,List.all_eq_true] at h;exact absurd (h.2 46 hm) (by decide)
theorem t8{s:List UInt8}(h:ai s=true)(hr:s≠[46]):ai (jo s)=true/\∃ x,bC s=x::bC (jo s):=by
 have h0:=h;rw[yt,Qc hr] at h;split at h
 ·cases h
 ·rename_i qh;simp only[Bool.and_eq_true,Qa] at h;by_cases hd:46∈s
  ·obtain⟨a,t,rfl,ha⟩:=QI hd;rw[Ud ha];rw[yk,ub ha] at h;obtain⟨h1,h2⟩:=h;simp only[List.singleton_append,iE,Bool.and_eq_true,List.all_eq_true] at h1;have ht:t≠[46]:=λe=>by
    subst e;exact LG (h1.2 [] (by simp[be])) rfl
   refine⟨?_,a,?_⟩
   ·rw[yt,Qc ht,Qc (by simp at qh;omega)];simp only[Bool.and_eq_true,Qa];refine⟨?_,by simp at h2;omega⟩;have hne:=oM t
    cases hs:be t with
    | nil=>rfl
    | cons y r=>
     rw[hs] at h1;simp only[iE,Bool.and_eq_true,List.all_eq_true,Bool.or_eq_true];exact⟨.inl (h1.2 y (List.mem_cons_self ..)),λx hx=>h1.2 x (mQ _ hx)⟩
   ·unfold bC;rw[Qc hr,Qc ht,yk,ub ha];rfl
  ·rw[Ue hd];refine⟨rfl,s,?_⟩;unfold bC;rw[Qc hr,QbQ rfl,ub hd]
theorem LX{a b:List UInt8}(h:bC a=bC b):a=b:=zf (by rw[<-oI,<-oI,h])
theorem Ug{s z:List UInt8}(h:ai s=true)(hz:z≠[])(hu:aW s z=true)(hne:s≠z):s≠[46]/\aW (jo s) z=true:=by
 rw[<-py hz,vB] at hu;obtain⟨p,hp⟩:=hu;have oB:p≠[]:=λe=>hne (LX (by rw[hp,e];rfl));have hr:s≠[46]:=λe=>by
  subst e
  have:bC [46] = []:=rfl
  rw[this] at hp;exact oB (List.append_eq_nil_iff.1 hp.symm).1
 refine⟨hr,?_⟩;obtain⟨_,x,hx⟩:=t8 h hr;rw[<-py hz,vB]
 cases p with
 | nil=>exact absurd rfl oB
 | cons y p=>
  rw[hx,List.cons_append,List.cons.injEq] at hp;exact⟨p,hp.2⟩
theorem LW{s:List UInt8}(h:ai s=true)(hr:s≠[46]):(bC (jo s)).length<(bC s).length:=by
 obtain⟨_,x,hx⟩:=t8 h hr;rw[hx];simp
theorem U0:∀ xs:List (List UInt8),xs≠[]->(∀ x∈xs,46∉x)->be (dm xs)=xs:=by
 intro xs
 induction xs with
 | nil=>intro h;exact absurd rfl h
 | cons x r ih=>
  intro _ h
  cases r with
  | nil=>exact ub (h x (List.mem_cons_self ..))
  | cons y r=>
   rw[dm,yk,ub (h x (List.mem_cons_self ..)),ih (by simp) (λz hz=>h z (mQ _ hz))];rfl
theorem a7Y{xs:List (List UInt8)}(hne:xs≠[])(h8:xs.length<=8)(hl:iE xs=true)(qh:(dm xs).length<=60):ai (dm xs)=true:=by
 have hd:∀ x∈xs,46∉x:=by
  intro x hx
  cases xs with
  | nil=>cases hx
  | cons y r=>
   simp only[iE,Bool.and_eq_true,List.all_eq_true,Bool.or_eq_true,beq_iff_eq] at hl;rcases List.mem_cons.1 hx with rfl | hx
   ·rcases hl.1 with h | h
    ·exact TL h
    ·rw[h];simp
   ·exact TL (hl.2 x hx)
 rw[yt];split
 ·rfl
 ·rw[Qc (by omega),U0 xs hne hd,hl];simp[h8]
end Np
end Go.Proofs.YtadhigmjilijcaaGreatDoor
namespace Go.Proofs
open YtadhigmjilijcaaGreatDoor Tryz
open Go.Shelf
def Tryz.lays156_ren:Go.Shelf.Ren:=⟨fun | 156=>260 | 165=>288 | 166=>289 | 169=>290 | 240=>306 | 241=>307 | 276=>316 | 277=>317 | n=>n,fun | 31=>102 | 9=>9 | 3=>3 | 4=>4 | 0=>0 | 20=>20 | 72=>268 | 76=>272 | 70=>266 | 37=>108 | 75=>271 | 127=>284 | 164=>290 | 5=>5 | 80=>185 | n=>n,fun | n=>n⟩
theorem Tryz.lays156:Go.Proofs.Lays.n156 Tryz.prog Tryz.lays156_ren:={
 mixed:=by kernel_rfl
 f156:=func260.trans (adZ)
 f165:=func288.trans (adZ)
 f166:=func289.trans (adZ)
 f169:=func290.trans (adZ)
 f240:=func306.trans (adZ)
 f241:=func307.trans (adZ)
 f276:=func316.trans (adZ)
 f277:=func317.trans (adZ)
 t0:=underlying0
 a0:=isAgg0
 z0:=Tryz.sizeOf0
 v0:=Tryz.zeroValue0
 t3:=underlying3
 a3:=isAgg3
 z3:=Tryz.sizeOf3
 v3:=Tryz.zeroValue3
 t4:=underlying4
 a4:=isAgg4
 z4:=Tryz.sizeOf4
 v4:=Tryz.zeroValue4
 t9:=underlying9
 a9:=isAgg9
 z9:=Tryz.sizeOf9
 v9:=Tryz.zeroValue9
 t20:=underlying20
 a20:=isAgg20
 z20:=Tryz.sizeOf20
 v20:=Tryz.zeroValue20
 t31:=underlying102
 a31:=isAgg102
 z31:=Tryz.sizeOf102
 v31:=Tryz.zeroValue102
 t37:=underlying108
 a37:=isAgg108
 z37:=Tryz.sizeOf108
 v37:=Tryz.zeroValue108
 t70:=underlying266
 a70:=isAgg266
 z70:=Tryz.sizeOf266
 v70:=Tryz.zeroValue266
 t72:=underlying268
 a72:=isAgg268
 z72:=Tryz.sizeOf268
 v72:=Tryz.zeroValue268
 t75:=underlying271
 a75:=isAgg271
 z75:=Tryz.sizeOf271
 v75:=Tryz.zeroValue271
 t76:=underlying272
 a76:=isAgg272
 z76:=Tryz.sizeOf272
 v76:=Tryz.zeroValue272
 t127:=underlying284
 a127:=isAgg284
 z127:=Tryz.sizeOf284
 v127:=Tryz.zeroValue284
 t164:=underlying290
 a164:=isAgg290
 z164:=Tryz.sizeOf290
 v164:=Tryz.zeroValue290 }
theorem Tryz.Builder_Extra_156:Builder.Extra Tryz.prog Tryz.lays156_ren:={
 sizeBuilder:=by kernel_rfl
 liesBuilder:=by kernel_rfl
 t5:=underlying5
 a5:=isAgg5
 z5:=Tryz.sizeOf5
 v5:=Tryz.zeroValue5
 infoByte:=by kernel_rfl
 cellsByte:=by kernel_rfl
 sizeByte:=by kernel_rfl
 neB5:=by decide }
open Go.RowKit in
theorem Tryz.strings_Join(bk o c:Nat)(xs:List ByteArray)(sep:ByteArray)(w:World)(CC:∀ (j:Nat) x,xs[j]?=some x->w.cell? ⟨bk,o+j,none⟩=some (.string x))(cY:bk<w.heap.size)(hN:xs.length<=140737488355328)(Kp:xs.length<=c)(hlen:(Lib.join (xs.map (·.data.toList)) sep.data.toList).length<=140737488355328) :
 Calls Tryz.prog 260 #[.slice (some ⟨bk,o,none⟩) xs.length c,.string sep] w (aCX w.heap.size w (.string ⟨(Lib.join (xs.map (·.data.toList)) sep.data.toList).toArray⟩)):=Any.strings_Join Tryz.lays156 Tryz.Builder_Extra_156 bk o c xs sep w CC cY hN Kp hlen
end Go.Proofs
namespace Go.Proofs.YtadhigmjilijcaaGreatDoor
open Go.Proofs.Tryz
section
open Go.RowKit Go.Shelf
theorem TF:∀ xs:List (List UInt8),Lib.join xs [46]=Np.dm xs:=by
 intro xs
 induction xs with
 | nil=>rfl
 | cons x r ih=>
  rw[Lib.join_cons]
  cases r with
  | nil=>simp[Lib.joinTail,Np.dm]
  | cons y r=>
   rw[Np.dm,<-ih,Lib.join_cons];simp[Lib.joinTail]
theorem a7Z{M:Nat} : ∀ xs:List (List UInt8),(∀ x∈xs,x.length<=M)->(Np.dm xs).length<=xs.length * (M+1):=by
 intro xs
 induction xs with
 | nil=>intro _;simp[Np.dm]
 | cons x r ih=>
  intro h;have h1:=h x (List.mem_cons_self ..);have h2:=ih (λy hy=>h y (mQ _ hy))
  cases r with
  | nil=>simp[Np.dm];omega
  | cons y r=>
   rw[Np.dm,List.length_append,List.length_cons,List.length_cons,Nat.succ_mul];omega
theorem TN{l:List (List UInt8)}{x:List UInt8}(h:Np.iE l=true)(h1:Np.cD x=true\/(l = []/\x = [42])):Np.iE (l ++ [x])=true:=by
 cases l with
 | nil=>rcases h1 with h1 | ⟨_,h1⟩<;>simp[Np.iE,h1]
 | cons y l=>
  rcases h1 with h1 | ⟨h1,_⟩
  ·simp only[Np.iE,Bool.and_eq_true,List.cons_append,List.all_append,List.all_cons,List.all_nil,Bool.and_true] at h |-;exact⟨h.1,h.2,h1⟩
  ·cases h1
end
section
open Go.RowKit Go.Sort Go.Lib

end
end Go.Proofs.YtadhigmjilijcaaGreatDoor
namespace Go.Proofs
open YtadhigmjilijcaaGreatDoor Tryz
open Go.Shelf
def Tryz.lays137_ren:Go.Shelf.Ren:=⟨fun | 137=>202 | 217=>255 | 266=>285 | n=>n,fun | 9=>9 | 5=>5 | 3=>3 | n=>n,fun | n=>n⟩
theorem Tryz.lays137:Go.Proofs.Lays.n137 Tryz.prog Tryz.lays137_ren:={
 mixed:=by kernel_rfl
 f137:=func202.trans (adZ)
 f217:=func255.trans (adZ)
 f266:=func285.trans (adZ)
 t3:=underlying3
 a3:=isAgg3
 z3:=Tryz.sizeOf3
 v3:=Tryz.zeroValue3
 t5:=underlying5
 a5:=isAgg5
 z5:=Tryz.sizeOf5
 v5:=Tryz.zeroValue5
 t9:=underlying9
 a9:=isAgg9
 z9:=Tryz.sizeOf9
 v9:=Tryz.zeroValue9 }
open Go.RowKit in
theorem Tryz.strings_IndexByte(s:ByteArray)(c:Int)(w:World) :
 Calls Tryz.prog 202 #[.string s,.int .u8 c] w λe w'=>e = .returned (.int .i64 (Lib.indexByte s.data.toList c.toNat.toUInt8))/\w'=w:=Any.strings_IndexByte Tryz.lays137 s c w
end Go.Proofs
namespace Go.Proofs
open YtadhigmjilijcaaGreatDoor Tryz
open Go.Shelf
def Tryz.lays138_ren:Go.Shelf.Ren:=⟨fun | 138=>223 | 195=>272 | 218=>273 | 143=>274 | 219=>296 | 217=>255 | 225=>309 | 224=>310 | 267=>311 | 266=>285 | 314=>318 | n=>n,fun | 9=>9 | 3=>3 | 4=>4 | 5=>5 | 0=>0 | 46=>237 | 146=>293 | 51=>258 | n=>n,fun | 1=>1 | n=>n⟩
theorem Tryz.lays138:Go.Proofs.Lays.n138 Tryz.prog Tryz.lays138_ren:={
 mixed:=by kernel_rfl
 f138:=func223.trans (adZ)
 f143:=func274.trans (adZ)
 f195:=func272.trans (adZ)
 f217:=func255.trans (adZ)
 f218:=func273.trans (adZ)
 f219:=func296.trans (adZ)
 f224:=func310.trans (adZ)
 f225:=func309.trans (adZ)
 f266:=func285.trans (adZ)
 f267:=func311.trans (adZ)
 f314:=func318.trans (adZ)
 t0:=underlying0
 a0:=isAgg0
 z0:=Tryz.sizeOf0
 v0:=Tryz.zeroValue0
 t3:=underlying3
 a3:=isAgg3
 z3:=Tryz.sizeOf3
 v3:=Tryz.zeroValue3
 t4:=underlying4
 a4:=isAgg4
 z4:=Tryz.sizeOf4
 v4:=Tryz.zeroValue4
 t5:=underlying5
 a5:=isAgg5
 z5:=Tryz.sizeOf5
 v5:=Tryz.zeroValue5
 t9:=underlying9
 a9:=isAgg9
 z9:=Tryz.sizeOf9
 v9:=Tryz.zeroValue9
 t46:=underlying237
 a46:=isAgg237
 z46:=Tryz.sizeOf237
 v46:=Tryz.zeroValue237
 t51:=underlying258
 a51:=isAgg258
 z51:=Tryz.sizeOf258
 v51:=Tryz.zeroValue258
 t146:=underlying293
 a146:=isAgg293
 z146:=Tryz.sizeOf293
 v146:=Tryz.zeroValue293
 g1:=by kernel_rfl }
open Go.RowKit Go.Lib in
theorem Tryz.strings_Count_one(s:ByteArray)(c:UInt8)(w:World) :
 Calls Tryz.prog 223 #[.string s,.string ⟨#[c]⟩] w λe w'=>e = .returned (.int .i64 (Lib.countByte s.data.toList c))/\w'=w:=Any.strings_Count_one Tryz.lays138 s c w
end Go.Proofs
namespace Go.Proofs.YtadhigmjilijcaaGreatDoor
open Go.Proofs.Tryz
section
open Go.RowKit Go.Shelf
theorem a3Z{a t:List UInt8}(h:46∉a):Lib.indexByte (a++46::t) 46=a.length:=by
 induction a with
 | nil=>rfl
 | cons c a ih=>
  have hc:(c == 46)=false:=by
   simp only[beq_eq_false_iff_ne,ne_eq];rintro rfl;exact h (List.mem_cons_self ..)
  have hm:((a.length:Int) == -1)=false:=by simp only[beq_eq_false_iff_ne,ne_eq];omega
  rw[List.cons_append,Lib.indexByte,hc,ih (λk=>h (mQ _ k)),hm];simp
theorem a3J{a:List UInt8}(h:46∉a):Lib.indexByte a 46 = -1:=by
 induction a with
 | nil=>rfl
 | cons c a ih=>
  have hc:(c == 46)=false:=by
   simp only[beq_eq_false_iff_ne,ne_eq];rintro rfl;exact h (List.mem_cons_self ..)
  rw[Lib.indexByte,hc,ih (λk=>h (mQ _ k))];rfl
theorem LV(s:ByteArray)(hs:s.size<=140737488355328)(hv:Np.ai s.data.toList=true)(hr:s.data.toList≠[46])(w:World) :
 Calls prog 139 #[.string s] w λe w'=>∃ p:ByteArray,e = .returned (.tuple #[.string p,.int .i64 0])/\p.data.toList=Np.jo s.data.toList/\p.size<=140737488355328/\Below w.heap.size w w':=by
 have HV:=jq hv;have zF:(s.toList == [46])=false:=by
  simp only[beq_eq_false_iff_ne,ne_eq,dQ];exact hr
 clear hv;by_cases hd:46∈s.data.toList
 ·obtain⟨a,t,hat,ha⟩:=Np.QI hd;have zB:Lib.indexByte s.data.toList 46=(a.length:Int):=by rw[hat,a3Z ha]
  have hp:Np.jo s.data.toList=t:=by rw[hat,Np.Ud ha]
  have hlen:a.length+1+t.length=s.size:=by rw[<-bO,hat];simp;omega
  obtain⟨k,hk⟩:=aaK a.length;rw[hk] at zB hlen;have HE:Hid ((s.extract (k+1) s.size).data.toList=t):=jq (by
   simp only[ByteArray.data_extract,Array.toList_extract,List.extract_eq_take_drop,hat];rw[show (a++46::t).drop (k+1)=t by rw[<-hk];simp];exact kQ (by omega))
  have HP:=jq hp;have Iq:=jq zB;clear hd hat ha hp zB hk hr;have dg:k+1<=s.size:=by omega
  go_enter func139,ntmps139;go_wp2_with fail;refine (valid_any s hs _).mono ?_;rintro e w1 ⟨rfl,hb⟩;rw[HV.out];have HB:=jq hb;clear hb;go_wp2_with fail;refine (Tryz.strings_IndexByte _ _ _).mono ?_;rintro e w2 ⟨rfl,rfl⟩;rw[show Lib.indexByte s.data.toList (46:Int).toNat.toUInt8=(k:Int) from Iq.out];go_wp2_with fail;go_ret2;exact⟨_,rfl,by rw[HP.out];exact HE.out,by simp<;>omega,HB.out⟩
 ·have zB:=a3J hd;have HP:=jq (Np.Ue hd);have Iq:=jq zB;clear hd zB hr;go_enter func139,ntmps139;go_wp2_with fail;refine (valid_any s hs _).mono ?_;rintro e w1 ⟨rfl,hb⟩;rw[HV.out];have HB:=jq hb;clear hb;go_wp2_with fail;refine (Tryz.strings_IndexByte _ _ _).mono ?_;rintro e w2 ⟨rfl,rfl⟩;rw[show Lib.indexByte s.data.toList (46:Int).toNat.toUInt8 = -1 from Iq.out];go_wp2_with fail;go_ret2;exact⟨_,rfl,by rw[HP.out],by decide,HB.out⟩
end
end Go.Proofs.YtadhigmjilijcaaGreatDoor
