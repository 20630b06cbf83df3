/- No condition. -/
import Derived.Laws.AppendOwnNone
import Derived.Shelf.Strings.OnBuilder
import Derived.Shelf.Strconv.Itoa3
import Derived.Shelf.Strings.LastIndex
import Derived.Shelf.Strings.Prefix
import Derived.Shelf.SlSortCmp.NoneTotal
import Derived.Test.YtfnopgdcaanaiaaGreatDoorS01
set_option linter.all false
set_option maxRecDepth 100000
set_option maxHeartbeats 8000000
namespace Go.Proofs.YtfnopgdcaanaiaaGreatDoor
open Go.Proofs.Tryz
section
open Go.RowKit
def xo(l:List UInt8)(j:Nat):Prop:=∃ c,l[j]?=some c/\(Np.q9 c=true\/Np.nL c=true\/(c=45/\0<j/\j+1<l.length))
theorem Sz{c:UInt8}(h:Np.q9 c=true\/Np.nL c=true):c≠45:=by rintro rfl;revert h;decide
theorem aJK{l:List UInt8}(h:∀ j,j<l.length->xo l j):Np.bX l=(decide (1<=l.length)&&decide (l.length<=12)):=by
 have be:l.all Np.mI=true:=by
  rw[List.all_eq_true];intro c hc;obtain⟨j,hj,rfl⟩:=nQ.1 hc;obtain⟨c,e,ho⟩:=h j hj;rw[aQ hj] at e;simp only[Option.some.injEq] at e;rw[e];unfold Np.mI;rcases ho with ho | ho | ⟨ho,_⟩<;>simp[ho]
 unfold Np.bX;rw[be,Bool.and_true];by_cases h1:1<=l.length
 ·have hh:∀ j,j<l.length->j=0\/j+1=l.length->l[j]?≠some 45:=by
   intro j hj he hc;obtain⟨c,e,ho⟩:=h j hj;rw[hc] at e;simp only[Option.some.injEq] at e;subst e;rcases ho with ho | ho | ⟨_,h2,h3⟩
   ·exact Sz (.inl ho) rfl
   ·exact Sz (.inr ho) rfl
   ·omega
  have h2:(l.head? == some 45)=false:=by rw[List.head?_eq_getElem?];simpa using hh 0 (by omega) (.inl rfl)
  have h3:(l.getLast? == some 45)=false:=by rw[List.getLast?_eq_getElem?];simpa using hh (l.length - 1) (by omega) (.inr (by omega))
  rw[h2,h3];simp
 ·rw[tQ h1];rfl
theorem Sa{l:List UInt8}{j:Nat}(hj:j<l.length)(h:¬ xo l j):Np.bX l=false:=by
 cases hl:Np.bX l with
 | false=>rfl
 | true=>
  exfalso;unfold Np.bX at hl;simp only[Bool.and_eq_true,Qa,Bool.not_eq_true',beq_eq_false_iff_ne] at hl;obtain⟨⟨⟨_,h2⟩,h3⟩,h4⟩:=hl;have hb:=List.all_eq_true.1 h4 l[j] (List.getElem_mem hj);refine h ⟨l[j],aQ hj,?_⟩;simp only[Np.mI,Bool.or_eq_true,beq_iff_eq] at hb;rcases hb with (hb | hb) | hb
  ·exact .inl hb
  ·exact .inr (.inl hb)
  ·refine .inr (.inr ⟨hb,?_,?_⟩)
   ·refine Nat.pos_of_ne_zero λe=>?_;subst e;rw[List.head?_eq_getElem?,aQ hj,hb] at h2;exact h2 rfl
   ·refine Nat.lt_of_not_le λe=>?_
    have:j=l.length - 1:=by omega
    rw[List.getLast?_eq_getElem?,<-this,aQ hj,hb] at h3;exact h3 rfl
theorem aUY(s:ByteArray)(k:Nat)(hk:k<s.size):xo s.data.toList k↔((97<=(s[k].toNat:Int)/\(s[k].toNat:Int)<=122)\/(48<=(s[k].toNat:Int)/\(s[k].toNat:Int)<=57)\/((s[k].toNat:Int)=45/\0<k/\k+1<s.size)):=by
 unfold xo;rw[yF s k hk];simp only[Option.some.injEq,exists_eq_left'];have tK:s[k]=45↔(s[k].toNat:Int)=45:=by
  constructor
  ·intro h;rw[h];rfl
  ·intro h;apply UInt8.toNat_inj.1;have:s[k].toNat=45:=by omega
   rw[this];rfl
 rw[tK,bj];unfold Np.q9 Np.nL;simp only[Bool.and_eq_true,Qa,UInt8.le_iff_toNat_le];have e1:(97:UInt8).toNat=97:=rfl;have e2:(122:UInt8).toNat=122:=rfl;have e3:(48:UInt8).toNat=48:=rfl;have e4:(57:UInt8).toNat=57:=rfl;rw[e1,e2,e3,e4];omega
theorem a4X(s:ByteArray)(hs:s.size<=140737488355328)(w:World) :
 Calls prog 104 #[.string s] w (ahY w (.bool (Np.bX s.data.toList))):=by
 go_enter func104,ntmps104;go_wp2;go_loop [3] (λi=>∃ k:Nat,k<=s.size/\i = .int .i64 k/\Hid (∀ j,j<k->xo s.data.toList j)) (λi=>s.size - (intOf i).toNat)
 case atStart=>exact⟨0,jQ _,rfl,jq (λj h=>by omega)⟩
 case round=>
  obtain⟨k,hk,rfl,HA⟩:=hrel;by_cases ab:k<s.size
  ·have hb:=zL s[k];have HN:=jq (aUY s k ab);have Co:xo s.data.toList k->∀ j,j<k+1->xo s.data.toList j:=λh j hj=>by
    by_cases e:j=k
    ·subst e;exact h
    ·exact HA.out j (by omega)
   have HX:=jq Co;clear Co;have cj:(0:Int)<=k:=by omega
   by_cases tK:(s[k].toNat:Int)=45
   ·have hE:((s[k].toNat:Int) == 45)=true:=by simp[tK]
    have Gs:=jq tK;have E4:(s[k].toNat:Int)<48:=by omega
    have bJZ:(s[k].toNat:Int)<97:=by omega
    clear tK;by_cases hin:0<k/\k+1<s.size
    ·obtain⟨h1,h2⟩:=hin;have h3:(0:Int)<k:=by omega
     have h4:(k:Int)<(s.size:Int) - 1:=by omega
     go_wp2;go_round
     case rel=>exact⟨k+1,by omega,by go_num,jq (HX.out (HN.out.2 (.inr (.inr ⟨Gs.out,h1,h2⟩))))⟩
     ·simp[intOf]<;>omega
    ·have HI:=jq hin;clear hin;go_wp2
     all_goals first
      | (go_ret
         exact⟨ag (Sa (by rw[bj];exact ab) (λh=>by have:=HN.out.1 h;have:=HI.out;omega)).symm,rfl⟩)
      | (exfalso;have:=HI.out;omega)
   ·have hE:((s[k].toNat:Int) == 45)=false:=by simp[tK]
    have Gs:=jq tK;clear tK;go_wp2
    all_goals first
     | (go_ret
        exact⟨ag (Sa (by rw[bj];exact ab) (λh=>by have:=HN.out.1 h;have:=Gs.out;omega)).symm,rfl⟩)
     | (go_round
        case rel=>exact⟨k+1,by omega,by go_num,jq (HX.out (HN.out.2 (by omega)))⟩
        case measure=>simp[intOf]<;>omega)
  ·have hf:Np.bX s.data.toList=(decide (1<=s.size)&&decide (s.size<=12)):=aJK (λj hj=>HA.out j (by rw[bj] at hj;omega));have HF:=jq hf;clear hf;go_wp2
   all_goals
    go_ret;exact⟨ag (by rw[HF.out,Bool.eq_iff_iff];simp;omega),rfl⟩
theorem a6Q(s:ByteArray)(hs:s.size<=140737488355328)(w:World) :
 Calls prog 300 #[.string s] w (ahY w (.bool (Np.jT s.data.toList))):=by
 go_enter func300,ntmps300;go_wp2
 all_goals first
  | (go_ret;exact⟨ag (R4 s ‹_›).symm,rfl⟩)
  | (go_ret;exact⟨ag (R5 s ‹_›).symm,rfl⟩)
  | (go_ret;exact⟨ag (R6 s (by omega) ‹_›).symm,rfl⟩)
  | (have h:((s[s.size - 1].toNat:Int) == 32)=true:=by assumption
     go_ret;exact⟨ag (R7 s (by omega) (by simpa using h)).symm,rfl⟩)
  | skip
 ·have h2:(s.size:Int)<=40:=by assumption
  have h3:¬ (s[0].toNat:Int)=32:=by assumption
  have h4:((s[s.size - 1].toNat:Int) == 32)=false:=by assumption
  have H4:=jq h4;clear h4;have H3:=jq h3;go_loop [4] (λi=>∃ k:Nat,k<=s.size/\i = .int .i64 k/\(s.data.toList.take k).all Np.ot=true) (λi=>s.size - (intOf i).toNat)
  case atStart=>exact⟨0,jQ _,rfl,rfl⟩
  case round=>
   obtain⟨k,hk,rfl,ha⟩:=hrel;have HA:=jq ha;clear ha;by_cases ab:k<s.size
   ·have hb:=zL s[k];by_cases hf:(97<=(s[k].toNat:Int)/\(s[k].toNat:Int)<=122)\/(48<=(s[k].toNat:Int)/\(s[k].toNat:Int)<=57)\/(s[k].toNat:Int)=32
    ·have hl:Np.ot s[k]=true:=by rw[Es];exact uQ hf
     have HL:=jq hl;clear hl;go_wp2
     all_goals first
      | (go_round
         case rel=>exact⟨k+1,by omega,by go_num,IM s k ab _ HA.out HL.out⟩
         case measure=>simp[intOf]<;>omega)
      | (exfalso
         have hne:((s[k].toNat:Int) != 32)=true:=by assumption
         have Cn:=bne_iff_ne.1 hne;omega)
    ·have hl:Np.ot s[k]=false:=by rw[Es];exact tQ hf
     have HL:=jq hl;clear hl;go_wp2
     all_goals first
      | (go_ret;exact⟨ag (R8 s k ab HL.out).symm,rfl⟩)
      | (exfalso;omega)
      | (exfalso
         have hne:((s[k].toNat:Int) != 32)=false:=by assumption
         have Cn:(s[k].toNat:Int)=32:=by simpa using hne
         omega)
   ·go_wp2;go_ret;exact⟨ag (R9 s (by omega) (by omega) H3.out (by simpa using H4.out) (by have:=HA.out;rwa [Gg s k (by omega)] at this)).symm,rfl⟩
theorem FW(s:ByteArray)(hs:s.size<=140737488355328)(w:World) :
 Calls prog 225 #[.string s] w (ahY w (.bool (Np.eH s.data.toList))):=by
 by_cases h0:0<s.size
 ·have he:((s[0].toNat:Int) == 42)=Np.eH s.data.toList:=by
   unfold Np.eH;rw[B0 s h0]
   have:=oU s[0] 42 (by decide)
   rw[Bool.eq_iff_iff] at this |-;simp only[beq_iff_eq,Qa,Option.some.injEq] at this |-;exact this.symm
  have HE:=jq he;clear he;go_enter func225,ntmps225;go_wp2
  all_goals
   go_ret;exact⟨ag HE.out,rfl⟩
 ·have he:Np.eH s.data.toList=false:=by
   have:s.data.toList = []:=rQ (by rw[bj];omega)
   rw[this];rfl
  have HE:=jq he;clear he;go_enter func225,ntmps225;go_wp2
  all_goals
   go_ret;exact⟨ag HE.out.symm,rfl⟩
theorem Tq(x lo hi:Int)(w:World) :
 Calls prog 223 #[.int .i64 x,.int .i64 lo,.int .i64 hi] w (ahY w (.bool (decide (lo<=x)&&decide (x<=hi)))):=by
 by_cases h1:lo<=x
 all_goals
  go_enter func223,ntmps223;go_wp2;go_ret;exact⟨ag (by simp;omega),rfl⟩
theorem a5Y(x:Int)(w:World) :
 Calls prog 224 #[.int .i64 x] w (ahY w (.bool (decide (x=3)||decide (x=4)))):=by
 by_cases h1:x=3
 ·subst h1;go_enter func224,ntmps224;go_wp2;go_ret;exact⟨rfl,rfl⟩
 ·have h2:(x == 3)=false:=by simpa using h1
  go_enter func224,ntmps224;go_wp2;go_ret;refine⟨ag ?_,rfl⟩;rw[tQ h1,Bool.false_or];rfl
theorem a4Y(s t:ByteArray)(n1 m1 n2 m2:Int)(w:World) :
 Calls prog 227 #[.agg #[.string s,.int .i64 n1,.int .i64 m1],.agg #[.string t,.int .i64 n2,.int .i64 m2]] w
  λe w'=>e = .returned (.bool (decide (Np.qH ⟨s.data.toList,n1,m1⟩ ⟨t.data.toList,n2,m2⟩<0)))/\Below w.heap.size w w':=by
 rw[<-Np.aOK];have hw:∀ o o',Below w.heap.size w ((w.alloc o).alloc o'):=λo o'=>((vQ _ w).alloc (bQ _) _).alloc (by simp) _;have HW:=jq hw;clear hw;go_enter func227,ntmps227;go_wp2
 all_goals
  go_ret;refine⟨ag ?_,HW.out _ _⟩;go_light;simp_all [Np.K3,dQ]
def bD{α:Type}(R:aiQ α)(sz:Nat)(e:TypeId)(base B:Nat)(w:World)(v:Value)(xs:List α):Prop:=
 ∃ rows:List (List Value),rows.length=xs.length/\w.ownsRow base e sz v xs.length rows.flatten/\∀ (i:Nat) (r:List Value) (x:α),rows[i]?=some r->xs[i]?=some x->r.length=sz/\R w B r x
theorem Er{sz:Nat} : ∀ (rows:List (List Value)) (i j:Nat) (r:List Value) (u:Value),(∀ q∈rows,q.length=sz)->rows[i]?=some r->r[j]?=some u->rows.flatten[i * sz+j]?=some u:=by
 intro rows
 induction rows with
 | nil=>intro i j r u _ h;simp at h
 | cons q rows ih=>
  intro i j r u hq h hj;have hl:q.length=sz:=hq q (by simp);rw[List.flatten_cons]
  cases i with
  | zero=>
   simp at h;subst h;rw[List.getElem?_append_left (by have:=(cQ.1 hj).1;omega)];simpa using hj
  | succ i=>
   rw[oQ (by rw[hl,Nat.succ_mul];omega),hl,show (i+1) * sz+j - sz=i * sz+j by rw[Nat.succ_mul];omega];exact ih i j r u (λq hq'=>hq q (by simp[hq'])) (by simpa using h) hj
theorem Jb{sz:Nat} : ∀ (rows:List (List Value)),(∀ q∈rows,q.length=sz)->rows.flatten.length=rows.length * sz:=by
 intro rows
 induction rows with
 | nil=>intro _;simp
 | cons q rs ih=>
  intro h;rw[List.flatten_cons,List.length_append,ih (λx hx=>h x (by simp[hx])),h q (by simp),List.length_cons,Nat.succ_mul];omega
theorem bD.rows_len{α:Type}{R:aiQ α}{sz B:Nat}{w:World}{xs:List α}{rows:List (List Value)}(hl:rows.length=xs.length)(h:∀ (i:Nat) (r:List Value) (x:α),rows[i]?=some r->xs[i]?=some x->r.length=sz/\R w B r x):∀ q∈rows,q.length=sz:=λq hq=>by
 obtain⟨i,hi,rfl⟩:=nQ.1 hq;exact (h i _ _ (aQ hi) (aQ (by omega))).1
theorem bD.slr{α:Type}{R:aiQ α}{sz:Nat}{e:TypeId}{base B:Nat}{w:World}{v:Value}{xs:List α}(h:bD R sz e base B w v xs)(hm:dy R)(hB:B<=w.heap.size)(hl:xs.length<=140737488355328):SlR R sz w w.heap.size v xs:=by
 obtain⟨rows,h1,h2,h3⟩:=h;rcases h2.2 with ⟨rfl,h0⟩ | ⟨g,cap,cur,rfl,hb,hg,lu,_⟩
 ·have:xs = []:=rQ h0
  subst this;exact⟨none,0,rfl,by simp,by simp,λi x hx=>by simp at hx⟩
 ·refine⟨_,cap,rfl,lu,hl,λi x hx=>?_⟩;have hi:=(cQ.1 hx).1;have hr:=aQ (show i<rows.length by omega);obtain⟨h4,h5⟩:=h3 i _ x hr hx;refine⟨g,0,rows[i],rfl,(eQ.1 hg).1,h4,λj u hj=>?_,hm _ _ _ _ _ h5 hB⟩;have h6:=h2.cells (g:=g) rfl _ _ (Er rows i j _ u (bD.rows_len h1 h3) hr hj);have mw:(⟨g,0,none⟩:Addr).add (i * sz+j)=⟨g,0+i * sz+j,none⟩:=by unfold Addr.add;split<;>simp_all
  rw[mw] at h6;exact h6
theorem bD.keep{α:Type}{R:aiQ α}{sz:Nat}{e:TypeId}{base B:Nat}{w w':World}{v:Value}{xs:List α}(h:bD R sz e base B w v xs)(hk:dl R)(hb:Below w.heap.size w w')(hB:B<=w.heap.size):bD R sz e base B w' v xs:=by
 obtain⟨rows,h1,h2,h3⟩:=h;refine⟨rows,h1,dS h2 (λg hg=>hb.block g (h2.lt g hg).2),λi r x hr hx=>?_⟩;obtain⟨h4,h5⟩:=h3 i r x hr hx;exact⟨h4,hk _ _ _ _ _ h5 (hb.mono hB)⟩
theorem bD.empty{α:Type}{R:aiQ α}{sz:Nat}{e:TypeId}{base B:Nat}(w:World)(hb:base<=w.heap.size):bD (α:=α) R sz e base B (w.alloc (.cells #[] e)) (.slice (some ⟨w.heap.size,0,none⟩) 0 0) []:=
 ⟨[],rfl,⟨by simp,.inr ⟨w.heap.size,0,#[],rfl,hb,heap_alloc_new _ _,bQ _,by simp[maxLen],by simp,by simp⟩⟩,λi r x hr=>by simp at hr⟩
theorem bD.nil{α:Type}{R:aiQ α}{sz:Nat}{e:TypeId}{base B:Nat}(w:World):bD (α:=α) R sz e base B w (.slice none 0 0) []:=⟨[],rfl,⟨by simp,.inl ⟨rfl,rfl⟩⟩,λi r x hr=>by simp at hr⟩
theorem bfZ{α:Type}{R:aiQ α}{sz:Nat}{w:World}{B:Nat}{A:Option Addr}{n c:Nat}{ys:List α}(h:SlR R sz w B (.slice A n c) ys)(ay:0<sz) :
 ∃ rows:List (List Value),rows.length=ys.length/\(∀ (i:Nat) (r:List Value) (x:α),rows[i]?=some r->ys[i]?=some x->r.length=sz/\R w B r x)/\(ys≠[]->∃ b o,A=some ⟨b,o,none⟩/\b<B/\∀ j u,rows.flatten[j]?=some u->w.cell? ((⟨b,o,none⟩:Addr).add j)=some u):=by
 obtain⟨A',c',hv,hc,hl,he⟩:=h
 cases hv
 have be:∀ k,k<=ys.length->∃ rows:List (List Value),rows.length=k/\(∀ (i:Nat) (r:List Value) (x:α),rows[i]?=some r->ys[i]?=some x->r.length=sz/\R w B r x/\∃ b o,A=some ⟨b,o,none⟩/\b<B/\cA w b (o+i * sz) r):=by
  intro k
  induction k with
  | zero=>exact λ_=>⟨[],rfl,λi r x hr=>by simp at hr⟩
  | succ k ih=>
   intro hk;obtain⟨rows,h1,h2⟩:=ih (by omega);obtain⟨b,o,e,hA,hb,bL,hce,hr⟩:=he k _ (aQ (by omega:k<ys.length));refine⟨rows ++ [e],by simp[h1],λi r x hr' hx=>?_⟩;rcases Nat.lt_or_ge i rows.length with ab | oD
   ·rw[List.getElem?_append_left ab] at hr';exact h2 i r x hr' hx
   ·rw[oQ oD] at hr';have h0:i - rows.length=0:=by have:=(cQ.1 hr').1;simp at this;omega
    rw[h0] at hr';simp at hr';subst hr';obtain rfl:i=k:=by omega
    rw[aQ (by omega)] at hx;simp only[Option.some.injEq] at hx;subst hx;exact⟨bL,hr,b,o,hA,hb,hce⟩
 obtain⟨rows,h1,h2⟩:=be ys.length (bQ _);refine⟨rows,h1,λi r x hr hx=>⟨(h2 i r x hr hx).1,(h2 i r x hr hx).2.1⟩,λhne=>?_⟩;have h0:0<ys.length:=Nat.pos_of_ne_zero (λe=>hne (rQ e));obtain⟨_,_,b,o,hA,hb,_⟩:=h2 0 _ _ (aQ (by omega)) (aQ h0);refine⟨b,o,hA,hb,λj u hj=>?_⟩;have hlen:∀ q∈rows,q.length=sz:=λq hq=>by
  obtain⟨i,hi,rfl⟩:=nQ.1 hq;exact (h2 i _ _ (aQ hi) (aQ (by omega))).1
 have vX:=Jb rows hlen;have nw:=(cQ.1 hj).1;have hi:j / sz<rows.length:=by rw[vX] at nw;exact Nat.div_lt_of_lt_mul (by rw[Nat.mul_comm];exact nw)
 obtain⟨h5,_,b',o',hA',_,hce⟩:=h2 (j / sz) _ _ (aQ hi) (aQ (by omega));rw[hA] at hA';simp only[Option.some.injEq,Addr.mk.injEq,and_true] at hA';obtain⟨rfl,rfl⟩:=hA';have E5:j % sz<rows[j / sz].length:=by rw[h5];exact Nat.mod_lt _ ay
 have h7:=Er rows (j / sz) (j % sz) _ _ hlen (aQ hi) (aQ E5);rw[Nat.div_add_mod' j sz,hj] at h7;simp only[Option.some.injEq] at h7;have h8:=hce (j % sz) _ (aQ E5);rw[<-h7] at h8;have mw:(⟨b,o,none⟩:Addr).add j=⟨b,o+j,none⟩:=by unfold Addr.add;split<;>simp_all
 rw[mw,<-h8];congr 2
 have:=Nat.div_add_mod' j sz
 omega
section
variable {P:Program}
theorem TD{w:World}(base:Nat)(t ty e:TypeId)(i:TypeInfo)(size:Nat)(ht:P.underlying t=some (.slice e))(hi:P.info? e=some i)(v:Value)(n c:Nat)(xs:List Value)(hown:w.ownsRow base e size v n xs) :
 (Builtin.append_ #[t,t] ty #[v,.slice none 0 c]).run P w = .ok v w:=by
 rcases hown.2 with ⟨rfl,rfl⟩ | ⟨g,cap,cur,rfl,_,_,lu,_⟩
 ·simp[Builtin.append_,run_underlying ht,sizeOf,typeInfo,hi,Builtin.lenOf,Builtin.firstCells]
 ·simp[Builtin.append_,run_underlying ht,sizeOf,typeInfo,hi,Builtin.lenOf,Builtin.firstCells,lu,storeCells]
theorem De{α:Type}{R:aiQ α}{sz:Nat}(w:World){ops:Array Oper}{rest:List Oper}{o:Oper}{a:Act}{Q:Exit->Act->World->Prop}(gX:o.guard=none)(s x:Operand)(t:TypeId)
 (ho:o.op = .call { callee:=.builtin .append,args:=#[s,x],argTypes:=#[t,t] })
 (base B:Nat) (e:TypeId) (i:TypeInfo) (z:Value) (bytes:Nat) (ht:P.underlying t=some (.slice e)) (hi:P.info? e=some i) (hz:i.zero=some z) (l9:i.size=sz) (ip:i.bytes=bytes) (sR:z.cells.size=sz) (ay:0<sz)
 (v:Value) (xs:List α) (hs:a.eval s=v) (hown:bD R sz e base B w v xs) (A:Option Addr) (c Bs:Nat) (ys:List α) (hx:a.eval x = .slice A ys.length c) (fw:SlR R sz w Bs (.slice A ys.length c) ys)
 (wR:∀ r y,R w Bs r y->∀ u∈r,u.oneCell'=true) (kf:xs.length+ys.length<=maxLen) (no:(xs.length+ys.length) * bytes<=140737488355328) (dM:base<=w.heap.size) (ni:Bs<=B) (Pz:B<=base) (hk:dl R) (hm:dy R)
 (h:∀ v' w',bD R sz e base B w' v' (xs++ys)->Below base w w'->w.grownBy w' v.ownBlock->wpList P ops Q rest (a.put o.dst v') w'):wpList P ops Q (o::rest) a w:=by
 have sm:∀ (w':World) (v':Value) (rows rows':List (List Value)),Below base w w'->rows.length=xs.length->(∀ (i:Nat) (r:List Value) (x:α),rows[i]?=some r->xs[i]?=some x->r.length=sz/\R w B r x)->rows'.length=ys.length->
  (∀ (i:Nat) (r:List Value) (x:α),rows'[i]?=some r->ys[i]?=some x->r.length=sz/\R w Bs r x)->w'.ownsRow base e sz v' (xs.length+ys.length) (rows.flatten++rows'.flatten)->bD R sz e base B w' v' (xs++ys):=by
  intro w' v' rows rows' hb h1 h2 h3 h4 h5;refine⟨rows++rows',by simp[h1,h3],?_,λj r y hr hy=>?_⟩
  ·rw[List.length_append,List.flatten_append];exact h5
  ·rcases Nat.lt_or_ge j rows.length with ab | oD
   ·rw[List.getElem?_append_left ab] at hr;rw[List.getElem?_append_left (by omega)] at hy;obtain⟨h6,h7⟩:=h2 j r y hr hy;exact⟨h6,hk _ _ _ _ _ h7 (hb.mono Pz)⟩
   ·rw[oQ oD] at hr;rw[oQ (by omega),<-h1] at hy;obtain⟨h6,h7⟩:=h4 _ r y hr hy;exact⟨h6,hk _ _ _ _ _ (hm _ _ _ _ _ h7 ni) (hb.mono Pz)⟩
 obtain⟨rows,h1,h2,h3⟩:=hown;obtain⟨rows',h4,h5,h6⟩:=bfZ fw ay;by_cases hy:ys = []
 ·subst hy;have nI:rows' = []:=rQ (by simpa using h4);subst nI
  cases A with
  | none=>
   have cY:=TD (P:=P) base t o.type e i sz ht hi v xs.length c rows.flatten h2;refine wpList_plain gX λK hK=>?_;unfold Oper.wp;have hx':a.eval x = .slice none 0 c:=hx;simp[execOp,ho,resolve,invoke,builtin,hs,hx',cY,Result.andThen];refine hK _ _ (h v w (sm w v rows [] (vQ _ _) h1 h3 rfl (λj r y hr=>by simp at hr) (by simpa using h2)) (vQ _ _) ⟨rfl,rfl,rfl,bQ _,λ_ _ _=>rfl⟩)
  | some ad=>
   refine wpList_append_own_at w gX s x t ho base e i z sz bytes ht hi hz l9 ip sR ay v xs.length rows.flatten hs h2 ad 0 c [] hx (by simp) (λj u hj=>by simp at hj) (λu hu=>by cases hu) (by simpa using kf) (by simpa using no) dM ?_;intro v' w' ho' hg _ _;have hb:Below base w w':=(vQ _ _).grown hg dM (λk hk=>(h2.lt k hk).1);exact h v' w' (sm w' v' rows [] hb h1 h3 rfl (λj r y hr=>by simp at hr) (by simpa using ho')) hb hg
 ·obtain⟨b,o',rfl,bZ,hcell⟩:=h6 hy;have hl:=bD.rows_len h4 h5;refine wpList_append_own_at w gX s x t ho base e i z sz bytes ht hi hz l9 ip sR ay v xs.length rows.flatten hs h2 ⟨b,o',none⟩ ys.length c rows'.flatten hx (by rw[Jb rows' hl,h4]) hcell (λu hu=>?_) kf no dM ?_
  ·obtain⟨r,hr,KM⟩:=List.mem_flatten.1 hu;obtain⟨j,hj,rfl⟩:=nQ.1 hr;exact wR _ _ (h5 j _ _ (aQ hj) (aQ (by omega))).2 u KM
  ·intro v' w' ho' hg _ _;have hb:Below base w w':=(vQ _ _).grown hg dM (λk hk=>(h2.lt k hk).1);exact h v' w' (sm w' v' rows rows' hb h1 h3 h4 h5 ho') hb hg
end
structure Np.ApexH(a:List UInt8)(l:List Np.Signed):Prop where
 start:Np.fS l a 4
 server:Np.fS l a 2
 fits:∀ x∈l,Np.je x.set.type (x.set.name == a)=true
theorem Yj(a:ByteArray)(ha:a.size<=140737488355328)(na:Np.al a.data.toList=true)(v:Value)(l:List Np.Signed)(bY:l.length<=20000)(hv:∀ x∈l,Np.al x.set.name=true)(hs:Np.rI l)(w:World)(hd:SlR br 5 w w.heap.size v l) :
 Calls prog 199 #[.agg #[.string a,v]] w (ahZ w.heap.size w (.bool (Np.yes (Np.ApexH a.data.toList l)))):=by
 obtain⟨r,hr⟩:=afZ (Np.yes (Np.ApexH a.data.toList l));rw[hr];have HR:=jq hr;have HV:=jq hv;have HS:=jq hs;have HD:=jq hd;have NA:=jq na;obtain⟨A,c,rfl,bw,bT⟩:=ak hd;clear hr hv hs hd na;have HW:Hid (∀ o o',Below w.heap.size w ((w.alloc o).alloc o')):=jq (λo o'=>((vQ _ w).alloc (bQ _) _).alloc (by simp) _);go_enter func199,ntmps199;go_wp2_with fail;obtain⟨w1,am⟩:=afZ ((w.alloc (.cells #[.string a,.slice A l.length c] 263)).alloc (.cells #[.int .i64 4,.int .i64 2] 3));have c0:w1.cell? ⟨w.heap.size,0,none⟩=some (.string a):=by rw[<-am];simp[go_sem]
 have c1:w1.cell? ⟨w.heap.size,1,none⟩=some (.slice A l.length c):=by rw[<-am];simp[go_sem]
 have c2:w1.cell? ⟨w.heap.size+1,0,none⟩=some (.int .i64 4):=by rw[<-am];simp[go_sem]
 have c3:w1.cell? ⟨w.heap.size+1,1,none⟩=some (.int .i64 2):=by rw[<-am];simp[go_sem]
 have dG:w1.heap.size=w.heap.size+2:=by rw[<-am];simp
 have aF:Hid (Below w.heap.size w w1):=jq (by rw[<-am];exact HW.out _ _);rw[am];clear am;go_loopw [11] (λi wr=>Hid (Below w1.heap.size w1 wr)/\(i = .int .i64 0\/(i = .int .i64 1/\Hid (Np.fS l a.data.toList 4))\/(i = .int .i64 2/\Hid (Np.fS l a.data.toList 4)/\Hid (Np.fS l a.data.toList 2)))) (λi _=>2 - (intOf i).toNat)
 case atStart=>exact⟨jq (vQ _ _),.inl rfl⟩
 case round=>
  obtain⟨HB,hi⟩:=hrel;have ay:=HB.out.size;obtain⟨bc,bf⟩:=tD HB.out;have d0:wr.cell? ⟨w.heap.size,0,none⟩=some (.string a):=by rw[bc _ _ (by omega)];exact c0
  have d1:wr.cell? ⟨w.heap.size,1,none⟩=some (.slice A l.length c):=by rw[bc _ _ (by omega)];exact c1
  have d2:wr.cell? ⟨w.heap.size+1,0,none⟩=some (.int .i64 4):=by rw[bc _ _ (by omega)];exact c2
  have d3:wr.cell? ⟨w.heap.size+1,1,none⟩=some (.int .i64 2):=by rw[bc _ _ (by omega)];exact c3
  clear bc bf;have aH:=aeX aF HB.out;have GX:=jq ((HD.out.keep aP aH.out).more bK (show w.heap.size<=wr.heap.size by omega));have du:w.heap.size+1<wr.heap.size:=by omega
  have alY:w.heap.size<wr.heap.size:=by omega
  rcases hi with rfl | ⟨rfl,H4⟩ | ⟨rfl,H4,H2⟩
  ·go_wp2_with fail;refine (I9 a _ l bY HV.out HS.out a ha 4 NA.out _ GX.out).mono ?_;rintro e w2 ⟨rfl,hb⟩;have ah:=jq hb;have aO:=hb.size;clear hb
   cases hk:Np.yes (Np.fS l a.data.toList 4) with
   | true=>
    have HK:=jq hk;clear hk;go_wp2_with fail;go_roundw
    case rel=>exact⟨jq (HB.out.trans (ah.out.mono HB.out.size)),.inr (.inl ⟨by go_num,jq (Np.eZ.1 HK.out)⟩)⟩
    ·simp[intOf]<;>omega
   | false=>
    have HK:=jq hk;clear hk;go_wp2_with fail;go_ret;refine⟨ag ?_,aH.out.trans (ah.out.afK)⟩;rw[<-HR.out];refine (Np.aR λh=>?_).symm
    have:=Np.bV h.start
    rw[HK.out] at this
    cases this
  ·go_wp2_with fail;refine (I9 a _ l bY HV.out HS.out a ha 2 NA.out _ GX.out).mono ?_;rintro e w2 ⟨rfl,hb⟩;have ah:=jq hb;have aO:=hb.size;clear hb
   cases hk:Np.yes (Np.fS l a.data.toList 2) with
   | true=>
    have HK:=jq hk;clear hk;go_wp2_with fail;go_roundw
    case rel=>exact⟨jq (HB.out.trans (ah.out.mono HB.out.size)),.inr (.inr ⟨by go_num,H4,jq (Np.eZ.1 HK.out)⟩)⟩
    ·simp[intOf]<;>omega
   | false=>
    have HK:=jq hk;clear hk;go_wp2_with fail;go_ret;refine⟨ag ?_,aH.out.trans (ah.out.afK)⟩;rw[<-HR.out];refine (Np.aR λh=>?_).symm
    have:=Np.bV h.server
    rw[HK.out] at this
    cases this
  ·go_wp2_with fail;clear d2 d3 c0 c1 c2 c3;obtain⟨w5,rfl⟩:=afJ wr;go_loopw [32] (λi wx=>∃ k:Nat,k<=l.length/\i = .int .i64 k/\Hid (Below w5.heap.size w5 wx)/\Hid (∀ j x,j<k->l[j]?=some x->Np.je x.set.type (x.set.name == a.data.toList)=true)) (λi _=>l.length - (intOf i).toNat)
   case atStart=>exact⟨0,jQ _,rfl,jq (vQ _ _),jq (λj g hj=>by omega)⟩
   case round=>
    obtain⟨k,hk,rfl,HX,HA⟩:=hrel;by_cases ab:k<l.length
    ·have ae:=aQ ab;obtain⟨b,o,c',sn,dv,sv,hA,bZ,_,aD,cu,aY,aN,e0,e1,e2,e3,e4⟩:=dB (GX.out.keep aP HX.out) ae
     cases hA
     generalize hx:l[k]=x at *;clear hx;obtain⟨Ad,cd,rfl,_,_⟩:=ak aY;obtain⟨As,cs,rfl,_,_⟩:=ak aN;have lz:=HX.out.size;have g0:wr.cell? ⟨w.heap.size,0,none⟩=some (.string a):=by rw[HX.out.cell (by simpa using alY)];exact d0
     have cF:w.heap.size<wr.heap.size:=by omega
     have heq:(sn.toList == a.toList)=(x.set.name == a.data.toList):=by rw[dQ,dQ,aD]
     have uR:Hid (Np.je x.set.type (x.set.name == a.data.toList)=true->∀ j y,j<k+1->l[j]?=some y->Np.je y.set.type (y.set.name == a.data.toList)=true):=jq (λh j y hj hy=>by
      by_cases e:j=k
      ·subst e;rw[ae] at hy;cases hy;exact h
      ·exact HA.out j y (by omega) hy)
     have G7:Hid (Np.je x.set.type (x.set.name == a.data.toList)=false->r=false):=jq (λh=>by
      rw[<-HR.out];exact Np.aR λq=>by have:=q.fits x (gQ ae);rw[h] at this;cases this)
     have bA:Hid (∀ o,Below w5.heap.size w5 (wr.alloc o)):=jq (λo=>HX.out.alloc HX.out.size _);generalize (x.set.name == a.data.toList)=bb at *;clear ae aD aY aN
     cases hf:Np.je x.set.type bb with
     | true=>
      have HF:=jq hf;go_wp2_with (go_at_call 271;refine (Pj _ _ _).mono ?_;rintro e w' ⟨rfl,rfl⟩);go_roundw
      case rel=>exact⟨k+1,by omega,by go_num,jq (bA.out _),jq (uR.out HF.out)⟩
      ·simp[intOf]<;>omega
     | false=>
      have HF:=jq hf;go_wp2_with (go_at_call 271;refine (Pj _ _ _).mono ?_;rintro e w' ⟨rfl,rfl⟩);go_ret;exact⟨ag (G7.out HF.out).symm,aH.out.trans ((bA.out _).afK)⟩
    ·go_wp2_with fail;go_ret;refine⟨ag ?_,aH.out.trans (HX.out.afK)⟩;rw[<-HR.out];refine (Np.bV ⟨H4.out,H2.out,λx hx=>?_⟩).symm;obtain⟨j,hj,rfl⟩:=nQ.1 hx;exact HA.out j _ (by omega) (aQ hj)
theorem Tm(t:Int)(b:Bool)(w:World) :
 Calls prog 236 #[.int .i64 t,.bool b] w (ahY w (.bool (Np.je t b))):=by
 by_cases h3:t=3
 ·subst h3
  cases b
  all_goals
   go_enter func236,ntmps236;go_wp2_with fail;go_ret;exact⟨rfl,rfl⟩
 ·by_cases h6:t=6
  ·subst h6
   cases b
   all_goals
    go_enter func236,ntmps236;go_wp2_with fail;go_ret;exact⟨rfl,rfl⟩
  ·by_cases h4:t=4
   ·subst h4
    cases b
    all_goals
     go_enter func236,ntmps236;go_wp2_with fail;go_ret;exact⟨rfl,rfl⟩
   ·by_cases h7:t=7
    ·subst h7
     cases b
     all_goals
      go_enter func236,ntmps236;go_wp2_with fail;go_ret;exact⟨rfl,rfl⟩
    ·have HF:Hid (Np.je t b=true):=jq (by unfold Np.je;rw[Qc (by omega),Qc (by omega)]);have g3:(t != 3)=true:=by simpa using h3
     have g6:(t != 6)=true:=by simpa using h6
     have g4:(t != 4)=true:=by simpa using h4
     have g7:(t != 7)=true:=by simpa using h7
     rw[HF.out];clear h3 h6 h4 h7
     cases b
     all_goals
      go_enter func236,ntmps236;go_wp2_with fail;go_ret;exact⟨rfl,rfl⟩
def Np.atI(l:List Np.Signed)(n:List UInt8)(t:Int):Int:=match l.findIdx? λx=>(x.set.name == n)&&decide (x.set.type=t) with | none=>-1 | some i=>i
theorem OE{l:List Np.Signed}{n:List UInt8}{t:Int}(h:∀ (j:Nat) (x:Np.Signed),l[j]?=some x->¬ (x.set.name=n/\x.set.type=t)):Np.atI l n t = -1:=by
 unfold Np.atI
 have:l.findIdx? (λx=>(x.set.name == n)&&decide (x.set.type=t))=none:=by
  rw[List.findIdx?_eq_none_iff];intro x hx;obtain⟨j,hj,rfl⟩:=nQ.1 hx
  have:=h j _ (aQ hj)
  rw[Bool.and_eq_false_iff];by_cases e:l[j].set.name=n
  ·right;simpa using λe2=>this ⟨e,e2⟩
  ·left;simpa using e
 rw[this]
theorem Yz{l:List Np.Signed}{n:List UInt8}{t:Int}{k:Nat}{x:Np.Signed}(hx:l[k]?=some x)(he:x.set.name=n/\x.set.type=t)(h:∀ (j:Nat) (y:Np.Signed),j<k->l[j]?=some y->¬ (y.set.name=n/\y.set.type=t)):Np.atI l n t=k:=by
 unfold Np.atI;obtain⟨hk,rfl⟩:=cQ.1 hx
 have:l.findIdx? (λx=>(x.set.name == n)&&decide (x.set.type=t))=some k:=by
  rw[List.findIdx?_eq_some_iff_getElem];refine⟨hk,by simp[he.1,he.2],λj hj=>?_⟩
  have:=h j _ hj (aQ (by omega))
  simpa using this
 rw[this]
theorem OD(l:List Np.Signed)(n:List UInt8)(t:Int):(Np.atI l n t<0)↔¬ Np.fS l n t:=by
 by_cases h:Np.fS l n t
 ·obtain⟨x,hx,h1,h2⟩:=h;refine⟨λab=>?_,λhn=>absurd ⟨x,hx,h1,h2⟩ hn⟩;unfold Np.atI at ab
  cases hf:l.findIdx? (λx=>(x.set.name == n)&&decide (x.set.type=t)) with
  | none=>
   rw[List.findIdx?_eq_none_iff] at hf
   have:=hf x hx
   simp[h1,h2] at this
  | some i=>rw[hf] at ab;dsimp only at ab;omega
 ·refine⟨λ_=>h,λ_=>?_⟩;rw[OE (λj x hx he=>h ⟨x,gQ hx,he⟩)];decide
theorem Tj(a:ByteArray)(v:Value)(l:List Np.Signed)(q:ByteArray)(t:Int)(w:World)(hd:SlR br 5 w w.heap.size v l) :
 Calls prog 235 #[.agg #[.string a,v],.agg #[.string q,.int .i64 t]] w (ahZ w.heap.size w (.int .i64 (Np.atI l q.data.toList t))):=by
 obtain⟨r,hr⟩:=afZ (Np.atI l q.data.toList t);rw[hr];have HR:=jq hr;have HD:=jq hd;obtain⟨A,c,rfl,bw,bT⟩:=ak hd;clear hr hd;have HW:Hid (∀ o o',Below w.heap.size w ((w.alloc o).alloc o')):=jq (λo o'=>((vQ _ w).alloc (bQ _) _).alloc (by simp) _);go_enter func235,ntmps235;go_wp2_with fail;obtain⟨w1,am⟩:=afZ ((w.alloc (.cells #[.string a,.slice A l.length c] 44)).alloc (.cells #[.string q,.int .i64 t] 31));have c1:w1.cell? ⟨w.heap.size,1,none⟩=some (.slice A l.length c):=by rw[<-am];simp[go_sem]
 have q0:w1.cell? ⟨w.heap.size+1,0,none⟩=some (.string q):=by rw[<-am];simp[go_sem]
 have q1:w1.cell? ⟨w.heap.size+1,1,none⟩=some (.int .i64 t):=by rw[<-am];simp[go_sem]
 have bF:w1.heap.size=w.heap.size+2:=by rw[<-am];simp
 have aF:Hid (Below w.heap.size w w1):=jq (by rw[<-am];exact HW.out _ _);rw[am];clear am;go_loopw [5] (λi wr=>∃ k:Nat,k<=l.length/\i = .int .i64 k/\Hid (Below w1.heap.size w1 wr)/\Hid (∀ j x,j<k->l[j]?=some x->¬ (x.set.name=q.data.toList/\x.set.type=t))) (λi _=>l.length - (intOf i).toNat)
 case atStart=>exact⟨0,jQ _,rfl,jq (vQ _ _),jq (λj g hj=>by omega)⟩
 case round=>
  obtain⟨k,hk,rfl,HB,HA⟩:=hrel;have ay:=HB.out.size;have d1:wr.cell? ⟨w.heap.size,1,none⟩=some (.slice A l.length c):=aeK HB.out c1;have e0:wr.cell? ⟨w.heap.size+1,0,none⟩=some (.string q):=aeK HB.out q0;have e1:wr.cell? ⟨w.heap.size+1,1,none⟩=some (.int .i64 t):=aeK HB.out q1;have aH:=aeX aF HB.out;have du:w.heap.size+1<wr.heap.size:=by omega
  by_cases ab:k<l.length
  ·obtain⟨x,ae⟩:∃ x,l[k]?=some x:=⟨_,aQ ab⟩;obtain⟨b,o,c',sn,dv,sv,hA,bZ,_,aD,cu,aY,aN,f0,f1,f2,f3,f4⟩:=dB (HD.out.keep aP aH.out) ae
   cases hA
   have HX:=jq ae;have aZ:=jq aD;have iY:Hid (¬ (x.set.name=q.data.toList/\x.set.type=t)->∀ j y,j<k+1->l[j]?=some y->¬ (y.set.name=q.data.toList/\y.set.type=t)):=jq (λh j y hj hy=>by
    by_cases e:j=k
    ·subst e;rw[ae] at hy;cases hy;exact h
    ·exact HA.out j y (by omega) hy)
   have cj:=kNN k;have ck:(k:Int)<(l.length:Int):=by omega
   have av:b<wr.heap.size:=by omega
   obtain⟨b1,P1⟩:=afZ (sn.toList == q.toList);obtain⟨b2,akZ⟩:=afZ (x.set.type == t);have H1:Hid (b1=true↔x.set.name=q.data.toList):=jq (by rw[<-P1,dQ,dQ,aD,beq_iff_eq]);have H2:Hid (b2=true↔x.set.type=t):=jq (by rw[<-akZ,beq_iff_eq]);clear ae aD aY aN f2 f3 f4
   cases b1 with
   | false=>
    have HN:=jq (iY.out λh=>by have:=H1.out.2 h.1;cases this);go_wp2_with fail;go_quiet (fail);go_wp2_with fail;go_roundw
    case rel=>exact⟨k+1,by omega,by go_num,jq (below_drewN HB.out _),jq HN.out⟩
    ·simp[intOf]<;>omega
   | true=>
    cases b2 with
    | false=>
     have HN:=jq (iY.out λh=>by have:=H2.out.2 h.2;cases this);go_wp2_with fail;go_quiet (fail);go_wp2_with fail;go_roundw
     case rel=>exact⟨k+1,by omega,by go_num,jq (below_drewN HB.out _),jq HN.out⟩
     ·simp[intOf]<;>omega
    | true=>
     have HF:Hid (r=k):=jq (by rw[<-HR.out];exact Yz HX.out ⟨H1.out.1 rfl,H2.out.1 rfl⟩ HA.out);go_wp2_with fail;go_quiet (fail);go_wp2_with fail;go_ret;exact⟨iB HF.out.symm,below_drewN aH.out _⟩
  ·have HF:Hid (r = -1):=jq (by rw[<-HR.out];exact OE λj x hx=>HA.out j x (by have:=(cQ.1 hx).1;omega) hx);go_wp2_with fail;go_ret;exact⟨iB HF.out.symm,aH.out⟩
theorem a6J(a:ByteArray)(v:Value)(l:List Np.Signed)(w:World)(hd:SlR br 5 w w.heap.size v l) :
 Calls prog 160 #[.agg #[.string a,v]] w (ahZ w.heap.size w (.bool (Np.yes (Np.ApexH a.data.toList l)))):=by
 obtain⟨r,hr⟩:=afZ (Np.yes (Np.ApexH a.data.toList l));rw[hr];have HR:=jq hr;have HD:=jq hd;obtain⟨A,c,rfl,bw,bT⟩:=ak hd;clear hr hd;have HW:=blW w;go_enter func160,ntmps160;go_wp2_with fail;obtain⟨w1,am⟩:=afZ (w.alloc (.cells #[.string a,.slice A l.length c] 44));have c0:w1.cell? ⟨w.heap.size,0,none⟩=some (.string a):=by rw[<-am];simp[go_sem]
 have c1:w1.cell? ⟨w.heap.size,1,none⟩=some (.slice A l.length c):=by rw[<-am];simp[go_sem]
 have bF:w1.heap.size=w.heap.size+1:=by rw[<-am];simp
 have aF:Hid (Below w.heap.size w w1):=jq (by rw[<-am];exact HW.out _);rw[am];clear am;refine (Tj a _ l a 4 _ (HD.out.later aP bK aF.out)).mono ?_;rintro e w2 ⟨rfl,aa⟩;have aO:=aa.size;have ah:=aeX aF aa;replace c0:=aeK aa c0;replace c1:=aeK aa c1;clear aa;obtain⟨i4,Ka⟩:=afZ (Np.atI l a.data.toList 4);have H4:Hid (i4<0↔¬ Np.fS l a.data.toList 4):=jq (by rw[<-Ka];exact OD _ _ _);rw[Ka];clear Ka;by_cases h4:i4<0
 ·have HX:Hid (r=false):=jq (by rw[<-HR.out];exact Np.aR λh=>H4.out.1 h4 h.start);have d4:decide (i4<0)=true:=uQ h4;go_wp2_with fail;go_ret;exact⟨ag HX.out.symm,ah.out⟩
 ·have VY:Hid (Np.fS l a.data.toList 4):=jq (Classical.not_not.1 λh=>h4 (H4.out.2 h));have d4:decide (i4<0)=false:=tQ h4;go_wp2_with fail;refine (Tj a _ l a 2 _ (HD.out.later aP bK ah.out)).mono ?_;rintro e w3 ⟨rfl,ai⟩;have dR:=ai.size;have aw:=aeX ah ai;replace c0:=aeK ai c0;replace c1:=aeK ai c1;clear ai;obtain⟨i2,wn⟩:=afZ (Np.atI l a.data.toList 2);have H2:Hid (i2<0↔¬ Np.fS l a.data.toList 2):=jq (by rw[<-wn];exact OD _ _ _);rw[wn];clear wn;by_cases h2:i2<0
  ·have HX:Hid (r=false):=jq (by rw[<-HR.out];exact Np.aR λh=>H2.out.1 h2 h.server);have d2:decide (i2<0)=true:=uQ h2;go_wp2_with fail;go_ret;exact⟨ag HX.out.symm,aw.out⟩
  ·have ru:Hid (Np.fS l a.data.toList 2):=jq (Classical.not_not.1 λh=>h2 (H2.out.2 h));have d2:decide (i2<0)=false:=tQ h2;go_wp2_with fail;go_loopw [3] (λi wr=>∃ k:Nat,k<=l.length/\i = .int .i64 k/\Hid (Below w3.heap.size w3 wr)/\Hid (∀ j x,j<k->l[j]?=some x->Np.je x.set.type (x.set.name == a.data.toList)=true)) (λi _=>l.length - (intOf i).toNat)
   case atStart=>exact⟨0,jQ _,rfl,jq (vQ _ _),jq (λj g hj=>by omega)⟩
   case round=>
    obtain⟨k,hk,rfl,HB,HA⟩:=hrel;have ay:=HB.out.size;have d0:wr.cell? ⟨w.heap.size,0,none⟩=some (.string a):=aeK HB.out c0;have d1:wr.cell? ⟨w.heap.size,1,none⟩=some (.slice A l.length c):=aeK HB.out c1;have aH:=aeX aw HB.out;have du:w.heap.size<wr.heap.size:=by omega
    by_cases ab:k<l.length
    ·obtain⟨x,ae⟩:∃ x,l[k]?=some x:=⟨_,aQ ab⟩;obtain⟨b,o,c',sn,dv,sv,hA,bZ,_,aD,cu,aY,aN,f0,f1,f2,f3,f4⟩:=dB (HD.out.keep aP aH.out) ae
     cases hA
     have cj:=kNN k;have ck:(k:Int)<(l.length:Int):=by omega
     have av:b<wr.heap.size:=by omega
     have heq:(sn.toList == a.toList)=(x.set.name == a.data.toList):=by rw[dQ,dQ,aD]
     have uR:Hid (Np.je x.set.type (x.set.name == a.data.toList)=true->∀ j y,j<k+1->l[j]?=some y->Np.je y.set.type (y.set.name == a.data.toList)=true):=jq (λh j y hj hy=>by
      by_cases e:j=k
      ·subst e;rw[ae] at hy;cases hy;exact h
      ·exact HA.out j y (by omega) hy)
     have G7:Hid (Np.je x.set.type (x.set.name == a.data.toList)=false->r=false):=jq (λh=>by
      rw[<-HR.out];exact Np.aR λq=>by have:=q.fits x (gQ ae);rw[h] at this;cases this)
     generalize (x.set.name == a.data.toList)=bb at *;clear ae aD aY aN f2 f3 f4
     cases hf:Np.je x.set.type bb with
     | true=>
      have HF:=jq (uR.out hf);have bP:∀ w,Calls prog 236 #[.int .i64 x.set.type,.bool bb] w (ahY w (.bool true)):=λw=>by rw[<-hf];exact Tm _ _ _
      have HC:=jq bP;rw[<-heq] at bP;have iD:=jq bP;clear hf bP heq;go_wp2_with fail;go_quiet (first | (go_at_call 236;exact Calls.quiet_of_same (Calls.still_same (iD.out _))) | (go_at_call 236;exact Calls.quiet_of_same (Calls.still_same (HC.out _))));go_wp2_with fail;go_roundw
      case rel=>exact⟨k+1,by omega,by go_num,jq (below_drewN HB.out _),jq HF.out⟩
      ·simp[intOf]<;>omega
     | false=>
      have HF:=jq (G7.out hf);have bP:∀ w,Calls prog 236 #[.int .i64 x.set.type,.bool bb] w (ahY w (.bool false)):=λw=>by rw[<-hf];exact Tm _ _ _
      have HC:=jq bP;rw[<-heq] at bP;have iD:=jq bP;clear hf bP heq;go_wp2_with fail;go_quiet (first | (go_at_call 236;exact Calls.quiet_of_same (Calls.still_same (iD.out _))) | (go_at_call 236;exact Calls.quiet_of_same (Calls.still_same (HC.out _))));go_wp2_with fail;go_ret;exact⟨ag HF.out.symm,below_drewN aH.out _⟩
    ·go_wp2_with fail;go_ret;refine⟨ag ?_,aH.out⟩;rw[<-HR.out];refine (Np.bV ⟨VY.out,ru.out,λx hx=>?_⟩).symm;obtain⟨j,hj,rfl⟩:=nQ.1 hx;exact HA.out j _ (by omega) (aQ hj)
end
namespace Np
theorem CX{l:List Copy}{t:Int}{c:Copy} : c∈rj l t↔c∈l/\c.frm<=t/\t<c.til:=by
 unfold rj;rw[List.mem_filter];simp
theorem bqX{h:Hist}(v:VHist h)(t:Int):VWorld (ta h t):=by
 refine⟨v.hosts,v.root,λp hp=>?_,?_⟩
 ·obtain⟨c,hc,rfl⟩:=List.mem_map.1 hp
  have:=v.each c (CX.1 hc).1
  exact⟨this.host,this.zone⟩
 ·show ((rj h.copies t).map mf).Pairwise _;rw[List.pairwise_map]
  have:(rj h.copies t).Pairwise λc d=>¬ iV c d:=v.apart.sublist List.filter_sublist
  refine this.imp_of_mem λ{c d} hc hd hn=>λ⟨h1,h2⟩=>hn ?_;obtain⟨_,c1,c2⟩:=CX.1 hc;obtain⟨_,d1,d2⟩:=CX.1 hd;exact⟨h1,h2,by omega,by omega⟩
theorem Fz{l:List Copy}{a:List UInt8} : a∈apexes l↔∃ c∈l,c.zone.apex=a:=by
 unfold apexes;rw[(Lp _).mem_iff,FD,List.mem_map]
theorem Ym{l m:List Copy}(h:∀ a,(∃ c∈l,c.zone.apex=a)↔∃ c∈m,c.zone.apex=a):apexes l=apexes m:=
 Ly eY _ _ (Lq (CY _)) (Lq (CY _)) λa=>Fz.trans ((h a).trans Fz.symm)
theorem IN(l:List Copy):(l.map (·.zone.apex)).foldl ep []=apexes l:=by
 have key:∀ (l o:List (List UInt8)),o.Pairwise (λa b=>aL a b<0)->(l.foldl ep o).Pairwise (λa b=>aL a b<0)/\∀ y,y∈l.foldl ep o↔y∈o\/y∈l:=by
  intro l
  induction l with
  | nil=>exact λo ho=>⟨ho,λy=>by simp⟩
  | cons a l ih=>
   intro o ho;obtain⟨h1,h2⟩:=Tb o a ho;obtain⟨h3,h4⟩:=ih _ h1;exact⟨h3,λy=>by rw[List.foldl_cons,h4,h2,List.mem_cons,or_assoc]⟩
 obtain⟨h1,h2⟩:=key (l.map (·.zone.apex)) [] List.Pairwise.nil;refine Ly eY _ _ h1 (Lq (CY _)) λa=>?_;rw[h2,Fz,List.mem_map];simp
def yC(a:Int)(c:Copy):List Copy:=if c.frm<a/\a<c.til then [⟨c.host,c.frm,a,c.zone⟩,⟨c.host,a,c.til,c.zone⟩] else [c]
def vK(l:List Copy)(k:Nat)(a:Int):List Copy:=
 match l[k]? with
 | none=>l
 | some c=>l.take k++yC a c++l.drop (k+1)
theorem Zh{a:Int}{c d:Copy}(h:d∈yC a c):d.host=c.host/\d.zone=c.zone/\c.frm<=d.frm/\d.til<=c.til/\(c.frm<c.til->d.frm<d.til):=by
 unfold yC at h;split at h
 ·rename_i hc;simp only[List.mem_cons,Qh,or_false] at h;rcases h with rfl | rfl
  ·exact⟨rfl,rfl,Int.le_refl _,Int.le_of_lt hc.2,λ_=>hc.1⟩
  ·exact⟨rfl,rfl,Int.le_of_lt hc.1,Int.le_refl _,λ_=>hc.2⟩
 ·rw[List.mem_singleton] at h;subst h;exact⟨rfl,rfl,Int.le_refl _,Int.le_refl _,id⟩
theorem Zk{l:List Copy}{k:Nat}{c:Copy}(h:l[k]?=some c):l=l.take k ++ [c]++l.drop (k+1):=by
 obtain⟨hk,rfl⟩:=cQ.1 h;rw[List.append_assoc,List.singleton_append,List.getElem_cons_drop,List.take_append_drop]
theorem O2(l:List Copy)(k:Nat)(a:Int):vK l k a=l\/∃ p c q,l=p ++ [c]++q/\vK l k a=p++yC a c++q:=by
 unfold vK
 cases h:l[k]? with
 | none=>exact .inl rfl
 | some c=>exact .inr ⟨_,c,_,Zk h,rfl⟩
theorem O3{l:List Copy}{k:Nat}{a:Int}{d:Copy}(h:d∈vK l k a):∃ c∈l,d.host=c.host/\d.zone=c.zone/\c.frm<=d.frm/\d.til<=c.til/\(c.frm<c.til->d.frm<d.til):=by
 rcases O2 l k a with e | ⟨p,c,q,e1,e2⟩
 ·rw[e] at h;exact⟨d,h,rfl,rfl,Int.le_refl _,Int.le_refl _,id⟩
 ·rw[e2] at h;rcases List.mem_append.1 h with h | h
  ·rcases List.mem_append.1 h with h | h
   ·exact⟨d,by rw[e1];simp[h],rfl,rfl,Int.le_refl _,Int.le_refl _,id⟩
   ·exact⟨c,by rw[e1];simp,Zh h⟩
  ·exact⟨d,by rw[e1];simp[h],rfl,rfl,Int.le_refl _,Int.le_refl _,id⟩
theorem PZ{l:List Copy}(hl:ql l){P:Int->Zone->Prop} : (∃ c∈l,P c.host c.zone)↔∃ t,∃ c∈l,P c.host c.zone/\c.frm<=t/\t<c.til:=
 ⟨λ⟨c,h1,h2⟩=>⟨c.frm,c,h1,h2,Int.le_refl _,hl c h1⟩,λ⟨_,c,h1,h2,_⟩=>⟨c,h1,h2⟩⟩
def yu(l m:List Copy):Prop:=∀ (P:Int->Zone->Prop) (t:Int),(∃ d∈l,P d.host d.zone/\d.frm<=t/\t<d.til)↔∃ c∈m,P c.host c.zone/\c.frm<=t/\t<c.til
theorem yu.zone{l m:List Copy}(h:yu l m)(hl:ql l)(hm:ql m){P:Int->Zone->Prop} : (∃ c∈l,P c.host c.zone)↔∃ c∈m,P c.host c.zone:=by
 rw[PZ hl,PZ hm];exact⟨λ⟨t,ht⟩=>⟨t,(h P t).1 ht⟩,λ⟨t,ht⟩=>⟨t,(h P t).2 ht⟩⟩
theorem yu.apexes{l m:List Copy}(h:yu l m)(hl:ql l)(hm:ql m):apexes l=apexes m:=
 Ym λa=>h.zone hl hm (P:=λ_ z=>z.apex=a)
theorem Pn{l:List Copy}(hl:ql l)(zone:List UInt8)(k:Int):∀ s∈(l.filter λc=>decide (c.host=k)&&(c.zone.apex == zone)).map ia,s.frm<s.til:=λs hs=>by
 obtain⟨c,hc,rfl⟩:=List.mem_map.1 hs;exact hl c (List.mem_filter.1 hc).1
theorem yu.fresh{l m:List Copy}(h:yu l m)(hl:ql l)(hm:ql m)(zone:List UInt8)(s:Signed):eI (f9 (gx l zone) s)=eI (f9 (gx m zone) s):=by
 refine aTX (LD hl) (LD hm) λt=>R1.trans (Iff.trans ?_ R1.symm)
 have:=h (λ_ z=>z.apex=zone/\s∈z.sets) t
 simpa only[and_assoc] using this
theorem aWK(a b:List Copy)(zone:List UInt8):gx (a++b) zone=gx a zone++gx b zone:=by
 unfold gx tG;rw[List.filter_append,List.flatMap_append]
theorem Zj(l:List Copy)(k:Nat)(a:Int):(vK l k a).length<=l.length+1:=by
 rcases O2 l k a with e | ⟨p,c,q,e1,e2⟩
 ·rw[e];omega
 ·rw[e2,e1]
  have:(yC a c).length<=2:=by unfold yC;split<;>simp
  simp only[List.length_append,List.length_singleton];omega
def withC(h:Hist)(l:List Copy):Hist:=⟨h.hosts,l,h.anchor,h.hints,h.drift,h.stop⟩
end Np
section
open Go.RowKit
section
variable {P:Program} {ops:Array Oper} {md:Region.Mode} {C:World->Prop}
end
end
end Go.Proofs.YtfnopgdcaanaiaaGreatDoor
namespace Go.Proofs
open YtfnopgdcaanaiaaGreatDoor Tryz
open Go.Shelf
def Tryz.laysSort6_ren:Go.Shelf.Ren:=⟨fun | 6=>135 | 15=>186 | 14=>213 | 28=>259 | 29=>260 | 20=>289 | 21=>290 | 22=>291 | 23=>292 | 24=>293 | 25=>294 | 26=>295 | 27=>296 | 46=>342 | 47=>322 | 48=>323 | 49=>343 | 50=>344 | 57=>362 | n=>n,fun | 22=>116 | 24=>9 | 25=>212 | 3=>3 | 39=>249 | 0=>0 | 53=>92 | 55=>48 | 4=>4 | 46=>305 | 45=>304 | 50=>214 | 5=>5 | 9=>9 | 66=>351 | 70=>355 | 76=>376 | 77=>377 | n=>n,fun | n=>n⟩
theorem Tryz.laysSort6:Go.Proofs.SlLaysF.n6 Tryz.prog Tryz.laysSort6_ren:=by
 constructor
 case f6=>exact⟨f135.name,by decide,func135.trans (agZ)⟩
 case f14=>exact⟨f213.name,by decide,func213.trans (agZ)⟩
 case f15=>exact func186.trans (agZ)
 case f20=>exact⟨f289.name,by decide,func289.trans (agZ)⟩
 case f21=>exact⟨f290.name,by decide,func290.trans (agZ)⟩
 case f22=>exact⟨f291.name,by decide,func291.trans (agZ)⟩
 case f23=>exact⟨f292.name,by decide,func292.trans (agZ)⟩
 case f24=>exact⟨f293.name,by decide,func293.trans (agZ)⟩
 case f25=>exact⟨f294.name,by decide,func294.trans (agZ)⟩
 case f26=>exact⟨f295.name,by decide,func295.trans (agZ)⟩
 case f27=>exact⟨f296.name,by decide,func296.trans (agZ)⟩
 case f28=>exact func259.trans (agZ)
 case f29=>exact func260.trans (agZ)
 case f46=>exact⟨f342.name,by decide,func342.trans (agZ)⟩
 case f47=>exact func322.trans (agZ)
 case f48=>exact func323.trans (agZ)
 case f49=>exact⟨f343.name,by decide,func343.trans (agZ)⟩
 case f50=>exact⟨f344.name,by decide,func344.trans (agZ)⟩
 case f57=>exact⟨f362.name,by decide,func362.trans (agZ)⟩
 all_goals first | kernel_rfl | (intro _;kernel_rfl) | (intro _;rfl)
def Tryz.laysSort06_ren:Go.Shelf.Ren:=⟨fun | 6=>135 | 15=>186 | 14=>213 | 28=>259 | 29=>260 | 20=>289 | 21=>290 | 22=>291 | 23=>292 | 24=>293 | 25=>294 | 26=>295 | 27=>296 | 46=>342 | 47=>322 | 48=>323 | 49=>343 | 50=>344 | 57=>362 | n=>n,fun | 22=>116 | 24=>9 | 25=>212 | 3=>3 | 39=>249 | 0=>0 | 53=>92 | 55=>48 | 4=>4 | 46=>305 | 45=>304 | 50=>214 | 5=>5 | 9=>9 | 66=>351 | 70=>355 | 76=>376 | 77=>377 | n=>n,fun | n=>n⟩
theorem Tryz.laysSort06:Go.Proofs.SlLaysF0.n6 Tryz.prog Tryz.laysSort06_ren:=by
 constructor
 case f6=>exact⟨f135.name,by decide,func135.trans (agZ)⟩
 case f14=>exact⟨f213.name,by decide,func213.trans (agZ)⟩
 case f15=>exact func186.trans (agZ)
 case f20=>exact⟨f289.name,by decide,func289.trans (agZ)⟩
 case f21=>exact⟨f290.name,by decide,func290.trans (agZ)⟩
 case f22=>exact⟨f291.name,by decide,func291.trans (agZ)⟩
 case f23=>exact⟨f292.name,by decide,func292.trans (agZ)⟩
 case f24=>exact⟨f293.name,by decide,func293.trans (agZ)⟩
 case f25=>exact⟨f294.name,by decide,func294.trans (agZ)⟩
 case f26=>exact⟨f295.name,by decide,func295.trans (agZ)⟩
 case f27=>exact⟨f296.name,by decide,func296.trans (agZ)⟩
 case f28=>exact func259.trans (agZ)
 case f29=>exact func260.trans (agZ)
 case f46=>exact⟨f342.name,by decide,func342.trans (agZ)⟩
 case f47=>exact func322.trans (agZ)
 case f48=>exact func323.trans (agZ)
 case f49=>exact⟨f343.name,by decide,func343.trans (agZ)⟩
 case f50=>exact⟨f344.name,by decide,func344.trans (agZ)⟩
 case f57=>exact⟨f362.name,by decide,func362.trans (agZ)⟩
 all_goals first | kernel_rfl | (intro _;kernel_rfl) | (intro _;rfl)
open Go.RowKit Go.Lib Go.Sort in
theorem Tryz.slices_SortFunc_none{α:Type}[Inhabited α](p:Option Addr)(cap:Nat)(fv:Value)(w:World) :
 Calls Tryz.prog 135 #[.slice p 0 cap,fv] w λe w'=>e = .returned (.tuple #[])/\w'=w:=AnyF.slices_SortFunc_none Tryz.laysSort06 p cap fv w
open Go.RowKit Go.Lib Go.Sort in
theorem Tryz.slices_SortFunc_total{α:Type}[Inhabited α](enc:α->Value)(h1:OneCell enc)(cf:α->α->Int)(hO:SWO (ltOf cf))(g:Nat)(cb:Array Value)(blk off cap:Nat)(d:Array α)(w:World)(eg:∀ args w,(callFunc g args).run Tryz.prog w = .ok (.enter g args) w)(vT:CmpLays1 Tryz.prog g cb enc cf blk off d.size w)(hH:Holds enc w blk off d)(vR:blk<w.heap.size)(ay:d.size<4611686018427387904)(hT:∀ x y,(ltOf cf) x y=false->(ltOf cf) y x=false->x=y) :
 Calls Tryz.prog 135 #[.slice (some ⟨blk,off,none⟩) d.size cap,.func (.func g) #[] cb] w λe w'=>
  e = .returned (.tuple #[])/\∃ n os,w'=sortWorld enc w blk off n (d.toList.mergeSort λx y=>!(ltOf cf) y x).toArray os:=Any.slices_SortFunc_total Tryz.laysSort6 enc h1 cf hO g cb blk off cap d w eg vT hH vR ay hT
end Go.Proofs
namespace Go.Proofs.YtfnopgdcaanaiaaGreatDoor
open Go.Proofs.Tryz
section
open Go.RowKit
section
variable {P:Program} {ops:Array Oper} {md:Region.Mode} {C:World->Prop} {Q:Exit->Act->World->Prop}
theorem FQ(a:Act)(d:Nat)(v:Value)(h:d<a.tmps.size):(a.put (some d) v).eval (.tmp d)=v:=by
 simp[Act.put,Act.eval,h]
theorem xq(a:Act)(d j:Nat)(v:Value)(h:d≠j):(a.put (some d) v).eval (.tmp j)=a.eval (.tmp j):=by
 simp[Act.put,Act.eval,h,Array.getD_eq_getD_getElem?]
structure kI(ops:Array Oper)(D:List Nat)(dst:Nat->Nat)(val:Nat->Value)(base:List (Nat×Value))(m:Nat)(ds:List Deferred)(f:Nat)(listed:Array Bool)(a:Act):Prop where
 defs:a.defers=ds
 size:listed.size=ops.size
 left:listed.toList.count false=f
 not:∀ i,i<ops.size->i∉D->listed.getD i true=false
 val:∀ i∈D,listed.getD i false=true->a.eval (.tmp (dst i))=val i
 base:∀ q∈base,a.eval (.tmp q.1)=q.2
 tmps:a.tmps.size=m
theorem kI.step{ds:List Deferred}{D:List Nat}{dst:Nat->Nat}{val:Nat->Value}{base:List (Nat×Value)}{m f:Nat}{listed:Array Bool}{a:Act}{i:Nat}{o:Oper}(hg:kI ops D dst val base m ds (f+1) listed a)(hi:i∈D)(hr:listed.getD i true=false)(ho:ops[i]?=some o)(hd:o.dst=some (dst i))(ab:dst i<m)
 (mB:∀ j∈D,j≠i->dst i≠dst j) (hb:∀ q∈base,dst i≠q.1) (hy:YieldsIn P ops C o (val i) a):qOp P ops C i (kI ops D dst val base m ds f (listed.setIfInBounds i true)) a:=by
 refine hy.qOp ho ?_;rw[hd];have asJ:i<ops.size:=(eQ.1 ho).1;have dw:i<listed.size:=by rw[hg.size];exact asJ
 have ae:listed[i]=false:=by simpa [Array.getD,dw] using hr
 refine⟨by simp[Act.put,hg.defs],by simp[hg.size],?_,?_,?_,?_,?_⟩
 ·have h1:=hg.left;rw[Array.toList_setIfInBounds,List.count_set (by simpa using dw)];simp[ae,h1]
 ·intro j hj jM;have hne:i≠j:=λe=>jM (e ▸ hi)
  have:=hg.not j hj jM
  simpa [Array.getD,hg.size,hj,Array.getElem_setIfInBounds,hne] using this
 ·intro j hj hl;by_cases hne:i=j
  ·subst hne;exact FQ a _ _ (by rw[hg.tmps];exact ab)
  ·rw[xq _ _ _ _ (mB j hj (λe=>hne e.symm))];refine hg.val j hj ?_;by_cases nw:j<listed.size
   ·simpa [Array.getD,nw,Array.getElem_setIfInBounds,hne] using hl
   ·simp[Array.getD,nw] at hl
 ·intro q hq;rw[xq _ _ _ _ (hb q hq)];exact hg.base q hq
 ·simp[Act.put,hg.tmps]
theorem kI.none{ds:List Deferred}{D:List Nat}{dst:Nat->Nat}{val:Nat->Value}{base:List (Nat×Value)}{m:Nat}{listed:Array Bool}{a:Act}{p:Nat}(hp:p<ops.size)(ji:p∉D):¬ kI ops D dst val base m ds 0 listed a:=λhg=>by
 have h1:=hg.not p hp ji;have dw:p<listed.size:=by rw[hg.size];exact hp
 have ae:listed[p]=false:=by simpa [Array.getD,dw] using h1
 have h2:=hg.left;rw[List.count_eq_zero] at h2;exact h2 (by rw[<-ae];simp)
theorem kI.start{D:List Nat}{dst:Nat->Nat}{val:Nat->Value}{base:List (Nat×Value)}{m:Nat}{a:Act}(hb:∀ q∈base,a.eval (.tmp q.1)=q.2)(hm:a.tmps.size=m):kI ops D dst val base m a.defers ops.size (Array.replicate ops.size false) a:=
 ⟨rfl,by simp,by simp,λi hi _=>by simp[Array.getD,hi],λi _ h=>by simp[Array.getD] at h,hb,hm⟩
theorem Tg{listed:Array Bool}(hw:∀ (i:Nat) (o:Oper),ops[i]?=some o->∀ e∈o.after,e.on<i)(ay:listed.size=ops.size):∀ p,p<ops.size->listed.getD p true=false->Region.ready md ops listed≠[]:=by
 intro p
 induction p using Nat.strongRecOn with
 | _ p ih=>
  intro hp hl;by_cases be:∀ e∈(ops[p]).after,Region.binds md e=true->listed.getD e.on false=true
  ·intro h0
   have:p∈Region.ready md ops listed:=mem_ready.2 ⟨hl,ops[p],pQ hp,be⟩
   rw[h0] at this
   cases this
  ·simp only[Classical.not_forall] at be;obtain⟨e,he,hb,hne⟩:=be;have ab:=hw p _ (pQ hp) e he;refine ih e.on ab (by omega) ?_;have h1:e.on<listed.size:=by omega
   simpa [Array.getD,h1] using hne
def LR(ops:Array Oper):Bool:=(List.range ops.size).all λi=>match ops[i]? with
 | some o=>o.after.all λe=>decide (e.on<i)
 | none=>true
def LQ(ops:Array Oper)(D:List Nat)(p:Nat):Bool:=(List.range ops.size).all λi=>D.contains i||i == p||match ops[i]? with
 | some o=>o.after.any λe=>Region.binds .any e&&!D.contains e.on&&decide (e.on<ops.size)
 | none=>true
theorem xI(h:LR ops=true):∀ (i:Nat) (o:Oper),ops[i]?=some o->∀ e∈o.after,e.on<i:=by
 intro i o ho e he;unfold LR at h;rw[List.all_eq_true] at h;have h1:=h i (by rw[List.mem_range];exact (eQ.1 ho).1);rw[ho] at h1;simp only[Array.all_eq_true_iff_forall_mem,Qa] at h1;exact h1 e he
theorem xH{D:List Nat}{p:Nat}(h:LQ ops D p=true):∀ (i:Nat) (o:Oper),ops[i]?=some o->i∉D->i≠p->∃ e∈o.after,Region.binds .any e=true/\e.on∉D/\e.on<ops.size:=by
 intro i o ho hD hp;unfold LQ at h;rw[List.all_eq_true] at h;have h1:=h i (by rw[List.mem_range];exact (eQ.1 ho).1);rw[ho] at h1;simp only[Bool.or_eq_true,List.contains_iff_mem,hD,beq_iff_eq,hp,false_or] at h1;rw[Array.any_eq_true'] at h1;obtain⟨e,he,h2⟩:=h1;simp only[Bool.and_eq_true,Bool.not_eq_true',Qa] at h2;have h3:e.on∉D:=λhm=>by
  have:=h2.1.2
  rw[List.contains_iff_mem.2 hm] at this
  cases this
 exact⟨e,he,h2.1.1,h3,h2.2⟩
end
open Classical in
noncomputable def bG(w:World)(M:Nat->Prop):World:={ w with heap:=w.heap.mapIdx λk o=>if M k then .cells #[] 0 else o }
theorem gj(w:World)(M:Nat->Prop):(bG w M).heap.size=w.heap.size:=by simp[bG]
theorem lD{w:World}{M:Nat->Prop}{k:Nat}(h:¬ M k):(bG w M).heap[k]?=w.heap[k]?:=by
 unfold bG;simp only[Array.getElem?_mapIdx,h,if_false]
 cases w.heap[k]?<;>rfl
theorem xy{w:World}{M:Nat->Prop}{k:Nat}(h:M k):(bG w M).heap[k]?=(w.heap[k]?).map λ_=>Obj.cells #[] 0:=by
 unfold bG;simp only[Array.getElem?_mapIdx,h,if_true]
theorem bcZ{w:World}{M:Nat->Prop}{p:Addr}{v:Value}(h:(bG w M).cell? p=some v):¬ M p.block/\w.cell? p=some v:=by
 by_cases hm:M p.block
 ·exfalso;unfold World.cell? at h;rw[xy hm] at h
  cases hh:w.heap[p.block]? with
  | none=>simp[hh] at h
  | some o=>simp[hh] at h
 ·refine⟨hm,?_⟩;rw[<-h];exact (iQ (w:=w) (lD hm)).symm
theorem TF{w:World}{M:Nat->Prop}{p:Addr}(h:¬ M p.block):(bG w M).cell? p=w.cell? p:=iQ (w:=w) (lD h)
def eB{α:Type}(R:aiQ α):Prop:=∀ w (M M':Nat->Prop) B e x,(∀ k,M' k->M k)->R (bG w M) B e x->R (bG w M') B e x
theorem cA.sans{w:World}{M M':Nat->Prop}{b o:Nat}{e:List Value}(hM:∀ k,M' k->M k)(h:cA (bG w M) b o e):cA (bG w M') b o e:=λj v hj=>by
 obtain⟨h1,h2⟩:=bcZ (h j v hj);rw[TF (λe=>h1 (hM _ e))];exact h2
theorem SlR.sans{α:Type}{R:aiQ α}{sz:Nat}{w:World}{M M':Nat->Prop}{B:Nat}{v:Value}{xs:List α}(hR:eB R)(hM:∀ k,M' k->M k)(h:SlR R sz (bG w M) B v xs):SlR R sz (bG w M') B v xs:=by
 obtain⟨A,c,hv,hc,hl,he⟩:=h;refine⟨A,c,hv,hc,hl,λi x hx=>?_⟩;obtain⟨b,o,e,hA,hB,bL,hce,hr⟩:=he i x hx;exact⟨b,o,e,hA,hB,bL,hce.sans hM,hR _ _ _ _ _ _ hM hr⟩
theorem TG(w:World):bG w (λ_=>False)=w:=by
 unfold bG
 cases w
 simp only[World.mk.injEq,and_true];apply Array.ext_getElem?;intro i;simp only[Array.getElem?_mapIdx,if_false];rename_i heap _ _ _ _
 cases heap[i]?<;>rfl
theorem SlR.all{α:Type}{R:aiQ α}{sz:Nat}{w:World}{M:Nat->Prop}{B:Nat}{v:Value}{xs:List α}(hR:eB R)(h:SlR R sz (bG w M) B v xs):SlR R sz w B v xs:=by
 have:=h.sans (M':=λ_=>False) hR (λ_ e=>e.elim)
 rw[TG] at this;exact this
theorem mL:eB ci:=λ_ _ _ _ _ _ _ h=>h
theorem nS:eB fi:=λ_ _ _ _ _ _ _ h=>h
theorem js:eB br:=λ_ _ _ _ _ _ hM ⟨s,v,u,h1,h2,h3,h4,h5⟩=>⟨s,v,u,h1,h2,h3.sans mL hM,h4.sans nS hM,h5⟩
theorem eB.all{α:Type}{R:aiQ α}(hR:eB R){w:World}{M:Nat->Prop}{B:Nat}{e:List Value}{x:α}(h:R (bG w M) B e x):R w B e x:=by
 have:=hR w M (λ_=>False) B e x (λ_ e=>e.elim) h
 rw[TG] at this;exact this
structure Leaves'(M:Nat->Prop)(w w':World)(M':Nat->Prop):Prop where
 os:w'.os=w.os
 tape:w'.tape=w.tape
 output:w'.output=w.output
 size:w.heap.size<=w'.heap.size
 keep:∀ k,k<w.heap.size->¬ M k->¬ M' k/\w'.heap[k]?=w.heap[k]?
theorem Leaves'.refl(M:Nat->Prop)(w:World):Leaves' M w w M:=⟨rfl,rfl,rfl,bQ _,λ_ _ h=>⟨h,rfl⟩⟩
theorem Leaves'.trans{M M' M'':Nat->Prop}{a b c:World}(h:Leaves' M a b M')(k:Leaves' M' b c M''):Leaves' M a c M'':=
 ⟨k.os.trans h.os,k.tape.trans h.tape,k.output.trans h.output,yQ h.size k.size,λi hi hm=>by
  obtain⟨h1,h2⟩:=h.keep i hi hm;obtain⟨h3,h4⟩:=k.keep i (lQ hi h.size) h1;exact⟨h3,h4.trans h2⟩⟩
theorem Leaves'.of_below{M:Nat->Prop}{w w':World}(h:Below w.heap.size w w'):Leaves' M w w' M:=⟨h.os,h.tape,h.output,h.size,λk hk hm=>⟨hm,h.block k hk⟩⟩
theorem Leaves'.setCell(M:Nat->Prop)(w:World){p:Addr}(hp:M p.block)(v:Value):Leaves' M w (w.setCell p v) M:=
 ⟨rfl,rfl,rfl,by simp[World.setCell],λk _ hm=>⟨hm,wQ _ _ _ _ (λe=>hm (e ▸ hp))⟩⟩
theorem Leaves'.grown{M:Nat->Prop}{w w':World}{row:Option Nat}(hg:w.grownBy w' row)(hr:∀ k,row=some k->M k):Leaves' M w w' M:=
 ⟨hg.os,hg.tape,hg.output,hg.size,λk hk hm=>⟨hm,hg.block k hk (λe=>hm (hr k e.symm))⟩⟩
theorem Leaves'.more{M M' N:Nat->Prop}{w w':World}(h:Leaves' M w w' M')(hN:∀ k,N k->M' k\/w.heap.size<=k):Leaves' M w w' N:=
 ⟨h.os,h.tape,h.output,h.size,λk hk hm=>⟨λe=>(hN k e).elim (h.keep k hk hm).1 (by omega),(h.keep k hk hm).2⟩⟩
theorem Leaves'.read{α:Type}{R:aiQ α}(hk:dl R)(hs:eB R)(hm:dy R){M M':Nat->Prop}{w w':World}(h:Leaves' M w w' M'){e:List Value}{x:α}(hr:R (bG w M) w.heap.size e x):R (bG w' M') w'.heap.size e x:=by
 have hb:Below w.heap.size (bG w M) (bG w' λk=>M k\/M' k):=by
  refine⟨h.os,h.tape,h.output,by rw[gj,gj];exact h.size,λk hk=>?_⟩;by_cases hM:M k
  ·rw[xy hM,xy (M:=λk=>M k\/M' k) (Or.inl hM)];have h1:k<w'.heap.size:=lQ hk h.size;rw[pQ hk,pQ h1];rfl
  ·obtain⟨h1,h2⟩:=h.keep k hk hM;rw[lD hM,lD (M:=λk=>M k\/M' k) (λe=>e.elim hM h1),h2]
 exact hm _ _ _ _ _ (hs _ _ _ _ _ _ (λk e=>Or.inr e) (hk _ _ _ _ _ hr hb)) h.size
def cC{α:Type}(R:aiQ α)(sz:Nat)(e:TypeId)(base:Nat)(M:Nat->Prop)(w:World)(v:Value)(xs:List α):Prop:=
 ∃ rows:List (List Value),rows.length=xs.length/\w.ownsRow base e sz v xs.length rows.flatten/\(∀ g,v.ownBlock=some g->M g)/\
   ∀ (i:Nat) (r:List Value) (x:α),rows[i]?=some r->xs[i]?=some x->r.length=sz/\R (bG w M) w.heap.size r x
theorem cC.nil{α:Type}{R:aiQ α}{sz:Nat}{e:TypeId}{base:Nat}{M:Nat->Prop}(w:World):cC (α:=α) R sz e base M w (.slice none 0 0) []:=
 ⟨[],rfl,⟨by simp,.inl ⟨rfl,rfl⟩⟩,(λg h=>by cases h),λi r x h=>by simp at h⟩
theorem cC.form{α:Type}{R:aiQ α}{sz:Nat}{e:TypeId}{base:Nat}{M:Nat->Prop}{w:World}{v:Value}{xs:List α}(h:cC R sz e base M w v xs):∃ A c,v = .slice A xs.length c:=by
 obtain⟨rows,h1,h2,h3⟩:=h;rcases h2.2 with ⟨rfl,h0⟩ | ⟨g,cap,cur,rfl,_⟩
 ·exact⟨none,0,by rw[h0]⟩
 ·exact⟨_,cap,rfl⟩
theorem cC.leaves{α:Type}{R:aiQ α}(hk:dl R)(hs:eB R)(hm:dy R){sz:Nat}{e:TypeId}{base:Nat}{M M':Nat->Prop}{w w':World}{v:Value}{xs:List α}(h:cC R sz e base M w v xs)(hl:Leaves' M w w' M')
 (ho:∀ g,v.ownBlock=some g->w'.heap[g]?=w.heap[g]?/\M' g):cC R sz e base M' w' v xs:=by
 obtain⟨rows,h1,h2,h3,h4⟩:=h;exact⟨rows,h1,dS h2 (λg hg=>(ho g hg).1),λg hg=>(ho g hg).2,λi r x hr hx=>⟨(h4 i r x hr hx).1,hl.read hk hs hm (h4 i r x hr hx).2⟩⟩
theorem cC.slr{α:Type}{R:aiQ α}(hs:eB R){sz:Nat}{e:TypeId}{base:Nat}{M:Nat->Prop}{w:World}{v:Value}{xs:List α}(h:cC R sz e base M w v xs)(hl:xs.length<=140737488355328):SlR R sz w w.heap.size v xs:=by
 obtain⟨rows,h1,h2,h3,h4⟩:=h;have hl':=bD.rows_len (w:=bG w M) (B:=w.heap.size) h1 h4;rcases h2.2 with ⟨rfl,h0⟩ | ⟨g,cap,cur,rfl,hb,hg,lu,_⟩
 ·have:xs = []:=rQ h0
  subst this;exact⟨none,0,rfl,by simp,by simp,λi x hx=>by simp at hx⟩
 ·refine⟨_,cap,rfl,lu,hl,λi x hx=>?_⟩;have hi:=(cQ.1 hx).1;have hr:=aQ (l:=rows) (i:=i) (by omega);obtain⟨h5,h6⟩:=h4 i _ x hr hx;refine⟨g,0,rows[i],rfl,(eQ.1 hg).1,h5,λj u hj=>?_,hs.all h6⟩;have h7:=h2.cells (g:=g) rfl _ _ (Er rows i j _ u hl' hr hj);have mw:(⟨g,0,none⟩:Addr).add (i * sz+j)=⟨g,0+i * sz+j,none⟩:=by unfold Addr.add;split<;>simp_all
  rw[mw] at h7;exact h7
def Ea{α:Type}(R:aiQ α)(sz:Nat)(M:Nat->Prop)(w:World)(A:Option Addr)(ys:List α):Prop:=
 ∃ rows:List (List Value),rows.length=ys.length/\(∀ (i:Nat) (r:List Value) (x:α),rows[i]?=some r->ys[i]?=some x->r.length=sz/\R (bG w M) w.heap.size r x)/\(ys≠[]->∃ b o,A=some ⟨b,o,none⟩/\∀ j u,rows.flatten[j]?=some u->w.cell? ((⟨b,o,none⟩:Addr).add j)=some u)
theorem Lh{α:Type}{R:aiQ α}{sz:Nat}{M:Nat->Prop}{w:World}{b o:Nat}{r:List Value}{x:α}(hl:r.length=sz)(hr:R (bG w M) w.heap.size r x)(hc:cA w b o r):Ea R sz M w (some ⟨b,o,none⟩) [x]:=by
 refine⟨[r],rfl,λi r' x' h1 h2=>?_,λ_=>⟨b,o,rfl,λj u hj=>?_⟩⟩
 ·cases i with
  | zero=>simp at h1 h2;subst h1;subst h2;exact⟨hl,hr⟩
  | succ i=>simp at h1
 ·have mw:(⟨b,o,none⟩:Addr).add j=⟨b,o+j,none⟩:=by unfold Addr.add;split<;>simp_all
  rw[mw];exact hc j u (by simpa using hj)
section
variable {P:Program}
theorem a9Z{α:Type}{R:aiQ α}{sz:Nat}{M:Nat->Prop}(w:World)(t ty:TypeId)
 (base:Nat) (e:TypeId) (i:TypeInfo) (z:Value) (bytes:Nat) (ht:P.underlying t=some (.slice e)) (hi:P.info? e=some i) (hz:i.zero=some z) (l9:i.size=sz) (ip:i.bytes=bytes) (sR:z.cells.size=sz) (ay:0<sz)
 (v:Value) (xs:List α) (hown:cC R sz e base M w v xs) (A:Option Addr) (c:Nat) (ys:List α) (fw:Ea R sz M w A ys)
 (wR:∀ w B r y,R w B r y->∀ u∈r,u.oneCell'=true) (kf:xs.length+ys.length<=maxLen) (no:(xs.length+ys.length) * bytes<=140737488355328) (dM:base<=w.heap.size) (hk:dl R) (hs:eB R) (hm:dy R) :
 ∃ v' w',(Builtin.append_ #[t,t] ty #[v,.slice A ys.length c]).run P w = .ok v' w'/\cC R sz e base (λk=>M k\/v'.ownBlock=some k) w' v' (xs++ys)/\w.grownBy w' v.ownBlock/\(v'.ownBlock=v.ownBlock\/v'.ownBlock=some w.heap.size):=by
 have sm:∀ (w':World) (v':Value) (rows rows':List (List Value)),w.grownBy w' v.ownBlock->(v'.ownBlock=v.ownBlock\/v'.ownBlock=some w.heap.size)->(∀ g,v.ownBlock=some g->M g)->rows.length=xs.length->(∀ (i:Nat) (r:List Value) (x:α),rows[i]?=some r->xs[i]?=some x->r.length=sz/\R (bG w M) w.heap.size r x)->rows'.length=ys.length->
  (∀ (i:Nat) (r:List Value) (x:α),rows'[i]?=some r->ys[i]?=some x->r.length=sz/\R (bG w M) w.heap.size r x)->w'.ownsRow base e sz v' (xs.length+ys.length) (rows.flatten++rows'.flatten)->cC R sz e base (λk=>M k\/v'.ownBlock=some k) w' v' (xs++ys):=by
  intro w' v' rows rows' hg hat yH h1 h2 h3 h4 h5;have wJ:Leaves' M w w' (λk=>M k\/v'.ownBlock=some k):=(Leaves'.grown hg yH).more (λk e=>by
   rcases e with e | e
   ·exact .inl e
   ·rcases hat with h | h
    ·exact .inl (yH k (h ▸ e))
    ·rw[h] at e;cases e;exact .inr (bQ _))
  refine⟨rows++rows',by simp[h1,h3],?_,λg hg'=>.inr hg',λj r y hr hy=>?_⟩
  ·rw[List.length_append,List.flatten_append];exact h5
  ·rcases Nat.lt_or_ge j rows.length with ab | oD
   ·rw[List.getElem?_append_left ab] at hr;rw[List.getElem?_append_left (by omega)] at hy;obtain⟨h6,h7⟩:=h2 j r y hr hy;exact⟨h6,wJ.read hk hs hm h7⟩
   ·rw[oQ oD] at hr;rw[oQ (by omega),<-h1] at hy;obtain⟨h6,h7⟩:=h4 _ r y hr hy;exact⟨h6,wJ.read hk hs hm h7⟩
 obtain⟨rows,h1,h2,yH,h3⟩:=hown;obtain⟨rows',h4,h5,h6⟩:=fw;by_cases hy:ys = []
 ·subst hy;have nI:rows' = []:=rQ (by simpa using h4);subst nI
  cases A with
  | none=>
   have cY:=TD (P:=P) base t ty e i sz ht hi v xs.length c rows.flatten h2;have hg:w.grownBy w v.ownBlock:=⟨rfl,rfl,rfl,bQ _,λ_ _ _=>rfl⟩;exact⟨v,w,cY,sm w v rows [] hg (.inl rfl) yH h1 h3 rfl (λj r y hr=>by simp at hr) (by simpa using h2),hg,.inl rfl⟩
  | some ad=>
   obtain⟨v',w',hr,ho',hg,_,hat⟩:=run_append_own_at (P:=P) w base t ty e i z sz bytes ht hi hz l9 ip sR ay v xs.length rows.flatten h2 ad 0 c [] (by simp) (λj u hj=>by simp at hj) (λu hu=>by cases hu) (by simpa using kf) (by simpa using no) dM;exact⟨v',w',hr,sm w' v' rows [] hg hat yH h1 h3 rfl (λj r y hr=>by simp at hr) (by simpa using ho'),hg,hat⟩
 ·obtain⟨b,o',rfl,hcell⟩:=h6 hy;have hl:=bD.rows_len (w:=bG w M) (B:=w.heap.size) h4 h5;obtain⟨v',w',hr,ho',hg,_,hat⟩:=run_append_own_at (P:=P) w base t ty e i z sz bytes ht hi hz l9 ip sR ay v xs.length rows.flatten h2 ⟨b,o',none⟩ ys.length c rows'.flatten (by rw[Jb rows' hl,h4]) hcell (λu hu=>by
   obtain⟨r,hr,KM⟩:=List.mem_flatten.1 hu;obtain⟨j,hj,rfl⟩:=nQ.1 hr;exact wR _ _ _ _ (h5 j _ _ (aQ hj) (aQ (by omega))).2 u KM) kf no dM
  exact⟨v',w',hr,sm w' v' rows rows' hg hat yH h1 h3 h4 h5 ho',hg,hat⟩
theorem LZ{α:Type}{R:aiQ α}{sz:Nat}{M:Nat->Prop}(w:World){o:Oper}{a:Act}{K:Act->World->Prop}{Q:Exit->Act->World->Prop}(s x:Operand)(t:TypeId)
 (ho:o.op = .call { callee:=.builtin .append,args:=#[s,x],argTypes:=#[t,t] })
 (base:Nat) (e:TypeId) (i:TypeInfo) (z:Value) (bytes:Nat) (ht:P.underlying t=some (.slice e)) (hi:P.info? e=some i) (hz:i.zero=some z) (l9:i.size=sz) (ip:i.bytes=bytes) (sR:z.cells.size=sz) (ay:0<sz)
 (v:Value) (xs:List α) (hv:a.eval s=v) (hown:cC R sz e base M w v xs) (A:Option Addr) (c:Nat) (ys:List α) (hx:a.eval x = .slice A ys.length c) (fw:Ea R sz M w A ys)
 (wR:∀ w B r y,R w B r y->∀ u∈r,u.oneCell'=true) (kf:xs.length+ys.length<=maxLen) (no:(xs.length+ys.length) * bytes<=140737488355328) (dM:base<=w.heap.size) (hk:dl R) (hs:eB R) (hm:dy R)
 (h:∀ v' w',cC R sz e base (λk=>M k\/v'.ownBlock=some k) w' v' (xs++ys)->w.grownBy w' v.ownBlock->(v'.ownBlock=v.ownBlock\/v'.ownBlock=some w.heap.size)->K (a.put o.dst v') w'):o.wp P a w K Q:=by
 obtain⟨v',w',hr,h2,h4,h5⟩:=a9Z (P:=P) w t o.type base e i z bytes ht hi hz l9 ip sR ay v xs hown A c ys fw wR kf no dM hk hs hm;unfold Oper.wp execOp;simp only[ho,resolve,invoke,builtin,Sem.run_bind,Sem.run_pure,Result.andThen_ok,List.map_toArray,List.map_cons,List.map_nil,hv,hx,hr];exact h v' w' h2 h4 h5
theorem bsJ{α:Type}{R:aiQ α}{sz:Nat}{M:Nat->Prop}(w:World){ops:Array Oper}{rest:List Oper}{o:Oper}{a:Act}{Q:Exit->Act->World->Prop}(gX:o.guard=none)(s x:Operand)(t:TypeId)
 (ho:o.op = .call { callee:=.builtin .append,args:=#[s,x],argTypes:=#[t,t] })
 (base:Nat) (e:TypeId) (i:TypeInfo) (z:Value) (bytes:Nat) (ht:P.underlying t=some (.slice e)) (hi:P.info? e=some i) (hz:i.zero=some z) (l9:i.size=sz) (ip:i.bytes=bytes) (sR:z.cells.size=sz) (ay:0<sz)
 (v:Value) (xs:List α) (hv:a.eval s=v) (hown:cC R sz e base M w v xs) (A:Option Addr) (c:Nat) (ys:List α) (hx:a.eval x = .slice A ys.length c) (fw:Ea R sz M w A ys)
 (wR:∀ w B r y,R w B r y->∀ u∈r,u.oneCell'=true) (kf:xs.length+ys.length<=maxLen) (no:(xs.length+ys.length) * bytes<=140737488355328) (dM:base<=w.heap.size) (hk:dl R) (hs:eB R) (hm:dy R)
 (h:∀ v' w',cC R sz e base (λk=>M k\/v'.ownBlock=some k) w' v' (xs++ys)->w.grownBy w' v.ownBlock->(v'.ownBlock=v.ownBlock\/v'.ownBlock=some w.heap.size)->wpList P ops Q rest (a.put o.dst v') w'):wpList P ops Q (o::rest) a w:=by
 refine wpList_plain gX λK hK=>?_;exact LZ w s x t ho base e i z bytes ht hi hz l9 ip sR ay v xs hv hown A c ys hx fw wR kf no dM hk hs hm (λv' w' h1 h2 h3=>hK _ _ (h v' w' h1 h2 h3))
end
section
variable {P:Program} {ops:Array Oper} {Q:Exit->Act->World->Prop}
structure Held(ops:Array Oper)(D A:List Nat)(dst:Nat->Nat)(val:Nat->Value)(base:List (Nat×Value))(m:Nat)(ds:List Deferred)(f:Nat)(listed:Array Bool)(a:Act):Prop where
 good:kI ops D dst val base m ds f listed a
 done:∀ i∈A,listed.getD i false=true
 clo:∀ j o,ops[j]?=some o->listed.getD j false=true->∀ e∈o.after,Region.binds .any e=true->listed.getD e.on false=true
theorem CT{listed:Array Bool}{i j:Nat}(h:(listed.setIfInBounds i true).getD j false=true):j=i\/listed.getD j false=true:=by
 by_cases de:i=j
 ·exact .inl de.symm
 ·rw[getD_set_ne false de] at h;exact .inr h
theorem oM{listed:Array Bool}{i j:Nat}(h:listed.getD j false=true):(listed.setIfInBounds i true).getD j false=true:=by
 by_cases de:i=j
 ·subst de;have hl:i<listed.size:=by
   by_cases hl:i<listed.size
   ·exact hl
   ·simp[Array.getD,hl] at h
  simp[Array.getD,hl]
 ·rw[getD_set_ne false de];exact h
theorem Bk{listed:Array Bool}{i:Nat}(hr:i∈Region.ready .any ops listed)(h:∀ j o,ops[j]?=some o->listed.getD j false=true->∀ e∈o.after,Region.binds .any e=true->listed.getD e.on false=true) :
 ∀ j o,ops[j]?=some o->(listed.setIfInBounds i true).getD j false=true->∀ e∈o.after,Region.binds .any e=true->(listed.setIfInBounds i true).getD e.on false=true:=λj o ho hj e he hb=>by
 refine oM ?_;rcases CT hj with rfl | hj
 ·obtain⟨_,o',ho',be⟩:=mem_ready.1 hr;rw[ho] at ho';cases ho';exact be e he hb
 ·exact h j o ho hj e he hb
theorem xJ{w:World}{D A:List Nat}{dst:Nat->Nat}{val:Nat->Value}{base:List (Nat×Value)}{m p:Nat}{ds:List Deferred}
 (hw:∀ (i:Nat) (o:Oper),ops[i]?=some o->∀ e∈o.after,e.on<i) (hp:p<ops.size) (ji:p∉D)
 (CL:∀ (i:Nat) (o:Oper),ops[i]?=some o->i∉D->i≠p->∃ e∈o.after,Region.binds .any e=true/\e.on∉D/\e.on<ops.size)
 (vW:∀ i∈D,i∉A->∃ o:Oper,ops[i]?=some o/\o.dst=some (dst i)) (ab:∀ i∈D,dst i<m) (mB:∀ i∈D,∀ j∈D,j≠i->dst i≠dst j) (gV:∀ i∈D,∀ q∈base,dst i≠q.1)
 (hy:∀ i∈D,i∉A->∀ o:Oper,ops[i]?=some o->∀ a:Act,(∀ q∈base,a.eval (.tmp q.1)=q.2)->(∀ e∈o.after,Region.binds .any e=true->e.on∈D->a.eval (.tmp (dst e.on))=val e.on)->YieldsIn P ops (λw'=>w'=w) o (val i) a)
 (rR:∀ f listed a,Held ops D A dst val base m ds (f+1) listed a->p∈Region.ready .any ops listed->wpOp P ops Q p (wpAny P .any ops Q f (listed.setIfInBounds p true)) a w) :
 ∀ f listed a,Held ops D A dst val base m ds f listed a->wpAny P .any ops Q f listed a w:=by
 intro f
 induction f with
 | zero=>intro listed a h;exact absurd h.good (kI.none hp ji)
 | succ f ih=>
  intro listed a h;have hg:=h.good;refine⟨λh0=>absurd h0 (Tg hw hg.size p hp (hg.not p hp ji)),λi hi=>?_⟩;obtain⟨hr,o,ho,be⟩:=mem_ready.1 hi;by_cases hip:i=p
  ·subst hip;exact rR f listed a h hi
  ·have fX:i∈D:=Decidable.byContradiction λfX=>by
    obtain⟨e,he,pI,kj,hes⟩:=CL i o ho fX hip;have h1:=be e he pI;have h2:=hg.not e.on hes kj;have h3:e.on<listed.size:=by rw[hg.size];exact hes
    simp[Array.getD,h3] at h1 h2;rw[h1] at h2
    cases h2
   have aC:i∉A:=λhA=>by
    have h1:=h.done i hA;have h3:i<listed.size:=by rw[hg.size];exact (eQ.1 ho).1
    simp[Array.getD,h3] at h1 hr;rw[h1] at hr;cases hr
   obtain⟨o',ho',hd⟩:=vW i fX aC;rw[ho] at ho';cases ho';have BW:∀ e∈o.after,Region.binds .any e=true->e.on∈D->a.eval (.tmp (dst e.on))=val e.on:=λe he pI hD=>hg.val _ hD (be e he pI);have hq:=kI.step (P:=P) hg fX hr ho hd (ab i fX) (mB i fX) (gV i fX) (hy i fX aC o ho a hg.base BW);exact wpOp_of_qOp (C:=λw'=>w'=w) rfl (λa' w' hw' h'=>by subst hw';exact ih _ a' ⟨h',λj hj=>oM (h.done j hj),Bk hi h.clo⟩) hq
theorem Held.act{D A D':List Nat}{dst:Nat->Nat}{val val':Nat->Value}{base:List (Nat×Value)}{m p f:Nat}{ds:List Deferred}{listed:Array Bool}{a:Act}{v:Value}(h:Held ops D A dst val base m ds (f+1) listed a)(hp:p∈Region.ready .any ops listed)
 (ji:p∉D) (hD:∀ i,i∉D'->i∉D/\i≠p) (hval:∀ i∈D,val' i=val i) (KR:val' p=v) (ab:dst p<m) (mB:∀ j∈D,dst p≠dst j) (hb:∀ q∈base,dst p≠q.1) (dN:p<ops.size) :
 Held ops D' (p::A) dst val' base m ds f (listed.setIfInBounds p true) (a.put (some (dst p)) v):=by
 have hg:=h.good;have eV:=(mem_ready.1 hp).1;have dw:p<listed.size:=by rw[hg.size];exact dN
 have ae:listed[p]=false:=by simpa [Array.getD,dw] using eV
 refine⟨⟨by simp[Act.put,hg.defs],by simp[hg.size],?_,?_,?_,?_,by simp[Act.put,hg.tmps]⟩,?_,Bk hp h.clo⟩
 ·have h1:=hg.left;rw[Array.toList_setIfInBounds,List.count_set (by simpa using dw)];simp[ae,h1]
 ·intro j hj jM;obtain⟨h1,h2⟩:=hD j jM
  have:=hg.not j hj h1
  rw[getD_set_ne true (λe=>h2 e.symm)];exact this
 ·intro j hj hl;rcases CT hl with rfl | hl
  ·rw[KR];exact FQ a _ _ (by rw[hg.tmps];exact ab)
  ·have jM:j∈D:=Decidable.byContradiction λjM=>by
    by_cases sh:j<ops.size
    ·have h1:=hg.not j sh jM;have h3:j<listed.size:=by rw[hg.size];exact sh
     simp[Array.getD,h3] at h1 hl;rw[h1] at hl;cases hl
    ·have h3:¬ j<listed.size:=by rw[hg.size];exact sh
     simp[Array.getD,h3] at hl
   rw[xq _ _ _ _ (mB j jM),hval j jM];exact hg.val j jM hl
 ·intro q hq;rw[xq _ _ _ _ (hb q hq)];exact hg.base q hq
 ·intro i hi;rcases List.mem_cons.1 hi with rfl | hi
  ·simp[Array.getD,dw]
  ·exact oM (h.done i hi)
def CS(ops:Array Oper)(p:Nat):Bool:=(List.range ops.size).all λi=>i == p||(List.range ops.size).any λj=>decide (i<j)&&match ops[j]? with
 | some o=>o.after.any λe=>Region.binds .any e&&e.on == i
 | none=>false
theorem Held.all{D A:List Nat}{dst:Nat->Nat}{val:Nat->Value}{base:List (Nat×Value)}{m p f:Nat}{ds:List Deferred}{listed:Array Bool}{a:Act}(h:Held ops D A dst val base m ds (f+1) listed a)(hp:p∈Region.ready .any ops listed)(hl:CS ops p=true) :
 f=0/\∀ i,i<ops.size->i≠p->listed.getD i false=true:=by
 unfold CS at hl;rw[List.all_eq_true] at hl;have key:∀ k i,ops.size - i=k->i<ops.size->i≠p->listed.getD i false=true:=by
  intro k
  induction k using Nat.strongRecOn with
  | ind k ih=>
   intro i hk his hip;have h1:=hl i (by rw[List.mem_range];exact his);simp only[Bool.or_eq_true,beq_iff_eq,hip,false_or,List.any_eq_true,List.mem_range,Bool.and_eq_true,Qa] at h1;obtain⟨j,hj,de,h2⟩:=h1;rw[pQ hj] at h2;simp only[Array.any_eq_true',Bool.and_eq_true,beq_iff_eq] at h2;obtain⟨e,he,hb,rfl⟩:=h2;by_cases wE:j=p
   ·subst wE;obtain⟨_,o,ho,be⟩:=mem_ready.1 hp;rw[pQ hj] at ho
    cases ho
    exact be e he hb
   ·exact h.clo j _ (pQ hj) (ih (ops.size - j) (by omega) j rfl hj wE) e he hb
 have dN:p<ops.size:=by
  obtain⟨_,o,ho,_⟩:=mem_ready.1 hp;exact (eQ.1 ho).1
 refine⟨?_,λi hi hne=>key _ i rfl hi hne⟩;have ay:=h.good.size;have bIK:=h.good.left;have hc:listed.toList.count false<=1:=by
  have dY:p<listed.toList.length:=by simp[ay,dN]
  have be:∀ j (hj:j<listed.toList.length),j≠p->listed.toList[j]=true:=λj hj hne=>by
   have hj':j<listed.size:=by simpa using hj
   have:=key _ j rfl (by rw[<-ay];exact hj') hne
   simpa [Array.getD,hj'] using this
  have e:listed.toList=listed.toList.take p++listed.toList[p]::listed.toList.drop (p+1):=by
   rw[<-sQ dY,List.take_append_drop]
  rw[e,List.count_append,List.count_cons];have c1:(listed.toList.take p).count false=0:=List.count_eq_zero.2 λhm=>by
   obtain⟨j,hj,sf⟩:=nQ.1 hm;rw[List.getElem_take] at sf;rw[List.length_take] at hj;rw[be j (by omega) (by omega)] at sf
   cases sf
  have c2:(listed.toList.drop (p+1)).count false=0:=List.count_eq_zero.2 λhm=>by
   obtain⟨j,hj,sf⟩:=nQ.1 hm;rw[List.getElem_drop] at sf;rw[List.length_drop] at hj;rw[be _ (by omega) (by omega)] at sf
   cases sf
  rw[c1,c2];split<;>omega
 omega
theorem Held.start{D:List Nat}{dst:Nat->Nat}{val:Nat->Value}{base:List (Nat×Value)}{m:Nat}{a:Act}(hb:∀ q∈base,a.eval (.tmp q.1)=q.2)(hm:a.tmps.size=m):Held ops D [] dst val base m a.defers ops.size (Array.replicate ops.size false) a:=
 ⟨kI.start hb hm,(λ_ h=>by cases h),λj o ho hj=>by simp[Array.getD] at hj⟩
end
end
section
open Go.RowKit
theorem C3{md:Region.Mode}{ops:Array Oper}{listed:Array Bool}(h:∀ i,i<ops.size->listed.getD i false=true)(hs:listed.size=ops.size):Region.ready md ops listed = []:=by
 apply List.eq_nil_iff_forall_not_mem.2;intro i hi;obtain⟨h1,o,ho,_⟩:=mem_ready.1 hi;have ab:=(eQ.1 ho).1;have h2:=h i ab;have h3:i<listed.size:=by rw[hs];exact ab
 simp[Array.getD,h3] at h1 h2;rw[h1] at h2;cases h2
def iA(a:Act):List (Nat×Value)->Act
 | []=>a
 | q::l=>iA (a.put (some q.1) q.2) l
theorem Yd{a b:Act}(hs:a.tmps.size=b.tmps.size)(hd:a.defers=b.defers)(h:∀ j,a.eval (.tmp j)=b.eval (.tmp j)):a=b:=by
 obtain⟨t,d⟩:=a;obtain⟨t',d'⟩:=b;simp only at hs hd;subst hd;congr 1;apply Array.ext hs;intro i h1 h2
 have:=h i
 simpa [Act.eval,Array.getD_eq_getD_getElem?,h1,h2] using this
theorem S9{a a0:Act}(hs:a.tmps.size=a0.tmps.size)(hd:a.defers=a0.defers):∀ (l:List (Nat×Value)),(∀ q∈l,q.1<a0.tmps.size)->(∀ q∈l,a.eval (.tmp q.1)=q.2)->(∀ j,(∀ q∈l,q.1≠j)->a.eval (.tmp j)=a0.eval (.tmp j))->a=iA a0 l:=by
 intro l
 induction l generalizing a0 with
 | nil=>intro _ _ h;exact Yd hs hd (λj=>h j (λq hq=>by cases hq))
 | cons q l ih=>
  intro ab h1 h2;rw[iA];refine ih (by simpa [Act.put] using hs) (by simpa [Act.put] using hd) (λp hp=>by have:=ab p (mQ _ hp);simpa [Act.put] using this) (λp hp=>h1 p (mQ _ hp)) (λj hj=>?_);by_cases hq:q.1=j
  ·subst hq;rw[FQ _ _ _ (ab q (by simp))];exact h1 q (by simp)
  ·rw[xq _ _ _ _ hq];refine h2 j (λp hp=>?_);rcases List.mem_cons.1 hp with rfl | hp
   ·exact hq
   ·exact hj p hp
def eJ(a0:Act)(m:Nat)(ds:List Nat):List (Nat×Value):=((List.range m).filter λj=>!ds.contains j).map λj=>(j,a0.eval (.tmp j))
theorem FX{a0:Act}{m:Nat}{ds:List Nat} : ∀ q∈eJ a0 m ds,a0.eval (.tmp q.1)=q.2:=λq hq=>by
 obtain⟨j,_,rfl⟩:=List.mem_map.1 hq;rfl
theorem mM{a0:Act}{m:Nat}{ds:List Nat}{d:Nat}(hd:d∈ds):∀ q∈eJ a0 m ds,d≠q.1:=λq hq e=>by
 obtain⟨j,hj,rfl⟩:=List.mem_map.1 hq
 have:=(List.mem_filter.1 hj).2
 simp only at e;subst e;simp[hd] at this
theorem aJ{a0 a:Act}{m:Nat}{ds:List Nat}(h:∀ q∈eJ a0 m ds,a.eval (.tmp q.1)=q.2){j:Nat}(hj:j<m)(hd:j∉ds):a.eval (.tmp j)=a0.eval (.tmp j):=
 h (j,a0.eval (.tmp j)) (List.mem_map.2 ⟨j,List.mem_filter.2 ⟨List.mem_range.2 hj,by simpa using hd⟩,rfl⟩)
theorem zT{P:Program}{c:Code}{Q:Exit->Act->World->Prop}{a:Act}{w:World}(h:∀ a0,a0=a->c.wp P Q a0 w):c.wp P Q a w:=h a rfl
variable {ops:Array Oper}
theorem Held.frame{D A:List Nat}{dst:Nat->Nat}{val:Nat->Value}{m f:Nat}{listed:Array Bool}{a a0:Act}(h:Held ops D A dst val (eJ a0 m (D.map dst)) m a0.defers f listed a)(hm:a0.tmps.size=m)(be:∀ i∈D,listed.getD i false=true)(ab:∀ i∈D,dst i<m) :
 a=iA a0 (D.map λi=>(dst i,val i)):=by
 refine S9 (by rw[h.good.tmps,hm]) h.good.defs _ (λq hq=>?_) (λq hq=>?_) (λj hj=>?_)
 ·obtain⟨i,hi,rfl⟩:=List.mem_map.1 hq;rw[hm];exact ab i hi
 ·obtain⟨i,hi,rfl⟩:=List.mem_map.1 hq;exact h.good.val i hi (be i hi)
 ·by_cases B9:j<m
  ·refine aJ h.good.base B9 (λhd=>?_);obtain⟨i,hi,rfl⟩:=List.mem_map.1 hd;exact hj _ (List.mem_map.2 ⟨i,hi,rfl⟩) rfl
  ·have h1:=h.good.tmps;simp[Act.eval,Array.getD_eq_getD_getElem?,h1,hm,B9]
theorem agK{a0 a:Act}{m:Nat}{ds:List Nat}(h:∀ q∈eJ a0 m ds,a.eval (.tmp q.1)=q.2){j:Nat}{v:Value}(e:a0.eval (.tmp j)=v)(hj:j<m:=by decide)(hd:j∉ds:=by decide):a.eval (.tmp j)=v:=(aJ h hj hd).trans e
end
section
open Go.RowKit
section
variable {P:Program} {ops:Array Oper} {Q:Exit->Act->World->Prop}
theorem Th{listed:Array Bool}(hw:∀ (i:Nat) (o:Oper),ops[i]?=some o->∀ e∈o.after,Region.binds .any e=true->e.on<i)(ay:listed.size=ops.size):∀ p,p<ops.size->listed.getD p true=false->Region.ready .any ops listed≠[]:=by
 intro p
 induction p using Nat.strongRecOn with
 | _ p ih=>
  intro hp hl;by_cases be:∀ e∈(ops[p]).after,Region.binds .any e=true->listed.getD e.on false=true
  ·intro h0
   have:p∈Region.ready .any ops listed:=mem_ready.2 ⟨hl,ops[p],pQ hp,be⟩
   rw[h0] at this
   cases this
  ·simp only[Classical.not_forall] at be;obtain⟨e,he,hb,hne⟩:=be;have ab:=hw p _ (pQ hp) e he hb;refine ih e.on ab (by omega) ?_;have h1:e.on<listed.size:=by omega
   simpa [Array.getD,h1] using hne
def LS(ops:Array Oper):Bool:=(List.range ops.size).all λi=>match ops[i]? with
 | some o=>o.after.all λe=>!Region.binds .any e||decide (e.on<i)
 | none=>true
theorem Ue(h:LS ops=true):∀ (i:Nat) (o:Oper),ops[i]?=some o->∀ e∈o.after,Region.binds .any e=true->e.on<i:=by
 intro i o ho e he hb;unfold LS at h;rw[List.all_eq_true] at h;have h1:=h i (by rw[List.mem_range];exact (eQ.1 ho).1);rw[ho] at h1;simp only[Array.all_eq_true_iff_forall_mem,Bool.or_eq_true,Qa,Bool.not_eq_true'] at h1;exact (h1 e he).resolve_left (by rw[hb];simp)
theorem brQ{w:World}{D A:List Nat}{dst:Nat->Nat}{val:Nat->Value}{base:List (Nat×Value)}{m p:Nat}{ds:List Deferred}
 (hw:∀ (i:Nat) (o:Oper),ops[i]?=some o->∀ e∈o.after,Region.binds .any e=true->e.on<i) (hp:p<ops.size) (ji:p∉D)
 (CL:∀ (i:Nat) (o:Oper),ops[i]?=some o->i∉D->i≠p->∃ e∈o.after,Region.binds .any e=true/\e.on∉D/\e.on<ops.size)
 (vW:∀ i∈D,i∉A->∃ o:Oper,ops[i]?=some o/\o.dst=some (dst i)) (ab:∀ i∈D,dst i<m) (mB:∀ i∈D,∀ j∈D,j≠i->dst i≠dst j) (gV:∀ i∈D,∀ q∈base,dst i≠q.1)
 (hy:∀ i∈D,i∉A->∀ o:Oper,ops[i]?=some o->∀ a:Act,(∀ q∈base,a.eval (.tmp q.1)=q.2)->(∀ e∈o.after,Region.binds .any e=true->e.on∈D->a.eval (.tmp (dst e.on))=val e.on)->YieldsIn P ops (λw'=>w'=w) o (val i) a)
 (rR:∀ f listed a,Held ops D A dst val base m ds (f+1) listed a->p∈Region.ready .any ops listed->wpOp P ops Q p (wpAny P .any ops Q f (listed.setIfInBounds p true)) a w) :
 ∀ f listed a,Held ops D A dst val base m ds f listed a->wpAny P .any ops Q f listed a w:=by
 intro f
 induction f with
 | zero=>intro listed a h;exact absurd h.good (kI.none hp ji)
 | succ f ih=>
  intro listed a h;have hg:=h.good;refine⟨λh0=>absurd h0 (Th hw hg.size p hp (hg.not p hp ji)),λi hi=>?_⟩;obtain⟨hr,o,ho,be⟩:=mem_ready.1 hi;by_cases hip:i=p
  ·subst hip;exact rR f listed a h hi
  ·have fX:i∈D:=Decidable.byContradiction λfX=>by
    obtain⟨e,he,pI,kj,hes⟩:=CL i o ho fX hip;have h1:=be e he pI;have h2:=hg.not e.on hes kj;have h3:e.on<listed.size:=by rw[hg.size];exact hes
    simp[Array.getD,h3] at h1 h2;rw[h1] at h2
    cases h2
   have aC:i∉A:=λhA=>by
    have h1:=h.done i hA;have h3:i<listed.size:=by rw[hg.size];exact (eQ.1 ho).1
    simp[Array.getD,h3] at h1 hr;rw[h1] at hr;cases hr
   obtain⟨o',ho',hd⟩:=vW i fX aC;rw[ho] at ho';cases ho';have BW:∀ e∈o.after,Region.binds .any e=true->e.on∈D->a.eval (.tmp (dst e.on))=val e.on:=λe he pI hD=>hg.val _ hD (be e he pI);have hq:=kI.step (P:=P) hg fX hr ho hd (ab i fX) (mB i fX) (gV i fX) (hy i fX aC o ho a hg.base BW);exact wpOp_of_qOp (C:=λw'=>w'=w) rfl (λa' w' hw' h'=>by subst hw';exact ih _ a' ⟨h',λj hj=>oM (h.done j hj),Bk hi h.clo⟩) hq
def Lg(ops:Array Oper)(R:List Nat)(p:Nat):Bool:=(List.range ops.size).all λi=>i == p||R.contains i||(List.range ops.size).any λj=>decide (i<j)&&!R.contains j&&match ops[j]? with
 | some o=>o.after.any λe=>Region.binds .any e&&e.on == i
 | none=>false
theorem Held.most{D A R:List Nat}{dst:Nat->Nat}{val:Nat->Value}{base:List (Nat×Value)}{m p f:Nat}{ds:List Deferred}{listed:Array Bool}{a:Act}(h:Held ops D A dst val base m ds (f+1) listed a)(hp:p∈Region.ready .any ops listed)(hl:Lg ops R p=true) :
 ∀ i,i<ops.size->i≠p->i∉R->listed.getD i false=true:=by
 unfold Lg at hl;rw[List.all_eq_true] at hl;have key:∀ k i,ops.size - i=k->i<ops.size->i≠p->i∉R->listed.getD i false=true:=by
  intro k
  induction k using Nat.strongRecOn with
  | ind k ih=>
   intro i hk his hip tX;have h1:=hl i (by rw[List.mem_range];exact his);simp only[Bool.or_eq_true,beq_iff_eq,hip,List.contains_iff_mem,tX,false_or,List.any_eq_true,List.mem_range,Bool.and_eq_true,Qa,Bool.not_eq_true'] at h1;obtain⟨j,hj,⟨de,E0⟩,h2⟩:=h1;have E0:j∉R:=λe=>by rw[List.contains_iff_mem.2 e] at E0;cases E0
   rw[pQ hj] at h2;simp only[Array.any_eq_true',Bool.and_eq_true,beq_iff_eq] at h2;obtain⟨e,he,hb,rfl⟩:=h2;by_cases wE:j=p
   ·subst wE;obtain⟨_,o,ho,be⟩:=mem_ready.1 hp;rw[pQ hj] at ho
    cases ho
    exact be e he hb
   ·exact h.clo j _ (pQ hj) (ih (ops.size - j) (by omega) j rfl hj wE E0) e he hb
 exact λi hi hne hR=>key _ i rfl hi hne hR
structure Rest(ops:Array Oper)(R D:List Nat)(dst:Nat->Nat)(val:Nat->Value)(base:List (Nat×Value))(m:Nat)(ds:List Deferred)(f:Nat)(listed:Array Bool)(a:Act):Prop where
 defs:a.defers=ds
 size:listed.size=ops.size
 left:listed.toList.count false=f
 val:∀ i∈D,listed.getD i false=true->a.eval (.tmp (dst i))=val i
 base:∀ q∈base,a.eval (.tmp q.1)=q.2
 tmps:a.tmps.size=m
 out:∀ i,i<ops.size->i∉R->listed.getD i false=true
theorem Held.rest{D A R:List Nat}{dst:Nat->Nat}{val:Nat->Value}{base:List (Nat×Value)}{m p f:Nat}{ds:List Deferred}{listed:Array Bool}{a:Act}(h:Held ops D A dst val base m ds (f+1) listed a)(hp:p∈Region.ready .any ops listed)(ji:p∉D)(hl:Lg ops R p=true) :
 Rest ops R D dst val base m ds f (listed.setIfInBounds p true) a:=by
 have hg:=h.good;obtain⟨eV,o,ho,_⟩:=mem_ready.1 hp;have dN:p<ops.size:=(eQ.1 ho).1;have dw:p<listed.size:=by rw[hg.size];exact dN
 have ae:listed[p]=false:=by simpa [Array.getD,dw] using eV
 refine⟨hg.defs,by simp[hg.size],?_,λi hi hl=>?_,hg.base,hg.tmps,λi hi hR=>?_⟩
 ·have h1:=hg.left;rw[Array.toList_setIfInBounds,List.count_set (by simpa using dw)];simp[ae,h1]
 ·rcases CT hl with rfl | hl
  ·exact absurd hi ji
  ·exact hg.val i hi hl
 ·by_cases hip:i=p
  ·subst hip;simp[Array.getD,dw]
  ·exact oM (h.most hp hl i hi hip hR)
theorem brK{w:World}{R D:List Nat}{dst:Nat->Nat}{val:Nat->Value}{a0:Act}{m:Nat}(hm:a0.tmps.size=m)
 (hw:∀ (i:Nat) (o:Oper),ops[i]?=some o->∀ e∈o.after,Region.binds .any e=true->e.on<i) (JC:∀ i∈R,i∈D) (PC:∀ i∈D,i<ops.size)
 (vW:∀ i∈R,∃ o:Oper,ops[i]?=some o/\o.dst=some (dst i)) (ab:∀ i∈D,dst i<m) (mB:∀ i∈D,∀ j∈D,j≠i->dst i≠dst j) (hrel:∀ i∈R,∀ o:Oper,ops[i]?=some o->∀ e∈o.after,Region.binds .any e=true->e.on∈D)
 (hy:∀ i∈R,∀ o:Oper,ops[i]?=some o->∀ a:Act,(∀ e∈o.after,Region.binds .any e=true->a.eval (.tmp (dst e.on))=val e.on)->YieldsIn P ops (λw'=>w'=w) o (val i) a)
 (rZ:Q .normal (iA a0 (D.map λi=>(dst i,val i))) w) :
 ∀ f listed a,Rest ops R D dst val (eJ a0 m (D.map dst)) m a0.defers f listed a->wpAny P .any ops Q f listed a w:=by
 intro f
 induction f with
 | zero=>
  intro listed a h;have be:∀ i,i<ops.size->listed.getD i false=true:=λi hi=>by
   have h1:=h.left;have dw:i<listed.size:=by rw[h.size];exact hi
   rw[List.count_eq_zero] at h1
   cases hb:listed[i] with
   | true=>simp[Array.getD,dw,hb]
   | false=>exact absurd (by rw[<-hb];simp) h1
  refine⟨C3 be h.size,?_⟩;have e:a=iA a0 (D.map λi=>(dst i,val i)):=by
   refine S9 (by rw[h.tmps,hm]) h.defs _ (λq hq=>?_) (λq hq=>?_) (λj hj=>?_)
   ·obtain⟨i,hi,rfl⟩:=List.mem_map.1 hq;rw[hm];exact ab i hi
   ·obtain⟨i,hi,rfl⟩:=List.mem_map.1 hq;exact h.val i hi (be i (PC i hi))
   ·by_cases B9:j<m
    ·refine aJ h.base B9 (λhd=>?_);obtain⟨i,hi,rfl⟩:=List.mem_map.1 hd;exact hj _ (List.mem_map.2 ⟨i,hi,rfl⟩) rfl
    ·have h1:=h.tmps;simp[Act.eval,Array.getD_eq_getD_getElem?,h1,hm,B9]
  rw[e];exact rZ
 | succ f ih=>
  intro listed a h;refine⟨λh0=>?_,λi hi=>?_⟩
  ·have h1:=h.left;have h2:false∈listed.toList:=by rw[<-List.count_pos_iff];omega
   obtain⟨i,hi,he⟩:=nQ.1 h2;have dw:i<listed.size:=by simpa using hi
   exact absurd h0 (Th hw h.size i (by rw[<-h.size];exact dw) (by simpa [Array.getD,dw] using he))
  ·obtain⟨hr,o,ho,be⟩:=mem_ready.1 hi;have B7:=(eQ.1 ho).1;have dw:i<listed.size:=by rw[h.size];exact B7
   have tX:i∈R:=Decidable.byContradiction λhR=>by
    have h1:=h.out i B7 hR;simp[Array.getD,dw] at h1 hr;rw[h1] at hr;cases hr
   have ae:listed[i]=false:=by simpa [Array.getD,dw] using hr
   obtain⟨o',ho',hd⟩:=vW i tX;rw[ho] at ho';cases ho';have hq:qOp P ops (λw'=>w'=w) i (Rest ops R D dst val (eJ a0 m (D.map dst)) m a0.defers f (listed.setIfInBounds i true)) a:=by
    refine (hy i tX o ho a (λe he hb=>h.val _ (hrel i tX o ho e he hb) (be e he hb))).qOp ho ?_;rw[hd];refine⟨by simp[Act.put,h.defs],by simp[h.size],?_,λj hj hl=>?_,λq hq=>?_,by simp[Act.put,h.tmps],λj hj hR=>oM (h.out j hj hR)⟩
    ·have h1:=h.left;rw[Array.toList_setIfInBounds,List.count_set (by simpa using dw)];simp[ae,h1]
    ·by_cases hne:i=j
     ·subst hne;exact FQ a _ _ (by rw[h.tmps];exact ab i (JC i tX))
     ·rw[xq _ _ _ _ (mB i (JC i tX) j hj (λe=>hne e.symm))];refine h.val j hj ?_;rcases CT hl with rfl | hl
      ·exact absurd rfl hne
      ·exact hl
    ·rw[xq _ _ _ _ (mM (List.mem_map.2 ⟨i,JC i tX,rfl⟩) q hq)];exact h.base q hq
   exact wpOp_of_qOp (C:=λw'=>w'=w) rfl (λa' w' hw' h'=>by subst hw';exact ih _ a' h') hq
end
section
variable {P:Program} {ops:Array Oper} {Q:Exit->Act->World->Prop}
theorem brZ{w:World}{D A T:List Nat}{dst:Nat->Nat}{val:Nat->Value}{base:List (Nat×Value)}{m p0:Nat}{ds:List Deferred}
 (hw:∀ (i:Nat) (o:Oper),ops[i]?=some o->∀ e∈o.after,e.on<i) (sB:p0<ops.size) (QU:p0∉D)
 (CL:∀ (i:Nat) (o:Oper),ops[i]?=some o->i∉D->i∉T->∃ e∈o.after,Region.binds .any e=true/\e.on∉D/\e.on<ops.size)
 (vW:∀ i∈D,i∉A->∃ o:Oper,ops[i]?=some o/\o.dst=some (dst i)) (ab:∀ i∈D,dst i<m) (mB:∀ i∈D,∀ j∈D,j≠i->dst i≠dst j) (gV:∀ i∈D,∀ q∈base,dst i≠q.1)
 (hy:∀ i∈D,i∉A->∀ o:Oper,ops[i]?=some o->∀ a:Act,(∀ q∈base,a.eval (.tmp q.1)=q.2)->(∀ e∈o.after,Region.binds .any e=true->e.on∈D->a.eval (.tmp (dst e.on))=val e.on)->YieldsIn P ops (λw'=>w'=w) o (val i) a)
 (rR:∀ p∈T,∀ f listed a,Held ops D A dst val base m ds (f+1) listed a->p∈Region.ready .any ops listed->wpOp P ops Q p (wpAny P .any ops Q f (listed.setIfInBounds p true)) a w) :
 ∀ f listed a,Held ops D A dst val base m ds f listed a->wpAny P .any ops Q f listed a w:=by
 intro f
 induction f with
 | zero=>intro listed a h;exact absurd h.good (kI.none sB QU)
 | succ f ih=>
  intro listed a h;have hg:=h.good;refine⟨λh0=>absurd h0 (Tg hw hg.size p0 sB (hg.not p0 sB QU)),λi hi=>?_⟩;obtain⟨hr,o,ho,be⟩:=mem_ready.1 hi;by_cases hip:i∈T
  ·exact rR i hip f listed a h hi
  ·have fX:i∈D:=Decidable.byContradiction λfX=>by
    obtain⟨e,he,pI,kj,hes⟩:=CL i o ho fX hip;have h1:=be e he pI;have h2:=hg.not e.on hes kj;have h3:e.on<listed.size:=by rw[hg.size];exact hes
    simp[Array.getD,h3] at h1 h2;rw[h1] at h2
    cases h2
   have aC:i∉A:=λhA=>by
    have h1:=h.done i hA;have h3:i<listed.size:=by rw[hg.size];exact (eQ.1 ho).1
    simp[Array.getD,h3] at h1 hr;rw[h1] at hr;cases hr
   obtain⟨o',ho',hd⟩:=vW i fX aC;rw[ho] at ho';cases ho';have BW:∀ e∈o.after,Region.binds .any e=true->e.on∈D->a.eval (.tmp (dst e.on))=val e.on:=λe he pI hD=>hg.val _ hD (be e he pI);have hq:=kI.step (P:=P) hg fX hr ho hd (ab i fX) (mB i fX) (gV i fX) (hy i fX aC o ho a hg.base BW);exact wpOp_of_qOp (C:=λw'=>w'=w) rfl (λa' w' hw' h'=>by subst hw';exact ih _ a' ⟨h',λj hj=>oM (h.done j hj),Bk hi h.clo⟩) hq
end
section
variable {P:Program} {ops:Array Oper} {Q:Exit->Act->World->Prop}
def stB(ops:Array Oper)(ord D A:List Nat)(p:Nat)(dst:Nat->Nat):Bool:=
 LS ops&&LQ ops D p&&decide (p<ops.size)&&!D.contains p&&D.all λi=>ord.contains i&&(A.contains i||match ops[i]? with
  | some o=>o.dst == some (dst i)
  | none=>false)
def O7(ops:Array Oper)(D:List Nat)(p k:Nat):Bool:=D.contains k&&match ops[p]? with
 | some o=>o.after.any λe=>Region.binds .any e&&e.on == k
 | none=>false
theorem dt{w:World}{ord D A:List Nat}{dst:Nat->Nat}{val:Nat->Value}{a0:Act}{m:Nat}(p:Nat){dsts:List Nat}{ds:List Deferred}{f:Nat}{listed:Array Bool}{a:Act}
 (h1:∀ i∈ord,dst i<m/\dst i∈dsts) (h2:∀ i∈ord,∀ j∈ord,j≠i->dst i≠dst j)
 (h:Held ops D A dst val (eJ a0 m dsts) m ds f listed a) (hB:stB ops ord D A p dst=true)
 (hy:∀ i∈D,i∉A->∀ o:Oper,ops[i]?=some o->∀ a:Act,(∀ q∈eJ a0 m dsts,a.eval (.tmp q.1)=q.2)->(∀ e∈o.after,Region.binds .any e=true->e.on∈D->a.eval (.tmp (dst e.on))=val e.on)->YieldsIn P ops (λw'=>w'=w) o (val i) a)
 (rR:∀ f listed a,Held ops D A dst val (eJ a0 m dsts) m ds (f+1) listed a->p∈Region.ready .any ops listed->((k:Nat)->(_:O7 ops D p k=true:=by kernel_rfl)->a.eval (.tmp (dst k))=val k)->wpOp P ops Q p (wpAny P .any ops Q f (listed.setIfInBounds p true)) a w) :
 wpAny P .any ops Q f listed a w:=by
 simp only[stB,Bool.and_eq_true,Qa,Bool.not_eq_true',List.all_eq_true,List.contains_iff_mem,Bool.or_eq_true] at hB;obtain⟨⟨⟨⟨b1,b2⟩,b3⟩,b4⟩,b5⟩:=hB;have ji:p∉D:=λe=>by rw[List.contains_iff_mem.2 e] at b4;cases b4
 refine brQ (Ue b1) b3 ji (xH b2) (λi hi hA=>?_) (λi hi=>(h1 i (b5 i hi).1).1) (λi hi j hj=>h2 i (b5 i hi).1 j (b5 j hj).1) (λi hi=>mM (h1 i (b5 i hi).1).2) hy (λf listed a hH hr=>rR f listed a hH hr (λk hk=>?_)) f listed a h
 ·have:=(b5 i hi).2.resolve_left hA
  cases ho:ops[i]? with
  | none=>rw[ho] at this;cases this
  | some o=>rw[ho] at this;exact⟨o,rfl,by simpa using this⟩
 ·obtain⟨_,o,ho,be⟩:=mem_ready.1 hr;simp only[O7,ho,Bool.and_eq_true,List.contains_iff_mem] at hk;obtain⟨hkD,hk⟩:=hk;rw[Array.any_eq_true'] at hk;obtain⟨e,he,h3⟩:=hk;simp only[Bool.and_eq_true,beq_iff_eq] at h3;obtain⟨h4,rfl⟩:=h3;exact hH.good.val _ hkD (be e he h4)
theorem rY{D:List Nat}{dst:Nat->Nat}{val:Nat->Value}{m:Nat}{dsts:List Nat}{a:Act}(hm:a.tmps.size=m):Held ops D [] dst val (eJ a m dsts) m a.defers ops.size (Array.replicate ops.size false) a:=Held.start (λq hq=>FX q hq) hm
def nxB(ops:Array Oper)(ord D D':List Nat)(p:Nat):Bool:=ord.contains p&&decide (p<ops.size)&&!D.contains p&&D'.contains p&&D.all λi=>D'.contains i&&ord.contains i
theorem Held.next{ord D A D':List Nat}{dst:Nat->Nat}{val val':Nat->Value}{a0:Act}{m p f:Nat}{dsts:List Nat}{ds:List Deferred}{listed:Array Bool}{a:Act}{v:Value}(h:Held ops D A dst val (eJ a0 m dsts) m ds (f+1) listed a)
 (h1:∀ i∈ord,dst i<m/\dst i∈dsts) (h2:∀ i∈ord,∀ j∈ord,j≠i->dst i≠dst j) (hp:p∈Region.ready .any ops listed) (KR:val' p=v:=by rfl) (hB:nxB ops ord D D' p=true:=by kernel_rfl)
 (hval:∀ i∈D,val' i=val i:=by intro i hi;(repeat' (rcases hi with _ | ⟨_,hi⟩))<;>rfl) :
 Held ops D' (p::A) dst val' (eJ a0 m dsts) m ds f (listed.setIfInBounds p true) (a.put (some (dst p)) v):=by
 simp only[nxB,Bool.and_eq_true,Qa,Bool.not_eq_true',List.all_eq_true,List.contains_iff_mem] at hB;obtain⟨⟨⟨⟨b1,b2⟩,b3⟩,b4⟩,b5⟩:=hB;have ji:p∉D:=λe=>by rw[List.contains_iff_mem.2 e] at b3;cases b3
 exact h.act hp ji (λi hi=>⟨λe=>hi (b5 i e).1,λe=>hi (e ▸ b4)⟩) hval KR (h1 p b1).1 (λj hj=>h2 p b1 j (b5 j hj).2 (λe=>ji (e ▸ hj))) (mM (h1 p b1).2) b2
theorem uD{w:World}{D A:List Nat}{dst:Nat->Nat}{val:Nat->Value}{a0 a b:Act}{m p f:Nat}{dsts:List Nat}{listed:Array Bool}(h:Held ops D A dst val (eJ a0 m (D.map dst)) m a0.defers (f+1) listed a)(hp:p∈Region.ready .any ops listed)(hm:a0.tmps.size=m)
 (h1:∀ i∈D,dst i<m/\dst i∈dsts) (hl:(CS ops p&&D.all λi=>decide (i<ops.size)&&i != p)=true) (rZ:a=iA a0 (D.map λi=>(dst i,val i))->Q .normal b w):wpAny P .any ops Q f (listed.setIfInBounds p true) b w:=by
 simp only[Bool.and_eq_true,List.all_eq_true,Qa,bne_iff_ne] at hl;obtain⟨rfl,jN⟩:=h.all hp hl.1;have hG:=h.good;have hf:=Held.frame h hm (λi hi=>jN i (hl.2 i hi).1 (hl.2 i hi).2) (λi hi=>(h1 i hi).1);refine⟨C3 (λi hi=>?_) (by rw[Array.size_setIfInBounds];exact hG.size),?_⟩
 ·by_cases hip:i=p
  ·subst hip;have hs:i<listed.size:=by rw[hG.size];exact hi
   simp[Array.getD,hs]
  ·exact oM (jN i hi hip)
 ·exact rZ hf
theorem dh{A B:Prop}{w:World}{R:World->Prop}(h:A)(k:R w):(A/\∀ w',w'=w->R w')\/B:=.inl ⟨h,λw' e=>e ▸ k⟩
end
def uy(e:Nat->Value)(p:Nat)(v:Value)(i:Nat):Value:=if i=p then v else e i
def onB(o:Oper)(f:Nat->Bool):Bool:=o.after.any λx=>Region.binds .any x&&f x.on
def Ee(o:Oper)(f:Nat->Bool):Bool:=o.after.all λx=>!Region.binds .any x||f x.on
def R3(ops:Array Oper)(ord T:List Nat)(p0 m:Nat)(dep:Nat->List Nat)(dst:Nat->Nat):Bool:=
 LR ops&&decide (p0<ops.size)&&!ord.contains p0&&CS ops p0&&((List.range ops.size).all λi=>i == p0||ord.contains i) &&
 (T.all λp=>ord.contains p&&dep p == [p])&&(ord.all λi=>(dep i).all (T.contains ·))&&(ord.all λi=>decide (i<ops.size)) &&
 (ord.all λi=>T.contains i||match ops[i]? with
   | some o=>o.dst == some (dst i)&&(dep i).all (λj=>onB o λk=>(dep k).contains j&&decide (k<ops.size))&&Ee o (λk=>ord.contains k&&(dep k).all ((dep i).contains ·))
   | none=>false) &&
 (match ops[p0]? with
   | some o=>T.all λj=>onB o λk=>(dep k).contains j&&decide (k<ops.size)
   | none=>false) &&
 (ord.all λi=>decide (dst i<m)&&ord.all λj=>j == i||!(dst i == dst j))
section
variable {P:Program} {ops:Array Oper} {Q:Exit->Act->World->Prop}
structure InvS(ops:Array Oper)(ord T:List Nat)(p0 m:Nat)(dep:Nat->List Nat)(dst:Nat->Nat):Prop where
 well:∀ (i:Nat) (o:Oper),ops[i]?=some o->∀ e∈o.after,e.on<i
 p0s:p0<ops.size
 p0o:p0∉ord
 last:CS ops p0=true
 all:∀ i,i<ops.size->i=p0\/i∈ord
 tord:∀ p∈T,p∈ord/\dep p = [p]
 depT:∀ i∈ord,∀ j∈dep i,j∈T
 size:∀ i∈ord,i<ops.size
 qdst:∀ i∈ord,i∉T->∃ o,ops[i]?=some o/\o.dst=some (dst i)
 qon:∀ i∈ord,i∉T->∀ o,ops[i]?=some o->∀ j∈dep i,∃ e∈o.after,Region.binds .any e=true/\j∈dep e.on/\e.on<ops.size
 qall:∀ i∈ord,i∉T->∀ o,ops[i]?=some o->∀ e∈o.after,Region.binds .any e=true->e.on∈ord/\∀ j∈dep e.on,j∈dep i
 p0on:∀ o,ops[p0]?=some o->∀ j∈T,∃ e∈o.after,Region.binds .any e=true/\j∈dep e.on/\e.on<ops.size
 lt:∀ i∈ord,dst i<m
 inj:∀ i∈ord,∀ j∈ord,j≠i->dst i≠dst j
theorem SG{o:Oper}{f:Nat->Bool}(h:onB o f=true):∃ e∈o.after,Region.binds .any e=true/\f e.on=true:=by
 unfold onB at h;rw[Array.any_eq_true'] at h;obtain⟨e,he,h2⟩:=h;simp only[Bool.and_eq_true] at h2;exact⟨e,he,h2⟩
theorem Yh{o:Oper}{f:Nat->Bool}(h:Ee o f=true):∀ e∈o.after,Region.binds .any e=true->f e.on=true:=by
 intro e he hb;unfold Ee at h;rw[Array.all_eq_true'] at h
 have:=h e he
 rw[hb] at this;simpa using this
theorem aIZ{ord T:List Nat}{p0 m:Nat}{dep:Nat->List Nat}{dst:Nat->Nat}(h:R3 ops ord T p0 m dep dst=true):InvS ops ord T p0 m dep dst:=by
 unfold R3 at h;simp only[Bool.and_eq_true,Bool.not_eq_true',Qa,List.all_eq_true,Bool.or_eq_true,beq_iff_eq,List.contains_iff_mem,List.mem_range] at h;obtain⟨⟨⟨⟨⟨⟨⟨⟨⟨⟨h1,h2⟩,h3⟩,h4⟩,h5⟩,h6⟩,h7⟩,h8⟩,h9⟩,ou⟩,tI⟩:=h;have key:∀ i∈ord,i∉T->∃ o,ops[i]?=some o/\o.dst=some (dst i)/\(∀ j∈dep i,onB o (λk=>(dep k).contains j&&decide (k<ops.size))=true)/\Ee o (λk=>ord.contains k&&(dep k).all ((dep i).contains ·))=true:=λi hi hT=>by
  have h:=(h9 i hi).resolve_left hT;split at h
  ·rename_i o ho;simp only[Bool.and_eq_true,beq_iff_eq,List.all_eq_true] at h;exact⟨o,ho,h.1.1,h.1.2,h.2⟩
  ·cases h
 refine⟨xI h1,h2,(λe=>by rw[List.contains_iff_mem.2 e] at h3;cases h3),h4,h5,h6,h7,h8,λi hi hT=>?_,λi hi hT o ho j hj=>?_,λi hi hT o ho e he hb=>?_,λo ho j hj=>?_,λi hi=>(tI i hi).1,λi hi j hj hne=>?_⟩
 ·obtain⟨o,ho,hd,_⟩:=key i hi hT;exact⟨o,ho,hd⟩
 ·obtain⟨o',ho',_,hk,_⟩:=key i hi hT;rw[ho] at ho';cases ho';obtain⟨e,he,hb,hf⟩:=SG (hk j hj);simp only[Bool.and_eq_true,Qa,List.contains_iff_mem] at hf;exact⟨e,he,hb,hf⟩
 ·obtain⟨o',ho',_,_,hk⟩:=key i hi hT;rw[ho] at ho';cases ho';have hf:=Yh hk e he hb;simp only[Bool.and_eq_true,List.contains_iff_mem,List.all_eq_true] at hf;exact hf
 ·rw[ho] at ou;simp only[List.all_eq_true] at ou;obtain⟨e,he,hb,hf⟩:=SG (ou j hj);simp only[Bool.and_eq_true,Qa,List.contains_iff_mem] at hf;exact⟨e,he,hb,hf⟩
 ·have:=((tI i hi).2 j hj).resolve_left hne
  simpa using this
def kc(ord:List Nat)(dep:Nat->List Nat)(A:List Nat):List Nat:=ord.filter λi=>(dep i).all (A.contains ·)
theorem lC{ord:List Nat}{dep:Nat->List Nat}{A:List Nat}{i:Nat} : i∈kc ord dep A↔i∈ord/\∀ j∈dep i,j∈A:=by
 unfold kc;rw[List.mem_filter,List.all_eq_true];simp only[List.contains_iff_mem]
theorem Pd(p:Nat)(A:List Nat):∀ l:List Nat,(l.filter λq=>!(p::A).contains q).length<=(l.filter λq=>!A.contains q).length
 | []=>bQ _
 | y::l=>by
   have ih:=Pd p A l;by_cases hy:y∈A
   ·rw[List.filter_cons_of_neg (by simp[hy]),List.filter_cons_of_neg (by simp[hy])];exact ih
   ·by_cases sO:y=p
    ·rw[List.filter_cons_of_neg (by simp[sO]),List.filter_cons_of_pos (by simpa using hy),List.length_cons];omega
    ·rw[List.filter_cons_of_pos (by simp[hy,sO]),List.filter_cons_of_pos (by simpa using hy),List.length_cons,List.length_cons];omega
theorem Pe{p:Nat}{A:List Nat}(hA:p∉A):∀ {l:List Nat},p∈l->(l.filter λq=>!(p::A).contains q).length<(l.filter λq=>!A.contains q).length
 | [],h=>by cases h
 | y::l,h=>by
   by_cases sO:y=p
   ·subst sO;have ih:=Pd y A l;rw[List.filter_cons_of_neg (by simp),List.filter_cons_of_pos (by simpa using hA),List.length_cons];omega
   ·have ih:=Pe hA (List.mem_of_ne_of_mem (λe=>sO e.symm) h);by_cases hy:y∈A
    ·rw[List.filter_cons_of_neg (by simp[hy]),List.filter_cons_of_neg (by simp[hy])];exact ih
    ·rw[List.filter_cons_of_pos (by simp[hy,sO]),List.filter_cons_of_pos (by simpa using hy),List.length_cons,List.length_cons];omega
theorem brJ{Inv:List Nat->(Nat->Value)->World->Prop}{ord T:List Nat}{p0 m:Nat}{dep:Nat->List Nat}{dst:Nat->Nat}{val:(Nat->Value)->Nat->Value}{a0:Act}
 (hS:InvS ops ord T p0 m dep dst) (hm:a0.tmps.size=m) (hvT:∀ e,∀ p∈T,val e p=e p) (pW:∀ (i:Nat) (e e':Nat->Value),(∀ j∈dep i,e j=e' j)->val e i=val e' i)
 (hq:∀ A e w,Inv A e w->∀ i∈ord,i∉T->(∀ j∈dep i,j∈A)->∀ o,ops[i]?=some o->∀ a:Act,(∀ q∈eJ a0 m (ord.map dst),a.eval (.tmp q.1)=q.2)->(∀ x∈o.after,Region.binds .any x=true->a.eval (.tmp (dst x.on))=val e x.on)->YieldsIn P ops (λw'=>w'=w) o (val e i) a)
 (rR:∀ A e w,Inv A e w->∀ p∈T,p∉A->∀ o,ops[p]?=some o->∀ a:Act,(∀ q∈eJ a0 m (ord.map dst),a.eval (.tmp q.1)=q.2)->(∀ x∈o.after,Region.binds .any x=true->a.eval (.tmp (dst x.on))=val e x.on/\∀ j∈dep x.on,j∈A)->∀ K:Act->World->Prop,(∀ v w',Inv (p::A) (uy e p v) w'->K (a.put (some (dst p)) v) w')->wpOp P ops Q p K a w)
 (jN:∀ A e w,Inv A e w->(∀ p∈T,p∈A)->∀ o,ops[p0]?=some o->∀ a:Act,(∀ i∈ord,a.eval (.tmp (dst i))=val e i)->(∀ q∈eJ a0 m (ord.map dst),a.eval (.tmp q.1)=q.2)->a=iA a0 (ord.map λi=>(dst i,val e i))->∀ K:Act->World->Prop,(∀ a' w',Q .normal a' w'->K a' w')->wpOp P ops Q p0 K a w)
 {e0:Nat->Value} {w:World} (h0:Inv [] e0 w):wpAny P .any ops Q ops.size (Array.replicate ops.size false) a0 w:=by
 have main:∀ (n:Nat) (A:List Nat) (e:Nat->Value) (w:World) (f:Nat) (listed:Array Bool) (a:Act),(T.filter λp=>!A.contains p).length=n->(∀ p∈A,p∈T)->Inv A e w->Held ops (kc ord dep A) A dst (val e) (eJ a0 m (ord.map dst)) m a0.defers f listed a->wpAny P .any ops Q f listed a w:=by
  intro n
  induction n using Nat.strongRecOn with
  | ind n ih=>
   intro A e w f listed a hn hA hI hH;have tL:∀ {i},i∈kc ord dep A->i∈ord:=λh=>(lC.1 h).1;have Ct:∀ i∈kc ord dep A,i∉A->i∉T:=λi hi aC hT=>by
    obtain⟨h1,h2⟩:=lC.1 hi;exact aC (h2 i (by rw[(hS.tord i hT).2];simp))
   have ab:∀ i∈kc ord dep A,dst i<m:=λi hi=>hS.lt i (tL hi);have mB:∀ i∈kc ord dep A,∀ j∈kc ord dep A,j≠i->dst i≠dst j:=λi hi j hj=>hS.inj i (tL hi) j (tL hj);have gV:∀ i∈ord,∀ q∈eJ a0 m (ord.map dst),dst i≠q.1:=λi hi=>mM (List.mem_map.2 ⟨i,hi,rfl⟩);have ET:∀ i∈kc ord dep A,i∉A->∃ o:Oper,ops[i]?=some o/\o.dst=some (dst i):=λi hi aC=>hS.qdst i (tL hi) (Ct i hi aC);have hy:∀ i∈kc ord dep A,i∉A->∀ o:Oper,ops[i]?=some o->∀ a:Act,(∀ q∈eJ a0 m (ord.map dst),a.eval (.tmp q.1)=q.2)->(∀ x∈o.after,Region.binds .any x=true->x.on∈kc ord dep A->a.eval (.tmp (dst x.on))=val e x.on)->YieldsIn P ops (λw'=>w'=w) o (val e i) a:=λi hi aC o ho a hb hx=>by
    obtain⟨h1,h2⟩:=lC.1 hi;refine hq A e w hI i h1 (Ct i hi aC) h2 o ho a hb (λx zr uq=>hx x zr uq ?_);obtain⟨h3,h4⟩:=hS.qall i h1 (Ct i hi aC) o ho x zr uq;exact lC.2 ⟨h3,λj hj=>h2 j (h4 j hj)⟩
   by_cases be:∀ p∈T,p∈A
   ·have hD:∀ i∈ord,i∈kc ord dep A:=λi hi=>lC.2 ⟨hi,λj hj=>be j (hS.depT i hi j hj)⟩;refine xJ (p:=p0) hS.well hS.p0s (λh=>hS.p0o (tL h)) (λi o ho hi hne=>absurd (hD i ((hS.all i (eQ.1 ho).1).resolve_left hne)) hi) ET ab mB (λi hi=>gV i (tL hi)) hy ?_ f listed a hH;intro f listed a hH hr;obtain⟨rfl,hl⟩:=hH.all hr hS.last;have E4:∀ i∈ord,listed.getD i false=true:=λi hi=>hl i (hS.size i hi) (λe=>hS.p0o (e ▸ hi));obtain⟨_,o,ho,_⟩:=mem_ready.1 hr;have hDe:kc ord dep A=ord:=List.filter_eq_self.2 λi hi=>List.all_eq_true.2 λj hj=>List.contains_iff_mem.2 ((lC.1 (hD i hi)).2 j hj);have hH':=hH;rw[hDe] at hH';have fE:=Held.frame (D:=ord) hH' hm E4 hS.lt;refine jN A e w hI be o ho a (λi hi=>hH.good.val i (hD i hi) (E4 i hi)) hH.good.base fE _ (λa' w' hQ=>⟨C3 (λi hi=>?_) (by rw[Array.size_setIfInBounds];exact hH.good.size),hQ⟩);by_cases hip:i=p0
    ·subst hip;have hs:i<listed.size:=by rw[hH.good.size];exact hi
     simp[Array.getD,hs]
    ·exact oM (hl i hi hip)
   ·obtain⟨r,hr⟩:=Classical.not_forall.1 be;obtain⟨KB,hrA⟩:=Classical.not_imp.1 hr;have Rb:∀ k,r∈dep k->k∉kc ord dep A:=λk hk hm=>hrA ((lC.1 hm).2 r hk);refine brZ (T:=T.filter λp=>!A.contains p) (p0:=r) hS.well (hS.size r (hS.tord r KB).1) (Rb r (by rw[(hS.tord r KB).2];simp)) (λi o ho hi Kc=>?_) ET ab mB (λi hi=>gV i (tL hi)) hy ?_ f listed a hH
    ·rcases hS.all i (eQ.1 ho).1 with rfl | B7
     ·obtain⟨x,hx,hb,hj,hs⟩:=hS.p0on o ho r KB;exact⟨x,hx,hb,Rb _ hj,hs⟩
     ·have hj:∃ j∈dep i,j∉A:=Classical.byContradiction λh=>hi (lC.2 ⟨B7,λj hj=>Classical.byContradiction λh2=>h ⟨j,hj,h2⟩⟩);obtain⟨j,hj,Qx⟩:=hj;by_cases hT:i∈T
      ·rw[(hS.tord i hT).2,List.mem_singleton] at hj;subst hj;exact absurd (List.mem_filter.2 ⟨hT,by simpa using Qx⟩) Kc
      ·obtain⟨x,hx,hb,pN,hs⟩:=hS.qon i B7 hT o ho j hj;exact⟨x,hx,hb,λhm=>Qx ((lC.1 hm).2 j pN),hs⟩
    ·intro p hp f listed a hH hr;obtain⟨wT,sC⟩:=List.mem_filter.1 hp;have sC:p∉A:=by simpa using sC
     obtain⟨_,o,ho,bJ⟩:=mem_ready.1 hr;have ji:p∉kc ord dep A:=λhm=>sC ((lC.1 hm).2 p (by rw[(hS.tord p wT).2];simp));have nG:=(hS.tord p wT).1;refine rR A e w hI p wT sC o ho a hH.good.base (λx hx hb=>?_) _ (λv w' hI'=>?_)
     ·have h1:=bJ x hx hb;have lz:x.on<ops.size:=by have:=hS.well p o ho x hx;have:=hS.size p nG;omega
      have RG:x.on∈kc ord dep A:=Classical.byContradiction λhn=>by
       have h2:=hH.good.not x.on lz hn;have h3:x.on<listed.size:=by rw[hH.good.size];exact lz
       simp[Array.getD,h3] at h1 h2;rw[h1] at h2;cases h2
      exact⟨hH.good.val _ RG h1,(lC.1 RG).2⟩
     ·refine ih _ ?_ (p::A) (uy e p v) w' f _ _ rfl (λq hq=>by rcases List.mem_cons.1 hq with rfl | hq;exact wT;exact hA q hq) hI' (hH.act (D':=kc ord dep (p::A)) (val':=val (uy e p v)) hr ji (λi hi=>?_) (λi hi=>pW i _ _ λj hj=>?_) ((hvT _ p wT).trans (by simp[uy])) (hS.lt p nG) (λj hj=>hS.inj p nG j (tL hj) (λe=>ji (e ▸ hj))) (gV p nG) (hS.size p nG))
      ·rw[<-hn];exact Pe sC wT
      ·refine⟨λhm=>hi (lC.2 ⟨(lC.1 hm).1,λj hj=>mQ _ ((lC.1 hm).2 j hj)⟩),λe=>hi ?_⟩;subst e;exact lC.2 ⟨nG,λj hj=>by rw[(hS.tord i wT).2] at hj;simpa using Or.inl hj⟩
      ·have:=(lC.1 hi).2 j hj
       have wE:j≠p:=λe=>sC (e ▸ this);simp[uy,wE]
 exact main _ [] e0 w ops.size _ a0 rfl (λp hp=>by cases hp) h0 (Held.start (λq hq=>FX q hq) hm)
end
end
namespace Np
def oW(n:Int):Signed:=⟨⟨[120],4,60,[⟨[],n,9⟩]⟩,[]⟩
def s6:Signed:=⟨⟨[120],2,60,[⟨[97,46,110,115],0,0⟩]⟩,[]⟩
def dj(n:Int):Zone:=⟨[120],[s6,oW n]⟩
def px:List Copy:=[⟨0,0,10,dj 1⟩,⟨0,10,30,dj 2⟩,⟨1,5,20,dj 1⟩]
def En:List Host:=[⟨[97,46,110,115],1,0⟩,⟨[98,46,110,115],2,0⟩]
def I2:DSet:=⟨[46],6,60,[⟨[],1,1⟩]⟩
def exH:Hist:=⟨En,px,I2,[1],0,40⟩
def yD:Hist:=⟨En,[⟨0,0,10,dj 1⟩,⟨0,9,30,dj 2⟩,⟨1,5,20,dj 1⟩],I2,[1],0,40⟩
theorem boK(n:Int)(h:n=1\/n=2):eK (dj n)=true:=by
 rcases h with rfl | rfl<;>decide
theorem LN(n:Int)(h:n=1\/n=2):VZone (dj n):=by
 have hb:dL (dj n) = [[],[]]:=by rcases h with rfl | rfl<;>decide
 refine⟨boK n h,by simp[dj],⟨oW n,by simp[dj],rfl,rfl⟩,⟨s6,by simp[dj],rfl,rfl⟩,λx hx=>?_,λi hi ht=>?_,λi hi ht=>?_,λi x b hx cW=>?_,λi x b hx cW=>?_,λx hx=>?_⟩
 ·simp only[dj,List.mem_cons,Qh,or_false] at hx;rcases hx with rfl | rfl<;>rfl
 ·match i,hi with
  | 0,_=>exact absurd ht (by simp[dj,oW])
  | i+1,hi=>exact absurd hi (by simp[dj])
 ·match i,hi with
  | 0,_=>exact absurd ht (by simp[dj,s6])
  | i+1,hi=>exact absurd hi (by simp[dj])
 ·rw[hb] at cW
  match i,hx,cW with
  | 0,hx,cW=>simp[dj] at hx cW;subst hx;subst cW;simp[kH,s6]
  | 1,hx,cW=>simp[dj] at hx cW;subst hx;subst cW;simp[kH,oW]
  | i+2,hx,cW=>simp[dj] at hx
 ·rw[hb] at cW
  match i,hx,cW with
  | 0,hx,cW=>simp at cW;subst cW;intro h;exact absurd rfl h
  | 1,hx,cW=>simp at cW;subst cW;intro h;exact absurd rfl h
  | i+2,hx,cW=>simp[dj] at hx
 ·simp only[dj,List.mem_cons,Qh,or_false] at hx;rcases hx with rfl | rfl
  ·exact⟨by decide,λi g hg=>by simp[s6] at hg⟩
  ·exact⟨by simp[oW],λi g hg=>by simp[oW] at hg⟩
theorem ZP:VHosts En:=by
 refine⟨by decide,λh hh=>?_,by decide⟩;simp only[En,List.mem_cons,Qh,or_false] at hh;rcases hh with rfl | rfl
 ·exact⟨by decide,by decide,by decide,by decide⟩
 ·exact⟨by decide,by decide,by decide,by decide⟩
theorem ZU:VRoot I2 [1]:=by
 refine⟨by decide,rfl,rfl,by decide,λn hn=>?_⟩;simp only[List.mem_cons,Qh,or_false] at hn;subst hn;decide
theorem yE:VHist exH:=by
 refine⟨by decide,by decide,ZP,ZU,λc hc=>?_,?_⟩
 ·simp only[exH,px,List.mem_cons,Qh,or_false] at hc;rcases hc with rfl | rfl | rfl
  ·exact⟨by decide,by decide,LN 1 (.inl rfl)⟩
  ·exact⟨by decide,by decide,LN 2 (.inr rfl)⟩
  ·exact⟨by decide,by decide,LN 1 (.inl rfl)⟩
 ·simp only[exH,px,List.pairwise_cons,List.mem_cons,Qh,or_false,iV,dj];refine⟨?_,?_,?_,?_⟩
  ·rintro c (rfl | rfl) ⟨h1,h2,h3,h4⟩
   ·revert h4;decide
   ·revert h1;decide
  ·rintro c rfl ⟨h1,h2,h3,h4⟩;revert h1;decide
  ·intro c hc;cases hc
  ·exact List.Pairwise.nil
theorem ZM:¬ VHist yD:=λh=>by
 have:=(List.pairwise_cons.1 h.apart).1 ⟨0,9,30,dj 2⟩ (by simp)
 exact this ⟨rfl,rfl,by decide,by decide⟩
theorem Pc:(ta exH 10).zones = [⟨0,dj 2⟩,⟨1,dj 1⟩]:=by rfl
theorem ZO:(ta exH 30).zones = []:=by rfl
theorem Z2:apexes px = [[120]]:=by
 rw[<-IN];decide
theorem FH{l:List Span}{a b:Int}(hf:∀ s∈l,s.frm<s.til)(h:a<b)(ht:∀ t,(a<=t/\t<b)↔inS l t):eI l = [⟨a,b⟩]:=by
 refine (K9 hf ⟨λs hs=>?_,List.pairwise_singleton _ _⟩ λt=>?_).symm
 ·rw[List.mem_singleton] at hs;subst hs;exact h
 ·rw[<-ht t];simp[inS]
theorem ZW:nT px [120] 1 = [⟨5,20⟩]:=by
 show eI [⟨5,20⟩]=_;exact FH (by simp) (by decide) (by simp[inS])
theorem ZR:pub px [120] = [⟨[120],s6,[⟨0,30⟩],[]⟩,⟨[120],oW 1,[⟨0,20⟩],[]⟩,⟨[120],oW 2,[⟨10,30⟩],[]⟩]:=by
 have h1:eI [⟨0,10⟩,⟨10,30⟩,⟨5,20⟩] = [⟨0,30⟩]:=FH (by simp) (by decide) (λt=>by simp[inS];omega);have h2:eI [⟨0,10⟩,⟨5,20⟩] = [⟨0,20⟩]:=FH (by simp) (by decide) (λt=>by simp[inS];omega);have h3:eI [⟨10,30⟩] = [⟨10,30⟩]:=FH (by simp) (by decide) (λt=>by simp[inS]);rw[<-h1,<-h2,<-h3];rfl
theorem ZQ:tG px [121] = []:=by rfl
end Np
section
open Go.RowKit
section
variable {P:Program} {ops:Array Oper} {Q:Exit->Act->World->Prop}
theorem a6Y{a0:Act}{m:Nat}{ds ds':List Nat}(h:∀ d∈ds,d∈ds'):∀ q∈eJ a0 m ds',q∈eJ a0 m ds:=λq hq=>by
 unfold eJ at hq |-;obtain⟨j,hj,rfl⟩:=List.mem_map.1 hq;refine List.mem_map.2 ⟨j,?_,rfl⟩;rw[List.mem_filter] at hj |-;refine⟨hj.1,?_⟩;have h2:=hj.2;simp only[Bool.not_eq_true',List.contains_eq_mem,decide_eq_false_iff_not] at h2 |-;exact λk=>h2 (h j k)
def skB(ops:Array Oper)(D D':List Nat)(p:Nat):Bool:=decide (p<ops.size)&&!D.contains p&&D'.contains p&&D.all λi=>D'.contains i
theorem Held.skip{D A D':List Nat}{dst:Nat->Nat}{val val':Nat->Value}{a0:Act}{m p f:Nat}{dsts dsts':List Nat}{ds:List Deferred}{listed:Array Bool}{a:Act}(h:Held ops D A dst val (eJ a0 m dsts) m ds (f+1) listed a)(hp:p∈Region.ready .any ops listed)
 (hs:(dsts.all (λd=>dsts'.contains d)&&decide (dst p<m)&&!dsts.contains (dst p))=true:=by kernel_rfl) (hv:val' p=a0.eval (.tmp (dst p))) (hB:skB ops D D' p=true:=by kernel_rfl)
 (hval:∀ i∈D,val' i=val i:=by intro i hi;(repeat' (rcases hi with _ | ⟨_,hi⟩))<;>rfl) :
 Held ops D' (p::A) dst val' (eJ a0 m dsts') m ds f (listed.setIfInBounds p true) a:=by
 simp only[skB,Bool.and_eq_true,Qa,Bool.not_eq_true',List.all_eq_true,List.contains_iff_mem] at hB;obtain⟨⟨⟨dN,b3⟩,b4⟩,b5⟩:=hB;simp only[Bool.and_eq_true,Qa,Bool.not_eq_true',List.all_eq_true,List.contains_iff_mem] at hs;obtain⟨⟨s1,s2⟩,s3⟩:=hs;have jK:dst p∉dsts:=λe=>by rw[List.contains_iff_mem.2 e] at s3;cases s3
 have ji:p∉D:=λe=>by rw[List.contains_iff_mem.2 e] at b3;cases b3
 have hg:=h.good;have eV:=(mem_ready.1 hp).1;have dw:p<listed.size:=by rw[hg.size];exact dN
 have ae:listed[p]=false:=by simpa [Array.getD,dw] using eV
 refine⟨⟨hg.defs,by simp[hg.size],?_,?_,?_,λq hq=>hg.base q (a6Y s1 q hq),hg.tmps⟩,?_,Bk hp h.clo⟩
 ·have h1:=hg.left;rw[Array.toList_setIfInBounds,List.count_set (by simpa using dw)];simp[ae,h1]
 ·intro j hj jM;have h1:j∉D:=λe=>jM (b5 j e);have h2:j≠p:=λe=>jM (e ▸ b4)
  have:=hg.not j hj h1
  rw[getD_set_ne true (λe=>h2 e.symm)];exact this
 ·intro j hj hl;rcases CT hl with rfl | hl
  ·rw[hv];exact aJ hg.base s2 jK
  ·have jM:j∈D:=Decidable.byContradiction λjM=>by
    by_cases sh:j<ops.size
    ·have h1:=hg.not j sh jM;have h3:j<listed.size:=by rw[hg.size];exact sh
     simp[Array.getD,h3] at h1 hl;rw[h1] at hl;cases hl
    ·have h3:¬ j<listed.size:=by rw[hg.size];exact sh
     simp[Array.getD,h3] at hl
   rw[hval j jM];exact hg.val j jM hl
 ·intro i hi;rcases List.mem_cons.1 hi with rfl | hi
  ·simp[Array.getD,dw]
  ·exact oM (h.done i hi)
end
end
namespace Np

end Np
end Go.Proofs.YtfnopgdcaanaiaaGreatDoor
