/- Parts of the proof. No condition. -/
import Derived.Lib.ConvBytes
import Derived.WideMake
import Derived.Deep.DeepCutAuto
import Derived.Laws.AppendOwnNone
import Derived.Test.YtfnopgdcaanaiaaGreatDoorProg
import Derived.Laws.EntriesVeiled
import Derived.Test.YtfnopgdcaanaiaaGreatDoorM01
set_option linter.all false
set_option maxRecDepth 100000
set_option maxHeartbeats 8000000
namespace Go.Proofs.YtfnopgdcaanaiaaGreatDoor
open Go.Proofs.Tryz
namespace Np
def okR:List (List UInt8)->Bool
 | []=>true
 | [x]=>cM x||x == [42]
 | x::y::r=>cM x&&okR (y::r)
theorem aMX:cM [42]=false:=by decide
theorem XI(xs:List (List UInt8))(n:Nat):gh xs n true=xs.isEmpty:=by cases xs <;> simp[gh]
theorem XH:∀ (xs:List (List UInt8)) (n:Nat),n<=8->gh xs n false=(decide (n+xs.length<=8)&&okR xs):=by
 intro xs
 induction xs with
 | nil=>intro n hn;simp[gh,okR,hn]
 | cons x xs ih=>
  intro n hn;rw[gh];by_cases h8:8<n+1
  ·rw[Qb (by simp;omega),tQ (by simp;omega)];rfl
  ·rw[Qc (by simp;omega)];by_cases hx:x = [42]
   ·subst hx;rw[Qb rfl,XI]
    cases xs with
    | nil=>simp[okR];omega
    | cons y r=>simp[okR,aMX]
   ·rw[Qc hx];by_cases hl:cM x=true
    ·rw[Qb hl,ih (n+1) (by omega)]
     cases xs with
     | nil=>simp[okR,hl]
     | cons y r=>simp only[okR,hl,Bool.true_and,List.length_cons];congr 1;congr 1;apply propext;omega
    ·rw[Qc hl]
     cases xs with
     | nil=>simp[okR,hl,hx]
     | cons y r=>simp[okR,hl]
def uR:List (List UInt8)->Bool
 | []=>true
 | h::t=>(cM h||h == [42])&&t.all cM
theorem aqZ:∀ (a:List (List UInt8)) (h:List UInt8),okR (a ++ [h])=(a.all cM&&(cM h||h == [42])):=by
 intro a h
 induction a with
 | nil=>simp[okR]
 | cons x a ih=>
  cases a with
  | nil=>simp[okR]
  | cons y r=>
   simp only[List.cons_append,okR] at ih |-;rw[ih];simp[Bool.and_assoc]
theorem aqQ(l:List (List UInt8)):okR l.reverse=uR l:=by
 cases l with
 | nil=>rfl
 | cons h t=>rw[List.reverse_cons,aqZ,uR,List.all_reverse,Bool.and_comm]
theorem SV(s:List UInt8):aD s=if s = [46] then true else if 60<s.length then false else uR (bg s)&&decide ((bg s).length<=8):=by
 unfold aD;split
 ·rfl
 ·split
  ·rfl
  ·rw[XH _ 0 (by omega),aqQ,List.length_reverse,Bool.and_comm];simp
def kE:List (List UInt8)->List UInt8
 | []=>[]
 | [x]=>x
 | x::y::r=>x++46::kE (y::r)
theorem agZ(c:UInt8)(x:List UInt8)(xs:List (List UInt8)):kE ((c::x)::xs)=c::kE (x::xs):=by
 cases xs <;> simp[kE]
theorem zC(s:List UInt8):kE (bg s)=s:=by
 induction s with
 | nil=>rfl
 | cons c r ih=>
  rw[bg];have hne:=rN r
  cases hr:bg r with
  | nil=>exact absurd hr hne
  | cons x xs=>
   rw[hr] at ih;split
   ·rename_i hc;subst hc;rw[kE,ih];rfl
   ·rw[agZ,ih]
theorem agQ:∀ (l m:List (List UInt8)),l≠[]->m≠[]->kE (l++m)=kE l++46::kE m:=by
 intro l
 induction l with
 | nil=>intro m h;exact absurd rfl h
 | cons x l ih=>
  intro m _ hm
  cases l with
  | nil=>
   cases m with
   | nil=>exact absurd rfl hm
   | cons y m=>simp[kE]
  | cons y l=>
   have:=ih m (by simp) hm
   simp only[List.cons_append,kE] at this |-;rw[this];simp
def fm(s:List UInt8):List (List UInt8):=if s = [46] then [] else bg s
theorem CY(s:List UInt8):(fm s).reverse=back s:=by
 unfold fm back;split <;> rfl
theorem Bq{a b:List UInt8}(h:back a=back b):a=b:=by
 unfold back at h;by_cases ha:a = [46]
 ·by_cases hb:b = [46]
  ·rw[ha,hb]
  ·rw[Qb ha,Qc hb] at h
   have:=rN b
   exact absurd (List.reverse_eq_nil_iff.1 h.symm) this
 ·by_cases hb:b = [46]
  ·rw[Qb hb,Qc ha] at h;exact absurd (List.reverse_eq_nil_iff.1 h) (rN a)
  ·rw[Qc ha,Qc hb] at h
   have:=List.reverse_inj.1 h
   rw[<-zC a,this,zC]
def inL(l m:List (List UInt8)):Bool:=decide (m.length<=l.length)&&(l.drop (l.length - m.length) == m)
theorem QT{l m:List (List UInt8)} : inL l m=true↔∃ p,l=p++m:=by
 unfold inL;simp only[Bool.and_eq_true,Qa,beq_iff_eq];constructor
 ·rintro⟨h1,h2⟩;refine⟨l.take (l.length - m.length),?_⟩;rw[<-h2,List.length_drop]
  conv => lhs;rw[<-List.take_append_drop (l.length - m.length) l]
  congr 2;omega
 ·rintro⟨p,rfl⟩;refine⟨by simp,?_⟩;rw[List.length_append,Nat.add_sub_cancel,List.drop_left]
theorem zB{s z:List UInt8}(hz:z≠[]):inL (fm s) (fm z)=bD s z:=by
 rw[Bool.eq_iff_iff,QT];unfold bD fm;simp only[Bool.or_eq_true,Bool.and_eq_true,beq_iff_eq,Qa];by_cases h1:z = [46]
 ·rw[Qb h1];exact⟨λ_=>.inl (.inr h1),λ_=>⟨_,(List.append_nil _).symm⟩⟩
 ·rw[Qc h1];by_cases h2:s = [46]
  ·rw[Qb h2];constructor
   ·rintro⟨p,hp⟩
    have:=List.append_eq_nil_iff.1 hp.symm
    exact absurd this.2 (rN z)
   ·rintro ((h | h) | ⟨⟨h3,_⟩,_⟩)
    ·exact absurd (h ▸ h2) h1
    ·exact absurd h h1
    ·subst h2;have h4:z.length<1:=h3;exact absurd (rQ (by omega)) hz
  ·rw[Qc h2];constructor
   ·rintro⟨p,hp⟩;by_cases h0:p = []
    ·subst h0;rw[List.nil_append] at hp;left;left;rw[<-zC s,hp,zC]
    ·right;have hs:s=kE p++46::z:=by
      rw[<-zC s,hp,agQ _ _ h0 (rN z),zC]
     subst hs;refine⟨⟨by simp;omega,?_⟩,?_⟩
     ·rw[show (kE p++46::z).length - z.length=(kE p ++ [46]).length by simp;omega,show kE p++46::z=(kE p ++ [46])++z by simp,List.drop_left]
     ·rw[show (kE p++46::z).length - z.length - 1=(kE p).length by simp;omega];rw[oQ (bQ _)];simp
   ·rintro ((h | h) | ⟨⟨h3,h4⟩,h5⟩)
    ·exact⟨[],by rw[h];rfl⟩
    ·exact absurd h h1
    ·have hs:s=s.take (s.length - z.length - 1)++46::z:=by
      conv => lhs;rw[<-List.take_append_drop (s.length - z.length - 1) s]
      congr 1;obtain⟨hl,he⟩:=cQ.1 h5;rw[sQ hl,he,show s.length - z.length - 1+1=s.length - z.length by omega,h4]
     refine⟨bg (s.take (s.length - z.length - 1)),?_⟩
     conv => lhs;rw[hs]
     rw[C6]
def cW:List (List UInt8)->List (List UInt8)->Int
 | [],[]=>0
 | [],_::_=>-1
 | _::_,[]=>1
 | x::xs,y::ys=>if cV x y≠0 then cV x y else cW xs ys
theorem wt(x:List UInt8):cV x x=0:=by
 have:∀ x:List UInt8,Go.Op.bytesLess x x=false:=by
  intro x
  induction x with
  | nil=>rfl
  | cons a x ih=>simp[Go.Op.bytesLess,ih]
 simp[cV,this]
theorem sw{x y:List UInt8}(h:cV x y=0):x=y:=by
 unfold cV at h;split at h
 ·omega
 ·split at h
  ·assumption
  ·omega
theorem Rv(l:List (List UInt8)):cW l l=0:=by
 induction l with
 | nil=>rfl
 | cons x l ih=>rw[cW,wt,Qc (by simp),ih]
theorem aqX:∀ (l m:List (List UInt8)),l≠m->cW l m=nH l m:=by
 intro l
 induction l with
 | nil=>
  intro m h
  cases m with
  | nil=>exact absurd rfl h
  | cons y m=>rfl
 | cons x l ih=>
  intro m h
  cases m with
  | nil=>rfl
  | cons y m=>
   rw[cW,nH];by_cases hc:cV x y≠0
   ·rw[Qb hc,Qb hc]
   ·rw[Qc hc,Qc hc]
    have:=sw (Decidable.not_not.1 hc)
    subst this;exact ih m (λe=>h (by rw[e]))
theorem Bu(a b:List UInt8):aL a b=cW (back a) (back b):=by
 unfold aL;split
 ·rename_i h;rw[h,Rv]
 ·rename_i h;exact (aqX _ _ (λe=>h (Bq e))).symm
theorem Bv(a:List UInt8):aL a a=0:=by simp[aL]
theorem D3{a b:List UInt8}(h:aL a b=0):a=b:=by
 rw[Bu] at h;refine Bq ?_
 have:∀ l m:List (List UInt8),cW l m=0->l=m:=by
  intro l
  induction l with
  | nil=>intro m h;cases m with
    | nil=>rfl
    | cons y m=>simp[cW] at h
  | cons x l ih=>
   intro m h
   cases m with
   | nil=>simp[cW] at h
   | cons y m=>
    rw[cW] at h;split at h
    ·rename_i hc;exact absurd h hc
    ·rename_i hc;rw[sw (Decidable.not_not.1 hc),ih m h]
 exact this _ _ h
theorem D4(a b:DSet):ir a b=if aL a.name b.name≠0 then aL a.name b.name else de a.type b.type:=by
 unfold ir;by_cases h:a.name=b.name
 ·rw[Qc (by simp[h]),h,Bv,Qc (by simp)]
 ·rw[Qb h,Qb (λe=>h (D3 e))]
theorem V0:∀ (x y:List UInt8),Go.Op.bytesLess x y=false->x≠y->Go.Op.bytesLess y x=true:=by
 intro x
 induction x with
 | nil=>intro y h hn;cases y with
   | nil=>exact absurd rfl hn
   | cons b y=>simp[Go.Op.bytesLess] at h
 | cons a x ih=>
  intro y h hn
  cases y with
  | nil=>simp[Go.Op.bytesLess]
  | cons b y=>
   simp only[Go.Op.bytesLess] at h |-;by_cases h1:a<b
   ·simp[h1] at h
   ·by_cases h2:b<a
    ·simp[h2]
    ·have h3:a=b:=by
      apply UInt8.toNat_inj.1;simp only[UInt8.lt_iff_toNat_lt] at h1 h2;omega
     subst h3;simp[h1] at h |-;exact ih y h (λe=>hn (by rw[e]))
theorem yR(x y:List UInt8):(Go.Op.bytesLess x y=true/\cV x y = -1)\/(Go.Op.bytesLess x y=false/\Go.Op.bytesLess y x=true/\x≠y/\cV x y=1)\/(Go.Op.bytesLess x y=false/\Go.Op.bytesLess y x=false/\x=y/\cV x y=0):=by
 cases h:Go.Op.bytesLess x y with
 | true=>exact .inl ⟨rfl,by simp[cV,h]⟩
 | false=>
  by_cases hn:x=y
  ·subst hn;exact .inr (.inr ⟨rfl,h,rfl,wt x⟩)
  ·exact .inr (.inl ⟨rfl,V0 x y h hn,hn,by simp[cV,h,hn]⟩)
def KS(a b:Datum):Bool:=if a.text≠b.text then Go.Op.bytesLess a.text b.text else if a.n≠b.n then decide (a.n<b.n) else decide (a.m<b.m)
theorem akK(a b:Datum):KS a b=decide (re a b<0):=by
 unfold KS re;rcases yR a.text b.text with ⟨h1,h2⟩ | ⟨h1,_,h3,h2⟩ | ⟨_,_,h3,h2⟩
 ·have hn:a.text≠b.text:=λe=>by rw[e,wt] at h2;omega
  rw[Qb hn,Qb (by omega),h1,h2];rfl
 ·rw[Qb h3,Qb (by omega),h1,h2];rfl
 ·rw[Qc (show ¬ a.text≠b.text from λe=>e h3),Qc (show ¬ cV a.text b.text≠0 from λe=>e h2)];by_cases h4:a.n=b.n
  ·rw[Qc (show ¬ a.n≠b.n from λe=>e h4)];have h5:de a.n b.n=0:=by unfold de;rw[Qc (by omega),Qc (by omega)]
   rw[Qc (show ¬ de a.n b.n≠0 from λe=>e h5)];unfold de;by_cases h6:a.m<b.m
   ·rw[Qb h6];simp[h6]
   ·by_cases h7:b.m<a.m
    ·rw[Qc h6,Qb h7];simp;omega
    ·rw[Qc h6,Qc h7];simp;omega
  ·rw[Qb (show a.n≠b.n from h4)];by_cases h6:a.n<b.n
   ·have h5:de a.n b.n = -1:=by unfold de;rw[Qb h6]
    rw[h5];simp[h6]
   ·have h5:de a.n b.n=1:=by unfold de;rw[Qc h6,Qb (by omega)]
    rw[h5];simp;omega
end Np
section
open Go.RowKit
theorem gN{W W':World}{base:Nat}{e:TypeId}{size:Nat}{v:Value}{k:Nat}{xs:List Value}(h:W.ownsRow base e size v k xs)(hs:∀ g,v.ownBlock=some g->W'.heap[g]?=W.heap[g]?):W'.ownsRow base e size v k xs:=by
 refine⟨h.1,?_⟩;rcases h.2 with hn | ⟨g,cap,cur,rfl,hb,hg,rest⟩
 ·exact .inl hn
 ·exact .inr ⟨g,cap,cur,rfl,hb,(hs g rfl).trans hg,rest⟩
theorem Li{α:Type}{R:a1Z α}{sz:Nat}{W:World}{base:Nat}{e:TypeId}{v:Value}{xs:List α}(enc:α->List Value)(hlen:∀ x∈xs,(enc x).length=sz)
 (h:W.ownsRow base e sz v xs.length (xs.flatMap enc)) (hl:xs.length<=140737488355328) (hR:∀ x∈xs,R W W.heap.size (enc x) x):SlR R sz W W.heap.size v xs:=by
 have Zw:∀ (l:List α) (i:Nat) (x:α) (j:Nat) (u:Value),(∀ y∈l,(enc y).length=sz)->l[i]?=some x->(enc x)[j]?=some u->(l.flatMap enc)[i * sz+j]?=some u:=by
  intro l
  induction l with
  | nil=>intro i x j u _ hi;simp at hi
  | cons y l ih=>
   intro i x j u ie hi hj;rw[List.flatMap_cons];have hy:(enc y).length=sz:=ie y (by simp)
   cases i with
   | zero=>
    simp at hi;subst hi;rw[List.getElem?_append_left (by have:=(cQ.1 hj).1;omega)];simpa using hj
   | succ i=>
    rw[oQ (by rw[hy,Nat.succ_mul];omega),hy]
    have:=ih i x j u (λy hy=>ie y (by simp[hy])) (by simpa using hi) hj
    rw[show (i+1) * sz+j - sz=i * sz+j by rw[Nat.succ_mul];omega];exact this
 rcases h.2 with ⟨rfl,h0⟩ | ⟨g,cap,cur,rfl,hb,hg,pd,_,_,Z1⟩
 ·have:xs = []:=rQ h0
  subst this;exact⟨none,0,rfl,by simp,by simp,λi x hx=>by simp at hx⟩
 ·refine⟨_,cap,rfl,pd,hl,λi x hx=>⟨g,0,enc x,rfl,(eQ.1 hg).1,hlen x (gQ hx),λj u hj=>?_,hR x (gQ hx)⟩⟩;have h1:=Zw xs i x j u hlen hx hj;have h2:=h.cells (g:=g) rfl _ _ h1;have o4:(⟨g,0,none⟩:Addr).add (i * sz+j)=⟨g,0+i * sz+j,none⟩:=by unfold Addr.add;split <;> simp_all
  rw[o4] at h2;exact h2
def lF(_:World)(_:Nat)(e:List Value)(x:Int):Prop:=e = [.int .i64 x]
theorem qy:ep lF:=λ_ _ _ _ _ h _=>h
theorem x8:eL lF:=λ_ _ _ _ _ h _=>h
theorem Rh{α:Type}(f:α->Value)(l:List α):l.map f=l.flatMap λx=>[f x]:=by induction l <;> simp_all
theorem zH{W:World}{base:Nat}{e:TypeId}{size:Nat}{v:Value}{k:Nat}{xs:List Value}(h:W.ownsRow base e size v k xs):∃ A cap,v = .slice A k cap:=by
 rcases h.2 with ⟨rfl,rfl⟩ | ⟨g,cap,_,rfl,_⟩
 ·exact⟨none,0,rfl⟩
 ·exact⟨_,cap,rfl⟩
theorem aMJ(l:List UInt8):Np.bg (l ++ [46])=Np.bg l ++ [[]]:=Np.C6 l []
theorem aMK:∀ (l:List UInt8) (c:UInt8) (pre:List (List UInt8)) (x:List UInt8),c≠46->Np.bg l=pre ++ [x]->Np.bg (l ++ [c])=pre ++ [x ++ [c]]:=by
 intro l
 induction l with
 | nil=>
  intro c pre x hc h;have h2:([[]]:List (List UInt8))=pre ++ [x]:=h
  cases pre with
  | nil=>simp at h2;subst h2;simp[Np.bg,hc]
  | cons a pre=>simp at h2
 | cons a r ih=>
  intro c pre x hc h;rw[List.cons_append];rw[Np.bg] at h |-;by_cases ha:a=46
  ·rw[Qb ha] at h |-
   cases pre with
   | nil=>simp at h;exact absurd h.2 (Np.rN r)
   | cons b pre=>
    simp only[List.cons_append,List.cons.injEq] at h;rw[ih c pre x hc h.2,<-h.1];rfl
  ·rw[Qc ha] at h |-;have hne:=Np.rN r
   cases hr:Np.bg r with
   | nil=>exact absurd hr hne
   | cons y ys=>
    rw[hr] at h;simp only at h
    cases pre with
    | nil=>
     simp only[List.nil_append,List.cons.injEq] at h;obtain⟨rfl,rfl⟩:=h;rw[ih c [] y hc (by rw[hr];rfl)];rfl
    | cons b pre=>
     simp only[List.cons_append,List.cons.injEq] at h;obtain⟨rfl,rfl⟩:=h;rw[ih c (y::pre) x hc (by rw[hr];rfl)];rfl
def RSt(_:World)(_:Nat)(e:List Value)(x:List UInt8):Prop:=e = [aA x]
theorem FR:ep RSt:=λ_ _ _ _ _ h _=>h
theorem Sc:eL RSt:=λ_ _ _ _ _ h _=>h
def yg{α:Type}(R:a1Z α)(sz:Nat)(w:World)(xs:List α)(e:Ending)(w':World):Prop:=∃ v,e = .returned v/\SlR R sz w' w'.heap.size v xs/\Below w.heap.size w w'
theorem arQ{W:World}{base:Nat}{e:TypeId}{g cap n:Nat}{xs:List Value}(h:W.ownsRow base e 1 (.slice (some ⟨g,0,none⟩) n cap) n xs)(j:Nat)(hj:j<n)(u:Value) :
 W.cell? ⟨g,j,none⟩=xs[j]?/\W.frozen? ⟨g,j,none⟩=false/\g<W.heap.size/\base<=g/\(W.setCell ⟨g,j,none⟩ u).ownsRow base e 1 (.slice (some ⟨g,0,none⟩) n cap) n (xs.set j u):=by
 obtain⟨h1,h2⟩:=h;rcases h2 with ⟨h2,_⟩ | ⟨g',cap',cur,h2,hb,hg,hn,hm,hs,ht⟩
 ·cases h2
 ·simp only[Value.slice.injEq,Option.some.injEq,Addr.mk.injEq,and_true,true_and] at h2;obtain⟨rfl,rfl⟩:=h2;have ab:=(eQ.1 hg).1;refine⟨?_,?_,ab,hb,by simpa using h1,.inr ⟨g,cap,cur.setIfInBounds j u,rfl,hb,?_,hn,hm,by simpa using hs,?_⟩⟩
  ·rw[<-ht];simp only[World.cell?,hg,Option.isSome_none,Bool.false_eq_true,if_false,List.getElem?_take];rw[Qb (by omega)];simp
  ·simp[World.frozen?,hg]
  ·simp only[World.setCell,Array.getElem?_modify,if_true,hg];simp
  ·rw[<-ht,Array.toList_setIfInBounds,List.take_set]
theorem Tryz.infoStr:(prog.info? 9).map (λi=>(i.zero,i.size,i.bytes))=some (some (.string ⟨#[]⟩),1,16):=by kernel_rfl
def Vq(s:ByteArray)(w:World)(v i:Value)(wr:World):Prop:=
 ∃ (k:Nat) (pre:List (List UInt8)) (x:List UInt8),k<=s.size/\i = .int .i64 k/\Np.bg (s.data.toList.take k)=pre ++ [x]/\pre.length<=k/\wr.ownsRow w.heap.size 9 1 v (pre.length+1) (pre.map aA ++ [aA x])/\Below w.heap.size w wr
theorem aNX(x:List UInt8)(s:ByteArray)(k:Nat)(hk:k<s.size):Value.string ((⟨x.toArray⟩:ByteArray)++s.extract k (k+1))=aA (x ++ [s[k]]):=by
 show Value.string _=Value.string _;congr 1;apply j9
 have:(s.extract k (k+1)).data.toList = [s[k]]:=by
  rw[IX,Lr s k hk,List.drop_append_of_le_length (by rw[List.length_take,bn];omega),List.drop_of_length_le (by rw[List.length_take,bn];omega),List.nil_append]
 rw[ByteArray.data_append,Array.toList_append,this]
theorem R2(s:ByteArray)(hs:s.size<=1000000)(w:World):Calls prog 103 #[.string s] w (yg RSt 1 w (Np.bg s.data.toList)):=by
 obtain⟨i0,hi,fk,bd,aN⟩:=info_parts Tryz.infoStr;go_enter func103,ntmps103;go_wp2;go_loopw [3,4] (λv i wr=>Vq s w v i wr) (λ_ i _=>s.size - (intOf i).toNat)
 case atStart=>
  refine⟨0,[],[],jQ _,rfl,rfl,bQ _,⟨rfl,.inr ⟨w.heap.size,1,#[.string ⟨#[]⟩],rfl,bQ _,heap_alloc_new _ _,by simp,by simp[maxLen],rfl,rfl⟩⟩,(vQ _ _).alloc (bQ _) _⟩
 case round=>
  obtain⟨k,pre,x,hk,rfl,zw,uC,hown,hB⟩:=hrel;obtain⟨g,cap,rfl⟩:=ownsRow_succ hown;have an:=hB.size;have HB:=jq hB;have HO:=jq hown;have HS:=jq zw;clear hB hown zw;by_cases ab:k<s.size
  ·have hb:=zP s[k];have QG:=Lr s k ab;have HT:=jq QG;clear QG;by_cases By:(s[k].toNat:Int)=46
   ·have he:((s[k].toNat:Int) == 46)=true:=by simp[By]
    have hc:s[k]=46:=by
     apply UInt8.toNat_inj.1
     have:s[k].toNat=46:=by omega
     rw[this];rfl
    have HC:=jq hc;clear hc By;go_wp2_with (at_builtin;refine wpList_append_own_at _ rfl _ _ 116 rfl w.heap.size 9 i0 (.string ⟨#[]⟩) 1 16 underlying116 hi fk bd aN rfl (by decide) _ _ _ rfl (HO.out.alloc _) ⟨wr.heap.size,0,none⟩ 1 1 [.string ⟨#[]⟩] rfl rfl (cell_one_new _ _ _) (by simp[Value.oneCell']) (by unfold maxLen;omega) (by omega) (by simp;omega) ?_;intro v1 w1 Qj rt _ Yk;have H1:=jq (And.intro Qj rt);clear Qj rt Yk);go_roundw
    case rel=>
     obtain⟨o1,g1⟩:=H1.out;have ry:=(HO.out.lt g rfl).1;refine⟨k+1,pre ++ [x],[],by omega,by go_num,?_,by simp;omega,?_,?_⟩
     ·rw[HT.out,HC.out,aMJ,HS.out]
     ·simpa using o1
     ·exact (HB.out.alloc (by omega) _).grown g1 (by simp;omega) (λj hj=>by have e:g=j:=Option.some.inj hj;omega)
    case measure=>simp[intOf] <;> omega
   ·have he:((s[k].toNat:Int) == 46)=false:=by simp[By]
    have hc:s[k]≠46:=λe=>By (by rw[e];rfl);have HC:=jq hc;clear hc By;obtain⟨q1,q2,q3,q4,q5⟩:=arQ HO.out pre.length (by omega) (aA (x ++ [s[k]]));have hcell:wr.cell? ⟨g,pre.length,none⟩=some (aA x):=by rw[q1];simp
    have Hx:=jq q5;have o4:=aNX x s k ab;clear q1 q5;have uM:x.length<=k:=by
     have h1:=Np.Ll (l:=s.data.toList.take k) (y:=x) (by rw[HS.out];simp);rw[List.length_take] at h1;omega
    have ii:¬ 9223372036854775807<x.length+(min (k+1) s.size - k):=by omega
    have ah:IntKind.i64.wrap (pre.length:Int)=pre.length:=IntWalk.i64_in _ (by omega);have aj:IntKind.i64.wrap ((k:Int)+1)=k+1:=IntWalk.i64_in _ (by omega);have Qk:(0:Int)<=(pre.length:Int):=by omega
    have hp1:(pre.length:Int)<(pre.length:Int)+1:=by omega
    have bJ:(0:Int)<=(k:Int):=by omega
    have bI:(k:Int)+1<=(s.size:Int):=by omega
    have jN:((k:Int)+1).toNat=k+1:=by omega
    have mH:(0:Int)<=(k:Int)+1:=by omega
    have ky:(k:Int)<=(k:Int)+1:=by omega
    go_wp2_with fail;refine Td 17 (by kernel_rfl) (by kernel_rfl) ?_;simp only[List.take_succ_cons,List.take_zero,List.drop_succ_cons,List.drop_zero]
    iterate 17 still_step
    refine wpStill_nil ?_;go_wp2_with fail;go_roundw
    case rel=>
     refine⟨k+1,pre,x ++ [s[k]],by omega,by go_num,?_,by omega,?_,?_⟩
     ·rw[HT.out];exact aMK _ _ _ _ HC.out HS.out
     ·have h5:(wr.setCell ⟨g,pre.length,none⟩ (aA (x ++ [s[k]]))).ownsRow w.heap.size 9 1 (.slice (some ⟨g,0,none⟩) (pre.length+1) cap) (pre.length+1) (pre.map aA ++ [aA (x ++ [s[k]])]):=by
       have:=Hx.out
       simpa using this
      exact h5
     ·exact (HB.out.setCell (p:=⟨g,pre.length,none⟩) q4 _).drew
    case measure=>simp[intOf] <;> omega
  ·go_wp2_with fail;go_ret;refine⟨_,rfl,?_,HB.out⟩;have bX:Np.bg s.data.toList=pre ++ [x]:=by have:=HS.out;rwa [FZ s k (by omega)] at this
   rw[bX];refine Li (sz:=1) (e:=9) (base:=w.heap.size) (λx=>[aA x]) (λ_ _=>rfl) ?_ (by simp;omega) (λ_ _=>rfl)
   have:=HO.out
   simpa [Rh] using this
theorem aLZ{α:Type}{R:a1Z α}{sz:Nat}(w:World)(B:Nat):SlR R sz w B (.slice none 0 0) []:=⟨none,0,rfl,by simp,by simp,λi x h=>by simp at h⟩
theorem C3(s:ByteArray)(hs:s.size<=1000000)(w:World):Calls prog 233 #[.string s] w (yg RSt 1 w (Np.fm s.data.toList)):=by
 by_cases h:s.data.toList = [46]
 ·have he:(s.toList == [46])=true:=by rw[dQ,h];rfl
  have hp:Np.fm s.data.toList = []:=by rw[Np.fm,Qb h]
  rw[hp];clear h hp;go_enter func233,ntmps233;go_wp2_with fail;go_ret;exact⟨_,rfl,aLZ _ _,vQ _ _⟩
 ·have he:(s.toList == [46])=false:=by rw[dQ];simpa using h
  have hp:Np.fm s.data.toList=Np.bg s.data.toList:=by rw[Np.fm,Qc h]
  rw[hp];clear h hp;go_enter func233,ntmps233;go_wp2_with fail;refine (R2 s hs _).mono ?_;rintro e w1 ⟨v,rfl,hv,hb⟩;have HV:=jq (And.intro hv hb);clear hv hb;go_wp2_with fail;go_ret;exact⟨_,rfl,HV.out⟩
theorem C7{w:World}{B:Nat}{v:Value}{xs:List (List UInt8)}(h:SlR RSt 1 w B v xs){k:Nat}{x:List UInt8}(hx:xs[k]?=some x):∃ b o c,v = .slice (some ⟨b,o,none⟩) xs.length c/\b<B/\xs.length<=c/\w.cell? ⟨b,o+k,none⟩=some (aA x):=by
 obtain⟨A,c,rfl,hc,_,he⟩:=h;obtain⟨b,o,e,rfl,hb,_,hce,rfl⟩:=he k x hx;exact⟨b,o,c,rfl,hb,hc,by have:=hce 0 _ rfl;simpa using this⟩
def xT(l:List UInt8)(j:Nat):Prop:=∃ c,l[j]?=some c/\(Np.rF c=true\/Np.n9 c=true\/(c=45/\0<j/\j+1<l.length))
theorem Rn{c:UInt8}(h:Np.rF c=true\/Np.n9 c=true):c≠45:=by rintro rfl;revert h;decide
theorem afY{l:List UInt8}(h:∀ j,j<l.length->xT l j):Np.cM l=(decide (1<=l.length)&&decide (l.length<=12)):=by
 have bX:l.all Np.mT=true:=by
  rw[List.all_eq_true];intro c hc;obtain⟨j,hj,rfl⟩:=nQ.1 hc;obtain⟨c,e,ho⟩:=h j hj;rw[aQ hj] at e;simp only[Option.some.injEq] at e;rw[e];unfold Np.mT;rcases ho with ho | ho | ⟨ho,_⟩ <;> simp[ho]
 unfold Np.cM;rw[bX,Bool.and_true];by_cases h1:1<=l.length
 ·have hh:∀ j,j<l.length->j=0\/j+1=l.length->l[j]?≠some 45:=by
   intro j hj he hc;obtain⟨c,e,ho⟩:=h j hj;rw[hc] at e;simp only[Option.some.injEq] at e;subst e;rcases ho with ho | ho | ⟨_,h2,h3⟩
   ·exact Rn (.inl ho) rfl
   ·exact Rn (.inr ho) rfl
   ·omega
  have h2:(l.head? == some 45)=false:=by rw[List.head?_eq_getElem?];simpa using hh 0 (by omega) (.inl rfl)
  have h3:(l.getLast? == some 45)=false:=by rw[List.getLast?_eq_getElem?];simpa using hh (l.length - 1) (by omega) (.inr (by omega))
  rw[h2,h3];simp
 ·rw[tQ h1];rfl
theorem Q1{l:List UInt8}{j:Nat}(hj:j<l.length)(h:¬ xT l j):Np.cM l=false:=by
 cases hl:Np.cM l with
 | false=>rfl
 | true=>
  exfalso;unfold Np.cM at hl;simp only[Bool.and_eq_true,Qa,Bool.not_eq_true',beq_eq_false_iff_ne] at hl;obtain⟨⟨⟨_,h2⟩,h3⟩,h4⟩:=hl;have hb:=List.all_eq_true.1 h4 l[j] (List.getElem_mem hj);refine h ⟨l[j],aQ hj,?_⟩;simp only[Np.mT,Bool.or_eq_true,beq_iff_eq] at hb;rcases hb with (hb | hb) | hb
  ·exact .inl hb
  ·exact .inr (.inl hb)
  ·refine .inr (.inr ⟨hb,?_,?_⟩)
   ·refine Nat.pos_of_ne_zero λe=>?_;subst e;rw[List.head?_eq_getElem?,aQ hj,hb] at h2;exact h2 rfl
   ·refine Nat.lt_of_not_le λe=>?_
    have:j=l.length - 1:=by omega
    rw[List.getLast?_eq_getElem?,<-this,aQ hj,hb] at h3;exact h3 rfl
theorem apY(s:ByteArray)(k:Nat)(hk:k<s.size):xT s.data.toList k↔((97<=(s[k].toNat:Int)/\(s[k].toNat:Int)<=122)\/(48<=(s[k].toNat:Int)/\(s[k].toNat:Int)<=57)\/((s[k].toNat:Int)=45/\0<k/\k+1<s.size)):=by
 unfold xT;rw[yW s k hk];simp only[Option.some.injEq,exists_eq_left'];have ub:s[k]=45↔(s[k].toNat:Int)=45:=by
  constructor
  ·intro h;rw[h];rfl
  ·intro h;apply UInt8.toNat_inj.1;have:s[k].toNat=45:=by omega
   rw[this];rfl
 rw[ub,bn];unfold Np.rF Np.n9;simp only[Bool.and_eq_true,Qa,UInt8.le_iff_toNat_le];have e1:(97:UInt8).toNat=97:=rfl;have e2:(122:UInt8).toNat=122:=rfl;have e3:(48:UInt8).toNat=48:=rfl;have e4:(57:UInt8).toNat=57:=rfl;rw[e1,e2,e3,e4];omega
theorem aCX(s:ByteArray)(hs:s.size<=140737488355328)(w:World) :
 Calls prog 104 #[.string s] w (a1Q w (.bool (Np.cM s.data.toList))):=by
 go_enter func104,ntmps104;go_wp2;go_loop [3] (λi=>∃ k:Nat,k<=s.size/\i = .int .i64 k/\Hid (∀ j,j<k->xT s.data.toList j)) (λi=>s.size - (intOf i).toNat)
 case atStart=>exact⟨0,jQ _,rfl,jq (λj h=>by omega)⟩
 case round=>
  obtain⟨k,hk,rfl,HA⟩:=hrel;by_cases ab:k<s.size
  ·have hb:=zP s[k];have HN:=jq (apY s k ab);have Cs:xT s.data.toList k->∀ j,j<k+1->xT s.data.toList j:=λh j hj=>by
    by_cases e:j=k
    ·subst e;exact h
    ·exact HA.out j (by omega)
   have HX:=jq Cs;clear Cs;have bJ:(0:Int)<=k:=by omega
   by_cases ub:(s[k].toNat:Int)=45
   ·have hE:((s[k].toNat:Int) == 45)=true:=by simp[ub]
    have Gh:=jq ub;have ry:(s[k].toNat:Int)<48:=by omega
    have a8J:(s[k].toNat:Int)<97:=by omega
    clear ub;by_cases hin:0<k/\k+1<s.size
    ·obtain⟨h1,h2⟩:=hin;have h3:(0:Int)<k:=by omega
     have h4:(k:Int)<(s.size:Int) - 1:=by omega
     go_wp2;go_round
     case rel=>exact⟨k+1,by omega,by go_num,jq (HX.out (HN.out.2 (.inr (.inr ⟨Gh.out,h1,h2⟩))))⟩
     case measure=>simp[intOf] <;> omega
    ·have HI:=jq hin;clear hin;go_wp2
     all_goals first
      | (go_ret
         exact⟨ag (Q1 (by rw[bn];exact ab) (λh=>by have:=HN.out.1 h;have:=HI.out;omega)).symm,rfl⟩)
      | (exfalso;have:=HI.out;omega)
   ·have hE:((s[k].toNat:Int) == 45)=false:=by simp[ub]
    have Gh:=jq ub;clear ub;go_wp2
    all_goals first
     | (go_ret
        exact⟨ag (Q1 (by rw[bn];exact ab) (λh=>by have:=HN.out.1 h;have:=Gh.out;omega)).symm,rfl⟩)
     | (go_round
        case rel=>exact⟨k+1,by omega,by go_num,jq (HX.out (HN.out.2 (by omega)))⟩
        case measure=>simp[intOf] <;> omega)
  ·have hf:Np.cM s.data.toList=(decide (1<=s.size)&&decide (s.size<=12)):=afY (λj hj=>HA.out j (by rw[bn] at hj;omega));have HF:=jq hf;clear hf;go_wp2
   all_goals
    go_ret;exact⟨ag (by rw[HF.out,Bool.eq_iff_iff];simp;omega),rfl⟩
theorem aEX(s:ByteArray)(hs:s.size<=140737488355328)(w:World) :
 Calls prog 300 #[.string s] w (a1Q w (.bool (Np.kD s.data.toList))):=by
 go_enter func300,ntmps300;go_wp2
 all_goals first
  | (go_ret;exact⟨ag (QV s ‹_›).symm,rfl⟩)
  | (go_ret;exact⟨ag (QW s ‹_›).symm,rfl⟩)
  | (go_ret;exact⟨ag (QX s (by omega) ‹_›).symm,rfl⟩)
  | (have h:((s[s.size - 1].toNat:Int) == 32)=true:=by assumption
     go_ret;exact⟨ag (QY s (by omega) (by simpa using h)).symm,rfl⟩)
  | skip
 ·have h2:(s.size:Int)<=40:=by assumption
  have h3:¬ (s[0].toNat:Int)=32:=by assumption
  have h4:((s[s.size - 1].toNat:Int) == 32)=false:=by assumption
  have H4:=jq h4;clear h4;have H3:=jq h3;go_loop [4] (λi=>∃ k:Nat,k<=s.size/\i = .int .i64 k/\(s.data.toList.take k).all Np.oZ=true) (λi=>s.size - (intOf i).toNat)
  case atStart=>exact⟨0,jQ _,rfl,rfl⟩
  case round=>
   obtain⟨k,hk,rfl,ha⟩:=hrel;have HA:=jq ha;clear ha;by_cases ab:k<s.size
   ·have hb:=zP s[k];by_cases hf:(97<=(s[k].toNat:Int)/\(s[k].toNat:Int)<=122)\/(48<=(s[k].toNat:Int)/\(s[k].toNat:Int)<=57)\/(s[k].toNat:Int)=32
    ·have hl:Np.oZ s[k]=true:=by rw[Ef];exact uQ hf
     have HL:=jq hl;clear hl;go_wp2
     all_goals first
      | (go_round
         case rel=>exact⟨k+1,by omega,by go_num,II s k ab _ HA.out HL.out⟩
         case measure=>simp[intOf] <;> omega)
      | (exfalso
         have hne:((s[k].toNat:Int) != 32)=true:=by assumption
         have Cr:=bne_iff_ne.1 hne;omega)
    ·have hl:Np.oZ s[k]=false:=by rw[Ef];exact tQ hf
     have HL:=jq hl;clear hl;go_wp2
     all_goals first
      | (go_ret;exact⟨ag (QZ s k ab HL.out).symm,rfl⟩)
      | (exfalso;omega)
      | (exfalso
         have hne:((s[k].toNat:Int) != 32)=false:=by assumption
         have Cr:(s[k].toNat:Int)=32:=by simpa using hne
         omega)
   ·go_wp2;go_ret;exact⟨ag (Q0 s (by omega) (by omega) H3.out (by simpa using H4.out) (by have:=HA.out;rwa [FZ s k (by omega)] at this)).symm,rfl⟩
theorem FK(s:ByteArray)(hs:s.size<=140737488355328)(w:World) :
 Calls prog 225 #[.string s] w (a1Q w (.bool (Np.eD s.data.toList))):=by
 by_cases h0:0<s.size
 ·have he:((s[0].toNat:Int) == 42)=Np.eD s.data.toList:=by
   unfold Np.eD;rw[B6 s h0]
   have:=pw s[0] 42 (by decide)
   rw[Bool.eq_iff_iff] at this |-;simp only[beq_iff_eq,Qa,Option.some.injEq] at this |-;exact this.symm
  have HE:=jq he;clear he;go_enter func225,ntmps225;go_wp2
  all_goals
   go_ret;exact⟨ag HE.out,rfl⟩
 ·have he:Np.eD s.data.toList=false:=by
   have:s.data.toList = []:=rQ (by rw[bn];omega)
   rw[this];rfl
  have HE:=jq he;clear he;go_enter func225,ntmps225;go_wp2
  all_goals
   go_ret;exact⟨ag HE.out.symm,rfl⟩
theorem R4(x lo hi:Int)(w:World) :
 Calls prog 223 #[.int .i64 x,.int .i64 lo,.int .i64 hi] w (a1Q w (.bool (decide (lo<=x)&&decide (x<=hi)))):=by
 by_cases h1:lo<=x
 all_goals
  go_enter func223,ntmps223;go_wp2;go_ret;exact⟨ag (by simp;omega),rfl⟩
theorem aEJ(x:Int)(w:World) :
 Calls prog 224 #[.int .i64 x] w (a1Q w (.bool (decide (x=3)||decide (x=4)))):=by
 by_cases h1:x=3
 ·subst h1;go_enter func224,ntmps224;go_wp2;go_ret;exact⟨rfl,rfl⟩
 ·have h2:(x == 3)=false:=by simpa using h1
  go_enter func224,ntmps224;go_wp2;go_ret;refine⟨ag ?_,rfl⟩;rw[tQ h1,Bool.false_or];rfl
theorem aCY(s t:ByteArray)(n1 m1 n2 m2:Int)(w:World) :
 Calls prog 227 #[.agg #[.string s,.int .i64 n1,.int .i64 m1],.agg #[.string t,.int .i64 n2,.int .i64 m2]] w
  λe w'=>e = .returned (.bool (decide (Np.re ⟨s.data.toList,n1,m1⟩ ⟨t.data.toList,n2,m2⟩<0)))/\Below w.heap.size w w':=by
 rw[<-Np.akK];have hw:∀ o o',Below w.heap.size w ((w.alloc o).alloc o'):=λo o'=>((vQ _ w).alloc (bQ _) _).alloc (by simp) _;have HW:=jq hw;clear hw;go_enter func227,ntmps227;go_wp2
 all_goals
  go_ret;refine⟨ag ?_,HW.out _ _⟩;go_light;simp_all [Np.KS,dQ]
structure Turned(b:Nat)(w w':World):Prop where
 os:w'.os=w.os
 tape:w'.tape=w.tape
 output:w'.output=w.output
 size:w'.heap.size=w.heap.size
 block:∀ i,i≠b->w'.heap[i]?=w.heap[i]?
theorem Turned.refl(b:Nat)(w:World):Turned b w w:=⟨rfl,rfl,rfl,rfl,λ_ _=>rfl⟩
theorem Turned.trans{b:Nat}{u v w:World}(h:Turned b u v)(k:Turned b v w):Turned b u w:=⟨k.os.trans h.os,k.tape.trans h.tape,k.output.trans h.output,k.size.trans h.size,λi hi=>(k.block i hi).trans (h.block i hi)⟩
theorem Turned.cell{b:Nat}{w w':World}(h:Turned b w w'){p:Addr}(hp:p.block≠b):w'.cell? p=w.cell? p:=by
 unfold World.cell?;rw[h.block _ hp]
theorem Turned.grown{b:Nat}{w w':World}(h:Turned b w w'):w.grownBy w' (some b):=⟨h.os,h.tape,h.output,by rw[h.size];exact bQ _,λi _ hne=>h.block i (λe=>hne (by rw[e]))⟩
theorem Turned.below{b n:Nat}{w w':World}(h:Turned b w w')(hn:n<=b):Below n w w':=⟨h.os,h.tape,h.output,by rw[h.size];exact bQ _,λi hi=>h.block i (by omega)⟩
end
section
open Go.RowKit Go.MapKept
def dG(r:Nat)(kvs:List (List UInt8×Value))(w:World):Prop:=∃ es c,w.heap[r]?=some (.map es c)/\es.toList.map (λe=>(e.key,e.val))=kvs.map λp=>(aA p.1,p.2)
theorem dG.lt{r:Nat}{kvs:List (List UInt8×Value)}{w:World}(h:dG r kvs w):r<w.heap.size:=by
 obtain⟨es,c,h,_⟩:=h;exact (eQ.1 h).1
theorem dG.keep{r:Nat}{kvs:List (List UInt8×Value)}{w w':World}{n:Nat}(h:dG r kvs w)(hb:Below n w w')(hn:r<n):dG r kvs w':=by
 obtain⟨es,c,h,h2⟩:=h;exact⟨es,c,(hb.block r hn).trans h,h2⟩
theorem dG.made(w:World):dG w.heap.size [] (w.alloc (.map #[] 0)):=⟨#[],0,heap_alloc_new _ _,rfl⟩
theorem SD(x y:List UInt8):((⟨x.toArray⟩:ByteArray) == ⟨y.toArray⟩)=(x == y):=by
 have h:((⟨x.toArray⟩:ByteArray) == ⟨y.toArray⟩)=(x.toArray == y.toArray):=rfl;rw[h,List.beq_toArray]
theorem Ec(x:List UInt8):∀ (es:List MapEntry) (kvs:List (List UInt8×Value)) (i:Nat),es.map (λe=>(e.key,e.val))=kvs.map (λp=>(aA p.1,p.2))->
 (∀ v,kvs.lookup x=some v->∃ j,Instr.findNow .string (aA x) es i=some (some (j,v)))/\(kvs.lookup x=none->Instr.findNow .string (aA x) es i=some none):=by
 intro es
 induction es with
 | nil=>
  intro kvs i h
  cases kvs with
  | nil=>exact⟨λv hv=>by simp at hv,λ_=>rfl⟩
  | cons=>simp at h
 | cons e es ih=>
  intro kvs i h
  cases kvs with
  | nil=>simp at h
  | cons p kvs=>
   obtain⟨y,u⟩:=p;simp only[List.map_cons,List.cons.injEq,Prod.mk.injEq] at h;obtain⟨⟨h1,h2⟩,h3⟩:=h;have hs:Instr.sameNow .string (aA x) e.key=some (x == y):=by rw[h1];simp only[Instr.sameNow];rw[SD]
   by_cases dM:x=y
   ·subst dM;have hb:(x == x)=true:=by simp
    rw[hb] at hs;refine⟨λv hv=>⟨i,?_⟩,λhv=>?_⟩
    ·rw[List.lookup_cons_self] at hv;simp only[Instr.findNow,hs]
     cases hv
     rw[h2]
    ·rw[List.lookup_cons_self] at hv;cases hv
   ·have hb:(x == y)=false:=by simpa using dM
    rw[hb] at hs;have hl:((y,u)::kvs).lookup x=kvs.lookup x:=by rw[List.lookup_cons,hb]
    rw[hl];obtain⟨i1,i2⟩:=ih kvs (i+1) h3;refine⟨λv hv=>?_,λhv=>?_⟩
    ·obtain⟨j,hj⟩:=i1 v hv;exact⟨j,by simp only[Instr.findNow,hs];exact hj⟩
    ·simp only[Instr.findNow,hs];exact i2 hv
section
variable {P:Program} {ops:Array Oper} {rest:List Oper} {o:Oper} {a:Act} {Q:Exit->Act->World->Prop}
theorem S9(w:World)(hg:o.guard=none)(m x v:Operand)(t:TypeId)(kB:o.op=Op.mapUpdate t m x v)(kt et:TypeId)(ht:P.underlying t=some (.map kt et))(hk:P.underlying kt=some .string)
 (r:Nat) (kvs:List (List UInt8×Value)) (hm:a.eval m = .map (some r)) (hr:dG r kvs w) (key:List UInt8) (hx:a.eval x=aA key) (val:Value) (hv:a.eval v=val) (ii:kvs.lookup key=none)
 (hK:∀ w',dG r (kvs ++ [(key,val)]) w'->Turned r w w'->wpList P ops Q rest (a.put o.dst undef) w'):wpList P ops Q (o::rest) a w:=by
 obtain⟨es,c,hr,he⟩:=hr;have hf:=(Ec key es.toList kvs 0 he).2 ii;refine wpList_plain hg λK' hK'=>?_;have hc:(Instr.checkKey false 10000 kt (aA key)).run P w = .ok () w:=MapKept.run_checkKey (k:=aA key) hk (by simp[MapKept.IsKey]) false 9999;have dS:(Instr.mapUpdate t (.map (some r)) (aA key) val).run P w = .ok () { w with heap:=w.heap.setIfInBounds r (.map (es.push { key:=aA key,val:=val,born:=c }) (c+1)) }:=by
  simp[Instr.mapUpdate,run_underlying ht,MapKept.run_getObj_map hr,hc,MapKept.run_findKey hk hf,MapKept.run_setObj_map _ hr,Result.andThen]
 unfold Oper.wp;simp[execOp,kB,hm,hx,hv,dS,Result.andThen];have hl:r<w.heap.size:=(eQ.1 hr).1;refine hK' _ _ (hK _ ⟨_,_,by simp[hl];exact⟨rfl,rfl⟩,by simp[he]⟩ ⟨rfl,rfl,rfl,by simp,λi hi=>by simp[Ne.symm hi]⟩)
theorem FT(w:World)(t kt et:TypeId)(ht:P.underlying t=some (.map kt et))(hk:P.underlying kt=some .string)(r:Nat)(kvs:List (List UInt8×Value))(hr:dG r kvs w)(key:List UInt8)(z:Value)(hz:(zeroValue et).run P w = .ok z w) :
 (Instr.lookup t (.map (some r)) (aA key) false).run P w = .ok ((kvs.lookup key).getD z) w:=by
 obtain⟨es,c,hr,he⟩:=hr;have hf:=Ec key es.toList kvs 0 he;have hc:∀ b,(Instr.checkKey b 10000 kt (aA key)).run P w = .ok () w:=λb=>MapKept.run_checkKey (k:=aA key) hk (by simp[MapKept.IsKey]) b 9999
 cases hl:kvs.lookup key with
 | none=>simp[Instr.lookup,run_underlying ht,MapKept.run_getObj_map hr,hc,MapKept.run_findKey hk (hf.2 hl),Result.andThen,hz]
 | some v=>
  obtain⟨j,hj⟩:=hf.1 v hl;simp[Instr.lookup,run_underlying ht,MapKept.run_getObj_map hr,hc,MapKept.run_findKey hk hj,Result.andThen]
end
end
section
open Go.RowKit
theorem FJ(x:List UInt8)(hx:x.length<=140737488355328)(w:World):Calls prog 104 #[aA x] w (a1Q w (.bool (Np.cM x))):=by
 have:=aCX ⟨x.toArray⟩ (by rw[<-bn];simpa using hx) w
 simpa using this
def Fz(l:List (List UInt8))(j:Nat):Prop:=∃ x,l[j]?=some x/\(Np.cM x=true\/(j=0/\x = [42]))
theorem aiZ{l:List (List UInt8)}(h:∀ j,j<l.length->Fz l j):Np.uR l=true:=by
 cases l with
 | nil=>rfl
 | cons a t=>
  unfold Np.uR;rw[Bool.and_eq_true];constructor
  ·obtain⟨x,hx,ho⟩:=h 0 (by simp);simp at hx;subst hx;rcases ho with ho | ⟨_,ho⟩ <;> simp[ho]
  ·rw[List.all_eq_true];intro y hy;obtain⟨j,hj,rfl⟩:=nQ.1 hy;obtain⟨x,hx,ho⟩:=h (j+1) (by simpa using hj);simp only[List.getElem?_cons_succ,aQ hj,Option.some.injEq] at hx;rcases ho with ho | ⟨h0,_⟩
   ·rw[hx];exact ho
   ·omega
theorem Rc{l:List (List UInt8)}{j:Nat}{x:List UInt8}(hx:l[j]?=some x)(h1:Np.cM x=false)(h2:j=0->x≠[42]):Np.uR l=false:=by
 cases l with
 | nil=>simp at hx
 | cons a t=>
  unfold Np.uR
  cases j with
  | zero=>simp at hx;subst hx;simp[h1,h2 rfl]
  | succ j=>
   have:t.all Np.cM=false:=by
    rw[List.all_eq_false];exact⟨x,gQ (by simpa using hx),by simp[h1]⟩
   show ((Np.cM a||a == [42])&&t.all Np.cM)=false;rw[this,Bool.and_false]
theorem Lm:∀ l:List UInt8,(Np.bg l).length<=l.length+1:=by
 intro l
 induction l with
 | nil=>simp[Np.bg]
 | cons c r ih=>
  rw[Np.bg];split
  ·simp;omega
  ·split
   ·rename_i x xs hx;rw[hx] at ih;simp at ih |-;omega
   ·simp
theorem tk(s:ByteArray)(hs:s.size<=140737488355328)(w:World) :
 Calls prog 50 #[.string s] w (a0X w.heap.size w (.bool (Np.aD s.data.toList))):=by
 rw[Np.SV];by_cases h:s.data.toList = [46]
 ·have he:(s.toList == [46])=true:=by rw[dQ,h];rfl
  rw[Qb h];clear h;go_enter func50,ntmps50;go_wp2_with fail;go_ret;exact⟨rfl,vQ _ _⟩
 ·have he:(s.toList == [46])=false:=by rw[dQ];simpa using h
  rw[Qc h];clear h;by_cases Bz:60<s.size
  ·rw[Qb (by rw[bn];exact Bz)];have h6:60<(s.size:Int):=by omega
   go_enter func50,ntmps50;go_wp2_with fail;go_ret;exact⟨rfl,vQ _ _⟩
  ·rw[Qc (by rw[bn];exact Bz)];have h6:(s.size:Int)<=60:=by omega
   have hlen:=Lm s.data.toList;have xe:∀ y∈Np.bg s.data.toList,y.length<=60:=λy hy=>by have:=Np.Ll hy;rw[bn] at this;omega
   rw[bn] at hlen;generalize hL:Np.bg s.data.toList=l at *;have HM:=jq xe;have qP:=jq hL;clear xe hL;go_enter func50,ntmps50;go_wp2_with fail;refine (R2 s (by omega) _).mono ?_;rw[qP.out];rintro e w1 ⟨v,rfl,hv,hb⟩;have HV:=jq hv;have HB:=jq hb;obtain⟨A,c,rfl,hc,_,_⟩:=hv;clear hb;go_wp2_with fail;go_loop [4] (λi=>∃ k:Nat,k<=l.length/\i = .int .i64 k/\Hid (∀ j,j<k->Fz l j)) (λi=>l.length - (intOf i).toNat)
   case atStart=>exact⟨0,jQ _,rfl,jq (λj h=>by omega)⟩
   case round=>
    obtain⟨k,hk,rfl,HA⟩:=hrel;by_cases ab:k<l.length
    ·obtain⟨b,o,c',hA,_,_,hcell⟩:=C7 HV.out (aQ ab)
     cases hA
     have hx:=HM.out _ (List.getElem_mem ab);have aa:l[k]?=some l[k]:=aQ ab;generalize l[k]=x at *;have HG:=jq aa;clear aa;have Cs:Fz l k->∀ j,j<k+1->Fz l j:=λh j hj=>by
      by_cases e:j=k
      ·subst e;exact h
      ·exact HA.out j (by omega)
     have HX:=jq Cs;clear Cs
     cases hl:Np.cM x with
     | true=>
      have HL:=jq hl;go_wp2_with (go_at_call 104;refine (FJ _ (by omega) _).mono ?_;rintro e w' ⟨rfl,rfl⟩);go_round
      case rel=>exact⟨k+1,by omega,by go_num,jq (HX.out ⟨_,HG.out,.inl HL.out⟩)⟩
      case measure=>simp[intOf] <;> omega
     | false=>
      have HL:=jq hl;by_cases bJ:k=0
      ·subst bJ;simp only[Nat.add_zero] at hcell;by_cases I5:x = [42]
       ·subst I5;go_wp2_with (go_at_call 104;refine (FJ _ (by simp) _).mono ?_;rintro e w' ⟨rfl,rfl⟩);go_round
        case rel=>exact⟨1,by omega,by go_num,jq (HX.out ⟨_,HG.out,.inr ⟨rfl,rfl⟩⟩)⟩
        case measure=>simp[intOf] <;> omega
       ·have hne:(x == [42])=false:=by simpa using I5
        go_wp2_with (go_at_call 104;refine (FJ _ (by omega) _).mono ?_;rintro e w' ⟨rfl,rfl⟩);go_ret;exact⟨ag (by rw[Rc HG.out HL.out (λ_=>I5)];rfl),HB.out⟩
      ·have hkp:(0:Int)<k:=by omega
       go_wp2_with (go_at_call 104;refine (FJ _ (by omega) _).mono ?_;rintro e w' ⟨rfl,rfl⟩);go_ret;exact⟨ag (by rw[Rc HG.out HL.out (λe=>absurd e bJ)];rfl),HB.out⟩
    ·have ew:Np.uR l=true:=aiZ (λj hj=>HA.out j (by omega));have bH:=jq ew;clear ew;go_wp2_with fail;go_ret;exact⟨ag (by rw[bH.out,Bool.true_and,Bool.eq_iff_iff];simp;omega),HB.out⟩
theorem C2(s z:ByteArray)(hs:s.size<=1000)(hz:z.size<=1000)(w:World) :
 Calls prog 222 #[.string s,.string z] w (a0X w.heap.size w (.bool (Np.inL (Np.fm s.data.toList) (Np.fm z.data.toList)))):=by
 have wI:∀ t:ByteArray,t.size<=1000->(Np.fm t.data.toList).length<=1001:=λt ht=>by
  unfold Np.fm;split
  ·simp
  ·have:=Lm t.data.toList;rw[bn] at this;omega
 have bM:=wI s hs;have eU:=wI z hz;clear wI;generalize iM:Np.fm s.data.toList=l at *;generalize l5:Np.fm z.data.toList=m at *;have nr:=jq iM;have yu:=jq l5;clear iM l5;go_enter func222,ntmps222;go_wp2_with fail;refine (C3 s (by omega) _).mono ?_;rw[nr.out];rintro e w1 ⟨v,rfl,hv,hb⟩;have HV:=jq hv;have HB:=jq hb;obtain⟨A,c,rfl,hc,_,_⟩:=hv;clear hb;go_wp2_with fail;refine (C3 z (by omega) _).mono ?_;rw[yu.out];rintro e w2 ⟨v2,rfl,lP,ac⟩;have fN:=jq ((HV.out.keep FR ac).more Sc ac.size);have iH:=jq lP;have ai:=jq (HB.out.trans (ac.mono HB.out.size));obtain⟨A2,c2,rfl,fI,_,_⟩:=lP;clear ac HV;by_cases hlen:m.length<=l.length
 ·have ie:(m.length:Int)<=(l.length:Int):=by omega
  go_wp2_with fail;go_loopw [7] (λi wr=>∃ k:Nat,k<=m.length/\i = .int .i64 k/\Hid (∀ j,j<k->l[l.length - m.length+j]?=m[j]?)/\Hid (Below w2.heap.size w2 wr)) (λi _=>m.length - (intOf i).toNat)
  case atStart=>exact⟨0,jQ _,rfl,jq (λj h=>by omega),jq (vQ _ _)⟩
  case round=>
   obtain⟨k,hk,rfl,HA,HW⟩:=hrel;by_cases ab:k<m.length
   ·obtain⟨b,o,c',hA,_,_,hcell⟩:=C7 (fN.out.keep FR HW.out) (aQ (show l.length - m.length+k<l.length by omega))
    cases hA
    obtain⟨b2,o2,c2',pY,_,_,Yw⟩:=C7 (iH.out.keep FR HW.out) (aQ ab)
    cases pY
    have B7:l[l.length - m.length+k]?=some l[l.length - m.length+k]:=aQ _;have B8:m[k]?=some m[k]:=aQ ab;generalize l[l.length - m.length+k]=x at *;generalize m[k]=y at *;have yr:=jq B7;have nj:=jq B8;clear B7 B8;have ah:IntKind.i64.wrap ((l.length:Int) - (m.length:Int))=(l.length:Int) - m.length:=IntWalk.i64_in _ (by omega);have aj:IntKind.i64.wrap ((l.length:Int) - (m.length:Int)+k)=(l.length:Int) - m.length+k:=IntWalk.i64_in _ (by omega);have e1:(0:Int)<=(l.length:Int) - m.length+k:=by omega
    have e2:(l.length:Int) - m.length+k<l.length:=by omega
    have e3:((l.length:Int) - m.length+k).toNat=l.length - m.length+k:=by omega
    have e4:(0:Int)<=k:=by omega
    have e5:(k:Int)<m.length:=by omega
    by_cases dM:x=y
    ·have hne:(!x == y)=false:=by simp[dM]
     have Iy:=jq dM;clear dM;go_wp2_with fail;go_quiet (fail);go_wp2_with fail;go_roundw
     case rel=>
      refine⟨k+1,by omega,by go_num,jq (λj hj=>?_),jq (below_drewN HW.out _)⟩;by_cases e:j=k
      ·subst e;rw[yr.out,nj.out,Iy.out]
      ·exact HA.out j (by omega)
     case measure=>simp[intOf] <;> omega
    ·have hne:(!x == y)=true:=by simp[dM]
     have Iy:=jq dM;clear dM;go_wp2_with fail;go_quiet (fail);go_wp2_with fail;go_ret;refine⟨ag ?_,ai.out.trans ((below_drewN HW.out _).mono ai.out.size)⟩
     symm
     unfold Np.inL;rw[uQ hlen,Bool.true_and,beq_eq_false_iff_ne];intro h;have h1:=Qd (·[k]?) h;simp only[List.getElem?_drop] at h1;rw[yr.out,nj.out] at h1;exact Iy.out (Option.some.inj h1)
   ·go_wp2_with fail;go_ret;refine⟨ag ?_,ai.out.trans (HW.out.mono ai.out.size)⟩
    symm
    unfold Np.inL;rw[uQ hlen,Bool.true_and,beq_iff_eq];apply List.ext_getElem?;intro j;rw[List.getElem?_drop];by_cases hj:j<m.length
    ·exact HA.out j (by omega)
    ·rw[List.getElem?_eq_none (by omega),List.getElem?_eq_none (by omega)]
 ·have ie:(l.length:Int)<(m.length:Int):=by omega
  go_wp2_with fail;go_ret;exact⟨ag (by unfold Np.inL;rw[tQ hlen];rfl),ai.out⟩
theorem FL{l:List (List UInt8)}{k:Nat}(h:l.length<=k):l.reverse.drop k = []:=List.drop_eq_nil_of_le (by simpa using h)
theorem R5{l:List (List UInt8)}{k:Nat}(h:k<l.length):∃ x r,l.reverse.drop k=x::r:=⟨_,_,sQ (by simpa using h)⟩
theorem K7(s z:ByteArray)(hs:s.size<=1000)(hz:z.size<=1000)(w:World) :
 Calls prog 164 #[.string s,.string z] w (a0X w.heap.size w (.int .i64 (Np.aL s.data.toList z.data.toList))):=by
 rw[Np.Bu,<-Np.CY,<-Np.CY];have wI:∀ t:ByteArray,t.size<=1000->(Np.fm t.data.toList).length<=1001:=λt ht=>by
  unfold Np.fm;split
  ·simp
  ·have:=Lm t.data.toList;rw[bn] at this;omega
 have bM:=wI s hs;have eU:=wI z hz;clear wI;generalize iM:Np.fm s.data.toList=l at *;generalize l5:Np.fm z.data.toList=m at *;have nr:=jq iM;have yu:=jq l5;clear iM l5;go_enter func164,ntmps164;go_wp2_with fail;refine (C3 s (by omega) _).mono ?_;rw[nr.out];rintro e w1 ⟨v,rfl,hv,hb⟩;have HV:=jq hv;have HB:=jq hb;obtain⟨A,c,rfl,hc,_,_⟩:=hv;clear hb;go_wp2_with fail;refine (C3 z (by omega) _).mono ?_;rw[yu.out];rintro e w2 ⟨v2,rfl,lP,ac⟩;have fN:=jq ((HV.out.keep FR ac).more Sc ac.size);have iH:=jq lP;have ai:=jq (HB.out.trans (ac.mono HB.out.size));obtain⟨A2,c2,rfl,fI,_,_⟩:=lP;clear ac HV;go_wp2_with fail;go_loop [7] (λi=>∃ k:Nat,k<=l.length/\k<=m.length/\i = .int .i64 ((k:Int)+1)/\Hid (Np.cW l.reverse m.reverse=Np.cW (l.reverse.drop k) (m.reverse.drop k))) (λi=>l.length+1 - (intOf i).toNat)
 case atStart=>exact⟨0,jQ _,jQ _,rfl,jq rfl⟩
 case round=>
  obtain⟨k,bI,jN,rfl,HA⟩:=hrel;by_cases eO:k<l.length
  ·by_cases pb:k<m.length
   ·obtain⟨b,o,c',hA,_,_,hcell⟩:=C7 fN.out (aQ (show l.length - (k+1)<l.length by omega))
    cases hA
    obtain⟨b2,o2,c2',pY,_,_,Yw⟩:=C7 iH.out (aQ (show m.length - (k+1)<m.length by omega))
    cases pY
    have B7:l.reverse.drop k=l[l.length - (k+1)]::l.reverse.drop (k+1):=by
     rw[sQ (by simpa using eO),List.getElem_reverse];congr 2;omega
    have B8:m.reverse.drop k=m[m.length - (k+1)]::m.reverse.drop (k+1):=by
     rw[sQ (by simpa using pb),List.getElem_reverse];congr 2;omega
    generalize l[l.length - (k+1)]=x at *;generalize m[m.length - (k+1)]=y at *;have CH:Np.cW (l.reverse.drop k) (m.reverse.drop k)=if Np.cV x y≠0 then Np.cV x y else Np.cW (l.reverse.drop (k+1)) (m.reverse.drop (k+1)):=by rw[B7,B8,Np.cW]
    have HS:=jq CH;clear B7 B8 CH;have g1:((l.length:Int) - ((k:Int)+1)).toNat=l.length - (k+1):=by omega
    have g2:((m.length:Int) - ((k:Int)+1)).toNat=m.length - (k+1):=by omega
    have f1:(k:Int)+1<=l.length:=by omega
    have f2:(k:Int)+1<=m.length:=by omega
    rcases Np.yR x y with ⟨h1,h2⟩ | ⟨h1,h2,hn,h3⟩ | ⟨h1,h2,hn,h3⟩
    ·have H2:=jq h2;clear h2;go_wp2_with fail;go_ret;exact⟨j5 (by rw[HA.out,HS.out,H2.out];rfl),ai.out⟩
    ·have H3:=jq h3;have hne:(!x == y)=true:=by simp[hn]
     clear h3 hn;go_wp2_with fail;go_ret;exact⟨j5 (by rw[HA.out,HS.out,H3.out];rfl),ai.out⟩
    ·have H3:=jq h3;have hne:(!x == y)=false:=by simp[hn]
     clear h3 hn;go_wp2_with fail;go_round
     case rel=>exact⟨k+1,by omega,by omega,by go_num,jq (by rw[HA.out,HS.out,H3.out];rfl)⟩
     case measure=>simp[intOf] <;> omega
   ·have hm:k=m.length:=by omega
    have cr:(m.length:Int)<(k:Int)+1:=by omega
    have bP:(k:Int)+1<=l.length:=by omega
    have eu:(m.length:Int)<(l.length:Int):=by omega
    have hv:Np.cW l.reverse m.reverse=1:=by
     obtain⟨x,r,e⟩:=R5 eO;rw[HA.out,FL (l:=m) (by omega),e];rfl
    have vV:=jq hv;clear hv hm;go_wp2_with fail;go_ret;exact⟨j5 vV.out.symm,ai.out⟩
  ·have hl:k=l.length:=by omega
   have bP:(l.length:Int)<(k:Int)+1:=by omega
   by_cases pb:k<m.length
   ·have eu:(l.length:Int)<(m.length:Int):=by omega
    have hv:Np.cW l.reverse m.reverse = -1:=by
     obtain⟨x,r,e⟩:=R5 pb;rw[HA.out,FL (l:=l) (by omega),e];rfl
    have vV:=jq hv;clear hv hl;go_wp2_with fail;go_ret;exact⟨j5 vV.out.symm,ai.out⟩
   ·have eu:(l.length:Int)<=(m.length:Int):=by omega
    have eP:(m.length:Int)<=(l.length:Int):=by omega
    have hv:Np.cW l.reverse m.reverse=0:=by
     rw[HA.out,FL (l:=l) (by omega),FL (l:=m) (by omega)];rfl
    have vV:=jq hv;clear hv hl;go_wp2_with fail;go_ret;exact⟨j5 vV.out.symm,ai.out⟩
theorem FH(s z:ByteArray)(hs:s.size<=1000)(hz:z.size<=1000)(h1:Np.aD s.data.toList=true)(h2:Np.aD z.data.toList=true)(w:World) :
 Calls prog 304 #[.string s,.string z] w (a0X w.heap.size w (.tuple #[.int .i64 (Np.aL s.data.toList z.data.toList),.int .i64 0])):=by
 have H1:=jq h1;have H2:=jq h2;clear h1 h2;go_enter func304,ntmps304;go_wp2_with fail;refine (tk s (by omega) _).mono ?_;rintro e w1 ⟨rfl,ay⟩;have av:=jq ay;clear ay;rw[H1.out];go_wp2_with fail;refine (tk z (by omega) _).mono ?_;rintro e w2 ⟨rfl,ac⟩;have ai:=jq (av.out.trans (ac.mono av.out.size));clear ac;rw[H2.out];go_wp2_with fail;refine (K7 s z hs hz _).mono ?_;rintro e w3 ⟨rfl,aq⟩;have ar:=jq (ai.out.trans (aq.mono ai.out.size));clear aq;go_wp2_with fail;go_ret2;exact⟨rfl,ar.out⟩
theorem aBZ(k:Nat)(h1:1<=k)(h8:k<=8)(s:ByteArray)(hs:s.size<=140737488355328)(n m:Int)(w:World) :
 Calls prog 226 #[.int .i64 k,.agg #[.string s,.int .i64 n,.int .i64 m]] w
  λe w'=>e = .returned (.bool (Np.kb (Np.ci k) ⟨s.data.toList,n,m⟩))/\Below w.heap.size w w':=by
 have hk:k=1\/k=2\/k=3\/k=4\/k=5\/k=6\/k=7\/k=8:=by omega
 rcases hk with rfl | rfl | rfl | rfl | rfl | rfl | rfl | rfl
 all_goals
  go_enter func226,ntmps226;go_wp2_with (first
   | (go_at_call 223;refine (R4 _ _ _ _).mono ?_;rintro e w' ⟨rfl,rfl⟩)
   | (go_at_call 50;refine (tk _ hs _).mono ?_;rintro e w' ⟨rfl,hb⟩;obtain⟨hc,hf⟩:=tV hb)
   | (go_at_call 225;refine (FK _ hs _).mono ?_;rintro e w' ⟨rfl,rfl⟩)
   | (go_at_call 300;refine (aEX _ hs _).mono ?_;rintro e w' ⟨rfl,rfl⟩))
  all_goals
   go_ret;go_light;refine⟨ag ?_,?_⟩
   ·simp_all [Np.kb,Np.yc,Np.ci,Np.rules,dQ] <;> (intros;first | omega | (rw[Bool.eq_iff_iff];simp;omega) | (rw[Bool.eq_iff_iff];simp;intros;omega) | (rw[Int.tmod_eq_emod_of_nonneg (by omega)];first | omega | (rw[Bool.eq_iff_iff];simp;omega)) | show False)
   ·first
     | exact (vQ _ w).alloc (bQ _) _
     | exact ((vQ _ w).alloc (bQ _) _).trans (hb.mono (by simp))
theorem Sf(k:Nat)(h1:1<=k)(h8:k<=8):(Np.ci k).single=(decide ((k:Int)=3)||decide ((k:Int)=4)):=by
 have hk:k=1\/k=2\/k=3\/k=4\/k=5\/k=6\/k=7\/k=8:=by omega
 rcases hk with rfl | rfl | rfl | rfl | rfl | rfl | rfl | rfl <;> rfl
theorem Sg(k:Nat)(h1:1<=k)(h8:k<=8):(Np.ci k).wild=(decide ((k:Int)=1)||decide ((k:Int)=5)||decide ((k:Int)=8)):=by
 have hk:k=1\/k=2\/k=3\/k=4\/k=5\/k=6\/k=7\/k=8:=by omega
 rcases hk with rfl | rfl | rfl | rfl | rfl | rfl | rfl | rfl <;> rfl
theorem FI(k:Nat)(h1:1<=k)(h8:k<=8)(s:ByteArray)(hs:s.size<=140737488355328)(n m:Int)(w:World)(t:Bool)(ht:Np.kb (Np.ci k) ⟨s.data.toList,n,m⟩=t) :
 Calls prog 226 #[.int .i64 k,.agg #[.string s,.int .i64 n,.int .i64 m]] w (a0X w.heap.size w (.bool t)):=by
 subst ht;exact aBZ k h1 h8 s hs n m w
theorem RZ(s t:ByteArray)(n1 m1 n2 m2:Int)(w:World)(r:Bool)(hr:decide (Np.re ⟨s.data.toList,n1,m1⟩ ⟨t.data.toList,n2,m2⟩<0)=r) :
 Calls prog 227 #[.agg #[.string s,.int .i64 n1,.int .i64 m1],.agg #[.string t,.int .i64 n2,.int .i64 m2]] w (a0X w.heap.size w (.bool r)):=by
 subst hr;exact aCY s t n1 m1 n2 m2 w
def Vp(w1:World)(r:Np.Rule)(ds:List Np.Datum)(i:Value)(wr:World):Prop:=
 ∃ j:Nat,j<=ds.length/\i = .int .i64 j/\Below w1.heap.size w1 wr/\Np.jI r none ds=Np.jI r (ds.take j).getLast? (ds.drop j)
def x6(s:List UInt8)(ty life:Int)(n:Nat):Bool:=Np.aD s&&(decide (1<=ty)&&decide (ty<=8))&&(decide (0<=life)&&decide (life<=100000))&&(decide ((1:Int)<=n)&&decide ((n:Int)<=8))&&!((decide (ty=3)||decide (ty=4))&&decide ((1:Int)<n))
def Nx(w:World)(s:ByteArray)(ty life:Int)(sl:Value)(wx:World):Prop:=
 Below w.heap.size w wx/\w.heap.size<wx.heap.size/\wx.cell? ⟨w.heap.size,0,none⟩=some (.string s)/\wx.cell? ⟨w.heap.size,1,none⟩=some (.int .i64 ty)/\wx.cell? ⟨w.heap.size,2,none⟩=some (.int .i64 life)/\wx.cell? ⟨w.heap.size,3,none⟩=some sl
theorem K8(s:ByteArray)(hs:s.size<=140737488355328)(ty life:Int)(v:Value)(ds:List Np.Datum)(w:World)(hd:SlR bR 3 w w.heap.size v ds) :
 Calls prog 150 #[.agg #[.string s,.int .i64 ty,.int .i64 life,v]] w
  λe w'=>e = .returned (.bool (Np.cZ ⟨s.data.toList,ty,life,ds⟩))/\Below w.heap.size w w':=by
 have HD:=jq hd;obtain⟨A,c,rfl,bq,bM,kZ⟩:=hd;clear kZ;have ii:¬ (Np.aD s.data.toList=true/\(1<=ty/\ty<=8)/\(0<=life/\life<=100000)/\(1<=ds.length/\ds.length<=8)/\((ty=3\/ty=4)->ds.length<=1)/\(Np.eD s.data.toList=true->ty=1\/ty=5\/ty=8))->Np.cZ ⟨s.data.toList,ty,life,ds⟩=false:=λhin=>by
  cases hq:Np.cZ ⟨s.data.toList,ty,life,ds⟩ with
  | false=>rfl
  | true=>
   exfalso;unfold Np.cZ at hq;simp only[Bool.and_eq_true,Qa,Bool.not_eq_true'] at hq;obtain⟨⟨⟨⟨⟨⟨h1,h2⟩,h3⟩,h4⟩,h5⟩,h6⟩,_⟩:=hq;obtain⟨k,rfl⟩:=Int.eq_ofNat_of_zero_le (by omega:0<=ty);rw[Sf k (by omega) (by omega)] at h5;rw[Sg k (by omega) (by omega)] at h6;refine hin ⟨h1,h2,h3,h4,λht=>?_,λhw=>?_⟩
   ·simp at h5;omega
   ·rw[hw] at h6;simp at h6;omega
 have cI:=jq ii;clear ii;go_enter func150,ntmps150;go_upto_region 2 with fail
 go_cut [37] (λt wx=>Nx w s ty life (.slice A ds.length c) wx/\t = .bool (!x6 s.data.toList ty life ds.length))
 case first=>
  go_wp2_with fail;refine (tk _ hs _).mono ?_;rintro e w1 ⟨rfl,hb⟩;have cP:Below w.heap.size w w1:=((vQ _ w).alloc (bQ _) _).trans (hb.mono (by simp));have eO:w.heap.size<w1.heap.size:=by have:=hb.size;simp at this;omega
  have c0:w1.cell? ⟨w.heap.size,0,none⟩=some (.string s):=by rw[hb.cell (by simp)];go_simp
  have c1:w1.cell? ⟨w.heap.size,1,none⟩=some (.int .i64 ty):=by rw[hb.cell (by simp)];go_simp
  have c2:w1.cell? ⟨w.heap.size,2,none⟩=some (.int .i64 life):=by rw[hb.cell (by simp)];go_simp
  have c3:w1.cell? ⟨w.heap.size,3,none⟩=some (.slice A ds.length c):=by rw[hb.cell (by simp)];go_simp
  have HH:=jq (show Nx w s ty life (.slice A ds.length c) w1 from ⟨cP,eO,c0,c1,c2,c3⟩);clear hb cP;go_wp2_with (first
   | (go_at_call 223;refine (R4 _ _ _ _).mono ?_;rintro e w' ⟨rfl,rfl⟩)
   | (go_at_call 224;refine (aEJ _ _).mono ?_;rintro e w' ⟨rfl,rfl⟩))
  all_goals
   go_meet
   case rel=>
    refine⟨HH.out,?_⟩;clear HH cI HD;go_light
    first
     | (simp_all [x6];done)
     | (simp_all [x6];omega)
     | (congr 1;rw[Bool.eq_iff_iff];simp_all [x6] <;> omega)
 case rest=>
  obtain⟨⟨cP,PY,c0,c1,c2,c3⟩,rfl⟩:=hcut;have aG:=jq cP;clear cP
  cases hq:x6 s.data.toList ty life ds.length with
  | false=>
   have HQ:=jq hq;clear hq;go_wp2_with fail;go_ret;refine⟨ag (cI.out λ⟨a1,a2,a3,a4,a5,_⟩=>?_).symm,aG.out⟩
   have:=HQ.out
   simp[x6,a1,a2,a3] at this;omega
  | true=>
   have HQ:=jq hq;clear hq;go_upto_region 4 with fail
   go_cut [55] (λt wy=>wy=wc/\t = .bool (Np.eD s.data.toList&&(decide (ty≠1)&&(decide (ty≠5)&&decide (ty≠8)))))
   case first=>
    go_wp2_with (go_at_call 225;refine (FK _ hs _).mono ?_;rintro e w' ⟨rfl,rfl⟩)
    all_goals
     go_meet
     case rel=>
      refine⟨rfl,?_⟩;clear cI HD HQ;go_light
      first
       | (simp_all;done)
       | (simp_all;omega)
       | (congr 1;rw[Bool.eq_iff_iff];simp_all;done)
       | (congr 1;rw[Bool.eq_iff_iff];simp_all;omega)
   case rest=>
    obtain⟨rfl,rfl⟩:=hcut
    cases qn:(Np.eD s.data.toList&&(decide (ty≠1)&&(decide (ty≠5)&&decide (ty≠8)))) with
    | true=>
     have qW:=jq qn;clear qn;go_wp2_with fail;go_ret;refine⟨ag (cI.out λ⟨_,_,_,_,_,a6⟩=>?_).symm,aG.out⟩
     have:=qW.out
     simp at this
     have:=a6 this.1
     omega
    | false=>
     have hin:Np.aD s.data.toList=true/\(1<=ty/\ty<=8)/\(0<=life/\life<=100000)/\(1<=ds.length/\ds.length<=8)/\((ty=3\/ty=4)->ds.length<=1)/\(Np.eD s.data.toList=true->ty=1\/ty=5\/ty=8):=by
      have h:=HQ.out;simp[x6] at h;obtain⟨⟨⟨⟨h1,h2⟩,h3⟩,h4⟩,h5⟩:=h;refine⟨h1,h2,h3,by omega,by omega,λhw=>?_⟩;rw[hw] at qn;simp at qn;omega
     obtain⟨i1,⟨i2,i3⟩,⟨i4,i5⟩,⟨i6,i7⟩,i8,i9⟩:=hin;obtain⟨k,rfl⟩:=Int.eq_ofNat_of_zero_le (by omega:0<=ty);have hv:Np.cZ ⟨s.data.toList,k,life,ds⟩=Np.jI (Np.ci k) none ds:=by
      unfold Np.cZ;simp only[Sf k (by omega) (by omega),Sg k (by omega) (by omega),i1,uQ i2,uQ i3,uQ i4,uQ i5,uQ i6,uQ i7,Bool.true_and];have e1:((decide ((k:Int)=3)||decide ((k:Int)=4))&&decide (ds.length≠1))=false:=by
       rw[Bool.eq_false_iff];simp;omega
      have e2:(Np.eD s.data.toList&&!(decide ((k:Int)=1)||decide ((k:Int)=5)||decide ((k:Int)=8)))=false:=by
       cases hw:Np.eD s.data.toList with
       | false=>rfl
       | true=>have:=i9 hw;simp;omega
      rw[e1,e2];rfl
     have HV:=jq hv;have EH:1<=k:=by omega
     have EI:k<=8:=by omega
     clear hv i8 i9 qn i1 c0 c2 cI HQ;go_wp2_with fail;go_loopw [4] (λi wr=>Vp wc (Np.ci k) ds i wr) (λi _=>ds.length - (intOf i).toNat)
     case atStart=>exact⟨0,jQ _,rfl,vQ _ _,rfl⟩
     case round=>
      obtain⟨j,hj,rfl,aI,hg⟩:=hrel;have HG:=jq hg;clear hg;by_cases ab:j<ds.length
      ·have Kx:=aI.size;have l7:Below w.heap.size w wr:=aG.out.trans (aI.adZ);have Z9:w.heap.size<wr.heap.size:=by omega
       have d1:wr.cell? ⟨w.heap.size,1,none⟩=some (.int .i64 k):=by rw[aI.cell (by simpa using PY)];exact c1
       have d3:wr.cell? ⟨w.heap.size,3,none⟩=some (.slice A ds.length c):=by rw[aI.cell (by simpa using PY)];exact c3
       obtain⟨A',c',hA',_,_,bU⟩:=HD.out.keep bV l7
       cases hA'
       obtain⟨b,o,e,rfl,bA,_,hce,sd,uE,uF,rfl⟩:=bU j _ (aQ ab);have e0:wr.cell? ⟨b,o+j * 3,none⟩=some (.string sd):=hce 0 _ rfl;have e1:wr.cell? ⟨b,o+j * 3+1,none⟩=some (.int .i64 ds[j].n):=hce 1 _ rfl;have e2:wr.cell? ⟨b,o+j * 3+2,none⟩=some (.int .i64 ds[j].m):=hce 2 _ rfl;have dK:b<wr.heap.size:=by omega
       have k9:∀ (g:bk wr) (p:Addr),p.block<wr.heap.size->g.w.cell? p=wr.cell? p:=λg p h=>g.cell p h;have aV:=jq aI;have yl:=jq l7;have GN:=jq bU;have yH:=jq uE;have B2:(⟨sd.data.toList,ds[j].n,ds[j].m⟩:Np.Datum)=ds[j]:=by rw[yH.out]
       have rW:=jq B2;clear hce aI l7 bU uE c1 c3 B2 Kx;by_cases ta:Np.kb (Np.ci k) ⟨sd.data.toList,ds[j].n,ds[j].m⟩=true
       ·have lB:=jq ta;clear ta;by_cases jM:j=0
        ·subst jM;simp only[Nat.zero_mul,Nat.add_zero] at e0 e1 e2;go_wp2_with fail;refine a0Z ?_
         repeat (go_big_quiet_step ((go_at_call 226;exact Calls.grow_of (FI _ EH EI _ uF _ _ _ true lB.out))))
         refine wpQuiet_nil ?_;rintro _ ⟨g,rfl⟩;go_wp2_with fail;go_roundw
         case rel=>
          go_light;have h1:=Np.OQ (r:=Np.ci k) (aQ ab) (by rw[<-rW.out];exact lB.out);exact⟨1,ab,by go_num,aV.out.trans (g.below.mono aV.out.size),by rw[<-h1];exact HG.out⟩
         case measure=>simp[intOf] <;> omega
        ·obtain⟨i,rfl⟩:∃ i,j=i+1:=⟨j - 1,by omega⟩;obtain⟨b',o',e',pY,BT,_,kr,sq,kC,ZW,rfl⟩:=GN.out i _ (aQ (by omega))
         cases pY
         have f0:wr.cell? ⟨b,o+i * 3,none⟩=some (.string sq):=kr 0 _ rfl;have f1:wr.cell? ⟨b,o+i * 3+1,none⟩=some (.int .i64 (ds[i]'(by omega)).n):=kr 1 _ rfl;have f2:wr.cell? ⟨b,o+i * 3+2,none⟩=some (.int .i64 (ds[i]'(by omega)).m):=kr 2 _ rfl;have B0:(⟨sq.data.toList,(ds[i]'(by omega)).n,(ds[i]'(by omega)).m⟩:Np.Datum)=ds[i]'(by omega):=by rw[kC]
         have GH:=jq B0;clear kr kC B0;have la:(0:Int)<((i+1:Nat):Int):=by omega
         have h1:=Np.OR (r:=Np.ci k) (aQ (by omega:i<ds.length)) (aQ ab) (by rw[<-rW.out];exact lB.out);rw[<-rW.out,<-GH.out] at h1;have H1:=jq h1;clear h1;by_cases gG:Np.re ⟨sq.data.toList,(ds[i]'(by omega)).n,(ds[i]'(by omega)).m⟩ ⟨sd.data.toList,ds[i+1].n,ds[i+1].m⟩<0
         ·have lu:=jq gG;have GB:=jq (uQ gG);clear gG;go_wp2_with fail;refine a0Z ?_
          repeat (go_big_quiet_step (first
           | (go_at_call 226;exact Calls.grow_of (FI _ EH EI _ uF _ _ _ true lB.out))
           | (go_at_call 227;exact Calls.grow_of (RZ _ _ _ _ _ _ _ true GB.out))))
          refine wpQuiet_nil ?_;rintro _ ⟨g,rfl⟩;go_wp2_with fail;go_roundw
          case rel=>
           go_light;exact⟨i+1+1,ab,by go_num,aV.out.trans (g.below.mono aV.out.size),by rw[HG.out,H1.out,Qb lu.out]⟩
          case measure=>simp[intOf] <;> omega
         ·have lu:=jq gG;have GB:=jq (tQ gG);clear gG;go_wp2_with fail;refine a0Z ?_
          repeat (go_big_quiet_step (first
           | (go_at_call 226;exact Calls.grow_of (FI _ EH EI _ uF _ _ _ true lB.out))
           | (go_at_call 227;exact Calls.grow_of (RZ _ _ _ _ _ _ _ false GB.out))))
          refine wpQuiet_nil ?_;rintro _ ⟨g,rfl⟩;go_wp2_with fail;go_ret;refine⟨ag ?_,yl.out.trans (g.below.adZ)⟩;rw[HV.out,HG.out,H1.out,Qc (by have:=lu.out;omega)]
       ·have CM:Np.kb (Np.ci k) ⟨sd.data.toList,ds[j].n,ds[j].m⟩=false:=by simpa using ta
        have lB:=jq CM;clear ta CM;go_wp2_with fail;refine a0Z ?_
        repeat (go_big_quiet_step ((go_at_call 226;exact Calls.grow_of (FI _ EH EI _ uF _ _ _ false lB.out))))
        refine wpQuiet_nil ?_;rintro _ ⟨g,rfl⟩;go_wp2_with fail;go_ret;refine⟨ag ?_,yl.out.trans (g.below.adZ)⟩;rw[HV.out,HG.out,Np.OP (aQ ab) (by rw[<-rW.out];exact lB.out)]
      ·go_wp2_with fail;go_ret;refine⟨ag ?_,aG.out.trans (aI.adZ)⟩;rw[HV.out,HG.out,List.drop_eq_nil_of_le (by omega)];rfl
theorem uT{s:ByteArray}(h:Np.aD s.data.toList=true):s.size<=60:=by
 rw[Np.SV] at h;split at h
 ·rename_i e;rw[<-bn,e];decide
 ·split at h
  ·cases h
  ·rename_i h6;rw[bn] at h6;omega
theorem aEZ(s1 s2:ByteArray)(t1 l1 t2 l2:Int)(v1 v2:Value)(d1 d2:List Np.Datum)(n1:Np.aD s1.data.toList=true)(n2:Np.aD s2.data.toList=true)(w:World) :
 Calls prog 234 #[.agg #[.string s1,.int .i64 t1,.int .i64 l1,v1],.agg #[.string s2,.int .i64 t2,.int .i64 l2,v2]] w
  λe w'=>e = .returned (.int .i64 (Np.ir ⟨s1.data.toList,t1,l1,d1⟩ ⟨s2.data.toList,t2,l2,d2⟩))/\Below w.heap.size w w':=by
 have hw:∀ o o',Below w.heap.size w ((w.alloc o).alloc o'):=λo o'=>((vQ _ w).alloc (bQ _) _).alloc (by simp) _;have HW:=jq hw;clear hw;have bd:=uT n1;have aN:=uT n2;have N1:=jq n1;have N2:=jq n2;have hc:=Np.D4 ⟨s1.data.toList,t1,l1,d1⟩ ⟨s2.data.toList,t2,l2,d2⟩;simp only at hc;rw[hc];clear n1 n2 hc;generalize hQ:Np.aL s1.data.toList s2.data.toList=q;have HQ:=jq hQ;clear hQ;have key:∀ r:Int,(q≠0->r=q)->(q=0->r=Np.de t1 t2)->(if q≠0 then q else Np.de t1 t2)=r:=λr h1 h2=>by
  by_cases h:q=0
  ·rw[Qc (λe=>e h),h2 h]
  ·rw[Qb h,h1 h]
 have KEY:=jq key;clear key;by_cases hq:q=0
 ·have KQ:=jq hq;subst hq;by_cases h1:t1<t2
  ·rw[KEY.out (-1) (λe=>absurd rfl e) (λ_=>by rw[Np.de,Qb h1])];go_enter func234,ntmps234;go_wp2_with fail;refine (FH s1 s2 (by omega) (by omega) N1.out N2.out _).mono ?_;rw[HQ.out];rintro e w1 ⟨rfl,hb⟩;obtain⟨bq,o6⟩:=tV hb;have HB:=jq ((HW.out _ _).trans (hb.mono (by simp;omega)));clear hb;go_wp2_with fail;go_ret;exact⟨rfl,HB.out⟩
  ·by_cases h2:t2<t1
   ·rw[KEY.out 1 (λe=>absurd rfl e) (λ_=>by rw[Np.de,Qc h1,Qb h2])];go_enter func234,ntmps234;go_wp2_with fail;refine (FH s1 s2 (by omega) (by omega) N1.out N2.out _).mono ?_;rw[HQ.out];rintro e w1 ⟨rfl,hb⟩;obtain⟨bq,o6⟩:=tV hb;have HB:=jq ((HW.out _ _).trans (hb.mono (by simp;omega)));clear hb;go_wp2_with fail;go_ret;exact⟨rfl,HB.out⟩
   ·rw[KEY.out 0 (λe=>absurd rfl e) (λ_=>by rw[Np.de,Qc h1,Qc h2])];go_enter func234,ntmps234;go_wp2_with fail;refine (FH s1 s2 (by omega) (by omega) N1.out N2.out _).mono ?_;rw[HQ.out];rintro e w1 ⟨rfl,hb⟩;obtain⟨bq,o6⟩:=tV hb;have HB:=jq ((HW.out _ _).trans (hb.mono (by simp;omega)));clear hb;go_wp2_with fail;go_ret;exact⟨rfl,HB.out⟩
 ·have qn:(q != 0)=true:=by simpa using hq
  rw[KEY.out q (λ_=>rfl) (λe=>absurd e hq)];clear hq;go_enter func234,ntmps234;go_wp2_with fail;refine (FH s1 s2 (by omega) (by omega) N1.out N2.out _).mono ?_;rw[HQ.out];rintro e w1 ⟨rfl,hb⟩;obtain⟨bq,o6⟩:=tV hb;have HB:=jq ((HW.out _ _).trans (hb.mono (by simp;omega)));clear hb;go_wp2_with fail;go_ret;exact⟨rfl,HB.out⟩
end
section
open Go.RowKit Go.MapKept
def nE(r:Nat)(kvs:List (Int×Value))(w:World):Prop:=∃ es c,w.heap[r]?=some (.map es c)/\es.toList.map (λe=>(e.key,e.val))=kvs.map λp=>(Value.int .i64 p.1,p.2)
theorem nE.lt{r:Nat}{kvs:List (Int×Value)}{w:World}(h:nE r kvs w):r<w.heap.size:=by
 obtain⟨es,c,h,_⟩:=h;exact (eQ.1 h).1
theorem nE.keep{r:Nat}{kvs:List (Int×Value)}{w w':World}{n:Nat}(h:nE r kvs w)(hb:Below n w w')(hn:r<n):nE r kvs w':=by
 obtain⟨es,c,h,h2⟩:=h;exact⟨es,c,(hb.block r hn).trans h,h2⟩
theorem nE.made(w:World):nE w.heap.size [] (w.alloc (.map #[] 0)):=⟨#[],0,heap_alloc_new _ _,rfl⟩
theorem OG(x:Int):∀ (es:List MapEntry) (kvs:List (Int×Value)) (i:Nat),es.map (λe=>(e.key,e.val))=kvs.map (λp=>(Value.int .i64 p.1,p.2))->
 (∀ v,kvs.lookup x=some v->∃ j,Instr.findNow (.int .i64) (.int .i64 x) es i=some (some (j,v)))/\(kvs.lookup x=none->Instr.findNow (.int .i64) (.int .i64 x) es i=some none):=by
 intro es
 induction es with
 | nil=>
  intro kvs i h
  cases kvs with
  | nil=>exact⟨λv hv=>by simp at hv,λ_=>rfl⟩
  | cons=>simp at h
 | cons e es ih=>
  intro kvs i h
  cases kvs with
  | nil=>simp at h
  | cons p kvs=>
   obtain⟨y,u⟩:=p;simp only[List.map_cons,List.cons.injEq,Prod.mk.injEq] at h;obtain⟨⟨h1,h2⟩,h3⟩:=h;have hs:Instr.sameNow (.int .i64) (.int .i64 x) e.key=some (x == y):=by rw[h1];simp[Instr.sameNow]
   by_cases dM:x=y
   ·subst dM;have hb:(x == x)=true:=by simp
    rw[hb] at hs;refine⟨λv hv=>⟨i,?_⟩,λhv=>?_⟩
    ·rw[List.lookup_cons_self] at hv;simp only[Instr.findNow,hs]
     cases hv
     rw[h2]
    ·rw[List.lookup_cons_self] at hv;cases hv
   ·have hb:(x == y)=false:=by simpa using dM
    rw[hb] at hs;have hl:((y,u)::kvs).lookup x=kvs.lookup x:=by rw[List.lookup_cons,hb]
    rw[hl];obtain⟨i1,i2⟩:=ih kvs (i+1) h3;refine⟨λv hv=>?_,λhv=>?_⟩
    ·obtain⟨j,hj⟩:=i1 v hv;exact⟨j,by simp only[Instr.findNow,hs];exact hj⟩
    ·simp only[Instr.findNow,hs];exact i2 hv
section
variable {P:Program} {ops:Array Oper} {rest:List Oper} {o:Oper} {a:Act} {Q:Exit->Act->World->Prop}
theorem aXQ(w:World)(hg:o.guard=none)(m x v:Operand)(t:TypeId)(kB:o.op=Op.mapUpdate t m x v)(kt et:TypeId)(ht:P.underlying t=some (.map kt et))(hk:P.underlying kt=some (.int .i64))
 (r:Nat) (kvs:List (Int×Value)) (hm:a.eval m = .map (some r)) (hr:nE r kvs w) (key:Int) (hx:a.eval x = .int .i64 key) (val:Value) (hv:a.eval v=val) (ii:kvs.lookup key=none)
 (hK:∀ w',nE r (kvs ++ [(key,val)]) w'->Turned r w w'->wpList P ops Q rest (a.put o.dst undef) w'):wpList P ops Q (o::rest) a w:=by
 obtain⟨es,c,hr,he⟩:=hr;have hf:=(OG key es.toList kvs 0 he).2 ii;refine wpList_plain hg λK' hK'=>?_;have hc:(Instr.checkKey false 10000 kt (.int .i64 key)).run P w = .ok () w:=MapKept.run_checkKey (k:=.int .i64 key) hk (by simp[MapKept.IsKey]) false 9999;have dS:(Instr.mapUpdate t (.map (some r)) (.int .i64 key) val).run P w = .ok () { w with heap:=w.heap.setIfInBounds r (.map (es.push { key:=.int .i64 key,val:=val,born:=c }) (c+1)) }:=by
  simp[Instr.mapUpdate,run_underlying ht,MapKept.run_getObj_map hr,hc,MapKept.run_findKey hk hf,MapKept.run_setObj_map _ hr,Result.andThen]
 unfold Oper.wp;simp[execOp,kB,hm,hx,hv,dS,Result.andThen];have hl:r<w.heap.size:=(eQ.1 hr).1;refine hK' _ _ (hK _ ⟨_,_,by simp[hl];exact⟨rfl,rfl⟩,by simp[he]⟩ ⟨rfl,rfl,rfl,by simp,λi hi=>by simp[Ne.symm hi]⟩)
theorem aHY(w:World)(t kt et:TypeId)(ht:P.underlying t=some (.map kt et))(hk:P.underlying kt=some (.int .i64))(r:Nat)(kvs:List (Int×Value))(hr:nE r kvs w)(key:Int)(z:Value)(hz:(zeroValue et).run P w = .ok z w) :
 (Instr.lookup t (.map (some r)) (.int .i64 key) false).run P w = .ok ((kvs.lookup key).getD z) w:=by
 obtain⟨es,c,hr,he⟩:=hr;have hf:=OG key es.toList kvs 0 he;have hc:∀ b,(Instr.checkKey b 10000 kt (.int .i64 key)).run P w = .ok () w:=λb=>MapKept.run_checkKey (k:=.int .i64 key) hk (by simp[MapKept.IsKey]) b 9999
 cases hl:kvs.lookup key with
 | none=>simp[Instr.lookup,run_underlying ht,MapKept.run_getObj_map hr,hc,MapKept.run_findKey hk (hf.2 hl),Result.andThen,hz]
 | some v=>
  obtain⟨j,hj⟩:=hf.1 v hl;simp[Instr.lookup,run_underlying ht,MapKept.run_getObj_map hr,hc,MapKept.run_findKey hk hj,Result.andThen]
end
end
section
open Go.RowKit
def cE{α:Type}(R:a1Z α)(sz:Nat)(e:TypeId)(base B:Nat)(w:World)(v:Value)(xs:List α):Prop:=
 ∃ rows:List (List Value),rows.length=xs.length/\w.ownsRow base e sz v xs.length rows.flatten/\∀ (i:Nat) (r:List Value) (x:α),rows[i]?=some r->xs[i]?=some x->r.length=sz/\R w B r x
theorem Ee{sz:Nat} : ∀ (rows:List (List Value)) (i j:Nat) (r:List Value) (u:Value),(∀ q∈rows,q.length=sz)->rows[i]?=some r->r[j]?=some u->rows.flatten[i * sz+j]?=some u:=by
 intro rows
 induction rows with
 | nil=>intro i j r u _ h;simp at h
 | cons q rows ih=>
  intro i j r u hq h hj;have hl:q.length=sz:=hq q (by simp);rw[List.flatten_cons]
  cases i with
  | zero=>
   simp at h;subst h;rw[List.getElem?_append_left (by have:=(cQ.1 hj).1;omega)];simpa using hj
  | succ i=>
   rw[oQ (by rw[hl,Nat.succ_mul];omega),hl,show (i+1) * sz+j - sz=i * sz+j by rw[Nat.succ_mul];omega];exact ih i j r u (λq hq'=>hq q (by simp[hq'])) (by simpa using h) hj
theorem IZ{sz:Nat} : ∀ (rows:List (List Value)),(∀ q∈rows,q.length=sz)->rows.flatten.length=rows.length * sz:=by
 intro rows
 induction rows with
 | nil=>intro _;simp
 | cons q rs ih=>
  intro h;rw[List.flatten_cons,List.length_append,ih (λx hx=>h x (by simp[hx])),h q (by simp),List.length_cons,Nat.succ_mul];omega
theorem cE.rows_len{α:Type}{R:a1Z α}{sz B:Nat}{w:World}{xs:List α}{rows:List (List Value)}(hl:rows.length=xs.length)(h:∀ (i:Nat) (r:List Value) (x:α),rows[i]?=some r->xs[i]?=some x->r.length=sz/\R w B r x):∀ q∈rows,q.length=sz:=λq hq=>by
 obtain⟨i,hi,rfl⟩:=nQ.1 hq;exact (h i _ _ (aQ hi) (aQ (by omega))).1
theorem cE.slr{α:Type}{R:a1Z α}{sz:Nat}{e:TypeId}{base B:Nat}{w:World}{v:Value}{xs:List α}(h:cE R sz e base B w v xs)(hm:eL R)(hB:B<=w.heap.size)(hl:xs.length<=140737488355328):SlR R sz w w.heap.size v xs:=by
 obtain⟨rows,h1,h2,h3⟩:=h;rcases h2.2 with ⟨rfl,h0⟩ | ⟨g,cap,cur,rfl,hb,hg,pd,_⟩
 ·have:xs = []:=rQ h0
  subst this;exact⟨none,0,rfl,by simp,by simp,λi x hx=>by simp at hx⟩
 ·refine⟨_,cap,rfl,pd,hl,λi x hx=>?_⟩;have hi:=(cQ.1 hx).1;have hr:=aQ (show i<rows.length by omega);obtain⟨h4,h5⟩:=h3 i _ x hr hx;refine⟨g,0,rows[i],rfl,(eQ.1 hg).1,h4,λj u hj=>?_,hm _ _ _ _ _ h5 hB⟩;have h6:=h2.cells (g:=g) rfl _ _ (Ee rows i j _ u (cE.rows_len h1 h3) hr hj);have o4:(⟨g,0,none⟩:Addr).add (i * sz+j)=⟨g,0+i * sz+j,none⟩:=by unfold Addr.add;split <;> simp_all
  rw[o4] at h6;exact h6
theorem cE.keep{α:Type}{R:a1Z α}{sz:Nat}{e:TypeId}{base B:Nat}{w w':World}{v:Value}{xs:List α}(h:cE R sz e base B w v xs)(hk:ep R)(hb:Below w.heap.size w w')(hB:B<=w.heap.size):cE R sz e base B w' v xs:=by
 obtain⟨rows,h1,h2,h3⟩:=h;refine⟨rows,h1,gN h2 (λg hg=>hb.block g (h2.lt g hg).2),λi r x hr hx=>?_⟩;obtain⟨h4,h5⟩:=h3 i r x hr hx;exact⟨h4,hk _ _ _ _ _ h5 (hb.mono hB)⟩
theorem cE.empty{α:Type}{R:a1Z α}{sz:Nat}{e:TypeId}{base B:Nat}(w:World)(hb:base<=w.heap.size):cE (α:=α) R sz e base B (w.alloc (.cells #[] e)) (.slice (some ⟨w.heap.size,0,none⟩) 0 0) []:=
 ⟨[],rfl,⟨by simp,.inr ⟨w.heap.size,0,#[],rfl,hb,heap_alloc_new _ _,bQ _,by simp[maxLen],by simp,by simp⟩⟩,λi r x hr=>by simp at hr⟩
theorem cE.nil{α:Type}{R:a1Z α}{sz:Nat}{e:TypeId}{base B:Nat}(w:World):cE (α:=α) R sz e base B w (.slice none 0 0) []:=⟨[],rfl,⟨by simp,.inl ⟨rfl,rfl⟩⟩,λi r x hr=>by simp at hr⟩
theorem Sx{α:Type}{R:a1Z α}{sz:Nat}{w:World}{B:Nat}{A:Option Addr}{n c:Nat}{ys:List α}(h:SlR R sz w B (.slice A n c) ys)(an:0<sz) :
 ∃ rows:List (List Value),rows.length=ys.length/\(∀ (i:Nat) (r:List Value) (x:α),rows[i]?=some r->ys[i]?=some x->r.length=sz/\R w B r x)/\(ys≠[]->∃ b o,A=some ⟨b,o,none⟩/\b<B/\∀ j u,rows.flatten[j]?=some u->w.cell? ((⟨b,o,none⟩:Addr).add j)=some u):=by
 obtain⟨A',c',hv,hc,hl,he⟩:=h
 cases hv
 have bX:∀ k,k<=ys.length->∃ rows:List (List Value),rows.length=k/\(∀ (i:Nat) (r:List Value) (x:α),rows[i]?=some r->ys[i]?=some x->r.length=sz/\R w B r x/\∃ b o,A=some ⟨b,o,none⟩/\b<B/\eh w b (o+i * sz) r):=by
  intro k
  induction k with
  | zero=>exact λ_=>⟨[],rfl,λi r x hr=>by simp at hr⟩
  | succ k ih=>
   intro hk;obtain⟨rows,h1,h2⟩:=ih (by omega);obtain⟨b,o,e,hA,hb,bU,hce,hr⟩:=he k _ (aQ (by omega:k<ys.length));refine⟨rows ++ [e],by simp[h1],λi r x hr' hx=>?_⟩;rcases Nat.lt_or_ge i rows.length with ab | nP
   ·rw[List.getElem?_append_left ab] at hr';exact h2 i r x hr' hx
   ·rw[oQ nP] at hr';have h0:i - rows.length=0:=by have:=(cQ.1 hr').1;simp at this;omega
    rw[h0] at hr';simp at hr';subst hr';obtain rfl:i=k:=by omega
    rw[aQ (by omega)] at hx;simp only[Option.some.injEq] at hx;subst hx;exact⟨bU,hr,b,o,hA,hb,hce⟩
 obtain⟨rows,h1,h2⟩:=bX ys.length (bQ _);refine⟨rows,h1,λi r x hr hx=>⟨(h2 i r x hr hx).1,(h2 i r x hr hx).2.1⟩,λhne=>?_⟩;have h0:0<ys.length:=Nat.pos_of_ne_zero (λe=>hne (rQ e));obtain⟨_,_,b,o,hA,hb,_⟩:=h2 0 _ _ (aQ (by omega)) (aQ h0);refine⟨b,o,hA,hb,λj u hj=>?_⟩;have hlen:∀ q∈rows,q.length=sz:=λq hq=>by
  obtain⟨i,hi,rfl⟩:=nQ.1 hq;exact (h2 i _ _ (aQ hi) (aQ (by omega))).1
 have zd:=IZ rows hlen;have nT:=(cQ.1 hj).1;have hi:j / sz<rows.length:=by rw[zd] at nT;exact Nat.div_lt_of_lt_mul (by rw[Nat.mul_comm];exact nT)
 obtain⟨h5,_,b',o',hA',_,hce⟩:=h2 (j / sz) _ _ (aQ hi) (aQ (by omega));rw[hA] at hA';simp only[Option.some.injEq,Addr.mk.injEq,and_true] at hA';obtain⟨rfl,rfl⟩:=hA';have ut:j % sz<rows[j / sz].length:=by rw[h5];exact Nat.mod_lt _ an
 have h7:=Ee rows (j / sz) (j % sz) _ _ hlen (aQ hi) (aQ ut);rw[Nat.div_add_mod' j sz,hj] at h7;simp only[Option.some.injEq] at h7;have h8:=hce (j % sz) _ (aQ ut);rw[<-h7] at h8;have o4:(⟨b,o,none⟩:Addr).add j=⟨b,o+j,none⟩:=by unfold Addr.add;split <;> simp_all
 rw[o4,<-h8];congr 2
 have:=Nat.div_add_mod' j sz
 omega
section
variable {P:Program}
theorem Sh{w:World}(base:Nat)(t ty e:TypeId)(i:TypeInfo)(size:Nat)(ht:P.underlying t=some (.slice e))(hi:P.info? e=some i)(v:Value)(n c:Nat)(xs:List Value)(hown:w.ownsRow base e size v n xs) :
 (Builtin.append_ #[t,t] ty #[v,.slice none 0 c]).run P w = .ok v w:=by
 rcases hown.2 with ⟨rfl,rfl⟩ | ⟨g,cap,cur,rfl,_,_,pd,_⟩
 ·simp[Builtin.append_,run_underlying ht,sizeOf,typeInfo,hi,Builtin.lenOf,Builtin.firstCells]
 ·simp[Builtin.append_,run_underlying ht,sizeOf,typeInfo,hi,Builtin.lenOf,Builtin.firstCells,pd,storeCells]
theorem S8{α:Type}{R:a1Z α}{sz:Nat}(w:World){ops:Array Oper}{rest:List Oper}{o:Oper}{a:Act}{Q:Exit->Act->World->Prop}(js:o.guard=none)(s x:Operand)(t:TypeId)
 (ho:o.op = .call { callee:=.builtin .append,args:=#[s,x],argTypes:=#[t,t] })
 (base B:Nat) (e:TypeId) (i:TypeInfo) (z:Value) (bytes:Nat) (ht:P.underlying t=some (.slice e)) (hi:P.info? e=some i) (hz:i.zero=some z) (mi:i.size=sz) (ic:i.bytes=bytes) (gL:z.cells.size=sz) (an:0<sz)
 (v:Value) (xs:List α) (hs:a.eval s=v) (hown:cE R sz e base B w v xs) (A:Option Addr) (c Bs:Nat) (ys:List α) (hx:a.eval x = .slice A ys.length c) (cx:SlR R sz w Bs (.slice A ys.length c) ys)
 (xp:∀ r y,R w Bs r y->∀ u∈r,u.oneCell'=true) (kW:xs.length+ys.length<=maxLen) (nM:(xs.length+ys.length) * bytes<=140737488355328) (fh:base<=w.heap.size) (p8:Bs<=B) (OX:B<=base) (hk:ep R) (hm:eL R)
 (h:∀ v' w',cE R sz e base B w' v' (xs++ys)->Below base w w'->w.grownBy w' v.ownBlock->wpList P ops Q rest (a.put o.dst v') w'):wpList P ops Q (o::rest) a w:=by
 have sU:∀ (w':World) (v':Value) (rows rows':List (List Value)),Below base w w'->rows.length=xs.length->(∀ (i:Nat) (r:List Value) (x:α),rows[i]?=some r->xs[i]?=some x->r.length=sz/\R w B r x)->rows'.length=ys.length->
  (∀ (i:Nat) (r:List Value) (x:α),rows'[i]?=some r->ys[i]?=some x->r.length=sz/\R w Bs r x)->w'.ownsRow base e sz v' (xs.length+ys.length) (rows.flatten++rows'.flatten)->cE R sz e base B w' v' (xs++ys):=by
  intro w' v' rows rows' hb h1 h2 h3 h4 h5;refine⟨rows++rows',by simp[h1,h3],?_,λj r y hr hy=>?_⟩
  ·rw[List.length_append,List.flatten_append];exact h5
  ·rcases Nat.lt_or_ge j rows.length with ab | nP
   ·rw[List.getElem?_append_left ab] at hr;rw[List.getElem?_append_left (by omega)] at hy;obtain⟨h6,h7⟩:=h2 j r y hr hy;exact⟨h6,hk _ _ _ _ _ h7 (hb.mono OX)⟩
   ·rw[oQ nP] at hr;rw[oQ (by omega),<-h1] at hy;obtain⟨h6,h7⟩:=h4 _ r y hr hy;exact⟨h6,hk _ _ _ _ _ (hm _ _ _ _ _ h7 p8) (hb.mono OX)⟩
 obtain⟨rows,h1,h2,h3⟩:=hown;obtain⟨rows',h4,h5,h6⟩:=Sx cx an;by_cases hy:ys = []
 ·subst hy;have qo:rows' = []:=rQ (by simpa using h4);subst qo
  cases A with
  | none=>
   have dS:=Sh (P:=P) base t o.type e i sz ht hi v xs.length c rows.flatten h2;refine wpList_plain js λK hK=>?_;unfold Oper.wp;have hx':a.eval x = .slice none 0 c:=hx;simp[execOp,ho,resolve,invoke,builtin,hs,hx',dS,Result.andThen];refine hK _ _ (h v w (sU w v rows [] (vQ _ _) h1 h3 rfl (λj r y hr=>by simp at hr) (by simpa using h2)) (vQ _ _) ⟨rfl,rfl,rfl,bQ _,λ_ _ _=>rfl⟩)
  | some ad=>
   refine wpList_append_own_at w js s x t ho base e i z sz bytes ht hi hz mi ic gL an v xs.length rows.flatten hs h2 ad 0 c [] hx (by simp) (λj u hj=>by simp at hj) (λu hu=>by cases hu) (by simpa using kW) (by simpa using nM) fh ?_;intro v' w' ho' hg _ _;have hb:Below base w w':=(vQ _ _).grown hg fh (λk hk=>(h2.lt k hk).1);exact h v' w' (sU w' v' rows [] hb h1 h3 rfl (λj r y hr=>by simp at hr) (by simpa using ho')) hb hg
 ·obtain⟨b,o',rfl,bA,hcell⟩:=h6 hy;have hl:=cE.rows_len h4 h5;refine wpList_append_own_at w js s x t ho base e i z sz bytes ht hi hz mi ic gL an v xs.length rows.flatten hs h2 ⟨b,o',none⟩ ys.length c rows'.flatten hx (by rw[IZ rows' hl,h4]) hcell (λu hu=>?_) kW nM fh ?_
  ·obtain⟨r,hr,Kq⟩:=List.mem_flatten.1 hu;obtain⟨j,hj,rfl⟩:=nQ.1 hr;exact xp _ _ (h5 j _ _ (aQ hj) (aQ (by omega))).2 u Kq
  ·intro v' w' ho' hg _ _;have hb:Below base w w':=(vQ _ _).grown hg fh (λk hk=>(h2.lt k hk).1);exact h v' w' (sU w' v' rows rows' hb h1 h3 h4 h5 ho') hb hg
end
end
section
open Go.RowKit Go.MapKept
def pP(p:Int×List UInt8):Value:=.agg #[.int .i64 p.1,aA p.2]
def kl(r:Nat)(kvs:List ((Int×List UInt8)×Value))(w:World):Prop:=∃ es,w.heap[r]?=some (.map es es.size)/\es.toList.map (λe=>(e.key,e.val))=kvs.map (λp=>(pP p.1,p.2))/\∀ (i:Nat) (e:MapEntry),es[i]?=some e->e.born=i
theorem kl.lt{r:Nat}{kvs:List ((Int×List UInt8)×Value)}{w:World}(h:kl r kvs w):r<w.heap.size:=by
 obtain⟨es,h,_⟩:=h;exact (eQ.1 h).1
theorem kl.keep{r:Nat}{kvs:List ((Int×List UInt8)×Value)}{w w':World}{n:Nat}(h:kl r kvs w)(hb:Below n w w')(hn:r<n):kl r kvs w':=by
 obtain⟨es,h,h2⟩:=h;exact⟨es,(hb.block r hn).trans h,h2⟩
theorem kl.keep'{r:Nat}{kvs:List ((Int×List UInt8)×Value)}{w w':World}(h:kl r kvs w)(hb:w'.heap[r]?=w.heap[r]?):kl r kvs w':=by
 obtain⟨es,h,h2⟩:=h;exact⟨es,hb.trans h,h2⟩
theorem kl.made(w:World):kl w.heap.size [] (w.alloc (.map #[] 0)):=⟨#[],heap_alloc_new _ _,rfl,λi e h=>by simp at h⟩
theorem Xf(p q:Int×List UInt8)(w:World):(Op.equal 301 (pP p) (pP q)).run prog w = .ok (decide (p=q)) w:=by
 obtain⟨n,a⟩:=p;obtain⟨m,b⟩:=q;have u3:=underlying3;have a3:=isAgg3;have z3:=sizeOf3;have u9:=underlying9;have a9:=isAgg9;have z9:=sizeOf9;have hS:prog.underlying 301=some (.struct (prog.fieldsOf 301)):=by kernel_rfl
 have hp:prog.stoodInHeld 301=false:=by kernel_rfl
 show (Op.equalIn 10000 301 (.agg #[.int .i64 n,.string ⟨a.toArray⟩]) (.agg #[.int .i64 m,.string ⟨b.toArray⟩])).run prog w=_;rw[show (10000:Nat)=9999+1 from rfl,run_equalIn_agg w 9999 301 _ _ hS hp];simp only[Program.fieldsOf,underlying301];go_simp;by_cases h0:a=b <;> by_cases h1:n=m <;> simp[h0,h1]
theorem N4(b:Bool)(p:Int×List UInt8)(w:World):(Instr.checkKey b 10000 301 (pP p)).run prog w = .ok () w:=by
 have hS:=underlying301;have hs:∀ s w,(Instr.checkKey b 9999 9 (.string s)).run prog w = .ok () w:=λs w=>MapKept.run_checkKey (k:=.string s) underlying9 (by simp[MapKept.IsKey]) b 9998;have hi:∀ n w,(Instr.checkKey b 9999 3 (.int .i64 n)).run prog w = .ok () w:=λn w=>MapKept.run_checkKey (k:=.int .i64 n) underlying3 (by simp[MapKept.IsKey]) b 9998;have a3:=isAgg3;have z3:=sizeOf3;have a9:=isAgg9;have z9:=sizeOf9;rw[show (10000:Nat)=9999+1 from rfl,Instr.checkKey];simp only[pP,aA];simp[run_underlying hS,go_sem,Result.andThen,hs,hi]
theorem Xr{fs:Array Field}{k:Value}{e:MapEntry}{es:List MapEntry}(i:Nat):Instr.findNow (.struct fs) k (e::es) i=none:=by
 simp only[Instr.findNow];rfl
theorem NS(p:Int×List UInt8)(w:World):∀ (es:List MapEntry) (kvs:List ((Int×List UInt8)×Value)) (i:Nat),es.map (λe=>(e.key,e.val))=kvs.map (λq=>(pP q.1,q.2))->
 (∀ v,kvs.lookup p=some v->∃ j,(es[j]?).map (λe=>(e.key,e.val))=some (pP p,v)/\kvs[j]?=some (p,v)/\(Instr.findAsking 301 (pP p) es i).run prog w = .ok (some (i+j,v)) w)/\(kvs.lookup p=none->(Instr.findAsking 301 (pP p) es i).run prog w = .ok none w)
 | [],kvs,i,h=>by
   cases kvs with
   | nil=>exact⟨λv h=>by simp at h,λ_=>by rw[Instr.findAsking];rfl⟩
   | cons=>simp at h
 | e::es,kvs,i,h=>by
   cases kvs with
   | nil=>simp at h
   | cons q kvs=>
    obtain⟨q,u⟩:=q;simp only[List.map_cons,List.cons.injEq,Prod.mk.injEq] at h;obtain⟨⟨h1,h2⟩,h3⟩:=h;obtain⟨i1,i2⟩:=NS p w es kvs (i+1) h3;have hq:=Xf p q w;rw[<-h1] at hq;by_cases jS:p=q
    ·have hd:decide (p=q)=true:=by simpa using jS
     rw[hd] at hq;have hr:(Instr.findAsking 301 (pP p) (e::es) i).run prog w = .ok (some (i,u)) w:=by
      rw[Instr.findAsking];simp[hq,h2]
     subst jS;refine⟨λv hv=>⟨0,?_,?_,?_⟩,λhn=>?_⟩
     ·rw[List.lookup_cons_self] at hv;cases hv;simp[h1,h2]
     ·rw[List.lookup_cons_self] at hv;cases hv;rfl
     ·rw[List.lookup_cons_self] at hv;cases hv;exact hr
     ·rw[List.lookup_cons_self] at hn;cases hn
    ·have hd:decide (p=q)=false:=by simpa using jS
     rw[hd] at hq;have hb:(p == q)=false:=by simpa using jS
     have hr:(Instr.findAsking 301 (pP p) (e::es) i).run prog w=(Instr.findAsking 301 (pP p) es (i+1)).run prog w:=by
      rw[Instr.findAsking];simp[hq]
     have hl:((q,u)::kvs).lookup p=kvs.lookup p:=by rw[List.lookup_cons,hb]
     rw[hr,hl];refine⟨λv hv=>?_,i2⟩;obtain⟨j,j1,j2,j3⟩:=i1 v hv;exact⟨j+1,by simpa using j1,by simpa using j2,by rw[show i+(j+1)=i+1+j by omega];exact j3⟩
theorem OH(p:Int×List UInt8)(w:World)(es:List MapEntry)(kvs:List ((Int×List UInt8)×Value))(h:es.map (λe=>(e.key,e.val))=kvs.map (λq=>(pP q.1,q.2))) :
 (∀ v,kvs.lookup p=some v->∃ j,(es[j]?).map (λe=>(e.key,e.val))=some (pP p,v)/\kvs[j]?=some (p,v)/\(Instr.findKey 301 (pP p) es).run prog w = .ok (some (j,v)) w)/\(kvs.lookup p=none->(Instr.findKey 301 (pP p) es).run prog w = .ok none w):=by
 have hS:=underlying301
 cases es with
 | nil=>
  cases kvs with
  | nil=>exact⟨λv h=>by simp at h,λ_=>by simp[Instr.findKey,run_underlying hS,Instr.findNow]⟩
  | cons=>simp at h
 | cons e es=>
  obtain⟨i1,i2⟩:=NS p w (e::es) kvs 0 h;have hr:(Instr.findKey 301 (pP p) (e::es)).run prog w=(Instr.findAsking 301 (pP p) (e::es) 0).run prog w:=by
   simp[Instr.findKey,run_underlying hS,Xr]
  rw[hr];refine⟨λv hv=>?_,i2⟩;obtain⟨j,j1,j2,j3⟩:=i1 v hv;exact⟨j,j1,j2,by rw[j3,Nat.zero_add]⟩
theorem aHK(w:World)(t et:TypeId)(ht:prog.underlying t=some (.map 301 et))(r:Nat)(kvs:List ((Int×List UInt8)×Value))(hr:kl r kvs w)(p:Int×List UInt8)(z:Value)(hz:(zeroValue et).run prog w = .ok z w) :
 (Instr.lookup t (.map (some r)) (pP p) false).run prog w = .ok ((kvs.lookup p).getD z) w:=by
 obtain⟨es,hr,he,_⟩:=hr;have hf:=OH p w es.toList kvs he;have hc:∀ b,(Instr.checkKey b 10000 301 (pP p)).run prog w = .ok () w:=λb=>N4 b p w
 cases hl:kvs.lookup p with
 | none=>simp[Instr.lookup,run_underlying ht,MapKept.run_getObj_map hr,hc,hf.2 hl,Result.andThen,hz]
 | some v=>
  obtain⟨j,_,_,hj⟩:=hf.1 v hl;simp[Instr.lookup,run_underlying ht,MapKept.run_getObj_map hr,hc,hj,Result.andThen]
theorem aWY{ops:Array Oper}{rest:List Oper}{o:Oper}{a:Act}{Q:Exit->Act->World->Prop}(w:World)(hg:o.guard=none)(m x v:Operand)(t:TypeId)(kB:o.op=Op.mapUpdate t m x v)(et:TypeId)(ht:prog.underlying t=some (.map 301 et))
 (r:Nat) (kvs:List ((Int×List UInt8)×Value)) (hm:a.eval m = .map (some r)) (hr:kl r kvs w) (p:Int×List UInt8) (hx:a.eval x=pP p) (val:Value) (hv:a.eval v=val) (ii:kvs.lookup p=none)
 (hK:∀ w',kl r (kvs ++ [(p,val)]) w'->Turned r w w'->wpList prog ops Q rest (a.put o.dst undef) w'):wpList prog ops Q (o::rest) a w:=by
 obtain⟨es,hr,he,iO⟩:=hr;have hf:=(OH p w es.toList kvs he).2 ii;refine wpList_plain hg λK' hK'=>?_;have hc:(Instr.checkKey false 10000 301 (pP p)).run prog w = .ok () w:=N4 false p w;have dS:(Instr.mapUpdate t (.map (some r)) (pP p) val).run prog w = .ok () { w with heap:=w.heap.setIfInBounds r (.map (es.push { key:=pP p,val:=val,born:=es.size }) (es.size+1)) }:=by
  simp[Instr.mapUpdate,run_underlying ht,MapKept.run_getObj_map hr,hc,hf,MapKept.run_setObj_map _ hr,Result.andThen]
 unfold Oper.wp;simp[execOp,kB,hm,hx,hv,dS,Result.andThen];have hl:r<w.heap.size:=(eQ.1 hr).1;refine hK' _ _ (hK _ ⟨es.push { key:=pP p,val:=val,born:=es.size },by simp[hl],by simp[he],λi e hi=>?_⟩ ⟨rfl,rfl,rfl,by simp,λi hi=>by simp[Ne.symm hi]⟩);rw[Array.getElem?_push] at hi;split at hi
 ·rename_i h1;cases hi;exact h1.symm
 ·exact iO i e hi
def pH(p:Int×List UInt8):Value:=.agg #[.int .i64 p.1,aA p.2]
def oP(r:Nat)(kvs:List ((Int×List UInt8)×Value))(w:World):Prop:=∃ es,w.heap[r]?=some (.map es es.size)/\es.toList.map (λe=>(e.key,e.val))=kvs.map (λp=>(pH p.1,p.2))/\∀ (i:Nat) (e:MapEntry),es[i]?=some e->e.born=i
theorem oP.lt{r:Nat}{kvs:List ((Int×List UInt8)×Value)}{w:World}(h:oP r kvs w):r<w.heap.size:=by
 obtain⟨es,h,_⟩:=h;exact (eQ.1 h).1
theorem oP.keep{r:Nat}{kvs:List ((Int×List UInt8)×Value)}{w w':World}{n:Nat}(h:oP r kvs w)(hb:Below n w w')(hn:r<n):oP r kvs w':=by
 obtain⟨es,h,h2⟩:=h;exact⟨es,(hb.block r hn).trans h,h2⟩
theorem oP.keep'{r:Nat}{kvs:List ((Int×List UInt8)×Value)}{w w':World}(h:oP r kvs w)(hb:w'.heap[r]?=w.heap[r]?):oP r kvs w':=by
 obtain⟨es,h,h2⟩:=h;exact⟨es,hb.trans h,h2⟩
theorem oP.made(w:World):oP w.heap.size [] (w.alloc (.map #[] 0)):=⟨#[],heap_alloc_new _ _,rfl,λi e h=>by simp at h⟩
theorem Xd(p q:Int×List UInt8)(w:World):(Op.equal 186 (pH p) (pH q)).run prog w = .ok (decide (p=q)) w:=by
 obtain⟨n,a⟩:=p;obtain⟨m,b⟩:=q;have u3:=underlying3;have a3:=isAgg3;have z3:=sizeOf3;have u9:=underlying9;have a9:=isAgg9;have z9:=sizeOf9;have hS:prog.underlying 186=some (.struct (prog.fieldsOf 186)):=by kernel_rfl
 have hp:prog.stoodInHeld 186=false:=by kernel_rfl
 show (Op.equalIn 10000 186 (.agg #[.int .i64 n,.string ⟨a.toArray⟩]) (.agg #[.int .i64 m,.string ⟨b.toArray⟩])).run prog w=_;rw[show (10000:Nat)=9999+1 from rfl,run_equalIn_agg w 9999 186 _ _ hS hp];simp only[Program.fieldsOf,underlying186];go_simp;by_cases h0:a=b <;> by_cases h1:n=m <;> simp[h0,h1]
theorem Wp(b:Bool)(p:Int×List UInt8)(w:World):(Instr.checkKey b 10000 186 (pH p)).run prog w = .ok () w:=by
 have hS:=underlying186;have hs:∀ s w,(Instr.checkKey b 9999 9 (.string s)).run prog w = .ok () w:=λs w=>MapKept.run_checkKey (k:=.string s) underlying9 (by simp[MapKept.IsKey]) b 9998;have hi:∀ n w,(Instr.checkKey b 9999 3 (.int .i64 n)).run prog w = .ok () w:=λn w=>MapKept.run_checkKey (k:=.int .i64 n) underlying3 (by simp[MapKept.IsKey]) b 9998;have a3:=isAgg3;have z3:=sizeOf3;have a9:=isAgg9;have z9:=sizeOf9;rw[show (10000:Nat)=9999+1 from rfl,Instr.checkKey];simp only[pH,aA];simp[run_underlying hS,go_sem,Result.andThen,hs,hi]
theorem Xp{fs:Array Field}{k:Value}{e:MapEntry}{es:List MapEntry}(i:Nat):Instr.findNow (.struct fs) k (e::es) i=none:=by
 simp only[Instr.findNow];rfl
theorem NP(p:Int×List UInt8)(w:World):∀ (es:List MapEntry) (kvs:List ((Int×List UInt8)×Value)) (i:Nat),es.map (λe=>(e.key,e.val))=kvs.map (λq=>(pH q.1,q.2))->
 (∀ v,kvs.lookup p=some v->∃ j,(es[j]?).map (λe=>(e.key,e.val))=some (pH p,v)/\kvs[j]?=some (p,v)/\(Instr.findAsking 186 (pH p) es i).run prog w = .ok (some (i+j,v)) w)/\(kvs.lookup p=none->(Instr.findAsking 186 (pH p) es i).run prog w = .ok none w)
 | [],kvs,i,h=>by
   cases kvs with
   | nil=>exact⟨λv h=>by simp at h,λ_=>by rw[Instr.findAsking];rfl⟩
   | cons=>simp at h
 | e::es,kvs,i,h=>by
   cases kvs with
   | nil=>simp at h
   | cons q kvs=>
    obtain⟨q,u⟩:=q;simp only[List.map_cons,List.cons.injEq,Prod.mk.injEq] at h;obtain⟨⟨h1,h2⟩,h3⟩:=h;obtain⟨i1,i2⟩:=NP p w es kvs (i+1) h3;have hq:=Xd p q w;rw[<-h1] at hq;by_cases jS:p=q
    ·have hd:decide (p=q)=true:=by simpa using jS
     rw[hd] at hq;have hr:(Instr.findAsking 186 (pH p) (e::es) i).run prog w = .ok (some (i,u)) w:=by
      rw[Instr.findAsking];simp[hq,h2]
     subst jS;refine⟨λv hv=>⟨0,?_,?_,?_⟩,λhn=>?_⟩
     ·rw[List.lookup_cons_self] at hv;cases hv;simp[h1,h2]
     ·rw[List.lookup_cons_self] at hv;cases hv;rfl
     ·rw[List.lookup_cons_self] at hv;cases hv;exact hr
     ·rw[List.lookup_cons_self] at hn;cases hn
    ·have hd:decide (p=q)=false:=by simpa using jS
     rw[hd] at hq;have hb:(p == q)=false:=by simpa using jS
     have hr:(Instr.findAsking 186 (pH p) (e::es) i).run prog w=(Instr.findAsking 186 (pH p) es (i+1)).run prog w:=by
      rw[Instr.findAsking];simp[hq]
     have hl:((q,u)::kvs).lookup p=kvs.lookup p:=by rw[List.lookup_cons,hb]
     rw[hr,hl];refine⟨λv hv=>?_,i2⟩;obtain⟨j,j1,j2,j3⟩:=i1 v hv;exact⟨j+1,by simpa using j1,by simpa using j2,by rw[show i+(j+1)=i+1+j by omega];exact j3⟩
theorem Xn(p:Int×List UInt8)(w:World)(es:List MapEntry)(kvs:List ((Int×List UInt8)×Value))(h:es.map (λe=>(e.key,e.val))=kvs.map (λq=>(pH q.1,q.2))) :
 (∀ v,kvs.lookup p=some v->∃ j,(es[j]?).map (λe=>(e.key,e.val))=some (pH p,v)/\kvs[j]?=some (p,v)/\(Instr.findKey 186 (pH p) es).run prog w = .ok (some (j,v)) w)/\(kvs.lookup p=none->(Instr.findKey 186 (pH p) es).run prog w = .ok none w):=by
 have hS:=underlying186
 cases es with
 | nil=>
  cases kvs with
  | nil=>exact⟨λv h=>by simp at h,λ_=>by simp[Instr.findKey,run_underlying hS,Instr.findNow]⟩
  | cons=>simp at h
 | cons e es=>
  obtain⟨i1,i2⟩:=NP p w (e::es) kvs 0 h;have hr:(Instr.findKey 186 (pH p) (e::es)).run prog w=(Instr.findAsking 186 (pH p) (e::es) 0).run prog w:=by
   simp[Instr.findKey,run_underlying hS,Xp]
  rw[hr];refine⟨λv hv=>?_,i2⟩;obtain⟨j,j1,j2,j3⟩:=i1 v hv;exact⟨j,j1,j2,by rw[j3,Nat.zero_add]⟩
end
section
open Go.RowKit
section
variable {P:Program} (w:World)
theorem aHZ(base:Nat)(t u ty e:TypeId)(i:TypeInfo)(ht:P.underlying t=some (.slice e))(hu:P.underlying u=some .string)(hi:P.info? e=some i)(hz:i.zero=some (.int .u8 0))
 (mi:i.size=1) (ic:i.bytes=1) (v:Value) (n:Nat) (xs:List Value) (hown:w.ownsRow base e 1 v n xs) (s:ByteArray) (kW:n+s.size<=maxLen) (nM:n+s.size<=140737488355328) (fh:base<=w.heap.size) :
 ∃ v' w',(Builtin.append_ #[t,u] ty #[v,.string s]).run P w = .ok v' w'/\w'.ownsRow base e 1 v' (n+s.size) (xs++Lib.strCells s)/\w.grownBy w' v.ownBlock/\(v'.ownBlock=v.ownBlock\/v'.ownBlock=some w.heap.size)/\(v' = .slice none 0 0↔v = .slice none 0 0/\s.size=0):=by
 obtain⟨v',w',dS,h2,h3,h4⟩:=Lib.run_append_own_string (P:=P) w base t u ty e i ht hu hi hz mi ic v n xs hown s kW nM fh;refine⟨v',w',dS,h2,h3,?_,h4⟩;have a9Z:n+s.size<=9223372036854775807:=by simp only[maxLen] at kW;omega
 rcases hown.2 with ⟨rfl,rfl⟩ | ⟨g,cap,cur,rfl,fS,hg,pd,gG,hcs,Z1⟩
 ·by_cases hm:s.size=0
  ·exact .inl (by rw[h4.2 ⟨rfl,hm⟩])
  ·have hr:=run_append_nil_string (P:=P) w t u ty e i (.int .u8 0) ht hu hi hz s (by omega) (by omega) (by rw[ic];omega);rw[hr] at dS;injection dS with h5 _
   exact .inr (by rw[<-h5];rfl)
 ·by_cases ZI:n+s.size<=cap
  ·have hr:=Lib.run_append_room_string (P:=P) w t u ty e i ht hu hi mi g n cap cur hg s ZI (by omega);rw[hr] at dS;injection dS with h5 _
   exact .inl (by rw[<-h5];rfl)
  ·have holds:∀ j u,xs[j]?=some u->w.cell? ((⟨g,0,none⟩:Addr).add j)=some u:=hown.cells (g:=g) rfl;have hr:=Lib.run_append_grow_string (P:=P) w t u ty e i (.int .u8 0) ht hu hi hz ⟨g,0,none⟩ n cap xs (by rw[mi];exact hown.1) holds s (by omega) (by omega) (by rw[ic];exact growslice_fits (by omega) (by omega));rw[hr] at dS;injection dS with h5 _
   exact .inr (by rw[<-h5];rfl)
theorem aVX{ops:Array Oper}{rest:List Oper}{o:Oper}{a:Act}{Q:Exit->Act->World->Prop}(js:o.guard=none)(sl x:Operand)(t u:TypeId)
 (ho:o.op = .call { callee:=.builtin .append,args:=#[sl,x],argTypes:=#[t,u] })
 (base:Nat) (e:TypeId) (i:TypeInfo) (ht:P.underlying t=some (.slice e)) (hu:P.underlying u=some .string) (hi:P.info? e=some i) (hz:i.zero=some (.int .u8 0)) (mi:i.size=1) (ic:i.bytes=1)
 (v:Value) (n:Nat) (xs:List Value) (hs:a.eval sl=v) (hown:w.ownsRow base e 1 v n xs) (s:ByteArray) (hx:a.eval x = .string s) (kW:n+s.size<=maxLen) (nM:n+s.size<=140737488355328) (fh:base<=w.heap.size)
 (h:∀ v' w',w'.ownsRow base e 1 v' (n+s.size) (xs++Lib.strCells s)->w.grownBy w' v.ownBlock->(v'.ownBlock=v.ownBlock\/v'.ownBlock=some w.heap.size)->(v' = .slice none 0 0↔v = .slice none 0 0/\s.size=0)->wpList P ops Q rest (a.put o.dst v') w'):wpList P ops Q (o::rest) a w:=by
 obtain⟨v',w',hr,h2,h3,h4,h5⟩:=aHZ (P:=P) w base t u o.type e i ht hu hi hz mi ic v n xs hown s kW nM fh;refine wpList_plain js λK hK=>?_;unfold Oper.wp execOp;simp only[ho,resolve,invoke,builtin,Sem.run_bind,Sem.run_pure,Result.andThen_ok,List.map_toArray,List.map_cons,List.map_nil,hs,hx,hr];exact hK _ _ (h v' w' h2 h3 h4 h5)
end
theorem Tryz.infoByte:(prog.info? 5).map (λi=>(i.zero,i.size,i.bytes))=some (some (.int .u8 0),1,1):=by kernel_rfl
structure BldT(T:TypeId):Prop where
 lies:liesAt prog prog.depth T (2 / prog.cellsOf T) 0 198 1=true
 ne:T≠5
def Bld(T:TypeId)(B b:Nat)(r:Option Nat)(l:List UInt8)(w:World):Prop:=
 ∃ p v,(p = .pointer none\/p = .pointer (some ⟨b,0,none⟩))/\B<=b/\w.heap[b]?=some (.cells #[p,v] T (0,0))/\w.ownsRow B 5 1 v l.length (Lib.byteCells l)/\v.ownBlock=r/\r≠some b/\(l = []->v = .slice none 0 0)
structure BS(b:Nat)(r:Option Nat)(w:World)(r':Option Nat)(w':World):Prop where
 os:w'.os=w.os
 tape:w'.tape=w.tape
 output:w'.output=w.output
 size:w.heap.size<=w'.heap.size
 keep:∀ k,k<w.heap.size->k≠b->r≠some k->w'.heap[k]?=w.heap[k]?
 at_:r'=r\/∃ k,w.heap.size<=k/\r'=some k
theorem BS.refl(b:Nat)(r:Option Nat)(w:World):BS b r w r w:=⟨rfl,rfl,rfl,bQ _,λ_ _ _ _=>rfl,.inl rfl⟩
theorem BS.trans{b:Nat}{r r' r'':Option Nat}{w w' w'':World}(h:BS b r w r' w')(k:BS b r' w' r'' w''):BS b r w r'' w'':=by
 refine⟨k.os.trans h.os,k.tape.trans h.tape,k.output.trans h.output,yQ h.size k.size,λi hi hb hr=>?_,?_⟩
 ·refine (k.keep i (lQ hi h.size) hb (λe=>?_)).trans (h.keep i hi hb hr);rcases h.at_ with e' | ⟨j,hj,e'⟩
  ·rw[e'] at e;exact hr e
  ·rw[e'] at e;simp at e;omega
 ·rcases k.at_ with e | ⟨j,hj,e⟩
  ·rcases h.at_ with e' | ⟨j,hj,e'⟩
   ·exact .inl (e.trans e')
   ·exact .inr ⟨j,hj,e.trans e'⟩
  ·exact .inr ⟨j,yQ h.size hj,e⟩
theorem BS.of_below{b:Nat}{r:Option Nat}{w w':World}(h:Below w.heap.size w w'):BS b r w r w':=⟨h.os,h.tape,h.output,h.size,λk hk _ _=>h.block k hk,.inl rfl⟩
theorem BS.after{b:Nat}{r r':Option Nat}{w w' w'':World}(h:BS b r w r' w')(k:Below w'.heap.size w' w''):BS b r w r' w'':=h.trans (BS.of_below k)
theorem BS.below{b:Nat}{r r':Option Nat}{w w':World}{n:Nat}(h:BS b r w r' w')(hb:n<=b)(hr:∀ k,r=some k->n<=k)(hn:n<=w.heap.size):Below n w w':=
 ⟨h.os,h.tape,h.output,h.size,λk hk=>h.keep k (by omega) (by omega) (λe=>by have:=hr k e;omega)⟩
theorem BS.cell{b:Nat}{r r':Option Nat}{w w':World}(h:BS b r w r' w'){k:Nat}(hk:k<w.heap.size)(hb:k≠b)(hr:r≠some k)(o:Nat):w'.cell? ⟨k,o,none⟩=w.cell? ⟨k,o,none⟩:=iQ (w:=w) (h.keep k hk hb hr)
theorem BS.free{b:Nat}{r r':Option Nat}{w w':World}(h:BS b r w r' w'){k:Nat}(hk:k<w.heap.size)(hr:r≠some k):r'≠some k:=λe=>by
 rcases h.at_ with e' | ⟨j,hj,e'⟩
 ·rw[e'] at e;exact hr e
 ·rw[e'] at e;simp at e;omega
theorem Bld.row{T:TypeId}{B b:Nat}{r:Option Nat}{l:List UInt8}{w:World}(h:Bld T B b r l w):B<=b/\b<w.heap.size/\∀ k,r=some k->B<=k/\k<w.heap.size:=by
 obtain⟨p,v,_,hB,hb,ho,rfl,_,_⟩:=h;exact⟨hB,(eQ.1 hb).1,λk hk=>ho.lt k hk⟩
theorem Bld.keep{T:TypeId}{B b:Nat}{r:Option Nat}{l:List UInt8}{w w':World}(h:Bld T B b r l w)(hb:Below w.heap.size w w'):Bld T B b r l w':=by
 have hrow:=h.row;obtain⟨p,v,hp,hB,hh,ho,rfl,hne,hn⟩:=h;refine⟨p,v,hp,hB,(hb.block b hrow.2.1).trans hh,gN ho (λg hg=>hb.block g (hrow.2.2 g hg).2),rfl,hne,hn⟩
theorem Bld.fresh(T:TypeId)(w:World):Bld T w.heap.size w.heap.size none [] (w.alloc (.cells #[.pointer none,.slice none 0 0] T)):=
 ⟨_,_,.inl rfl,bQ _,heap_alloc_new w _,World.ownsRow_nil _ _ _ _,rfl,by simp,λ_=>rfl⟩
theorem aqY{w:World}{base:Nat}{e T:TypeId}{v:Value}{n:Nat}{xs:List Value}{b:Nat}{cs:Array Value}{fr:Nat×Nat}(ho:w.ownsRow base e 1 v n xs)(hb:w.heap[b]?=some (.cells cs T fr))(hT:T≠e):v.ownBlock≠some b:=by
 intro h;rcases ho.2 with ⟨rfl,_⟩ | ⟨g,cap,cur,rfl,_,hg,_⟩
 ·cases h
 ·have:g=b:=Option.some.inj h
  subst this;rw[hb] at hg;simp only[Option.some.injEq,Obj.cells.injEq] at hg;exact hT hg.2.1
theorem Wc:prog.cellsOf 5=1:=by kernel_rfl
theorem Sr:(prog.info? 198).map (·.size)=some 2:=by kernel_rfl
theorem WI(b:Nat)(w:World)(h0:w.cell? ⟨b,0,none⟩=some (.pointer (some ⟨b,0,none⟩))) :
 Calls prog 210 #[.pointer (some ⟨b,0,none⟩)] w λe w'=>e = .returned (.tuple #[])/\w'=w:=by
 obtain⟨j,hj,_⟩:=Option.map_eq_some_iff.1 Sr;go_enter func210,ntmps210;go_wp2;rw[Lib.run_neq_ptr_same w _ underlying195 hj];go_wp2;go_end0;exact⟨rfl,rfl⟩
theorem WH{T:TypeId}(hT:BldT T)(b:Nat)(w:World)(h0:w.cell? ⟨b,0,none⟩=some (.pointer none))(Qv:w.shape? b=some (T,2))(wN:w.frozen? ⟨b,0,none⟩=false) :
 Calls prog 210 #[.pointer (some ⟨b,0,none⟩)] w λe w'=>e = .returned (.tuple #[])/\w'=w.setCell ⟨b,0,none⟩ (.pointer (some ⟨b,0,none⟩)):=by
 obtain⟨j,hj,Ch⟩:=Option.map_eq_some_iff.1 Sr;go_enter func210,ntmps210;go_wp2;rw[Lib.run_to_unsafe w ⟨b,0,none⟩ underlying195 underlying325 hj (by rw[Ch];decide) Qv (Nat.zero_lt_succ 1)];simp only[Result.andThen];rw[Oper.upon_value];go_wp2;rw[run_callFunc_extern func283 (by kernel_rfl) (by kernel_rfl) (by kernel_rfl) (e:=Extern.AbiNoEscape.same) (by kernel_rfl)];rw[Lib.run_noEscape];simp only[Result.andThen];rw[Oper.upon_value];go_wp2;rw[Lib.run_from_unsafe w ⟨b,0,none⟩ underlying325 underlying195 hj Qv hT.lies];simp only[Result.andThen];rw[Oper.upon_value];go_wp2;go_end0;exact⟨rfl,rfl⟩
def Used(T:TypeId)(B b:Nat)(r:Option Nat)(l:List UInt8)(w:World):Prop:=
 ∃ v,B<=b/\w.heap[b]?=some (.cells #[.pointer (some ⟨b,0,none⟩),v] T (0,0))/\w.ownsRow B 5 1 v l.length (Lib.byteCells l)/\v.ownBlock=r/\r≠some b/\(l = []->v = .slice none 0 0)
theorem Of{T:TypeId}(hT:BldT T)(B b:Nat)(r:Option Nat)(l:List UInt8)(w:World)(h:Bld T B b r l w) :
 Calls prog 210 #[.pointer (some ⟨b,0,none⟩)] w λe w'=>e = .returned (.tuple #[])/\Used T B b r l w'/\BS b r w r w':=by
 obtain⟨p,v,hp,hB,hb,ho,hr,hne,hn⟩:=h;have ab:=(eQ.1 hb).1;rcases hp with rfl | rfl
 ·refine (WH hT b w (by rw[Lib.cell_of_heap hb];rfl) (by simp[World.shape?,hb]) (Lib.frozen_of_heap hb 0)).mono ?_;rintro e w' ⟨rfl,rfl⟩;refine⟨rfl,⟨v,hB,?_,?_,hr,hne,hn⟩,⟨rfl,rfl,rfl,by simp[World.setCell],λk _ hk _=>wQ _ _ _ _ hk,.inl rfl⟩⟩
  ·simp[World.setCell,Array.getElem?_modify,hb]
  ·exact gN ho (λg hg=>wQ _ _ _ _ (λe=>by rw[hr] at hg;exact hne (by rw[hg];simpa using e)))
 ·refine (WI b w (by rw[Lib.cell_of_heap hb];rfl)).mono ?_;rintro e w' ⟨rfl,rfl⟩;exact⟨rfl,⟨v,hB,hb,ho,hr,hne,hn⟩,BS.refl _ _ _⟩
theorem SS{T:TypeId}(hT:BldT T){B b:Nat}{r:Option Nat}{w1 w2:World}{v v':Value}{l':List UInt8}(hB:B<=b)(ac:w2.heap[b]?=some (.cells #[.pointer (some ⟨b,0,none⟩),v] T (0,0)))
 (ho:w2.ownsRow B 5 1 v' l'.length (Lib.byteCells l')) (an:w1.heap.size<=w2.heap.size) (sU:∀ k,k<w1.heap.size->k≠b->r≠some k->w2.heap[k]?=w1.heap[k]?) (uB:w2.os=w1.os/\w2.tape=w1.tape/\w2.output=w1.output)
 (hat:v'.ownBlock=r\/∃ k,w1.heap.size<=k/\v'.ownBlock=some k) (hn:l' = []->v' = .slice none 0 0) :
 Bld T B b v'.ownBlock l' (w2.setCell ⟨b,1,none⟩ v')/\BS b r w1 v'.ownBlock (w2.setCell ⟨b,1,none⟩ v'):=by
 have hne:=aqY ho ac hT.ne;refine⟨⟨_,v',.inr rfl,hB,?_,?_,rfl,hne,hn⟩,⟨uB.1,uB.2.1,uB.2.2,by simpa [World.setCell] using an,λk hk h1 h2=>(wQ _ _ _ _ h1).trans (sU k hk h1 h2),hat⟩⟩
 ·simp[World.setCell,Array.getElem?_modify,ac]
 ·exact gN ho (λg hg=>wQ _ _ _ _ (λe=>hne (by rw[hg];simpa using e)))
def zX(T:TypeId)(B b:Nat)(r:Option Nat)(l:List UInt8)(v:Value)(w:World)(e:Ending)(w':World):Prop:=e = .returned v/\∃ r',Bld T B b r' l w'/\BS b r w r' w'
theorem aXJ{T:TypeId}(hT:BldT T)(B b:Nat)(r:Option Nat)(l:List UInt8)(c:UInt8)(w:World)(h:Bld T B b r l w)(hl:l.length<=100000000)(iL:B<=w.heap.size) :
 Calls prog 130 #[.pointer (some ⟨b,0,none⟩),.int .u8 c.toNat] w (zX T B b r (l ++ [c]) .nilIface w):=by
 obtain⟨i0,hi,fk,bd,aN⟩:=info_parts Tryz.infoByte;have H:=jq h;clear h;go_enter func130,ntmps130;go_wp2_with fail;refine (Of hT B b r l _ H.out).mono ?_;rintro e w1 ⟨rfl,⟨v,hB,sJ,hown,hr,hne,_⟩,bK⟩;have c1:w1.cell? ⟨b,1,none⟩=some v:=by rw[Lib.cell_of_heap sJ];rfl
 have ab:b<w1.heap.size:=(eQ.1 sJ).1;have HO:=jq hown;have Ae:=jq sJ;have HR:=jq hr;have fF:=jq bK;have uH:=bK.size;clear hown sJ hr bK;go_wp2_with (at_builtin;refine wpList_append_own_at _ rfl _ _ 196 rfl B 5 i0 (.int .u8 0) 1 1 underlying196 hi fk bd aN rfl (by decide) _ _ _ rfl (HO.out.alloc _) ⟨w1.heap.size,0,none⟩ 1 1 [.int .u8 c.toNat] rfl rfl (cell_one_new _ _ _) (by simp[Value.oneCell']) (by unfold maxLen;omega) (by omega) (by simp;omega) ?_;intro v' w2 qm Cc EZ hat;have H2:=jq (And.intro qm (And.intro Cc hat));clear qm Cc hat EZ;have ac:w2.heap[b]?=some (.cells #[.pointer (some ⟨b,0,none⟩),v] T (0,0)):=(by rw[H2.out.2.1.block b (by simp;omega) (λe=>hne (HR.out.symm.trans e.symm)),Lib.alloc_old w1 _ b ab];exact Ae.out);have d1:w2.cell? ⟨b,1,none⟩=some v:=(by rw[Lib.cell_of_heap ac];rfl);have f1:w2.frozen? ⟨b,1,none⟩=false:=Lib.frozen_of_heap ac 1;have ai:=jq ac;clear ac;obtain⟨ao,cap,rfl⟩:=zH H2.out.1);go_ret;obtain⟨o2,g2,a2⟩:=H2.out;have ui:=SS hT (r:=r) (w1:=w1) (l':=l ++ [c]) hB ai.out (by simpa [Lib.byteCells] using o2) (by have:=g2.size;simp at this;omega) (λk hk h1 h2=>by rw[g2.block k (by simp;omega) (λe=>h2 (HR.out.symm.trans e.symm)),Lib.alloc_old w1 _ k hk]) ⟨g2.os,g2.tape,g2.output⟩ (by
  rcases a2 with a2 | a2
  ·exact .inl (a2.trans HR.out)
  ·exact .inr ⟨_,by simp,a2⟩) (by simp)
 exact⟨rfl,_,ui.1,fF.out.trans ui.2⟩
theorem LP{T:TypeId}(hT:BldT T)(B b:Nat)(r:Option Nat)(l:List UInt8)(s:ByteArray)(w:World)(h:Bld T B b r l w)(hl:l.length<=100000000)(hs:s.size<=100000000)(iL:B<=w.heap.size) :
 Calls prog 129 #[.pointer (some ⟨b,0,none⟩),.string s] w (zX T B b r (l++s.data.toList) (.tuple #[.int .i64 s.size,.nilIface]) w):=by
 obtain⟨i0,hi,fk,bd,aN⟩:=info_parts Tryz.infoByte;have H:=jq h;clear h;go_enter func129,ntmps129;go_wp2_with fail;refine (Of hT B b r l _ H.out).mono ?_;rintro e w1 ⟨rfl,⟨v,hB,sJ,hown,hr,hne,EZ⟩,bK⟩;have c1:w1.cell? ⟨b,1,none⟩=some v:=by rw[Lib.cell_of_heap sJ];rfl
 have ab:b<w1.heap.size:=(eQ.1 sJ).1;have HO:=jq hown;have Ae:=jq sJ;have HR:=jq hr;have fF:=jq bK;have HN:=jq EZ;have uH:=bK.size;clear hown sJ hr bK EZ;go_wp2_with (at_builtin;refine aVX _ rfl _ _ 196 9 rfl B 5 i0 underlying196 underlying9 hi fk bd aN _ _ _ rfl HO.out s rfl (by unfold maxLen;omega) (by omega) (by omega) ?_;intro v' w2 qm Cc hat xl;have H2:=jq (And.intro qm (And.intro Cc hat));have da:=jq xl;clear qm Cc hat xl;have ac:w2.heap[b]?=some (.cells #[.pointer (some ⟨b,0,none⟩),v] T (0,0)):=(by rw[H2.out.2.1.block b ab (λe=>hne (HR.out.symm.trans e.symm))];exact Ae.out);have d1:w2.cell? ⟨b,1,none⟩=some v:=(by rw[Lib.cell_of_heap ac];rfl);have f1:w2.frozen? ⟨b,1,none⟩=false:=Lib.frozen_of_heap ac 1;have ai:=jq ac;clear ac;obtain⟨ao,cap,rfl⟩:=zH H2.out.1);go_ret2;obtain⟨o2,g2,a2⟩:=H2.out;have ui:=SS hT (r:=r) (w1:=w1) (l':=l++s.data.toList) hB ai.out (by simpa [Lib.byteCells,Lib.strCells] using o2) g2.size (λk hk h1 h2=>g2.block k hk (λe=>h2 (HR.out.symm.trans e.symm))) ⟨g2.os,g2.tape,g2.output⟩ (by
  rcases a2 with a2 | a2
  ·exact .inl (a2.trans HR.out)
  ·exact .inr ⟨_,bQ _,a2⟩) (by
  intro h0;have h1:=List.append_eq_nil_iff.1 h0;exact da.out.2 ⟨HN.out h1.1,by rw[<-bn,h1.2];rfl⟩)
 exact⟨rfl,_,ui.1,fF.out.trans ui.2⟩
def vf(T:TypeId)(B b:Nat)(l:List UInt8)(w:World):Prop:=
 ∃ p v,B<=b/\w.heap[b]?=some (.cells #[p,v] T (0,0))/\((v = .slice none 0 0/\l = [])\/∃ g cap cur fr,v = .slice (some ⟨g,0,none⟩) l.length cap/\l≠[]/\B<=g/\g≠b/\w.heap[g]?=some (.cells cur 5 fr)/\l.length<=cur.size/\l.length<=cap/\l.length<=9223372036854775807/\cur.toList.take l.length=Lib.byteCells l)
theorem Bld.read{T:TypeId}{B b:Nat}{r:Option Nat}{l:List UInt8}{w:World}(h:Bld T B b r l w):vf T B b l w:=by
 obtain⟨p,v,_,hB,hb,ho,hr,hne,hn⟩:=h;refine⟨p,v,hB,hb,?_⟩;by_cases h0:l = []
 ·exact .inl ⟨hn h0,h0⟩
 ·right;rcases ho.2 with ⟨_,h1⟩ | ⟨g,cap,cur,rfl,fS,hg,pd,gG,hcs,ht⟩
  ·exact absurd (rQ h1) h0
  ·refine⟨g,cap,cur,_,rfl,h0,fS,λe=>hne ?_,hg,by omega,pd,by unfold maxLen at gG;omega,by simpa using ht⟩;rw[<-hr,e];rfl
theorem vf.keep{T:TypeId}{B b:Nat}{l:List UInt8}{w w':World}(h:vf T B b l w)(hb:Below w.heap.size w w'):vf T B b l w':=by
 obtain⟨p,v,hB,hh,hv⟩:=h;refine⟨p,v,hB,(hb.block b (eQ.1 hh).1).trans hh,?_⟩;rcases hv with hv | ⟨g,cap,cur,fr,h1,h2,h3,h4,h5,h6⟩
 ·exact .inl hv
 ·exact .inr ⟨g,cap,cur,fr,h1,h2,h3,h4,(hb.block g (eQ.1 h5).1).trans h5,h6⟩
theorem XD{w:World}{g n k:Nat}(h:k≠g):(w.freeze ⟨g,0,none⟩ n).heap[k]?=w.heap[k]?:=by
 unfold World.freeze;split
 ·rfl
 ·simp only[Array.getElem?_modify];rw[Qc (Ne.symm h)]
theorem XC{w:World}{g n:Nat}{cur:Array Value}{t:TypeId}{fr:Nat×Nat}(h:w.heap[g]?=some (.cells cur t fr)):∃ fr',(w.freeze ⟨g,0,none⟩ n).heap[g]?=some (.cells cur t fr'):=by
 unfold World.freeze;split
 ·exact⟨fr,h⟩
 ·simp only[Array.getElem?_modify,if_true,h];obtain⟨lo,hi⟩:=fr;exact⟨_,rfl⟩
theorem SC{T:TypeId}(B b:Nat)(l:List UInt8)(w:World)(h:vf T B b l w) :
 Calls prog 134 #[.pointer (some ⟨b,0,none⟩)] w λe w'=>e = .returned (aA l)/\vf T B b l w'/\Below B w w':=by
 obtain⟨p,v,hB,hb,hv⟩:=h;rcases hv with ⟨rfl,rfl⟩ | ⟨g,cap,cur,fr,rfl,h0,I8,dL,hg,PV,Yu,kW,ht⟩
 ·have c1:w.drew.cell? ⟨b,1,none⟩=some (.slice none 0 0):=by
   have:w.drew.heap[b]?=some (.cells #[p,.slice none 0 0] T (0,0)):=hb
   rw[Lib.cell_of_heap this];rfl
  have X7:∀ W q,(Builtin.unsafeString_ #[271,3] 9 #[.pointer q,.int .i64 0]).run prog W = .ok (.string .empty) W:=λW q=>Lib.run_unsafeString_none W _ _ _ q;have gW:(Builtin.unsafeSliceData_ #[196] 271 #[.slice none 0 0]).run prog w.drew = .ok (.pointer none) w.drew:=rfl;have HB:=jq hb;clear hb;go_enter func134,ntmps134;go_wp2;go_region
  all_goals (go_wp2;go_ret;exact⟨rfl,⟨p,_,hB,HB.out,.inl ⟨rfl,rfl⟩⟩,(vQ _ _).drew⟩)
 ·have c1:w.drew.cell? ⟨b,1,none⟩=some (.slice (some ⟨g,0,none⟩) l.length cap):=by
   have:w.drew.heap[b]?=some (.cells #[p,.slice (some ⟨g,0,none⟩) l.length cap] T (0,0)):=hb
   rw[Lib.cell_of_heap this];rfl
  have rx:l.length≠0:=by simpa using h0
  have gW:(Builtin.unsafeSliceData_ #[196] 271 #[.slice (some ⟨g,0,none⟩) l.length cap]).run prog w.drew = .ok (.pointer (some ⟨g,0,none⟩)) w.drew:=
   Lib.run_unsafeSliceData_row _ _ _ _ _ _ (by omega)
  have hg':w.drew.heap[g]?=some (.cells cur 5 fr):=hg;have X7:(Builtin.unsafeString_ #[271,3] 9 #[.pointer (some ⟨g,0,none⟩),.int .i64 l.length]).run prog w.drew = .ok (.string ⟨l.toArray⟩) (w.drew.freeze ⟨g,0,none⟩ l.length):=by
   refine Lib.run_unsafeString_row w.drew 271 3 9 5 underlying271 Wc g cur.size (by simp[World.shape?,hg']) l h0 PV kW ?_;intro j x hx;have o4:(⟨g,0,none⟩:Addr).add j=⟨g,j,none⟩:=by unfold Addr.add;split <;> simp_all
   rw[o4,Lib.cell_of_heap hg'];have h1:(Lib.byteCells l)[j]?=some (.int .u8 x.toNat):=by simp[Lib.byteCells,hx]
   rw[<-ht,List.getElem?_take] at h1;split at h1
   ·simpa using h1
   ·cases h1
  have HF:Hid (vf T B b l (w.drew.freeze ⟨g,0,none⟩ l.length)/\Below B w (w.drew.freeze ⟨g,0,none⟩ l.length)):=by
   obtain⟨fr',dZ⟩:=XC (n:=l.length) hg';exact jq ⟨⟨p,_,hB,(XD (Ne.symm dL)).trans hb,.inr ⟨g,cap,cur,fr',rfl,h0,I8,dL,dZ,PV,Yu,kW,ht⟩⟩,Lib.below_freeze (Below.drew (vQ B w)) (p:=⟨g,0,none⟩) I8 _⟩
  clear hb hg hg' ht;go_enter func134,ntmps134;go_wp2;go_region
  all_goals (go_wp2;go_ret;exact⟨rfl,HF.out⟩)
def IE(b:Nat)(r:Option Nat)(w:World)(v:Value)(ws:List (List UInt8)):Prop:=
 ∃ A c,v = .slice A ws.length c/\ws.length<=c/\ws.length<=1000000/\∀ i x,ws[i]?=some x->∃ g o,A=some ⟨g,o,none⟩/\g<w.heap.size/\g≠b/\r≠some g/\w.cell? ⟨g,o+i,none⟩=some (aA x)
theorem IE.step{b:Nat}{r r':Option Nat}{w w':World}{v:Value}{ws:List (List UInt8)}(h:IE b r w v ws)(hs:BS b r w r' w'):IE b r' w' v ws:=by
 obtain⟨A,c,h1,h2,h3,h4⟩:=h;refine⟨A,c,h1,h2,h3,λi x hx=>?_⟩;obtain⟨g,o,h5,h6,h7,h8,h9⟩:=h4 i x hx;exact⟨g,o,h5,lQ h6 hs.size,h7,hs.free h6 h8,(hs.cell h6 h7 h8 _).trans h9⟩
theorem LO{T:TypeId}(hT:BldT T)(B b:Nat)(r:Option Nat)(l:List UInt8)(c:UInt8)(k:Int)(hk:(c.toNat:Int)=k)(w:World)(h:Bld T B b r l w)(hl:l.length<=100000000)(iL:B<=w.heap.size) :
 Calls prog 130 #[.pointer (some ⟨b,0,none⟩),.int .u8 k] w (zX T B b r (l ++ [c]) .nilIface w):=by
 subst hk;exact aXJ hT B b r l c w h hl iL
end
end Go.Proofs.YtfnopgdcaanaiaaGreatDoor
