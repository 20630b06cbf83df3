/- Parts of the proof. No condition. -/
import Derived.Test.YtfnopgdcaanaiaaGreatDoorT01
set_option linter.all false
set_option maxRecDepth 100000
set_option maxHeartbeats 8000000
namespace Go.Proofs.YtfnopgdcaanaiaaGreatDoor
namespace Np
def okR:List (List UInt8)->Bool
 | []=>true
 | [x]=>cH x||x == [42]
 | x::y::r=>cH x&&okR (y::r)
theorem Xn:cH [42]=false:=by decide
theorem Rj(xs:List (List UInt8))(n:Nat):dF xs n true=xs.isEmpty:=by cases xs <;> simp[dF]
theorem Ri:∀ (xs:List (List UInt8)) (n:Nat),n<=8->dF xs n false=(decide (n+xs.length<=8)&&okR xs):=by
 intro xs
 induction xs with
 | nil=>intro n hn;simp[dF,okR,hn]
 | cons x xs ih=>
  intro n hn;rw[dF];by_cases h8:8<n+1
  ·rw[Qb (by simp;omega),tQ (by simp;omega)];rfl
  ·rw[Qc (by simp;omega)];by_cases hx:x = [42]
   ·subst hx;rw[Qb rfl,Rj]
    cases xs with
    | nil=>simp[okR];omega
    | cons y r=>simp[okR,Xn]
   ·rw[Qc hx];by_cases hl:cH x=true
    ·rw[Qb hl,ih (n+1) (by omega)]
     cases xs with
     | nil=>simp[okR,hl]
     | cons y r=>simp only[okR,hl,Bool.true_and,List.length_cons];congr 1;congr 1;apply propext;omega
    ·rw[Qc hl]
     cases xs with
     | nil=>simp[okR,hl,hx]
     | cons y r=>simp[okR,hl]
def EQ:List (List UInt8)->Bool
 | []=>true
 | h::t=>(cH h||h == [42])&&t.all cH
theorem VF:∀ (a:List (List UInt8)) (h:List UInt8),okR (a ++ [h])=(a.all cH&&(cH h||h == [42])):=by
 intro a h
 induction a with
 | nil=>simp[okR]
 | cons x a ih=>
  cases a with
  | nil=>simp[okR]
  | cons y r=>
   simp only[List.cons_append,okR] at ih |-;rw[ih];simp[Bool.and_assoc]
theorem VE(l:List (List UInt8)):okR l.reverse=EQ l:=by
 cases l with
 | nil=>rfl
 | cons h t=>rw[List.reverse_cons,VF,EQ,List.all_reverse,Bool.and_comm]
theorem X8(s:List UInt8):aG s=if s = [46] then true else if 60<s.length then false else EQ (aS s)&&decide ((aS s).length<=8):=by
 unfold aG;split
 ·rfl
 ·split
  ·rfl
  ·rw[Ri _ 0 (by omega),VE,List.length_reverse,Bool.and_comm];simp
def gY:List (List UInt8)->List UInt8
 | []=>[]
 | [x]=>x
 | x::y::r=>x++46::gY (y::r)
theorem UC(c:UInt8)(x:List UInt8)(xs:List (List UInt8)):gY ((c::x)::xs)=c::gY (x::xs):=by
 cases xs <;> simp[gY]
theorem tm(s:List UInt8):gY (aS s)=s:=by
 induction s with
 | nil=>rfl
 | cons c r ih=>
  rw[aS];have hne:=pS r
  cases hr:aS r with
  | nil=>exact absurd hr hne
  | cons x xs=>
   rw[hr] at ih;split
   ·rename_i hc;subst hc;rw[gY,ih];rfl
   ·rw[UC,ih]
theorem UB:∀ (l m:List (List UInt8)),l≠[]->m≠[]->gY (l++m)=gY l++46::gY m:=by
 intro l
 induction l with
 | nil=>intro m h;exact absurd rfl h
 | cons x l ih=>
  intro m _ hm
  cases l with
  | nil=>
   cases m with
   | nil=>exact absurd rfl hm
   | cons y m=>simp[gY]
  | cons y l=>
   have:=ih m (by simp) hm
   simp only[List.cons_append,gY] at this |-;rw[this];simp
def lY(s:List UInt8):List (List UInt8):=if s = [46] then [] else aS s
theorem EW(s:List UInt8):(lY s).reverse=back s:=by
 unfold lY back;split <;> rfl
theorem C7{a b:List UInt8}(h:back a=back b):a=b:=by
 unfold back at h;by_cases ha:a = [46]
 ·by_cases hb:b = [46]
  ·rw[ha,hb]
  ·rw[Qb ha,Qc hb] at h
   have:=pS b
   exact absurd (List.reverse_eq_nil_iff.1 h.symm) this
 ·by_cases hb:b = [46]
  ·rw[Qb hb,Qc ha] at h;exact absurd (List.reverse_eq_nil_iff.1 h) (pS a)
  ·rw[Qc ha,Qc hb] at h
   have:=List.reverse_inj.1 h
   rw[<-tm a,this,tm]
def inL(l m:List (List UInt8)):Bool:=decide (m.length<=l.length)&&(l.drop (l.length - m.length) == m)
theorem Ks{l m:List (List UInt8)} : inL l m=true↔∃ p,l=p++m:=by
 unfold inL;simp only[Bool.and_eq_true,Qa,beq_iff_eq];constructor
 ·rintro⟨h1,h2⟩;refine⟨l.take (l.length - m.length),?_⟩;rw[<-h2,List.length_drop]
  conv => lhs;rw[<-List.take_append_drop (l.length - m.length) l]
  congr 2;omega
 ·rintro⟨p,rfl⟩;refine⟨by simp,?_⟩;rw[List.length_append,Nat.add_sub_cancel,List.drop_left]
theorem Ug{s z:List UInt8}(hz:z≠[]):inL (lY s) (lY z)=dm s z:=by
 rw[Bool.eq_iff_iff,Ks];unfold dm lY;simp only[Bool.or_eq_true,Bool.and_eq_true,beq_iff_eq,Qa];by_cases h1:z = [46]
 ·rw[Qb h1];exact⟨λ_=>.inl (.inr h1),λ_=>⟨_,(List.append_nil _).symm⟩⟩
 ·rw[Qc h1];by_cases h2:s = [46]
  ·rw[Qb h2];constructor
   ·rintro⟨p,hp⟩
    have:=List.append_eq_nil_iff.1 hp.symm
    exact absurd this.2 (pS z)
   ·rintro ((h | h) | ⟨⟨h3,_⟩,_⟩)
    ·exact absurd (h ▸ h2) h1
    ·exact absurd h h1
    ·subst h2;have h4:z.length<1:=h3;exact absurd (rQ (by omega)) hz
  ·rw[Qc h2];constructor
   ·rintro⟨p,hp⟩;by_cases h0:p = []
    ·subst h0;rw[List.nil_append] at hp;left;left;rw[<-tm s,hp,tm]
    ·right;have hs:s=gY p++46::z:=by
      rw[<-tm s,hp,UB _ _ h0 (pS z),tm]
     subst hs;refine⟨⟨by simp;omega,?_⟩,?_⟩
     ·rw[show (gY p++46::z).length - z.length=(gY p ++ [46]).length by simp;omega,show gY p++46::z=(gY p ++ [46])++z by simp,List.drop_left]
     ·rw[show (gY p++46::z).length - z.length - 1=(gY p).length by simp;omega];rw[oQ (bQ _)];simp
   ·rintro ((h | h) | ⟨⟨h3,h4⟩,h5⟩)
    ·exact⟨[],by rw[h];rfl⟩
    ·exact absurd h h1
    ·have hs:s=s.take (s.length - z.length - 1)++46::z:=by
      conv => lhs;rw[<-List.take_append_drop (s.length - z.length - 1) s]
      congr 1;obtain⟨hl,he⟩:=cQ.1 h5;rw[sQ hl,he,show s.length - z.length - 1+1=s.length - z.length by omega,h4]
     refine⟨aS (s.take (s.length - z.length - 1)),?_⟩
     conv => lhs;rw[hs]
     rw[Bx]
def dx:List (List UInt8)->List (List UInt8)->Int
 | [],[]=>0
 | [],_::_=>-1
 | _::_,[]=>1
 | x::xs,y::ys=>if bJ x y≠0 then bJ x y else dx xs ys
theorem zb(x:List UInt8):bJ x x=0:=by
 have:∀ x:List UInt8,Go.Op.bytesLess x x=false:=by
  intro x
  induction x with
  | nil=>rfl
  | cons a x ih=>simp[Go.Op.bytesLess,ih]
 simp[bJ,this]
theorem oX{x y:List UInt8}(h:bJ x y=0):x=y:=by
 unfold bJ at h;split at h
 ·omega
 ·split at h
  ·assumption
  ·omega
theorem KU(l:List (List UInt8)):dx l l=0:=by
 induction l with
 | nil=>rfl
 | cons x l ih=>rw[dx,zb,Qc (by simp),ih]
theorem VI:∀ (l m:List (List UInt8)),l≠m->dx l m=jZ l m:=by
 intro l
 induction l with
 | nil=>
  intro m h
  cases m with
  | nil=>exact absurd rfl h
  | cons y m=>rfl
 | cons x l ih=>
  intro m h
  cases m with
  | nil=>rfl
  | cons y m=>
   rw[dx,jZ];by_cases hc:bJ x y≠0
   ·rw[Qb hc,Qb hc]
   ·rw[Qc hc,Qc hc]
    have:=oX (Decidable.not_not.1 hc)
    subst this;exact ih m (λe=>h (by rw[e]))
theorem Hx(a b:List UInt8):dt a b=dx (back a) (back b):=by
 unfold dt;split
 ·rename_i h;rw[h,KU]
 ·rename_i h;exact (VI _ _ (λe=>h (C7 e))).symm
theorem Dc(a:List UInt8):dt a a=0:=by simp[dt]
theorem Hy{a b:List UInt8}(h:dt a b=0):a=b:=by
 rw[Hx] at h;refine C7 ?_
 have:∀ l m:List (List UInt8),dx l m=0->l=m:=by
  intro l
  induction l with
  | nil=>intro m h;cases m with
    | nil=>rfl
    | cons y m=>simp[dx] at h
  | cons x l ih=>
   intro m h
   cases m with
   | nil=>simp[dx] at h
   | cons y m=>
    rw[dx] at h;split at h
    ·rename_i hc;exact absurd h hc
    ·rename_i hc;rw[oX (Decidable.not_not.1 hc),ih m h]
 exact this _ _ h
theorem Hz(a b:DSet):iJ a b=if dt a.name b.name≠0 then dt a.name b.name else cL a.type b.type:=by
 unfold iJ;by_cases h:a.name=b.name
 ·rw[Qc (by simp[h]),h,Dc,Qc (by simp)]
 ·rw[Qb h,Qb (λe=>h (Hy e))]
theorem P1:∀ (x y:List UInt8),Go.Op.bytesLess x y=false->x≠y->Go.Op.bytesLess y x=true:=by
 intro x
 induction x with
 | nil=>intro y h hn;cases y with
   | nil=>exact absurd rfl hn
   | cons b y=>simp[Go.Op.bytesLess] at h
 | cons a x ih=>
  intro y h hn
  cases y with
  | nil=>simp[Go.Op.bytesLess]
  | cons b y=>
   simp only[Go.Op.bytesLess] at h |-;by_cases h1:a<b
   ·simp[h1] at h
   ·by_cases h2:b<a
    ·simp[h2]
    ·have h3:a=b:=by
      apply UInt8.toNat_inj.1;simp only[UInt8.lt_iff_toNat_lt] at h1 h2;omega
     subst h3;simp[h1] at h |-;exact ih y h (λe=>hn (by rw[e]))
theorem za(x y:List UInt8):(Go.Op.bytesLess x y=true/\bJ x y = -1)\/(Go.Op.bytesLess x y=false/\Go.Op.bytesLess y x=true/\x≠y/\bJ x y=1)\/(Go.Op.bytesLess x y=false/\Go.Op.bytesLess y x=false/\x=y/\bJ x y=0):=by
 cases h:Go.Op.bytesLess x y with
 | true=>exact .inl ⟨rfl,by simp[bJ,h]⟩
 | false=>
  by_cases hn:x=y
  ·subst hn;exact .inr (.inr ⟨rfl,h,rfl,zb x⟩)
  ·exact .inr (.inl ⟨rfl,P1 x y h hn,hn,by simp[bJ,h,hn]⟩)
structure TO{α:Type}(c:α->α->Int):Prop where
 self:∀ x,c x x=0
 zero:∀ x y,c x y=0->x=y
 anti:∀ x y,c x y<0->0<c y x
 anti':∀ x y,0<c x y->c y x<0
 trans:∀ x y z,c x y<0->c y z<0->c x z<0
theorem TO.lex{α β γ:Type}{c:α->α->Int}{d:β->β->Int}(hc:TO c)(hd:TO d)(f:γ->α)(g:γ->β)(Sw:∀ x y,f x=f y->g x=g y->x=y):TO (λx y:γ=>if c (f x) (f y)≠0 then c (f x) (f y) else d (g x) (g y)) where
 self x:=by simp[hc.self,hd.self]
 zero x y h:=by
  by_cases h1:c (f x) (f y)≠0
  ·rw[Qb h1] at h;exact absurd h h1
  ·rw[Qc h1] at h;exact Sw x y (hc.zero _ _ (Decidable.not_not.1 h1)) (hd.zero _ _ h)
 anti x y h:=by
  by_cases h1:c (f x) (f y)≠0
  ·rw[Qb h1] at h
   have:=hc.anti _ _ h
   rw[Qb (by omega)];exact this
  ·rw[Qc h1] at h;have e:=hc.zero _ _ (Decidable.not_not.1 h1);rw[e,hc.self,Qc (by simp)];exact hd.anti _ _ h
 anti' x y h:=by
  by_cases h1:c (f x) (f y)≠0
  ·rw[Qb h1] at h
   have:=hc.anti' _ _ h
   rw[Qb (by omega)];exact this
  ·rw[Qc h1] at h;have e:=hc.zero _ _ (Decidable.not_not.1 h1);rw[e,hc.self,Qc (by simp)];exact hd.anti' _ _ h
 trans x y z h k:=by
  by_cases h1:c (f x) (f y)≠0
  ·rw[Qb h1] at h;by_cases h2:c (f y) (f z)≠0
   ·rw[Qb h2] at k
    have:=hc.trans _ _ _ h k
    rw[Qb (by omega)];exact this
   ·have e:=hc.zero _ _ (Decidable.not_not.1 h2);rw[<-e,Qb h1];exact h
  ·rw[Qc h1] at h;have e:=hc.zero _ _ (Decidable.not_not.1 h1);by_cases h2:c (f y) (f z)≠0
   ·rw[Qb h2] at k;rw[e,Qb h2];exact k
   ·rw[Qc h2] at k;rw[e,Qc h2];exact hd.trans _ _ _ h k
theorem TO.of{α β:Type}{c:α->α->Int}(hc:TO c)(f:β->α)(hf:∀ x y,f x=f y->x=y):TO (λx y=>c (f x) (f y)) where
 self _:=hc.self _
 zero _ _ h:=hf _ _ (hc.zero _ _ h)
 anti _ _ h:=hc.anti _ _ h
 anti' _ _ h:=hc.anti' _ _ h
 trans _ _ _ h k:=hc.trans _ _ _ h k
theorem AW:∀ (x y:List UInt8),Go.Op.bytesLess x y=decide (x<y)
 | [],[]=>by simp[Go.Op.bytesLess]
 | _::_,[]=>by simp[Go.Op.bytesLess]
 | [],_::_=>by simp[Go.Op.bytesLess]
 | a::x,b::y=>by
   rw[Go.Op.bytesLess,AW x y];simp only[List.cons_lt_cons_iff];by_cases h1:a<b <;> by_cases h2:a=b <;> by_cases h3:x<y <;> simp[h1,h2,h3]
theorem toS:TO bJ where
 self:=zb
 zero _ _:=oX
 anti x y h:=by
  rcases za x y with ⟨h1,h2⟩ | ⟨_,_,_,h2⟩ | ⟨_,_,_,h2⟩
  ·rcases za y x with ⟨h3,h4⟩ | ⟨_,_,_,h4⟩ | ⟨_,_,h5,h4⟩
   ·rw[AW,Qa] at h1 h3;exact absurd h3 (List.lt_asymm h1)
   ·omega
   ·rw[h5,zb] at h;omega
  ·omega
  ·omega
 anti' x y h:=by
  rcases za x y with ⟨_,h2⟩ | ⟨_,h1,_,h2⟩ | ⟨_,_,_,h2⟩
  ·omega
  ·simp[bJ,h1]
  ·omega
 trans x y z h k:=by
  have e:∀ a b:List UInt8,bJ a b<0->a<b:=λa b h=>by
   rcases za a b with ⟨h1,h2⟩ | ⟨_,_,_,h2⟩ | ⟨_,_,_,h2⟩
   ·rw[AW,Qa] at h1;exact h1
   ·omega
   ·omega
  have:=List.lt_trans (e _ _ h) (e _ _ k)
  unfold bJ;rw[AW,Qb (by simpa using this)];omega
theorem toI:TO cL where
 self x:=by unfold cL;rw[Qc (by omega),Qc (by omega)]
 zero x y h:=by unfold cL at h;split at h;omega;split at h <;> omega
 anti x y h:=by
  unfold cL at h |-;split at h
  ·rw[Qc (by omega),Qb (by omega)];omega
  ·split at h <;> omega
 anti' x y h:=by
  unfold cL at h |-;split at h
  ·omega
  ·split at h
   ·rw[Qb (by omega)];omega
   ·omega
 trans x y z h k:=by
  unfold cL at h k |-;split at h
  ·split at k
   ·rw[Qb (by omega)];omega
   ·split at k <;> omega
  ·split at h <;> omega
theorem toR:TO dx:=by
 have hs:=toS;refine⟨KU,?_,?_,?_,?_⟩
 ·intro l
  induction l with
  | nil=>intro m h;cases m with
    | nil=>rfl
    | cons y m=>simp[dx] at h
  | cons x l ih=>
   intro m h
   cases m with
   | nil=>simp[dx] at h
   | cons y m=>
    rw[dx] at h;split at h
    ·rename_i hc;exact absurd h hc
    ·rename_i hc;rw[oX (Decidable.not_not.1 hc),ih m h]
 ·intro l
  induction l with
  | nil=>intro m h;cases m with
    | nil=>simp[dx] at h
    | cons y m=>simp[dx]
  | cons x l ih=>
   intro m h
   cases m with
   | nil=>simp[dx] at h
   | cons y m=>
    rw[dx] at h |-;split at h
    ·have:=hs.anti _ _ h
     rw[Qb (by omega)];exact this
    ·rename_i hc;have e:=oX (Decidable.not_not.1 hc);subst e;rw[Qc hc];exact ih m h
 ·intro l
  induction l with
  | nil=>intro m h;cases m with
    | nil=>simp[dx] at h
    | cons y m=>simp[dx] at h
  | cons x l ih=>
   intro m h
   cases m with
   | nil=>simp[dx]
   | cons y m=>
    rw[dx] at h |-;split at h
    ·have:=hs.anti' _ _ h
     rw[Qb (by omega)];exact this
    ·rename_i hc;have e:=oX (Decidable.not_not.1 hc);subst e;rw[Qc hc];exact ih m h
 ·intro l
  induction l with
  | nil=>intro m n h k;cases m with
    | nil=>simp[dx] at h
    | cons y m=>cases n with
      | nil=>simp[dx] at k
      | cons z n=>simp[dx]
  | cons x l ih=>
   intro m n h k
   cases m with
   | nil=>simp[dx] at h
   | cons y m=>
    cases n with
    | nil=>simp[dx] at k
    | cons z n=>
     rw[dx] at h k |-;by_cases hc:bJ x y≠0
     ·rw[Qb hc] at h;by_cases hd:bJ y z≠0
      ·rw[Qb hd] at k
       have:=hs.trans _ _ _ h k
       rw[Qb (by omega)];exact this
      ·have e:=oX (Decidable.not_not.1 hd);rw[<-e,Qb hc];exact h
     ·rw[Qc hc] at h;have e:=oX (Decidable.not_not.1 hc);by_cases hd:bJ y z≠0
      ·rw[Qb hd] at k;rw[e,Qb hd];exact k
      ·rw[Qc hd] at k;rw[e,Qc hd];exact ih m n h k
theorem kp:TO dt:=by
 have:=toR.of back (λ_ _ h=>C7 h)
 have e:dt=λx y=>dx (back x) (back y):=by funext x y;exact Hx x y
 rw[e];exact this
def dp(a b:List UInt8×Int):Int:=if dt a.1 b.1≠0 then dt a.1 b.1 else cL a.2 b.2
theorem tK:TO dp:=kp.lex toI (λd:List UInt8×Int=>d.1) (λd=>d.2) (λ_ _ h k=>Prod.ext h k)
def cX(s:DSet):List UInt8×Int:=(s.name,s.type)
theorem Dd(a b:DSet):iJ a b=dp (cX a) (cX b):=Hz a b
theorem U0{α:Type}{c:α->α->Int}(h:TO c)(x y z:α):(!decide (c y x<0))=true->(!decide (c z y<0))=true->(!decide (c z x<0))=true:=by
 simp only[Bool.not_eq_true',decide_eq_false_iff_not,Int.not_lt];intro h1 h2;apply Decidable.byContradiction;intro h3;have h4:c z x<0:=by omega
 rcases Int.lt_or_eq_of_le h1 with h5 | h5
 ·have:=h.trans _ _ _ h4 (h.anti' _ _ h5);omega
 ·have:=h.zero _ _ h5.symm;subst this;omega
theorem UZ{α:Type}{c:α->α->Int}(h:TO c)(x y:α):((!decide (c y x<0))||(!decide (c x y<0)))=true:=by
 by_cases h1:c y x<0
 ·have:=h.anti _ _ h1
  have:¬ c x y<0:=by omega
  simp[this]
 ·simp[h1]
theorem BC{s z:List UInt8}(hz:z≠[]):dm s z=true↔back z <+: back s:=by
 rw[<-Ug hz,Ks,<-EW,<-EW];constructor
 ·rintro⟨p,h⟩;exact⟨p.reverse,by rw[h,List.reverse_append]⟩
 ·rintro⟨p,h⟩;refine⟨p.reverse,?_⟩
  have:=Qd List.reverse h
  simpa using this.symm
theorem XU(a:List UInt8):dm a a=true:=by simp[dm]
theorem XT{n a b:List UInt8}(ha:a≠[])(hb:b≠[])(h1:dm n a=true)(h2:dm n b=true):dm a b=true\/dm b a=true:=by
 rcases List.prefix_or_prefix_of_prefix ((BC ha).1 h1) ((BC hb).1 h2) with h | h
 ·exact .inr ((BC ha).2 h)
 ·exact .inl ((BC hb).2 h)
def G7(C:List UInt8->Bool)(n o:List UInt8):Prop:=
 (o = []/\∀ c,C c=true->dm n c=false)\/(C o=true/\dm n o=true/\∀ c,C c=true->dm o c=true->c=o)
theorem G7.above{C:List UInt8->Bool}(hC:∀ c,C c=true->c≠[]){n o c:List UInt8}(h:G7 C n o)(hc:C c=true)(hu:dm n c=true):C o=true/\dm n o=true/\dm c o=true:=by
 rcases h with ⟨_,h⟩ | ⟨h1,h2,h3⟩
 ·rw[h c hc] at hu;cases hu
 ·refine⟨h1,h2,?_⟩;rcases XT (hC o h1) (hC c hc) h2 hu with h | h
  ·rw[h3 c hc h];exact XU o
  ·exact h
def dy(C:List UInt8->Bool)(cut n:List UInt8):List UInt8:=
 if (if cut≠[]/\dm n cut=false then [] else cut) = []/\C n=true then n else if cut≠[]/\dm n cut=false then [] else cut
structure Y4(C:List UInt8->Bool)(H:List (List UInt8)):Prop where
 cut:∀ h∈H,C h=true/\∀ c,C c=true->dm h c=true->c=h
 sorted:H.Pairwise λa b=>dt a b<0
def dT(z:Zone)(n:List UInt8):Bool:=z.sets.any λx=>decide (x.set.type=2)&&!(x.set.name == z.apex)&&x.set.name == n
def mp(C:List UInt8->Bool):List UInt8->List Signed->List (List UInt8)
 | _,[]=>[]
 | cut,x::r=>dy C cut x.set.name::mp C (dy C cut x.set.name) r
def gB(z:Zone):List (List UInt8):=mp (dT z) [] z.sets
theorem Hl(C:List UInt8->Bool):∀ (cut:List UInt8) (l:List Signed),(mp C cut l).length=l.length
 | _,[]=>rfl
 | cut,x::r=>by rw[mp,List.length_cons,Hl,List.length_cons]
theorem C8(z:Zone):(gB z).length=z.sets.length:=Hl _ _ _
structure InOrder(z:Zone):Prop where
 order:(z.sets.map (·.set)).Pairwise λa b=>iJ a b<0
 name:∀ x∈z.sets,x.set.name≠[]
 type:∀ x∈z.sets,x.set.type<=8
theorem Qg{a b:DSet}(h:iJ a b<0)(he:a.name=b.name):a.type<b.type:=by
 rw[Hz,he,Dc,Qc (by simp)] at h;unfold cL at h;split at h
 ·assumption
 ·split at h <;> omega
theorem InOrder.types{z:Zone}(h:InOrder z){i j:Nat}(ct:i<j)(hj:j<z.sets.length)(he:(z.sets[i]'(by omega)).set.name=(z.sets[j]).set.name):(z.sets[i]'(by omega)).set.type<(z.sets[j]).set.type:=by
 have:=List.pairwise_iff_getElem.1 h.order i j (by simp;omega) (by simpa using hj) ct
 rw[List.getElem_map,List.getElem_map] at this;exact Qg this he
def lD(t:Int)(at':Bool):Bool:=if t=3\/t=6 then !at' else if t=4\/t=7 then at' else true
structure SigOk(apex:List UInt8)(l:List Sig)(i:Nat)(g:Sig):Prop where
 zone:g.zone=apex
 key:1<=g.key/\g.key<=1000000
 alg:1<=g.alg/\g.alg<=3
 win:0<=g.frm/\g.frm<=g.til/\g.til<=20000000
 same:∀ a,l[0]?=some a->g.frm=a.frm/\g.til=a.til
 up:∀ p,l[i - 1]?=some p->0<i->p.key<g.key
def fF(apex:List UInt8)(l:List Sig):Prop:=l.length<=6/\∀ i g,l[i]?=some g->SigOk apex l i g
def lk(x:DSet)(b:List UInt8):Prop:=(b = []->x.type≠6)/\(b≠[]->b=x.name->x.type=2\/x.type=6\/x.type=8\/x.type=1)/\(b≠[]->b≠x.name->x.type=1)
structure VZone(z:Zone):Prop where
 right:g8 z=true
 few:z.sets.length<=20000
 start:∃ x∈z.sets,x.set.name=z.apex/\x.set.type=4
 server:∃ x∈z.sets,x.set.name=z.apex/\x.set.type=2
 fits:∀ x∈z.sets,lD x.set.type (x.set.name == z.apex)=true
 aliasBefore:∀ i (hi:i+1<z.sets.length),(z.sets[i+1]).set.type=3->(z.sets[i]).set.name≠(z.sets[i+1]).set.name
 aliasBehind:∀ i (hi:i+1<z.sets.length),(z.sets[i]).set.type=3->(z.sets[i+1]).set.name=(z.sets[i]).set.name->(z.sets[i+1]).set.type=8
 cuts:∀ (i:Nat) (x:Signed) (b:List UInt8),z.sets[i]?=some x->(gB z)[i]?=some b->lk x.set b
 sigs:∀ (i:Nat) (x:Signed) (b:List UInt8),z.sets[i]?=some x->(gB z)[i]?=some b->b≠[]->x.set.type=2\/x.set.type=1->x.sigs = []
 form:∀ x∈z.sets,fF z.apex x.sigs
theorem VZone.inOrder{z:Zone}(h:g8 z=true):InOrder z:=by
 unfold g8 at h;simp only[Bool.and_eq_true] at h;have ak:∀ (l:List Signed) (p:Option DSet),jD z.apex p l=true->(p.toList++l.map (·.set)).Pairwise (λa b=>iJ a b<0)/\∀ x∈l,bO x.set=true:=by
  intro l
  induction l with
  | nil=>intro p _;cases p <;> simp
  | cons x l ih=>
   intro p h;unfold jD at h;rw[Bool.and_eq_true,Bool.and_eq_true,Bool.and_eq_true,Bool.and_eq_true] at h;obtain⟨i1,i2⟩:=ih (some x.set) h.2;have i1:(x.set::l.map (·.set)).Pairwise (λa b=>iJ a b<0):=i1;refine⟨?_,λy hy=>?_⟩
   ·cases p with
    | none=>exact i1
    | some q=>
     have h2:iJ q x.set<0:=by simpa using h.1.2
     refine List.pairwise_cons.2 ⟨λy hy=>?_,i1⟩;rcases List.mem_cons.1 hy with e | hy
     ·rw[e];exact h2
     ·have h3:=(List.pairwise_cons.1 i1).1 y hy;rw[Dd] at h2 h3 |-;exact tK.trans _ _ _ h2 h3
   ·rcases List.mem_cons.1 hy with e | hy
    ·subst e;exact h.1.1.2
    ·exact i2 y hy
 obtain⟨h1,h2⟩:=ak _ none h.2;refine⟨h1,λx hx=>?_,λx hx=>?_⟩
 ·have hv:=(tN (h2 x hx)).1;intro e;rw[e] at hv;exact absurd hv (by decide)
 ·exact (tN (h2 x hx)).2.2.1
def UQ(l:List Signed):List UInt8:=l.foldl (λa x=>if x.set.type=3 then x.set.name else a) []
structure RZoneOk(z:Zone):Prop where
 right:g8 z=true
 few:z.sets.length<=20000
 start:∃ x∈z.sets,x.set.name=z.apex/\x.set.type=4
 server:∃ x∈z.sets,x.set.name=z.apex/\x.set.type=2
 fits:∀ x∈z.sets,lD x.set.type (x.set.name == z.apex)=true
 three:∀ i (hi:i+1<z.sets.length),(z.sets[i]).set.name=(z.sets[i+1]).set.name->(z.sets[i+1]).set.type≠3/\(UQ (z.sets.take (i+2))=(z.sets[i+1]).set.name->(z.sets[i+1]).set.type=8)
 cuts:∀ (i:Nat) (x:Signed) (b:List UInt8),z.sets[i]?=some x->(gB z)[i]?=some b->lk x.set b
 sigs:∀ (i:Nat) (x:Signed) (b:List UInt8),z.sets[i]?=some x->(gB z)[i]?=some b->b≠[]->x.set.type=2\/x.set.type=1->x.sigs = []
 form:∀ x∈z.sets,fF z.apex x.sigs
end Np
namespace Np
variable {α:Type} [DecidableEq α]
def iH(o:List α)(x:α):List α:=if x∈o then o else o ++ [x]
def bZ(l:List α):List α:=l.foldl iH []
theorem U8{o:List α}{x y:α} : y∈iH o x↔y∈o\/y=x:=by
 unfold iH;split
 ·rename_i h;constructor
  ·exact .inl
  ·rintro (h1 | rfl);exact h1;exact h
 ·simp
theorem Vs{o:List α}{x:α}(h:o.Nodup):(iH o x).Nodup:=by
 unfold iH;split
 ·exact h
 ·rename_i hx;exact List.nodup_append.2 ⟨h,by simp,λa ha b hb=>by rw[List.mem_singleton] at hb;rintro rfl;exact hx (hb ▸ ha)⟩
theorem KF:∀ (l o:List α) (y:α),y∈l.foldl iH o↔y∈o\/y∈l
 | [],o,y=>by simp
 | x::l,o,y=>by
   rw[List.foldl_cons,KF l,U8,List.mem_cons,or_assoc]
theorem KM:∀ (l o:List α),o.Nodup->(l.foldl iH o).Nodup
 | [],_,h=>h
 | _::l,_,h=>KM l _ (Vs h)
theorem xi{l:List α}{y:α} : y∈bZ l↔y∈l:=by unfold bZ;rw[KF];simp
theorem xk(l:List α):(bZ l).Nodup:=KM l [] List.nodup_nil
theorem Fh(l:List α)(x:α):bZ (l ++ [x])=iH (bZ l) x:=by simp[bZ]
theorem Hd{o:List α}{x:α}(h:x∈o):iH o x=o:=Qb h
theorem tL(l:List α):(bZ l).length<=l.length:=by
 have:∀ (l o:List α),(l.foldl iH o).length<=o.length+l.length:=by
  intro l
  induction l with
  | nil=>intro o;simp
  | cons x l ih=>
   intro o;have h:=ih (iH o x);have h2:(iH o x).length<=o.length+1:=by unfold iH;split <;> simp
   rw[List.foldl_cons,List.length_cons];omega
 have h:=this l [];simpa [bZ] using h
omit [DecidableEq α] in
theorem LT{c:α->α->Int}(hc:TO c):∀ (l m:List α),l.Pairwise (λa b=>c a b<0)->m.Pairwise (λa b=>c a b<0)->(∀ x,x∈l↔x∈m)->l=m
 | [],[],_,_,_=>rfl
 | [],b::m,_,_,h=>by have:=(h b).2 (by simp);cases this
 | a::l,[],_,_,h=>by have:=(h a).1 (by simp);cases this
 | a::l,b::m,hl,hm,h=>by
   obtain⟨l1,l2⟩:=List.pairwise_cons.1 hl;obtain⟨m1,m2⟩:=List.pairwise_cons.1 hm;have e:a=b:=by
    rcases List.mem_cons.1 ((h a).1 (by simp)) with e | h1
    ·exact e
    ·rcases List.mem_cons.1 ((h b).2 (by simp)) with e | h2
     ·exact e.symm
     ·have:=hc.anti _ _ (l1 b h2)
      have:=m1 a h1
      omega
   subst e;rw[LT hc l m l2 m2 (λx=>by
    constructor
    ·intro hx;rcases List.mem_cons.1 ((h x).1 (mQ _ hx)) with e | h1
     ·subst e;have:=l1 x hx;rw[hc.self] at this;omega
     ·exact h1
    ·intro hx;rcases List.mem_cons.1 ((h x).2 (mQ _ hx)) with e | h1
     ·subst e;have:=m1 x hx;rw[hc.self] at this;omega
     ·exact h1)]
def pR(l:List (List UInt8)):List (List UInt8):=l.mergeSort λa b=>!decide (dt b a<0)
theorem Bv(l:List (List UInt8)):(pR l).Perm l:=List.mergeSort_perm _ _
theorem LN{l:List (List UInt8)}(h:l.Nodup):(pR l).Pairwise λa b=>dt a b<0:=by
 have hs:(pR l).Pairwise λa b=>(!decide (dt b a<0))=true:=List.pairwise_mergeSort (le:=λa b=>!decide (dt b a<0)) (λx y z=>U0 kp x y z) (λx y=>UZ kp x y) l;have hn:(pR l).Nodup:=(Bv l).nodup_iff.2 h;refine (hs.and hn).imp λ{a b} ⟨h1,h2⟩=>?_;have h3:¬ dt b a<0:=by simpa using h1
 refine Int.lt_of_not_ge λh4=>?_;by_cases h5:0<dt a b
 ·exact h3 (kp.anti' _ _ h5)
 ·exact h2 (kp.zero _ _ (by omega))
end Np
section
open Go.RowKit

end
namespace Np
structure Y5(l out:List (List UInt8)):Prop where
 sub:out.Sublist l
 above:∀ c∈l,∃ h∈out,dm c h=true
 top:∀ h∈out,∀ c∈l,dm h c=true->c=h
end Np
section
section
variable {P:Program} {ops:Array Oper} {Q:Exit->Act->World->Prop} {n l:Nat}
theorem WK{row:String}{args:Array Value}{w:World}{R:Value->World->Prop}(h:Rows P row args w R):RowsIn (Fence.wide.inRound l) n P row args w R:=by
 intro c cs _;obtain⟨v,w',r,s⟩:=h c cs;exact⟨v,w',r,stepsIn_wide.2 s⟩
theorem Yw{o:Oper}{a:Act}{K:Act->World->Prop}{w:World}(hd:∀ c,o.op≠.defer c)(uT:¬ LetsOut Q)(h:o.wp P a w K Q\/(o.asks P a w/\LetsOut Q)):o.wpIn (Fence.wide.inRound l) n P a w K Q:=by
 have h:=h.resolve_right (λe=>uT e.2);refine⟨λf _=>trivial,?_⟩;rw[Oper.semAt_eq _ _ _ hd];unfold Oper.wp at h;generalize (execOp a.eval o).run P w=r at *
 cases r with
 | ok x w'=>
  cases x <;> simp only[Oper.upon,Oper.uponIn] at h |- <;> first | exact h | exact h.elim | skip
  ·exact⟨λe=>by simp[Fence.wide] at e,CallsIn.inRound l (callsIn_wide.2 h)⟩
  ·exact⟨λe=>by simp[Fence.wide] at e,WK h⟩
 | halt x w'=>cases x <;> simp only[Oper.upon,Oper.uponIn] at h |- <;> first | exact h | exact h.elim
theorem Yt{md:Region.Mode}(hd:∀ (i:Nat) (o:Oper),ops[i]?=some o->∀ c,o.op≠.defer c)(uT:¬ LetsOut Q):∀ (f:Nat) {listed:Array Bool} {a:Act} {w:World},wpAny P md ops Q f listed a w->wpAnyIn (Fence.wide.inRound l) n P md ops Q f listed a w:=by
 intro f
 induction f with
 | zero=>exact λh=>h
 | succ f ih=>
  intro listed a w h;refine⟨h.1,λi hi=>?_⟩;have h2:=h.2 i hi;unfold wpOp at h2;unfold wpOpIn
  cases ho:ops[i]? with
  | none=>rw[ho] at h2;exact ih h2
  | some o=>
   rw[ho] at h2;dsimp only at h2 |-;split at h2
   ·rename_i hw;rw[Qb hw];refine Oper.wpIn_mono (λa w h=>ih h) (Yw (hd i o ho) uT h2)
   ·rename_i hw;rw[Qc hw];exact⟨λ_ _=>trivial,ih h2⟩
end
def ET(ops:Array Oper):Bool:=ops.all λo=>match o.op with | .defer _=>false | _=>true
theorem Vr{ops:Array Oper}(h:ET ops=true):∀ (i:Nat) (o:Oper),ops[i]?=some o->∀ c,o.op≠.defer c:=λi o ho c e=>by
 unfold ET at h;rw[Array.all_eq_true] at h;obtain⟨hi,hg⟩:=eQ.1 ho
 have:=h i hi
 rw[hg,e] at this
 cases this
section
variable {P:Program} {ops:Array Oper} {Q:Exit->Act->World->Prop} {n l id:Nat} {a:Act} {w:World}
theorem Ft(hd:ET ops=true)(hm:P.follows .mixedOrders=true)(uT:¬ LetsOut Q)(h:wpAny P .any ops Q ops.size (Array.replicate ops.size false) a w.drew):(Code.region id ops true).wpIn (Fence.wide.inRound l) n P Q a w:=
 wpIn_region_any hm (Yt (Vr hd) uT _ h)
end
theorem BF{F:Fence}{n:Nat}{P:Program}{c:Code}{Q:Exit->Act->World->Prop}{a:Act}{w:World}(h:∀ a0,a0=a->c.wpIn F n P Q a0 w):c.wpIn F n P Q a w:=h a rfl
section
variable {P:Program} {ops:Array Oper} {Q:Exit->Act->World->Prop} {n l:Nat}
end
end
end Go.Proofs.YtfnopgdcaanaiaaGreatDoor
