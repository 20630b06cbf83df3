/- Parts of the proof. No condition. -/
import Derived.Test.YtbfbobfbgabjiaaGreatDoorM03
set_option linter.all false
set_option maxRecDepth 100000
set_option maxHeartbeats 8000000
namespace Go.Proofs.YtbfbobfbgabjiaaGreatDoor
open Go.Proofs.Tryz
namespace Np
def okR:List (List UInt8)->Bool
 | []=>true
 | [x]=>cF x||x == [42]
 | x::y::r=>cF x&&okR (y::r)
theorem V4:cF [42]=false:=by decide
theorem Uf(xs:List (List UInt8))(n:Nat):fO xs n true=xs.isEmpty:=by cases xs <;> simp[fO]
theorem VE:∀ (xs:List (List UInt8)) (n:Nat),n<=8->fO xs n false=(decide (n+xs.length<=8)&&okR xs):=by
 intro xs
 induction xs with
 | nil=>intro n hn; simp[fO,okR,hn]
 | cons x xs ih=>
  intro n hn;rw[fO];by_cases h8:8<n+1
  ·rw[Qb (by simp; omega),tQ (by simp; omega)]; rfl
  ·rw[Qc (by simp; omega)];by_cases hx:x = [42]
   ·subst hx;rw[Qb rfl,Uf]
    cases xs with
    | nil=>simp[okR]; omega
    | cons y r=>simp[okR,V4]
   ·rw[Qc hx];by_cases hl:cF x=true
    ·rw[Qb hl,ih (n+1) (by omega)]
     cases xs with
     | nil=>simp[okR,hl]
     | cons y r=>simp only[okR,hl,Bool.true_and,List.length_cons]; congr 1; congr 1; apply propext; omega
    ·rw[Qc hl]
     cases xs with
     | nil=>simp[okR,hl,hx]
     | cons y r=>simp[okR,hl]
def tC:List (List UInt8)->Bool
 | []=>true
 | h::t=>(cF h||h == [42])&&t.all cF
theorem YL:∀ (a:List (List UInt8)) (h:List UInt8),okR (a ++ [h])=(a.all cF&&(cF h||h == [42])):=by
 intro a h
 induction a with
 | nil=>simp[okR]
 | cons x a ih=>
  cases a with
  | nil=>simp[okR]
  | cons y r=>
   simp only[List.cons_append,okR] at ih |-;rw[ih]; simp[Bool.and_assoc]
theorem Zu(l:List (List UInt8)):okR l.reverse=tC l:=by
 cases l with
 | nil=>rfl
 | cons h t=>rw[List.reverse_cons,YL,tC,List.all_reverse,Bool.and_comm]
theorem LZ(s:List UInt8):aG s=if s = [46] then true else if 60<s.length then false else tC (be s)&&decide ((be s).length<=8):=by
 unfold aG;split
 ·rfl
 ·split
  ·rfl
  ·rw[VE _ 0 (by omega),Zu,List.length_reverse,Bool.and_comm]; simp
def kb:List (List UInt8)->List UInt8
 | []=>[]
 | [x]=>x
 | x::y::r=>x++46::kb (y::r)
theorem Ua(c:UInt8)(x:List UInt8)(xs:List (List UInt8)):kb ((c::x)::xs)=c::kb (x::xs):=by
 cases xs <;> simp[kb]
theorem xW(s:List UInt8):kb (be s)=s:=by
 induction s with
 | nil=>rfl
 | cons c r ih=>
  rw[be];have hne:=qo r
  cases hr:be r with
  | nil=>exact absurd hr hne
  | cons x xs=>
   rw[hr] at ih;split
   ·rename_i hc; subst hc; rw[kb,ih]; rfl
   ·rw[Ua,ih]
theorem UT:∀ (l m:List (List UInt8)),l≠[]->m≠[]->kb (l++m)=kb l++46::kb m:=by
 intro l
 induction l with
 | nil=>intro m h; exact absurd rfl h
 | cons x l ih=>
  intro m _ hm
  cases l with
  | nil=>
   cases m with
   | nil=>exact absurd rfl hm
   | cons y m=>simp[kb]
  | cons y l=>
   have:=ih m (by simp) hm
   simp only[List.cons_append,kb] at this |-;rw[this]; simp
def eW(s:List UInt8):List (List UInt8):=if s = [46] then [] else be s
theorem zZ(s:List UInt8):(eW s).reverse=bj s:=by
 unfold eW bj; split <;> rfl
theorem Au{a b:List UInt8}(h:bj a=bj b):a=b:=by
 unfold bj at h;by_cases ha:a = [46]
 ·by_cases hb:b = [46]
  ·rw[ha,hb]
  ·rw[Qb ha,Qc hb] at h
   have:=qo b
   exact absurd (List.reverse_eq_nil_iff.1 h.symm) this
 ·by_cases hb:b = [46]
  ·rw[Qb hb,Qc ha] at h;exact absurd (List.reverse_eq_nil_iff.1 h) (qo a)
  ·rw[Qc ha,Qc hb] at h
   have:=List.reverse_inj.1 h
   rw[<-xW a,this,xW]
def inL(l m:List (List UInt8)):Bool:=decide (m.length<=l.length)&&(l.drop (l.length - m.length) == m)
theorem O6{l m:List (List UInt8)} : inL l m=true↔∃ p,l=p++m:=by
 unfold inL;simp only[Bool.and_eq_true,Qa,beq_iff_eq];constructor
 ·rintro⟨h1,h2⟩;refine⟨l.take (l.length - m.length),?_⟩;rw[<-h2,List.length_drop]
  conv => lhs; rw[<-List.take_append_drop (l.length - m.length) l]
  congr 2; omega
 ·rintro⟨p,rfl⟩;refine⟨by simp,?_⟩;rw[List.length_append,Nat.add_sub_cancel,List.drop_left]
theorem Ak{s z:List UInt8}(hz:z≠[]):inL (eW s) (eW z)=bG s z:=by
 rw[Bool.eq_iff_iff,O6];unfold bG eW;simp only[Bool.or_eq_true,Bool.and_eq_true,beq_iff_eq,Qa];by_cases h1:z = [46]
 ·rw[Qb h1];exact⟨λ_=>.inl (.inr h1),λ_=>⟨_,(List.append_nil _).symm⟩⟩
 ·rw[Qc h1];by_cases h2:s = [46]
  ·rw[Qb h2];constructor
   ·rintro⟨p,hp⟩
    have:=List.append_eq_nil_iff.1 hp.symm
    exact absurd this.2 (qo z)
   ·rintro ((h | h) | ⟨⟨h3,_⟩,_⟩)
    ·exact absurd (h ▸ h2) h1
    ·exact absurd h h1
    ·subst h2;have h4:z.length<1:=h3;exact absurd (rQ (by omega)) hz
  ·rw[Qc h2];constructor
   ·rintro⟨p,hp⟩;by_cases h0:p = []
    ·subst h0;rw[List.nil_append] at hp;left; left;rw[<-xW s,hp,xW]
    ·right;have hs:s=kb p++46::z:=by
      rw[<-xW s,hp,UT _ _ h0 (qo z),xW]
     subst hs;refine⟨⟨by simp; omega,?_⟩,?_⟩
     ·rw[show (kb p++46::z).length - z.length=(kb p ++ [46]).length by simp; omega,show kb p++46::z=(kb p ++ [46])++z by simp,List.drop_left]
     ·rw[show (kb p++46::z).length - z.length - 1=(kb p).length by simp; omega];rw[oQ (bQ _)]; simp
   ·rintro ((h | h) | ⟨⟨h3,h4⟩,h5⟩)
    ·exact⟨[],by rw[h]; rfl⟩
    ·exact absurd h h1
    ·have hs:s=s.take (s.length - z.length - 1)++46::z:=by
      conv => lhs; rw[<-List.take_append_drop (s.length - z.length - 1) s]
      congr 1;obtain⟨hl,he⟩:=cQ.1 h5;rw[sQ hl,he,show s.length - z.length - 1+1=s.length - z.length by omega,h4]
     refine⟨be (s.take (s.length - z.length - 1)),?_⟩
     conv => lhs; rw[hs]
     rw[zR]
def cO:List (List UInt8)->List (List UInt8)->Int
 | [],[]=>0
 | [],_::_=>-1
 | _::_,[]=>1
 | x::xs,y::ys=>if cP x y≠0 then cP x y else cO xs ys
theorem vn(x:List UInt8):cP x x=0:=by
 have:∀ x:List UInt8,Go.Op.bytesLess x x=false:=by
  intro x
  induction x with
  | nil=>rfl
  | cons a x ih=>simp[Go.Op.bytesLess,ih]
 simp[cP,this]
theorem rG{x y:List UInt8}(h:cP x y=0):x=y:=by
 unfold cP at h;split at h
 ·omega
 ·split at h
  ·assumption
  ·omega
theorem N0(l:List (List UInt8)):cO l l=0:=by
 induction l with
 | nil=>rfl
 | cons x l ih=>rw[cO,vn,Qc (by simp),ih]
theorem Zr:∀ (l m:List (List UInt8)),l≠m->cO l m=nL l m:=by
 intro l
 induction l with
 | nil=>
  intro m h
  cases m with
  | nil=>exact absurd rfl h
  | cons y m=>rfl
 | cons x l ih=>
  intro m h
  cases m with
  | nil=>rfl
  | cons y m=>
   rw[cO,nL];by_cases hc:cP x y≠0
   ·rw[Qb hc,Qb hc]
   ·rw[Qc hc,Qc hc]
    have:=rG (Decidable.not_not.1 hc)
    subst this;exact ih m (λe=>h (by rw[e]))
theorem zX(a b:List UInt8):aM a b=cO (bj a) (bj b):=by
 unfold aM;split
 ·rename_i h; rw[h,N0]
 ·rename_i h; exact (Zr _ _ (λe=>h (Au e))).symm
theorem zU(a:List UInt8):aM a a=0:=by simp[aM]
theorem Df{a b:List UInt8}(h:aM a b=0):a=b:=by
 rw[zX] at h;refine Au ?_
 have:∀ l m:List (List UInt8),cO l m=0->l=m:=by
  intro l
  induction l with
  | nil=>intro m h; cases m with
    | nil=>rfl
    | cons y m=>simp[cO] at h
  | cons x l ih=>
   intro m h
   cases m with
   | nil=>simp[cO] at h
   | cons y m=>
    rw[cO] at h;split at h
    ·rename_i hc; exact absurd h hc
    ·rename_i hc;rw[rG (Decidable.not_not.1 hc),ih m h]
 exact this _ _ h
theorem DB(a b:DSet):io a b=if aM a.name b.name≠0 then aM a.name b.name else cX a.type b.type:=by
 unfold io;by_cases h:a.name=b.name
 ·rw[Qc (by simp[h]),h,zU,Qc (by simp)]
 ·rw[Qb h,Qb (λe=>h (Df e))]
theorem Uj:∀ (x y:List UInt8),Go.Op.bytesLess x y=false->x≠y->Go.Op.bytesLess y x=true:=by
 intro x
 induction x with
 | nil=>intro y h hn; cases y with
   | nil=>exact absurd rfl hn
   | cons b y=>simp[Go.Op.bytesLess] at h
 | cons a x ih=>
  intro y h hn
  cases y with
  | nil=>simp[Go.Op.bytesLess]
  | cons b y=>
   simp only[Go.Op.bytesLess] at h |-;by_cases h1:a<b
   ·simp[h1] at h
   ·by_cases h2:b<a
    ·simp[h2]
    ·have h3:a=b:=by
      apply UInt8.toNat_inj.1;simp only[UInt8.lt_iff_toNat_lt] at h1 h2;omega
     subst h3;simp[h1] at h |-;exact ih y h (λe=>hn (by rw[e]))
theorem yn(x y:List UInt8):(Go.Op.bytesLess x y=true/\cP x y = -1)\/(Go.Op.bytesLess x y=false/\Go.Op.bytesLess y x=true/\x≠y/\cP x y=1)\/(Go.Op.bytesLess x y=false/\Go.Op.bytesLess y x=false/\x=y/\cP x y=0):=by
 cases h:Go.Op.bytesLess x y with
 | true=>exact .inl ⟨rfl,by simp[cP,h]⟩
 | false=>
  by_cases hn:x=y
  ·subst hn; exact .inr (.inr ⟨rfl,h,rfl,vn x⟩)
  ·exact .inr (.inl ⟨rfl,Uj x y h hn,hn,by simp[cP,h,hn]⟩)
def Io(a b:Datum):Bool:=if a.text≠b.text then Go.Op.bytesLess a.text b.text else if a.n≠b.n then decide (a.n<b.n) else decide (a.m<b.m)
theorem XN(a b:Datum):Io a b=decide (qG a b<0):=by
 unfold Io qG;rcases yn a.text b.text with ⟨h1,h2⟩ | ⟨h1,_,h3,h2⟩ | ⟨_,_,h3,h2⟩
 ·have hn:a.text≠b.text:=λe=>by rw[e,vn] at h2; omega
  rw[Qb hn,Qb (by omega),h1,h2]; rfl
 ·rw[Qb h3,Qb (by omega),h1,h2]; rfl
 ·rw[Qc (show ¬ a.text≠b.text from λe=>e h3),Qc (show ¬ cP a.text b.text≠0 from λe=>e h2)];by_cases h4:a.n=b.n
  ·rw[Qc (show ¬ a.n≠b.n from λe=>e h4)];have h5:cX a.n b.n=0:=by unfold cX; rw[Qc (by omega),Qc (by omega)]
   rw[Qc (show ¬ cX a.n b.n≠0 from λe=>e h5)];unfold cX;by_cases h6:a.m<b.m
   ·rw[Qb h6]; simp[h6]
   ·by_cases h7:b.m<a.m
    ·rw[Qc h6,Qb h7]; simp; omega
    ·rw[Qc h6,Qc h7]; simp; omega
  ·rw[Qb (show a.n≠b.n from h4)];by_cases h6:a.n<b.n
   ·have h5:cX a.n b.n = -1:=by unfold cX; rw[Qb h6]
    rw[h5]; simp[h6]
   ·have h5:cX a.n b.n=1:=by unfold cX; rw[Qc h6,Qb (by omega)]
    rw[h5]; simp; omega
structure TO{α:Type}(c:α->α->Int):Prop where
 self:∀ x,c x x=0
 zero:∀ x y,c x y=0->x=y
 anti:∀ x y,c x y<0->0<c y x
 anti':∀ x y,0<c x y->c y x<0
 trans:∀ x y z,c x y<0->c y z<0->c x z<0
theorem TO.lex{α β γ:Type}{c:α->α->Int}{d:β->β->Int}(hc:TO c)(hd:TO d)(f:γ->α)(g:γ->β)(hfg:∀ x y,f x=f y->g x=g y->x=y):TO (λx y:γ=>if c (f x) (f y)≠0 then c (f x) (f y) else d (g x) (g y)) where
 self x:=by simp[hc.self,hd.self]
 zero x y h:=by
  by_cases h1:c (f x) (f y)≠0
  ·rw[Qb h1] at h; exact absurd h h1
  ·rw[Qc h1] at h; exact hfg x y (hc.zero _ _ (Decidable.not_not.1 h1)) (hd.zero _ _ h)
 anti x y h:=by
  by_cases h1:c (f x) (f y)≠0
  ·rw[Qb h1] at h
   have:=hc.anti _ _ h
   rw[Qb (by omega)]; exact this
  ·rw[Qc h1] at h;have e:=hc.zero _ _ (Decidable.not_not.1 h1);rw[e,hc.self,Qc (by simp)];exact hd.anti _ _ h
 anti' x y h:=by
  by_cases h1:c (f x) (f y)≠0
  ·rw[Qb h1] at h
   have:=hc.anti' _ _ h
   rw[Qb (by omega)]; exact this
  ·rw[Qc h1] at h;have e:=hc.zero _ _ (Decidable.not_not.1 h1);rw[e,hc.self,Qc (by simp)];exact hd.anti' _ _ h
 trans x y z h k:=by
  by_cases h1:c (f x) (f y)≠0
  ·rw[Qb h1] at h;by_cases h2:c (f y) (f z)≠0
   ·rw[Qb h2] at k
    have:=hc.trans _ _ _ h k
    rw[Qb (by omega)]; exact this
   ·have e:=hc.zero _ _ (Decidable.not_not.1 h2);rw[<-e,Qb h1]; exact h
  ·rw[Qc h1] at h;have e:=hc.zero _ _ (Decidable.not_not.1 h1);by_cases h2:c (f y) (f z)≠0
   ·rw[Qb h2] at k;rw[e,Qb h2]; exact k
   ·rw[Qc h2] at k;rw[e,Qc h2];exact hd.trans _ _ _ h k
theorem TO.of{α β:Type}{c:α->α->Int}(hc:TO c)(f:β->α)(hf:∀ x y,f x=f y->x=y):TO (λx y=>c (f x) (f y)) where
 self _:=hc.self _
 zero _ _ h:=hf _ _ (hc.zero _ _ h)
 anti _ _ h:=hc.anti _ _ h
 anti' _ _ h:=hc.anti' _ _ h
 trans _ _ _ h k:=hc.trans _ _ _ h k
theorem DY:∀ (x y:List UInt8),Go.Op.bytesLess x y=decide (x<y)
 | [],[]=>by simp[Go.Op.bytesLess]
 | _::_,[]=>by simp[Go.Op.bytesLess]
 | [],_::_=>by simp[Go.Op.bytesLess]
 | a::x,b::y=>by
   rw[Go.Op.bytesLess,DY x y];simp only[List.cons_lt_cons_iff];by_cases h1:a<b <;> by_cases h2:a=b <;> by_cases h3:x<y <;> simp[h1,h2,h3]
theorem toS:TO cP where
 self:=vn
 zero _ _:=rG
 anti x y h:=by
  rcases yn x y with ⟨h1,h2⟩ | ⟨_,_,_,h2⟩ | ⟨_,_,_,h2⟩
  ·rcases yn y x with ⟨h3,h4⟩ | ⟨_,_,_,h4⟩ | ⟨_,_,h5,h4⟩
   ·rw[DY,Qa] at h1 h3;exact absurd h3 (List.lt_asymm h1)
   ·omega
   ·rw[h5,vn] at h; omega
  ·omega
  ·omega
 anti' x y h:=by
  rcases yn x y with ⟨_,h2⟩ | ⟨_,h1,_,h2⟩ | ⟨_,_,_,h2⟩
  ·omega
  ·simp[cP,h1]
  ·omega
 trans x y z h k:=by
  have e:∀ a b:List UInt8,cP a b<0->a<b:=λa b h=>by
   rcases yn a b with ⟨h1,h2⟩ | ⟨_,_,_,h2⟩ | ⟨_,_,_,h2⟩
   ·rw[DY,Qa] at h1; exact h1
   ·omega
   ·omega
  have:=List.lt_trans (e _ _ h) (e _ _ k)
  unfold cP;rw[DY,Qb (by simpa using this)];omega
theorem toI:TO cX where
 self x:=by unfold cX; rw[Qc (by omega),Qc (by omega)]
 zero x y h:=by unfold cX at h; split at h; omega; split at h <;> omega
 anti x y h:=by
  unfold cX at h |-;split at h
  ·rw[Qc (by omega),Qb (by omega)]; omega
  ·split at h <;> omega
 anti' x y h:=by
  unfold cX at h |-;split at h
  ·omega
  ·split at h
   ·rw[Qb (by omega)]; omega
   ·omega
 trans x y z h k:=by
  unfold cX at h k |-;split at h
  ·split at k
   ·rw[Qb (by omega)]; omega
   ·split at k <;> omega
  ·split at h <;> omega
theorem toR:TO cO:=by
 have hs:=toS;refine⟨N0,?_,?_,?_,?_⟩
 ·intro l
  induction l with
  | nil=>intro m h; cases m with
    | nil=>rfl
    | cons y m=>simp[cO] at h
  | cons x l ih=>
   intro m h
   cases m with
   | nil=>simp[cO] at h
   | cons y m=>
    rw[cO] at h;split at h
    ·rename_i hc; exact absurd h hc
    ·rename_i hc;rw[rG (Decidable.not_not.1 hc),ih m h]
 ·intro l
  induction l with
  | nil=>intro m h; cases m with
    | nil=>simp[cO] at h
    | cons y m=>simp[cO]
  | cons x l ih=>
   intro m h
   cases m with
   | nil=>simp[cO] at h
   | cons y m=>
    rw[cO] at h |-;split at h
    ·have:=hs.anti _ _ h
     rw[Qb (by omega)]; exact this
    ·rename_i hc;have e:=rG (Decidable.not_not.1 hc);subst e;rw[Qc hc];exact ih m h
 ·intro l
  induction l with
  | nil=>intro m h; cases m with
    | nil=>simp[cO] at h
    | cons y m=>simp[cO] at h
  | cons x l ih=>
   intro m h
   cases m with
   | nil=>simp[cO]
   | cons y m=>
    rw[cO] at h |-;split at h
    ·have:=hs.anti' _ _ h
     rw[Qb (by omega)]; exact this
    ·rename_i hc;have e:=rG (Decidable.not_not.1 hc);subst e;rw[Qc hc];exact ih m h
 ·intro l
  induction l with
  | nil=>intro m n h k; cases m with
    | nil=>simp[cO] at h
    | cons y m=>cases n with
      | nil=>simp[cO] at k
      | cons z n=>simp[cO]
  | cons x l ih=>
   intro m n h k
   cases m with
   | nil=>simp[cO] at h
   | cons y m=>
    cases n with
    | nil=>simp[cO] at k
    | cons z n=>
     rw[cO] at h k |-;by_cases hc:cP x y≠0
     ·rw[Qb hc] at h;by_cases hd:cP y z≠0
      ·rw[Qb hd] at k
       have:=hs.trans _ _ _ h k
       rw[Qb (by omega)]; exact this
      ·have e:=rG (Decidable.not_not.1 hd);rw[<-e,Qb hc]; exact h
     ·rw[Qc hc] at h;have e:=rG (Decidable.not_not.1 hc);by_cases hd:cP y z≠0
      ·rw[Qb hd] at k;rw[e,Qb hd]; exact k
      ·rw[Qc hd] at k;rw[e,Qc hd];exact ih m n h k
theorem fH:TO aM:=by
 have:=toR.of bj (λ_ _ h=>Au h)
 have e:aM=λx y=>cO (bj x) (bj y):=by funext x y; exact zX x y
 rw[e]; exact this
def fI(a b:List UInt8×Int):Int:=if aM a.1 b.1≠0 then aM a.1 b.1 else cX a.2 b.2
theorem yz:TO fI:=fH.lex toI (λd:List UInt8×Int=>d.1) (λd=>d.2) (λ_ _ h k=>Prod.ext h k)
def fd(s:DSet):List UInt8×Int:=(s.name,s.type)
theorem GO(a b:DSet):io a b=fI (fd a) (fd b):=DB a b
theorem XO{α:Type}{c:α->α->Int}(h:TO c)(x y z:α):(!decide (c y x<0))=true->(!decide (c z y<0))=true->(!decide (c z x<0))=true:=by
 simp only[Bool.not_eq_true',decide_eq_false_iff_not,Int.not_lt];intro h1 h2;apply Decidable.byContradiction;intro h3;have h4:c z x<0:=by omega
 rcases Int.lt_or_eq_of_le h1 with h5 | h5
 ·have:=h.trans _ _ _ h4 (h.anti' _ _ h5); omega
 ·have:=h.zero _ _ h5.symm; subst this; omega
theorem XP{α:Type}{c:α->α->Int}(h:TO c)(x y:α):((!decide (c y x<0))||(!decide (c x y<0)))=true:=by
 by_cases h1:c y x<0
 ·have:=h.anti _ _ h1
  have:¬ c x y<0:=by omega
  simp[this]
 ·simp[h1]
end Np
section
open Go.RowKit
theorem Xx{a b:Bool}(h:a=b):Ending.returned (.tuple #[.bool a,.int .i64 0]) = .returned (.tuple #[.bool b,.int .i64 0]):=by rw[h]
def Np.yt(s z:ByteArray):Bool:=decide (z.size<=s.size)&&((s.extract (s.size - z.size) s.size).toList == z.toList)
def Np.Im(s z:ByteArray):Bool:=(s.toList == z.toList)||(z.toList == [46])||(decide (z.size<s.size)&&Np.yt s z&&((s.data.toList[s.size - z.size - 1]?).map UInt8.toNat == some 46))
theorem Xk(s z:ByteArray)(h:z.size<=s.size):Np.yt s z=(s.data.toList.drop (s.data.toList.length - z.data.toList.length) == z.data.toList):=by
 unfold Np.yt;rw[uQ h,Bool.true_and,dQ,dQ,DR,bn,bn]
theorem Yt(s z:ByteArray):Np.Im s z=Np.bG s.data.toList z.data.toList:=by
 unfold Np.Im Np.bG;rw[dQ,dQ,bn,bn];congr 1;by_cases h:z.size<s.size
 ·rw[Xk s z (by omega),bn,bn,uQ h];congr 1;have e:s.data.toList[s.size - z.size - 1]?=some (s[s.size - z.size - 1]'(by omega)):=yl s _ (by omega);rw[e];simp only[Option.map_some];rw[Bool.eq_iff_iff];simp only[beq_iff_eq,Option.some.injEq];constructor
  ·intro h; apply UInt8.toNat_inj.1; rw[h]; rfl
  ·intro h; rw[h]; rfl
 ·rw[tQ h]; rfl
theorem TS(s z:ByteArray)(hs:s.size<=140737488355328)(hz:z.size<=140737488355328)(w:World) :
 Calls prog 240 #[.string s,.string z] w λe w'=>e = .returned (.bool (Np.yt s z))/\w'=w:=by
 go_enter func240,ntmps240;go_wp2_with fail
 all_goals
  go_ret;refine⟨aj ?_,rfl⟩;simp_all [Np.yt] <;> (intros; omega)
theorem Ud(s z:ByteArray)(hs:s.size<=140737488355328)(hz:z.size<=140737488355328)(w:World) :
 Calls prog 198 #[.string s,.string z] w λe w'=>e = .returned (.bool (Np.yt s z))/\w'=w:=by
 go_enter func198,ntmps198;go_wp2_with (go_at_call 240; refine (TS s z hs hz _).mono ?_; rintro e w' ⟨rfl,rfl⟩);go_ret;exact⟨rfl,rfl⟩
theorem GW(s z:ByteArray)(hs:s.size<=140737488355328)(hz:z.size<=140737488355328)(w:World)(v1:Np.aG s.data.toList=true)(v2:Np.aG z.data.toList=true) :
 Calls prog 135 #[.string s,.string z] w λe w'=>e = .returned (.tuple #[.bool (Np.bG s.data.toList z.data.toList),.int .i64 0])/\Below w.heap.size w w':=by
 rw[<-Yt];have V1:=jq v1;have V2:=jq v2;clear v1 v2;go_enter func135,ntmps135;go_wp2_with (first
  | (go_at_call 96; have v1:=V1.out; clear V1; refine (valid_any s hs _).mono ?_; rintro e w1 ⟨rfl,hb⟩; rw[v1]; clear v1; have aF:=jq hb; clear hb)
  | (go_at_call 96; have v2:=V2.out; clear V2; refine (valid_any z hz _).mono ?_; rintro e w2 ⟨rfl,hb⟩; rw[v2]; clear v2; have ak:=jq hb; clear hb)
  | (go_at_call 198; refine (Ud s z hs hz _).mono ?_; rintro e w3 ⟨rfl,rfl⟩))
 all_goals
  go_ret2;refine⟨Xx ?_,aF.out.trans (ak.out.mono aF.out.size)⟩;simp_all [Np.Im,dQ]
 ·rename_i _ h1 h2 h3 _;have e1:(s.data == z.data)=false:=by simpa using h1
  have e2:(z.data.toList == [46])=false:=by simpa using h2
  have e3:s.data[s.size - z.size - 1]?=some s[s.size - z.size - 1]:=pQ (by simp; omega);rw[e1,e2,e3,Bool.eq_iff_iff];simp;omega
 ·intros; omega
theorem Mb(s1 s2:ByteArray)(aZ:s1.size<=140737488355328)(b7:s2.size<=140737488355328)(t1 t2:Int)(n1:Np.aG s1.data.toList=true)(n2:Np.aG s2.data.toList=true)(w:World) :
 Calls prog 164 #[.string s1,.int .i64 t1,.string s2,.int .i64 t2] w
  λe w'=>e = .returned (.int .i64 (Np.fI (s1.data.toList,t1) (s2.data.toList,t2)))/\Below w.heap.size w w':=by
 have hv:cmpVal s1.data.toList s2.data.toList = .tuple #[.int .i64 (Np.aM s1.data.toList s2.data.toList),.int .i64 0]:=by rw[cmpVal,n1,n2]; rfl
 have HV:=jq hv;clear hv n1 n2;by_cases h:s1.data.toList=s2.data.toList
 ·have he:(!s1.toList == s2.toList)=false:=by rw[dQ,dQ,h]; simp
  have hc:Np.fI (s1.data.toList,t1) (s2.data.toList,t2)=Np.cX t1 t2:=by unfold Np.fI; dsimp only; rw[h,Np.zU,Qc (by simp)]
  rw[hc];clear hc h;go_enter func164,ntmps164;go_wp2_with (go_at_call 58; refine (An _ _ _).mono ?_; rintro e w' ⟨rfl,rfl⟩);go_ret;exact⟨rfl,vQ _ _⟩
 ·have he:(!s1.toList == s2.toList)=true:=by rw[dQ,dQ]; simpa using h
  have hc:Np.fI (s1.data.toList,t1) (s2.data.toList,t2)=Np.aM s1.data.toList s2.data.toList:=by unfold Np.fI; dsimp only; rw[Qb (λe=>h (Np.Df e))]
  rw[hc];clear hc h;go_enter func164,ntmps164;go_wp2_with fail;refine (compare_any s1 s2 aZ b7 _).mono ?_;rintro e w1 ⟨rfl,hb⟩;rw[HV.out];have HB:=jq hb;clear hb;go_wp2_with fail;go_ret;exact⟨rfl,HB.out⟩
theorem Dp{s:Np.DSet}(h:Np.ee s=true):Np.aG s.name=true:=by
 unfold Np.ee at h;simp only[Bool.and_eq_true] at h;exact h.1.1.1.1.1.1
end
namespace Np
theorem oB{s z:List UInt8}(hz:z≠[]):bG s z=true↔bj z <+: bj s:=by
 rw[<-Ak hz,O6,<-zZ,<-zZ];constructor
 ·rintro⟨p,h⟩;exact⟨p.reverse,by rw[h,List.reverse_append]⟩
 ·rintro⟨p,h⟩;refine⟨p.reverse,?_⟩
  have:=Qd List.reverse h
  simpa using this.symm
theorem Ph:∀ (c n:List (List UInt8)),c <+: n->cO c n<=0
 | [],[],_=>by simp[cO]
 | [],_::_,_=>by simp[cO]
 | x::c,[],h=>by have:=h.length_le; simp at this
 | x::c,y::n,h=>by
   obtain⟨rfl,h2⟩:=List.cons_prefix_cons.1 h;rw[cO,vn,Qc (by simp)];exact Ph c n h2
theorem ML:∀ (c a b:List (List UInt8)),c <+: b->cO c a<=0->cO a b<=0->c <+: a
 | [],a,b,_,_,_=>List.nil_prefix
 | x::c,[],b,_,h,_=>by simp[cO] at h
 | x::c,y::a,[],h,_,_=>by have:=h.length_le; simp at this
 | x::c,y::a,z::b,h,h1,h2=>by
   obtain⟨rfl,h3⟩:=List.cons_prefix_cons.1 h;rw[cO] at h1 h2;by_cases cI:cP x y=0
   ·have e:=rG cI;subst e;rw[vn,Qc (by simp)] at h1 h2;exact List.cons_prefix_cons.2 ⟨rfl,ML c a b h3 h1 h2⟩
   ·rw[Qb cI] at h1
    have:=toS.anti x y (by omega)
    rw[Qb (by omega)] at h2;omega
theorem DJ{s z:List UInt8}(hz:z≠[])(h:bG s z=true):aM z s<=0:=by
 rw[zX]; exact Ph _ _ ((oB hz).1 h)
theorem Gh{c a b:List UInt8}(hc:c≠[])(h:bG b c=true)(h1:aM c a<=0)(h2:aM a b<=0):bG a c=true:=by
 rw[zX] at h1 h2;exact (oB hc).2 (ML _ _ _ ((oB hc).1 h) h1 h2)
theorem Gr{a b c:List UInt8}(hb:b≠[])(hc:c≠[])(h1:bG a b=true)(h2:bG b c=true):bG a c=true:=
 (oB hc).2 (((oB hc).1 h2).trans ((oB hb).1 h1))
theorem Dq(a:List UInt8):bG a a=true:=by simp[bG]
theorem Mx{n a b:List UInt8}(ha:a≠[])(hb:b≠[])(h1:bG n a=true)(h2:bG n b=true):bG a b=true\/bG b a=true:=by
 rcases List.prefix_or_prefix_of_prefix ((oB ha).1 h1) ((oB hb).1 h2) with h | h
 ·exact .inr ((oB ha).2 h)
 ·exact .inl ((oB hb).2 h)
def jM(C:List UInt8->Bool)(n o:List UInt8):Prop:=
 (o = []/\∀ c,C c=true->bG n c=false)\/(C o=true/\bG n o=true/\∀ c,C c=true->bG o c=true->c=o)
theorem jM.unique{C:List UInt8->Bool}(hC:∀ c,C c=true->c≠[]){n a b:List UInt8}(ha:jM C n a)(hb:jM C n b):a=b:=by
 rcases ha with ⟨rfl,ha⟩ | ⟨a1,a2,a3⟩
 ·rcases hb with ⟨rfl,_⟩ | ⟨b1,b2,_⟩
  ·rfl
  ·rw[ha b b1] at b2; cases b2
 ·rcases hb with ⟨rfl,hb⟩ | ⟨b1,b2,b3⟩
  ·rw[hb a a1] at a2; cases a2
  ·rcases Mx (hC a a1) (hC b b1) a2 b2 with h | h
   ·exact (a3 b b1 h).symm
   ·exact b3 a a1 h
theorem jM.above{C:List UInt8->Bool}(hC:∀ c,C c=true->c≠[]){n o c:List UInt8}(h:jM C n o)(hc:C c=true)(hu:bG n c=true):C o=true/\bG n o=true/\bG c o=true:=by
 rcases h with ⟨_,h⟩ | ⟨h1,h2,h3⟩
 ·rw[h c hc] at hu; cases hu
 ·refine⟨h1,h2,?_⟩;rcases Mx (hC o h1) (hC c hc) h2 hu with h | h
  ·rw[h3 c hc h]; exact Dq o
  ·exact h
def dR(C:List UInt8->Bool)(cut n:List UInt8):List UInt8:=
 if (if cut≠[]/\bG n cut=false then [] else cut) = []/\C n=true then n else if cut≠[]/\bG n cut=false then [] else cut
theorem NO{C:List UInt8->Bool}{n:List UInt8}(h:∀ c,C c=true->bG n c=true->c=n):jM C n (if C n=true then n else []):=by
 split
 ·rename_i hn;exact .inr ⟨hn,Dq n,h⟩
 ·rename_i hn;refine .inl ⟨rfl,λc hc=>?_⟩
  cases hu:bG n c with
  | false=>rfl
  | true=>rw[<-h c hc hu] at hn; exact absurd hc hn
theorem V3{C:List UInt8->Bool}(hC:∀ c,C c=true->c≠[]){n:List UInt8}(ax:∀ c,C c=true->¬ aM c n<0):jM C n (dR C [] n):=by
 have h:=NO (n:=n) (λc hc hu=>by
  have h1:=DJ (hC c hc) hu;have h2:=ax c hc;exact Df (by omega))
 have e:dR C [] n=if C n=true then n else []:=by simp[dR]
 rw[e]; exact h
theorem Yx{C:List UInt8->Bool}(hC:∀ c,C c=true->c≠[]){m cut n:List UInt8}(hm:jM C m cut)(g8:aM m n<=0)(ax:∀ c,C c=true->aM c n<0->aM c m<=0):jM C n (dR C cut n):=by
 by_cases hcut:cut≠[]/\bG n cut=true
 ·have e:dR C cut n=cut:=by simp[dR,hcut.1,hcut.2]
  rw[e];rcases hm with ⟨h,_⟩ | ⟨h1,_,h3⟩
  ·exact absurd h hcut.1
  ·exact .inr ⟨h1,hcut.2,h3⟩
 ·have pr:∀ c,C c=true->bG n c=true->c=n:=λc hc hu=>by
   refine Classical.byContradiction λhne=>hcut ?_;have h1:=DJ (hC c hc) hu;have ab:aM c n<0:=by
    rcases Int.lt_or_eq_of_le h1 with h | h
    ·exact h
    ·exact absurd (Df h) hne
   have h2:=Gh (hC c hc) hu (ax c hc ab) g8;obtain⟨a1,_,a3⟩:=hm.above hC hc h2;exact⟨hC _ a1,Gr (hC c hc) (hC _ a1) hu a3⟩
  have h:=NO pr;have e:dR C cut n=if C n=true then n else []:=by
   unfold dR;by_cases h0:cut = []
   ·subst h0; simp
   ·have:bG n cut=false:=by
     cases hu:bG n cut with
     | false=>rfl
     | true=>exact absurd ⟨h0,hu⟩ hcut
    simp[h0,this]
  rw[e]; exact h
structure Qg(C:List UInt8->Bool)(H:List (List UInt8)):Prop where
 cut:∀ h∈H,C h=true/\∀ c,C c=true->bG h c=true->c=h
 sorted:H.Pairwise λa b=>aM a b<0
theorem YV{C:List UInt8->Bool}(hC:∀ c,C c=true->c≠[]){H:List (List UInt8)}(hH:Qg C H){n:List UInt8}(ax:∀ h,C h=true->(∀ c,C c=true->bG h c=true->c=h)->aM h n<=0->h∈H){k:Nat}(hk:k<=H.length)(h1:∀ j (hj:j<H.length),j<k->aM H[j] n<=0)(h2:∀ j (hj:j<H.length),k<=j->0<aM H[j] n) :
 jM C n (if h:0<k/\bG n (H[k - 1]?.getD [])=true then H[k - 1]?.getD [] else []):=by
 have iG:∀ c,C c=true->bG n c=true->(∀ d,C d=true->bG c d=true->d=c)->0<k/\∃ bV:k - 1<H.length,H[k - 1]=c:=λc hc hu ht=>by
  have g8:=DJ (hC c hc) hu;obtain⟨j,hj,rfl⟩:=nQ.1 (ax c hc ht g8);have Ck:j<k:=by
   refine Nat.lt_of_not_le λh=>?_
   have:=h2 j hj h
   omega
  refine⟨by omega,by omega,?_⟩;rcases Nat.lt_or_ge j (k - 1) with h | h
  ·have h3:=List.pairwise_iff_getElem.1 hH.sorted j (k - 1) hj (by omega) h;have h4:=h1 (k - 1) (by omega) (by omega);have h5:=Gh (hC _ hc) hu (by omega) h4;have h6:=(hH.cut _ (List.getElem_mem (show k - 1<H.length by omega))).2 _ hc h5;exact h6.symm
  ·obtain rfl:j=k - 1:=by omega
   rfl
 split
 ·rename_i h;obtain⟨h0,h⟩:=h;have hl:k - 1<H.length:=by omega
  rw[aQ hl] at h |-;obtain⟨a,b⟩:=hH.cut _ (List.getElem_mem hl);exact .inr ⟨a,h,b⟩
 ·rename_i h;refine .inl ⟨rfl,λc hc=>?_⟩
  cases hu:bG n c with
  | false=>rfl
  | true=>
   exfalso;have hex:∀ (m:Nat) (c:List UInt8),(bj c).length<=m->C c=true->bG n c=true->∃ t,C t=true/\bG n t=true/\∀ d,C d=true->bG t d=true->d=t:=by
    intro m
    induction m with
    | zero=>
     intro c hm hc hu;refine⟨c,hc,hu,λd hd Jm=>?_⟩;have h3:=((oB (hC d hd)).1 Jm);exact Au (h3.eq_of_length_le (by omega))
    | succ m ih=>
     intro c hm hc hu;by_cases ht:∀ d,C d=true->bG c d=true->d=c
     ·exact⟨c,hc,hu,ht⟩
     ·obtain⟨d,hd⟩:=Classical.not_forall.1 ht;obtain⟨eI,hd⟩:=Classical.not_imp.1 hd;obtain⟨kA,IG⟩:=Classical.not_imp.1 hd;have h3:=((oB (hC d eI)).1 kA);refine ih d ?_ eI (Gr (hC c hc) (hC d eI) hu kA);refine Nat.le_of_lt_succ (lQ (Nat.lt_of_not_le λhl=>IG (Au (h3.eq_of_length_le hl))) hm)
   obtain⟨t,t1,t2,t3⟩:=hex _ c (bQ _) hc hu;obtain⟨p1,p2,p3⟩:=iG t t1 t2 t3;refine h ⟨p1,?_⟩;rw[aQ p2,p3];exact t2
def cT(z:Zone)(n:List UInt8):Bool:=z.sets.any λx=>decide (x.set.type=2)&&!(x.set.name == z.apex)&&x.set.name == n
theorem Hb{z:Zone}{n:List UInt8} : cT z n=true↔∃ x∈z.sets,x.set.type=2/\x.set.name≠z.apex/\x.set.name=n:=by
 unfold cT;rw[List.any_eq_true];constructor
 ·rintro⟨x,hx,h⟩;simp only[Bool.and_eq_true,Qa,Bool.not_eq_true',beq_eq_false_iff_ne,beq_iff_eq] at h;exact⟨x,hx,h.1.1,h.1.2,h.2⟩
 ·rintro⟨x,hx,h1,h2,h3⟩;refine⟨x,hx,?_⟩;rw[h3] at h2 |-;simp[h1,h2]
def oH(C:List UInt8->Bool):List UInt8->List Signed->List (List UInt8)
 | _,[]=>[]
 | cut,x::r=>dR C cut x.set.name::oH C (dR C cut x.set.name) r
def ef(z:Zone):List (List UInt8):=oH (cT z) [] z.sets
theorem M4(C:List UInt8->Bool):∀ (cut:List UInt8) (l:List Signed),(oH C cut l).length=l.length
 | _,[]=>rfl
 | cut,x::r=>by rw[oH,List.length_cons,M4,List.length_cons]
theorem tv(z:Zone):(ef z).length=z.sets.length:=M4 _ _ _
structure InOrder(z:Zone):Prop where
 order:(z.sets.map (·.set)).Pairwise λa b=>io a b<0
 name:∀ x∈z.sets,x.set.name≠[]
 type:∀ x∈z.sets,x.set.type<=8
theorem MY{a b:DSet}(h:io a b<0):aM a.name b.name<=0:=by
 rw[DB] at h;split at h
 ·omega
 ·rename_i h0; have:=Decidable.not_not.1 h0; omega
theorem MX{a b:DSet}(h:io a b<0)(he:a.name=b.name):a.type<b.type:=by
 rw[DB,he,zU,Qc (by simp)] at h;unfold cX at h;split at h
 ·assumption
 ·split at h <;> omega
theorem InOrder.names{z:Zone}(h:InOrder z){i j:Nat}(dL:i<j)(hj:j<z.sets.length):aM (z.sets[i]'(by omega)).set.name (z.sets[j]).set.name<=0:=by
 have:=List.pairwise_iff_getElem.1 h.order i j (by simp; omega) (by simpa using hj) dL
 rw[List.getElem_map,List.getElem_map] at this;exact MY this
theorem InOrder.types{z:Zone}(h:InOrder z){i j:Nat}(dL:i<j)(hj:j<z.sets.length)(he:(z.sets[i]'(by omega)).set.name=(z.sets[j]).set.name):(z.sets[i]'(by omega)).set.type<(z.sets[j]).set.type:=by
 have:=List.pairwise_iff_getElem.1 h.order i j (by simp; omega) (by simpa using hj) dL
 rw[List.getElem_map,List.getElem_map] at this;exact MX this he
theorem UN{a b c:List UInt8}(h1:aM a b<=0)(h2:aM b c<=0)(he:a=c):b=a:=by
 subst he;by_cases h:aM a b<0
 ·have:=fH.anti _ _ h; omega
 ·exact (fH.zero _ _ (by omega)).symm
theorem Am{z:Zone}(h:InOrder z):∀ c,cT z c=true->c≠[]:=λc hc=>by
 obtain⟨x,hx,_,_,rfl⟩:=Hb.1 hc;exact h.name x hx
theorem Ny{z:Zone}(h:InOrder z){c:List UInt8}(hc:cT z c=true){i:Nat}(hi:i<z.sets.length)(ab:aM c (z.sets[i]).set.name<0):∃ j,∃ hj:j<i,(z.sets[j]'(by omega)).set.name=c:=by
 obtain⟨x,hx,_,_,rfl⟩:=Hb.1 hc;obtain⟨j,hj,rfl⟩:=nQ.1 hx;refine⟨j,?_,rfl⟩;refine Nat.lt_of_not_le λdL=>?_;rcases Nat.lt_or_eq_of_le dL with hl | rfl
 ·have h1:=h.names hl hj;have h2:=fH.anti _ _ ab;omega
 ·rw[zU] at ab; omega
theorem M3{z:Zone}(h:InOrder z):∀ (l:List Signed) (i:Nat) (cut:List UInt8),z.sets.drop i=l->i<=z.sets.length->(i=0/\cut = []\/∃ hi:i - 1<z.sets.length,0<i/\jM (cT z) (z.sets[i - 1]).set.name cut)->∀ (k:Nat) (x:Signed) (b:List UInt8),l[k]?=some x->(oH (cT z) cut l)[k]?=some b->jM (cT z) x.set.name b
 | [],_,_,_,_,_,k,x,b,hx,_=>by simp at hx
 | y::l,i,cut,hd,hi,hc,k,x,b,hx,hb=>by
   have ej:i<z.sets.length:=by
    have:=Qd List.length hd
    simp at this; omega
   have hy:z.sets[i]=y:=by
    have:=List.getElem?_drop (xs:=z.sets) (i:=i) (j:=0)
    rw[hd,Nat.add_zero,aQ ej] at this;simpa using this.symm
   have hd':z.sets.drop (i+1)=l:=by
    have:=Qd (List.drop 1) hd
    rw[List.drop_drop] at this;simpa using this
   have PX:jM (cT z) y.set.name (dR (cT z) cut y.set.name):=by
    rcases hc with ⟨rfl,rfl⟩ | ⟨h1,h0,hc⟩
    ·refine V3 (Am h) (λc uf ab=>?_);rw[<-hy] at ab;obtain⟨j,hj,_⟩:=Ny h uf ej ab;omega
    ·refine Yx (Am h) hc ?_ (λc uf ab=>?_)
     ·rw[<-hy]; exact h.names (by omega) ej
     ·rw[<-hy] at ab;obtain⟨j,hj,hjc⟩:=Ny h uf ej ab;rw[<-hjc];rcases Nat.lt_or_eq_of_le (show j<=i - 1 by omega) with hl | he
      ·exact h.names hl h1
      ·subst he;rw[zU]; exact Int.le_refl 0
   cases k with
   | zero=>
    simp only[oH,List.getElem?_cons_zero,Option.some.injEq] at hx hb;rw[<-hx,<-hb]; exact PX
   | succ k=>
    simp only[oH,List.getElem?_cons_succ] at hx hb;exact M3 h l (i+1) _ hd' ej (.inr ⟨by simpa using ej,by omega,by simpa [hy] using PX⟩) k x b hx hb
theorem W8{z:Zone}(h:InOrder z){i:Nat}{x:Signed}{b:List UInt8}(hx:z.sets[i]?=some x)(hb:(ef z)[i]?=some b):jM (cT z) x.set.name b:=
 M3 h z.sets 0 [] rfl (jQ _) (.inl ⟨rfl,rfl⟩) i x b hx hb
theorem Uk{z:Zone}(h:InOrder z){B:List (List UInt8)}(hl:B.length=z.sets.length)(hB:∀ (i:Nat) (x:Signed) (b:List UInt8),z.sets[i]?=some x->B[i]?=some b->jM (cT z) x.set.name b):B=ef z:=by
 refine List.ext_getElem (hl.trans (tv z).symm) λi h1 h2=>?_;have hi:i<z.sets.length:=by omega
 exact jM.unique (Am h) (hB i _ _ (aQ hi) (aQ h1)) (W8 h (aQ hi) (aQ h2))
def kj(t:Int)(at':Bool):Bool:=if t=3\/t=6 then !at' else if t=4\/t=7 then at' else true
structure SigOk(apex:List UInt8)(l:List Sig)(i:Nat)(g:Sig):Prop where
 zone:g.zone=apex
 key:1<=g.key/\g.key<=1000000
 alg:1<=g.alg/\g.alg<=3
 win:0<=g.frm/\g.frm<=g.til/\g.til<=20000000
 same:∀ a,l[0]?=some a->g.frm=a.frm/\g.til=a.til
 up:∀ p,l[i - 1]?=some p->0<i->p.key<g.key
def gV(apex:List UInt8)(l:List Sig):Prop:=l.length<=6/\∀ i g,l[i]?=some g->SigOk apex l i g
def lC(x:DSet)(b:List UInt8):Prop:=(b = []->x.type≠6)/\(b≠[]->b=x.name->x.type=2\/x.type=6\/x.type=8\/x.type=1)/\(b≠[]->b≠x.name->x.type=1)
structure VZone(z:Zone):Prop where
 right:fm z=true
 few:z.sets.length<=20000
 start:∃ x∈z.sets,x.set.name=z.apex/\x.set.type=4
 server:∃ x∈z.sets,x.set.name=z.apex/\x.set.type=2
 fits:∀ x∈z.sets,kj x.set.type (x.set.name == z.apex)=true
 aliasBefore:∀ i (hi:i+1<z.sets.length),(z.sets[i+1]).set.type=3->(z.sets[i]).set.name≠(z.sets[i+1]).set.name
 aliasBehind:∀ i (hi:i+1<z.sets.length),(z.sets[i]).set.type=3->(z.sets[i+1]).set.name=(z.sets[i]).set.name->(z.sets[i+1]).set.type=8
 cuts:∀ (i:Nat) (x:Signed) (b:List UInt8),z.sets[i]?=some x->(ef z)[i]?=some b->lC x.set b
 sigs:∀ (i:Nat) (x:Signed) (b:List UInt8),z.sets[i]?=some x->(ef z)[i]?=some b->b≠[]->x.set.type=2\/x.set.type=1->x.sigs = []
 form:∀ x∈z.sets,gV z.apex x.sigs
theorem VZone.inOrder{z:Zone}(h:fm z=true):InOrder z:=by
 unfold fm at h;simp only[Bool.and_eq_true] at h;have aB:∀ (l:List Signed) (p:Option DSet),kc z.apex p l=true->(p.toList++l.map (·.set)).Pairwise (λa b=>io a b<0)/\∀ x∈l,ee x.set=true:=by
  intro l
  induction l with
  | nil=>intro p _; cases p <;> simp
  | cons x l ih=>
   intro p h;unfold kc at h;rw[Bool.and_eq_true,Bool.and_eq_true,Bool.and_eq_true,Bool.and_eq_true] at h;obtain⟨i1,i2⟩:=ih (some x.set) h.2;have i1:(x.set::l.map (·.set)).Pairwise (λa b=>io a b<0):=i1;refine⟨?_,λy hy=>?_⟩
   ·cases p with
    | none=>exact i1
    | some q=>
     have h2:io q x.set<0:=by simpa using h.1.2
     refine List.pairwise_cons.2 ⟨λy hy=>?_,i1⟩;rcases List.mem_cons.1 hy with e | hy
     ·rw[e]; exact h2
     ·have h3:=(List.pairwise_cons.1 i1).1 y hy;rw[GO] at h2 h3 |-;exact yz.trans _ _ _ h2 h3
   ·rcases List.mem_cons.1 hy with e | hy
    ·subst e; exact h.1.1.2
    ·exact i2 y hy
 obtain⟨h1,h2⟩:=aB _ none h.2;refine⟨h1,λx hx=>?_,λx hx=>?_⟩
 ·have hv:=(xY (h2 x hx)).1;intro e;rw[e] at hv;exact absurd hv (by decide)
 ·exact (xY (h2 x hx)).2.2.1
def nw(l:List Signed):List UInt8:=l.foldl (λa x=>if x.set.type=3 then x.set.name else a) []
structure RZoneOk(z:Zone):Prop where
 right:fm z=true
 few:z.sets.length<=20000
 start:∃ x∈z.sets,x.set.name=z.apex/\x.set.type=4
 server:∃ x∈z.sets,x.set.name=z.apex/\x.set.type=2
 fits:∀ x∈z.sets,kj x.set.type (x.set.name == z.apex)=true
 three:∀ i (hi:i+1<z.sets.length),(z.sets[i]).set.name=(z.sets[i+1]).set.name->(z.sets[i+1]).set.type≠3/\(nw (z.sets.take (i+2))=(z.sets[i+1]).set.name->(z.sets[i+1]).set.type=8)
 cuts:∀ (i:Nat) (x:Signed) (b:List UInt8),z.sets[i]?=some x->(ef z)[i]?=some b->lC x.set b
 sigs:∀ (i:Nat) (x:Signed) (b:List UInt8),z.sets[i]?=some x->(ef z)[i]?=some b->b≠[]->x.set.type=2\/x.set.type=1->x.sigs = []
 form:∀ x∈z.sets,gV z.apex x.sigs
theorem Gf(l:List Signed)(x:Signed):nw (l ++ [x])=if x.set.type=3 then x.set.name else nw l:=by simp[nw]
theorem LS:∀ (l:List Signed) (a:List UInt8),l.foldl (λa x=>if x.set.type=3 then x.set.name else a) a=a\/∃ (j:Nat) (hj:j<l.length),(l[j]).set.type=3/\(l[j]).set.name=l.foldl (λa x=>if x.set.type=3 then x.set.name else a) a
 | [],_=>.inl rfl
 | x::l,a=>by
   rw[List.foldl_cons];rcases LS l (if x.set.type=3 then x.set.name else a) with h | ⟨j,hj,h1,h2⟩
   ·rw[h];split
    ·rename_i ht; exact .inr ⟨0,by simp,ht,rfl⟩
    ·exact .inl rfl
   ·exact .inr ⟨j+1,by simpa using hj,h1,h2⟩
theorem UP(l:List Signed):nw l = []\/∃ (j:Nat) (hj:j<l.length),(l[j]).set.type=3/\(l[j]).set.name=nw l:=LS l []
theorem Xg(z:Zone):VZone z↔RZoneOk z:=by
 constructor
 ·intro h;have ho:=VZone.inOrder h.right;refine⟨h.right,h.few,h.start,h.server,h.fits,λi hi he=>?_,h.cuts,h.sigs,h.form⟩;have h3:(z.sets[i+1]).set.type≠3:=λht=>h.aliasBefore i hi ht he;refine⟨h3,λhl=>?_⟩;rcases UP (z.sets.take (i+2)) with e | ⟨j,hj,j1,j2⟩
  ·rw[e] at hl;exact absurd hl.symm (ho.name _ (List.getElem_mem hi))
  ·rw[List.getElem_take] at j1 j2;rw[hl] at j2;have rn:j<i+2:=by have:=hj; rw[List.length_take] at this; omega
   have qJ:j≠i+1:=λe=>by subst e; exact h3 j1
   have od:j+1<z.sets.length:=by omega
   have CB:(z.sets[j+1]).set.name=(z.sets[j]).set.name:=by
    rcases Nat.lt_or_eq_of_le (show j+1<=i+1 by omega) with hl | BV
    ·exact UN (ho.names (by omega) od) (ho.names hl hi) j2
    ·have:j=i:=by omega
     subst this;exact he.symm
   have h8:=h.aliasBehind j od j1 CB;rcases Nat.lt_or_eq_of_le (show j+1<=i+1 by omega) with hl | BV
   ·have h9:=ho.types hl hi (CB.trans j2);have mS:=ho.type _ (List.getElem_mem hi);omega
   ·have:j=i:=by omega
    subst this;exact h8
 ·intro h;have ho:=VZone.inOrder h.right;refine⟨h.right,h.few,h.start,h.server,h.fits,λi hi ht he=>?_,λi hi ht he=>?_,h.cuts,h.sigs,h.form⟩
  ·exact (h.three i hi he).1 ht
  ·obtain⟨h1,h2⟩:=h.three i hi he.symm;refine h2 ?_;have e1:z.sets.take (i+2)=z.sets.take (i+1) ++ [z.sets[i+1]]:=fQ hi;have e2:z.sets.take (i+1)=z.sets.take i ++ [z.sets[i]]:=fQ (by omega);rw[e1,Gf,Qc h1,e2,Gf,Qb ht];exact he.symm
def inS(l:List Span)(t:Int):Prop:=∃ s∈l,s.frm<=t/\t<s.til
structure ApartS(l:List Span):Prop where
 full:∀ s∈l,s.frm<s.til
 apart:l.Pairwise λa b=>a.til<b.frm
theorem oF(t:Int):¬ inS [] t:=λ⟨_,h,_⟩=>by cases h
theorem jm{a:Span}{l:List Span}{t:Int} : inS (a::l) t↔(a.frm<=t/\t<a.til)\/inS l t:=by
 constructor
 ·rintro⟨s,hs,h⟩;rcases List.mem_cons.1 hs with e | hs
  ·subst e; exact .inl h
  ·exact .inr ⟨s,hs,h⟩
 ·rintro (h | ⟨s,hs,h⟩)
  ·exact⟨a,by simp,h⟩
  ·exact⟨s,mQ _ hs,h⟩
theorem yq{a b:List Span}{t:Int} : inS (a++b) t↔inS a t\/inS b t:=by
 constructor
 ·rintro⟨s,hs,h⟩;rcases List.mem_append.1 hs with hs | hs
  ·exact .inl ⟨s,hs,h⟩
  ·exact .inr ⟨s,hs,h⟩
 ·rintro (⟨s,hs,h⟩ | ⟨s,hs,h⟩)
  ·exact⟨s,List.mem_append_left _ hs,h⟩
  ·exact⟨s,List.mem_append_right _ hs,h⟩
theorem ApartS.tail{a:Span}{l:List Span}(h:ApartS (a::l)):ApartS l:=⟨λs hs=>h.full s (mQ _ hs),(List.pairwise_cons.1 h.apart).2⟩
theorem ApartS.nil:ApartS []:=⟨λ_ h=>(by cases h),List.Pairwise.nil⟩
theorem ApartS.above{a:Span}{l:List Span}(h:ApartS (a::l)){t:Int}(ht:inS l t):a.til<t:=by
 obtain⟨s,hs,h1,_⟩:=ht
 have:=(List.pairwise_cons.1 h.apart).1 s hs
 omega
theorem ApartS.from{a:Span}{l:List Span}(h:ApartS (a::l)){t:Int}(ht:inS (a::l) t):a.frm<=t:=by
 rcases jm.1 ht with h1 | h1
 ·exact h1.1
 ·have h2:=h.above h1;have h3:=h.full a (by simp);omega
theorem Mu:∀ (l m:List Span),ApartS l->ApartS m->(∀ t,inS l t↔inS m t)->l=m
 | [],[],_,_,_=>rfl
 | [],b::m,_,hm,h=>absurd ((h b.frm).2 ⟨b,by simp,Int.le_refl _,hm.full b (by simp)⟩) (oF _)
 | a::l,[],hl,_,h=>absurd ((h a.frm).1 ⟨a,by simp,Int.le_refl _,hl.full a (by simp)⟩) (oF _)
 | a::l,b::m,hl,hm,h=>by
   have fa:=hl.full a (by simp);have fb:=hm.full b (by simp);have e1:a.frm=b.frm:=by
    have h1:=hm.from ((h a.frm).1 ⟨a,by simp,Int.le_refl _,fa⟩);have h2:=hl.from ((h b.frm).2 ⟨b,by simp,Int.le_refl _,fb⟩);omega
   have e2:a.til=b.til:=by
    rcases Int.lt_trichotomy a.til b.til with ab | he | ab
    ·exfalso
     have:=(h a.til).2 (jm.2 (.inl ⟨by omega,ab⟩))
     rcases jm.1 this with h1 | h1
     ·omega
     ·have:=hl.above h1; omega
    ·exact he
    ·exfalso
     have:=(h b.til).1 (jm.2 (.inl ⟨by omega,ab⟩))
     rcases jm.1 this with h1 | h1
     ·omega
     ·have:=hm.above h1; omega
   have e:a=b:=by obtain⟨_,_⟩:=a; obtain⟨_,_⟩:=b; simp only at e1 e2; rw[e1,e2]
   subst e;rw[Mu l m hl.tail hm.tail (λt=>by
    constructor
    ·intro ht;have h1:=hl.above ht;rcases jm.1 ((h t).1 (jm.2 (.inr ht))) with h2 | h2
     ·omega
     ·exact h2
    ·intro ht;have h1:=hm.above ht;rcases jm.1 ((h t).2 (jm.2 (.inr ht))) with h2 | h2
     ·omega
     ·exact h2)]
def gp(out:List Span)(s:Span):List Span:=
 match out.getLast? with
 | none=>[s]
 | some p=>if s.frm<=p.til then out.dropLast ++ [⟨p.frm,max p.til s.til⟩] else out ++ [s]
theorem NK(s:Span):gp [] s = [s]:=rfl
theorem GC(o:List Span)(p s:Span):gp (o ++ [p]) s=if s.frm<=p.til then o ++ [⟨p.frm,max p.til s.til⟩] else o ++ [p] ++ [s]:=by simp[gp]
theorem Ys{out:List Span}{s:Span}(ho:ApartS out)(hs:s.frm<s.til)(hf:∀ p∈out,p.frm<=s.frm):ApartS (gp out s)/\(∀ t,inS (gp out s) t↔inS out t\/(s.frm<=t/\t<s.til))/\∀ p∈gp out s,p.frm<=s.frm:=by
 rcases List.eq_nil_or_concat out with rfl | ⟨o,p,rfl⟩
 ·rw[NK];refine⟨⟨λx hx=>?_,by simp⟩,λt=>?_,λx hx=>?_⟩
  ·rw[List.mem_singleton] at hx; subst hx; exact hs
  ·rw[jm];constructor
   ·rintro (h | h); exact .inr h; exact absurd h (oF t)
   ·rintro (h | h); exact absurd h (oF t); exact .inl h
  ·rw[List.mem_singleton] at hx; subst hx; exact Int.le_refl _
 ·rw[List.concat_eq_append] at ho hf |-;rw[GC];have hp:=hf p (by simp);have zC:=ho.full p (by simp);obtain⟨a1,a2,a3⟩:=List.pairwise_append.1 ho.apart;split
  ·rename_i g8;have KR:=Int.le_max_left p.til s.til;have lH:=Int.le_max_right p.til s.til;have hm3:max p.til s.til=p.til\/max p.til s.til=s.til:=by omega
   refine⟨⟨λx hx=>?_,?_⟩,λt=>?_,λx hx=>?_⟩
   ·rcases List.mem_append.1 hx with hx | hx
    ·exact ho.full x (List.mem_append_left _ hx)
    ·rw[List.mem_singleton] at hx; subst hx; dsimp only; omega
   ·refine List.pairwise_append.2 ⟨a1,by simp,λx hx y hy=>?_⟩;rw[List.mem_singleton] at hy; subst hy;exact a3 x hx p (by simp)
   ·rw[yq,yq,jm,jm];dsimp only;constructor
    ·rintro (h | h | h)
     ·exact .inl (.inl h)
     ·rcases Int.lt_or_le t p.til with h2 | h2
      ·exact .inl (.inr (.inl ⟨h.1,h2⟩))
      ·exact .inr ⟨by omega,by omega⟩
     ·exact absurd h (oF t)
    ·rintro ((h | h | h) | h)
     ·exact .inl h
     ·exact .inr (.inl ⟨h.1,by omega⟩)
     ·exact absurd h (oF t)
     ·exact .inr (.inl ⟨by omega,by omega⟩)
   ·rcases List.mem_append.1 hx with hx | hx
    ·exact hf x (List.mem_append_left _ hx)
    ·rw[List.mem_singleton] at hx; subst hx; exact hp
  ·rename_i g8;refine⟨⟨λx hx=>?_,?_⟩,λt=>?_,λx hx=>?_⟩
   ·rcases List.mem_append.1 hx with hx | hx
    ·exact ho.full x hx
    ·rw[List.mem_singleton] at hx; subst hx; exact hs
   ·refine List.pairwise_append.2 ⟨ho.apart,by simp,λx hx y hy=>?_⟩;rw[List.mem_singleton] at hy; subst hy;rcases List.mem_append.1 hx with hx | hx
    ·have:=a3 x hx p (by simp); omega
    ·rw[List.mem_singleton] at hx; subst hx; omega
   ·rw[yq,jm];constructor
    ·rintro (h | h | h)
     ·exact .inl h
     ·exact .inr h
     ·exact absurd h (oF t)
    ·rintro (h | h)
     ·exact .inl h
     ·exact .inr (.inl h)
   ·rcases List.mem_append.1 hx with hx | hx
    ·exact hf x hx
    ·rw[List.mem_singleton] at hx; subst hx; exact Int.le_refl _
theorem NL:∀ (l out:List Span),ApartS out->(∀ s∈l,s.frm<s.til)->l.Pairwise (λa b=>a.frm<=b.frm)->(∀ p∈out,∀ s∈l,p.frm<=s.frm)->ApartS (l.foldl gp out)/\∀ t,inS (l.foldl gp out) t↔inS out t\/inS l t
 | [],out,ho,_,_,_=>⟨ho,λt=>⟨.inl,λh=>h.elim id (λh=>absurd h (oF t))⟩⟩
 | s::l,out,ho,hf,hs,hp=>by
   obtain⟨h1,h2,h3⟩:=Ys ho (hf s (by simp)) (λp ro=>hp p ro s (by simp));obtain⟨q1,q2⟩:=List.pairwise_cons.1 hs;obtain⟨h4,h5⟩:=NL l (gp out s) h1 (λx hx=>hf x (mQ _ hx)) q2 (λp ro x hx=>by
    have:=h3 p ro
    have:=q1 x hx
    omega)
   refine⟨h4,λt=>?_⟩;rw[List.foldl_cons,h5,h2,jm,or_assoc]
def nH:List Span->Span->List Span
 | [],s=>[s]
 | x::l,s=>if x.til<s.frm then x::nH l s else if s.til<x.frm then s::x::l else nH l ⟨min s.frm x.frm,max s.til x.til⟩
theorem Hd:∀ (l:List Span) (s:Span),ApartS l->s.frm<s.til->ApartS (nH l s)/\(∀ t,inS (nH l s) t↔inS l t\/(s.frm<=t/\t<s.til))/\∀ b:Int,(∀ x∈l,b<x.frm)->b<s.frm->∀ x∈nH l s,b<x.frm
 | [],s,_,hs=>by
   refine⟨⟨λx hx=>?_,by simp[nH]⟩,λt=>?_,λb _ hb x hx=>?_⟩
   ·rw[nH,List.mem_singleton] at hx; subst hx; exact hs
   ·rw[nH,jm];constructor
    ·rintro (h | h); exact .inr h; exact absurd h (oF t)
    ·rintro (h | h); exact absurd h (oF t); exact .inl h
   ·rw[nH,List.mem_singleton] at hx; subst hx; exact hb
 | x::l,s,hl,hs=>by
   have fx:=hl.full x (by simp);have px:=(List.pairwise_cons.1 hl.apart).1;rw[nH];split
   ·rename_i h1;obtain⟨i1,i2,i3⟩:=Hd l s hl.tail hs;refine⟨⟨λy hy=>?_,List.pairwise_cons.2 ⟨i3 x.til px h1,i1.apart⟩⟩,λt=>?_,λb hb kZ y hy=>?_⟩
    ·rcases List.mem_cons.1 hy with e | hy
     ·subst e; exact fx
     ·exact i1.full y hy
    ·rw[jm,i2,jm,or_assoc]
    ·rcases List.mem_cons.1 hy with e | hy
     ·subst e; exact hb y (by simp)
     ·exact i3 b (λz hz=>hb z (mQ _ hz)) kZ y hy
   ·rename_i h1;split
    ·rename_i h2;refine⟨⟨λy hy=>?_,List.pairwise_cons.2 ⟨λy hy=>?_,hl.apart⟩⟩,λt=>?_,λb hb kZ y hy=>?_⟩
     ·rcases List.mem_cons.1 hy with e | hy
      ·subst e; exact hs
      ·exact hl.full y hy
     ·rcases List.mem_cons.1 hy with e | hy
      ·subst e; exact h2
      ·have:=px y hy; omega
     ·rw[jm,Or.comm]
     ·rcases List.mem_cons.1 hy with e | hy
      ·subst e; exact kZ
      ·exact hb y hy
    ·rename_i h2;have hm:min s.frm x.frm<max s.til x.til:=by omega
     obtain⟨i1,i2,i3⟩:=Hd l ⟨min s.frm x.frm,max s.til x.til⟩ hl.tail hm;refine⟨i1,λt=>?_,λb hb kZ y hy=>?_⟩
     ·rw[i2,jm];dsimp only;constructor
      ·rintro (h | h)
       ·exact .inl (.inr h)
       ·by_cases h3:s.frm<=t/\t<s.til
        ·exact .inr h3
        ·exact .inl (.inl (by omega))
      ·rintro ((h | h) | h)
       ·exact .inr (by omega)
       ·exact .inl h
       ·exact .inr (by omega)
     ·have:=hb x (by simp)
      exact i3 b (λz hz=>hb z (mQ _ hz)) (by dsimp only; omega) y hy
end Np
namespace Np
variable {α:Type} [DecidableEq α]
def kT(o:List α)(x:α):List α:=if x∈o then o else o ++ [x]
def cH(l:List α):List α:=l.foldl kT []
theorem YT{o:List α}{x y:α} : y∈kT o x↔y∈o\/y=x:=by
 unfold kT;split
 ·rename_i h;constructor
  ·exact .inl
  ·rintro (h1 | rfl); exact h1; exact h
 ·simp
theorem Wx{o:List α}{x:α}(h:o.Nodup):(kT o x).Nodup:=by
 unfold kT;split
 ·exact h
 ·rename_i hx;exact List.nodup_append.2 ⟨h,by simp,λa ha b hb=>by rw[List.mem_singleton] at hb; rintro rfl; exact hx (hb ▸ ha)⟩
theorem N6:∀ (l o:List α) (y:α),y∈l.foldl kT o↔y∈o\/y∈l
 | [],o,y=>by simp
 | x::l,o,y=>by
   rw[List.foldl_cons,N6 l,YT,List.mem_cons,or_assoc]
theorem MM:∀ (l o:List α),o.Nodup->(l.foldl kT o).Nodup
 | [],_,h=>h
 | _::l,_,h=>MM l _ (Wx h)
theorem vu{l:List α}{y:α} : y∈cH l↔y∈l:=by unfold cH; rw[N6]; simp
theorem x9(l:List α):(cH l).Nodup:=MM l [] List.nodup_nil
theorem Ab(l:List α)(x:α):cH (l ++ [x])=kT (cH l) x:=by simp[cH]
theorem Hu{o:List α}{x:α}(h:x∈o):kT o x=o:=Qb h
theorem vq(l:List α):(cH l).length<=l.length:=by
 have:∀ (l o:List α),(l.foldl kT o).length<=o.length+l.length:=by
  intro l
  induction l with
  | nil=>intro o; simp
  | cons x l ih=>
   intro o;have h:=ih (kT o x);have h2:(kT o x).length<=o.length+1:=by unfold kT; split <;> simp
   rw[List.foldl_cons,List.length_cons];omega
 have h:=this l [];simpa [cH] using h
omit [DecidableEq α] in
theorem Ga{c:α->α->Int}(hc:TO c):∀ (l m:List α),l.Pairwise (λa b=>c a b<0)->m.Pairwise (λa b=>c a b<0)->(∀ x,x∈l↔x∈m)->l=m
 | [],[],_,_,_=>rfl
 | [],b::m,_,_,h=>by have:=(h b).2 (by simp); cases this
 | a::l,[],_,_,h=>by have:=(h a).1 (by simp); cases this
 | a::l,b::m,hl,hm,h=>by
   obtain⟨l1,l2⟩:=List.pairwise_cons.1 hl;obtain⟨m1,m2⟩:=List.pairwise_cons.1 hm;have e:a=b:=by
    rcases List.mem_cons.1 ((h a).1 (by simp)) with e | h1
    ·exact e
    ·rcases List.mem_cons.1 ((h b).2 (by simp)) with e | h2
     ·exact e.symm
     ·have:=hc.anti _ _ (l1 b h2)
      have:=m1 a h1
      omega
   subst e;rw[Ga hc l m l2 m2 (λx=>by
    constructor
    ·intro hx;rcases List.mem_cons.1 ((h x).1 (mQ _ hx)) with e | h1
     ·subst e; have:=l1 x hx; rw[hc.self] at this; omega
     ·exact h1
    ·intro hx;rcases List.mem_cons.1 ((h x).2 (mQ _ hx)) with e | h1
     ·subst e; have:=m1 x hx; rw[hc.self] at this; omega
     ·exact h1)]
def tM(l:List (List UInt8)):List (List UInt8):=l.mergeSort λa b=>!decide (aM b a<0)
theorem GE(l:List (List UInt8)):(tM l).Perm l:=List.mergeSort_perm _ _
theorem Gl{l:List (List UInt8)}(h:l.Nodup):(tM l).Pairwise λa b=>aM a b<0:=by
 have hs:(tM l).Pairwise λa b=>(!decide (aM b a<0))=true:=List.pairwise_mergeSort (le:=λa b=>!decide (aM b a<0)) (λx y z=>XO fH x y z) (λx y=>XP fH x y) l;have hn:(tM l).Nodup:=(GE l).nodup_iff.2 h;refine (hs.and hn).imp λ{a b} ⟨h1,h2⟩=>?_;have h3:¬ aM b a<0:=by simpa using h1
 refine Int.lt_of_not_ge λh4=>?_;by_cases h5:0<aM a b
 ·exact h3 (fH.anti' _ _ h5)
 ·exact h2 (fH.zero _ _ (by omega))
def eZ:List (List UInt8)->List UInt8->List (List UInt8)
 | [],a=>[a]
 | x::l,a=>if aM x a<0 then x::eZ l a else if x=a then x::l else a::x::l
theorem O0:∀ (l:List (List UInt8)) (a:List UInt8),l.Pairwise (λa b=>aM a b<0)->(eZ l a).Pairwise (λa b=>aM a b<0)/\∀ y,y∈eZ l a↔y∈l\/y=a
 | [],a,_=>⟨by simp[eZ],λy=>by simp[eZ]⟩
 | x::l,a,h=>by
   obtain⟨h1,h2⟩:=List.pairwise_cons.1 h;rw[eZ];split
   ·rename_i ab;obtain⟨i1,i2⟩:=O0 l a h2;refine⟨List.pairwise_cons.2 ⟨λy hy=>?_,i1⟩,λy=>?_⟩
    ·rcases (i2 y).1 hy with hy | rfl
     ·exact h1 y hy
     ·exact ab
    ·rw[List.mem_cons,i2,List.mem_cons,or_assoc]
   ·rename_i ab;split
    ·rename_i he;subst he;refine⟨h,λy=>?_⟩;constructor
     ·exact .inl
     ·rintro (hy | rfl); exact hy; simp
    ·rename_i hne;have Te:aM a x<0:=by
      by_cases h0:0<aM x a
      ·exact fH.anti' _ _ h0
      ·exact absurd (fH.zero _ _ (by omega)) hne
     refine⟨List.pairwise_cons.2 ⟨λy hy=>?_,h⟩,λy=>?_⟩
     ·rcases List.mem_cons.1 hy with e | hy
      ·subst e; exact Te
      ·exact fH.trans _ _ _ Te (h1 y hy)
     ·rw[List.mem_cons,Or.comm]
end Np
end Go.Proofs.YtbfbobfbgabjiaaGreatDoor
