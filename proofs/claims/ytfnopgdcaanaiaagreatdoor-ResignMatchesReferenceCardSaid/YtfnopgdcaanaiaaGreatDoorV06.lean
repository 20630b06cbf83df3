/- Parts of the proof. No condition. -/
import Derived.Test.YtfnopgdcaanaiaaGreatDoorV02
import Derived.Test.YtfnopgdcaanaiaaGreatDoorV03
import Derived.Test.YtfnopgdcaanaiaaGreatDoorV04
import Derived.Test.YtfnopgdcaanaiaaGreatDoorV05
set_option linter.all false
set_option maxRecDepth 100000
set_option maxHeartbeats 8000000
namespace Go.Proofs.YtfnopgdcaanaiaaGreatDoor
open Go.Proofs.Tryz
namespace Np
structure TO{α:Type}(c:α->α->Int):Prop where
 self:∀ x,c x x=0
 zero:∀ x y,c x y=0->x=y
 anti:∀ x y,c x y<0->0<c y x
 anti':∀ x y,0<c x y->c y x<0
 trans:∀ x y z,c x y<0->c y z<0->c x z<0
theorem TO.lex{α β γ:Type}{c:α->α->Int}{d:β->β->Int}(hc:TO c)(hd:TO d)(f:γ->α)(g:γ->β)(Xf:∀ x y,f x=f y->g x=g y->x=y):TO (λx y:γ=>if c (f x) (f y)≠0 then c (f x) (f y) else d (g x) (g y)) where
 self x:=by simp[hc.self,hd.self]
 zero x y h:=by
  by_cases h1:c (f x) (f y)≠0
  ·rw[Qb h1] at h;exact absurd h h1
  ·rw[Qc h1] at h;exact Xf x y (hc.zero _ _ (Decidable.not_not.1 h1)) (hd.zero _ _ h)
 anti x y h:=by
  by_cases h1:c (f x) (f y)≠0
  ·rw[Qb h1] at h
   have:=hc.anti _ _ h
   rw[Qb (by omega)];exact this
  ·rw[Qc h1] at h;have e:=hc.zero _ _ (Decidable.not_not.1 h1);rw[e,hc.self,Qc (by simp)];exact hd.anti _ _ h
 anti' x y h:=by
  by_cases h1:c (f x) (f y)≠0
  ·rw[Qb h1] at h
   have:=hc.anti' _ _ h
   rw[Qb (by omega)];exact this
  ·rw[Qc h1] at h;have e:=hc.zero _ _ (Decidable.not_not.1 h1);rw[e,hc.self,Qc (by simp)];exact hd.anti' _ _ h
 trans x y z h k:=by
  by_cases h1:c (f x) (f y)≠0
  ·rw[Qb h1] at h;by_cases h2:c (f y) (f z)≠0
   ·rw[Qb h2] at k
    have:=hc.trans _ _ _ h k
    rw[Qb (by omega)];exact this
   ·have e:=hc.zero _ _ (Decidable.not_not.1 h2);rw[<-e,Qb h1];exact h
  ·rw[Qc h1] at h;have e:=hc.zero _ _ (Decidable.not_not.1 h1);by_cases h2:c (f y) (f z)≠0
   ·rw[Qb h2] at k;rw[e,Qb h2];exact k
   ·rw[Qc h2] at k;rw[e,Qc h2];exact hd.trans _ _ _ h k
theorem TO.of{α β:Type}{c:α->α->Int}(hc:TO c)(f:β->α)(hf:∀ x y,f x=f y->x=y):TO (λx y=>c (f x) (f y)) where
 self _:=hc.self _
 zero _ _ h:=hf _ _ (hc.zero _ _ h)
 anti _ _ h:=hc.anti _ _ h
 anti' _ _ h:=hc.anti' _ _ h
 trans _ _ _ h k:=hc.trans _ _ _ h k
theorem Ez:∀ (x y:List UInt8),Go.Op.bytesLess x y=decide (x<y)
 | [],[]=>by simp[Go.Op.bytesLess]
 | _::_,[]=>by simp[Go.Op.bytesLess]
 | [],_::_=>by simp[Go.Op.bytesLess]
 | a::x,b::y=>by
   rw[Go.Op.bytesLess,Ez x y];simp only[List.cons_lt_cons_iff];by_cases h1:a<b <;> by_cases h2:a=b <;> by_cases h3:x<y <;> simp[h1,h2,h3]
theorem toS:TO cN where
 self:=vf
 zero _ _:=rx
 anti x y h:=by
  rcases xX x y with ⟨h1,h2⟩ | ⟨_,_,_,h2⟩ | ⟨_,_,_,h2⟩
  ·rcases xX y x with ⟨h3,h4⟩ | ⟨_,_,_,h4⟩ | ⟨_,_,h5,h4⟩
   ·rw[Ez,Qa] at h1 h3;exact absurd h3 (List.lt_asymm h1)
   ·omega
   ·rw[h5,vf] at h;omega
  ·omega
  ·omega
 anti' x y h:=by
  rcases xX x y with ⟨_,h2⟩ | ⟨_,h1,_,h2⟩ | ⟨_,_,_,h2⟩
  ·omega
  ·simp[cN,h1]
  ·omega
 trans x y z h k:=by
  have e:∀ a b:List UInt8,cN a b<0->a<b:=λa b h=>by
   rcases xX a b with ⟨h1,h2⟩ | ⟨_,_,_,h2⟩ | ⟨_,_,_,h2⟩
   ·rw[Ez,Qa] at h1;exact h1
   ·omega
   ·omega
  have:=List.lt_trans (e _ _ h) (e _ _ k)
  unfold cN;rw[Ez,Qb (by simpa using this)];omega
theorem toI:TO cP where
 self x:=by unfold cP;rw[Qc (by omega),Qc (by omega)]
 zero x y h:=by unfold cP at h;split at h;omega;split at h <;> omega
 anti x y h:=by
  unfold cP at h |-;split at h
  ·rw[Qc (by omega),Qb (by omega)];omega
  ·split at h <;> omega
 anti' x y h:=by
  unfold cP at h |-;split at h
  ·omega
  ·split at h
   ·rw[Qb (by omega)];omega
   ·omega
 trans x y z h k:=by
  unfold cP at h k |-;split at h
  ·split at k
   ·rw[Qb (by omega)];omega
   ·split at k <;> omega
  ·split at h <;> omega
theorem toR:TO cO:=by
 have hs:=toS;refine⟨PX,?_,?_,?_,?_⟩
 ·intro l
  induction l with
  | nil=>intro m h;cases m with
    | nil=>rfl
    | cons y m=>simp[cO] at h
  | cons x l ih=>
   intro m h
   cases m with
   | nil=>simp[cO] at h
   | cons y m=>
    rw[cO] at h;split at h
    ·rename_i hc;exact absurd h hc
    ·rename_i hc;rw[rx (Decidable.not_not.1 hc),ih m h]
 ·intro l
  induction l with
  | nil=>intro m h;cases m with
    | nil=>simp[cO] at h
    | cons y m=>simp[cO]
  | cons x l ih=>
   intro m h
   cases m with
   | nil=>simp[cO] at h
   | cons y m=>
    rw[cO] at h |-;split at h
    ·have:=hs.anti _ _ h
     rw[Qb (by omega)];exact this
    ·rename_i hc;have e:=rx (Decidable.not_not.1 hc);subst e;rw[Qc hc];exact ih m h
 ·intro l
  induction l with
  | nil=>intro m h;cases m with
    | nil=>simp[cO] at h
    | cons y m=>simp[cO] at h
  | cons x l ih=>
   intro m h
   cases m with
   | nil=>simp[cO]
   | cons y m=>
    rw[cO] at h |-;split at h
    ·have:=hs.anti' _ _ h
     rw[Qb (by omega)];exact this
    ·rename_i hc;have e:=rx (Decidable.not_not.1 hc);subst e;rw[Qc hc];exact ih m h
 ·intro l
  induction l with
  | nil=>intro m n h k;cases m with
    | nil=>simp[cO] at h
    | cons y m=>cases n with
      | nil=>simp[cO] at k
      | cons z n=>simp[cO]
  | cons x l ih=>
   intro m n h k
   cases m with
   | nil=>simp[cO] at h
   | cons y m=>
    cases n with
    | nil=>simp[cO] at k
    | cons z n=>
     rw[cO] at h k |-;by_cases hc:cN x y≠0
     ·rw[Qb hc] at h;by_cases hd:cN y z≠0
      ·rw[Qb hd] at k
       have:=hs.trans _ _ _ h k
       rw[Qb (by omega)];exact this
      ·have e:=rx (Decidable.not_not.1 hd);rw[<-e,Qb hc];exact h
     ·rw[Qc hc] at h;have e:=rx (Decidable.not_not.1 hc);by_cases hd:cN y z≠0
      ·rw[Qb hd] at k;rw[e,Qb hd];exact k
      ·rw[Qc hd] at k;rw[e,Qc hd];exact ih m n h k
theorem eY:TO aI:=by
 have:=toR.of back (λ_ _ h=>zX h)
 have e:aI=λx y=>cO (back x) (back y):=by funext x y;exact Aa x y
 rw[e];exact this
def eS(a b:List UInt8×Int):Int:=if aI a.1 b.1≠0 then aI a.1 b.1 else cP a.2 b.2
theorem yU:TO eS:=eY.lex toI (λd:List UInt8×Int=>d.1) (λd=>d.2) (λ_ _ h k=>Prod.ext h k)
def eG(s:DSet):List UInt8×Int:=(s.name,s.type)
theorem G6(a b:DSet):hZ a b=eS (eG a) (eG b):=Dl a b
theorem Zs{α:Type}{c:α->α->Int}(h:TO c)(x y z:α):(!decide (c y x<0))=true->(!decide (c z y<0))=true->(!decide (c z x<0))=true:=by
 simp only[Bool.not_eq_true',decide_eq_false_iff_not,Int.not_lt];intro h1 h2;apply Decidable.byContradiction;intro h3;have h4:c z x<0:=by omega
 rcases Int.lt_or_eq_of_le h1 with h5 | h5
 ·have:=h.trans _ _ _ h4 (h.anti' _ _ h5);omega
 ·have:=h.zero _ _ h5.symm;subst this;omega
theorem Zr{α:Type}{c:α->α->Int}(h:TO c)(x y:α):((!decide (c y x<0))||(!decide (c x y<0)))=true:=by
 by_cases h1:c y x<0
 ·have:=h.anti _ _ h1
  have:¬ c x y<0:=by omega
  simp[this]
 ·simp[h1]
theorem oZ{s z:List UInt8}(hz:z≠[]):bq s z=true↔back z <+: back s:=by
 rw[<-B5 hz,Pk,<-B9,<-B9];constructor
 ·rintro⟨p,h⟩;exact⟨p.reverse,by rw[h,List.reverse_append]⟩
 ·rintro⟨p,h⟩;refine⟨p.reverse,?_⟩
  have:=Qd List.reverse h
  simpa using this.symm
theorem P8:∀ (c n:List (List UInt8)),c <+: n->cO c n<=0
 | [],[],_=>by simp[cO]
 | [],_::_,_=>by simp[cO]
 | x::c,[],h=>by have:=h.length_le;simp at this
 | x::c,y::n,h=>by
   obtain⟨rfl,h2⟩:=List.cons_prefix_cons.1 h;rw[cO,vf,Qc (by simp)];exact P8 c n h2
theorem P7:∀ (c a b:List (List UInt8)),c <+: b->cO c a<=0->cO a b<=0->c <+: a
 | [],a,b,_,_,_=>List.nil_prefix
 | x::c,[],b,_,h,_=>by simp[cO] at h
 | x::c,y::a,[],h,_,_=>by have:=h.length_le;simp at this
 | x::c,y::a,z::b,h,h1,h2=>by
   obtain⟨rfl,h3⟩:=List.cons_prefix_cons.1 h;rw[cO] at h1 h2;by_cases bZ:cN x y=0
   ·have e:=rx bZ;subst e;rw[vf,Qc (by simp)] at h1 h2;exact List.cons_prefix_cons.2 ⟨rfl,P7 c a b h3 h1 h2⟩
   ·rw[Qb bZ] at h1
    have:=toS.anti x y (by omega)
    rw[Qb (by omega)] at h2;omega
theorem E9{s z:List UInt8}(hz:z≠[])(h:bq s z=true):aI z s<=0:=by
 rw[Aa];exact P8 _ _ ((oZ hz).1 h)
theorem Kf{c a b:List UInt8}(hc:c≠[])(h:bq b c=true)(h1:aI c a<=0)(h2:aI a b<=0):bq a c=true:=by
 rw[Aa] at h1 h2;exact (oZ hc).2 (P7 _ _ _ ((oZ hc).1 h) h1 h2)
theorem Kg{a b c:List UInt8}(hb:b≠[])(hc:c≠[])(h1:bq a b=true)(h2:bq b c=true):bq a c=true:=
 (oZ hc).2 (((oZ hc).1 h2).trans ((oZ hb).1 h1))
theorem Fa(a:List UInt8):bq a a=true:=by simp[bq]
theorem Rl{n a b:List UInt8}(ha:a≠[])(hb:b≠[])(h1:bq n a=true)(h2:bq n b=true):bq a b=true\/bq b a=true:=by
 rcases List.prefix_or_prefix_of_prefix ((oZ ha).1 h1) ((oZ hb).1 h2) with h | h
 ·exact .inr ((oZ ha).2 h)
 ·exact .inl ((oZ hb).2 h)
def jx(C:List UInt8->Bool)(n o:List UInt8):Prop:=
 (o = []/\∀ c,C c=true->bq n c=false)\/(C o=true/\bq n o=true/\∀ c,C c=true->bq o c=true->c=o)
theorem jx.unique{C:List UInt8->Bool}(hC:∀ c,C c=true->c≠[]){n a b:List UInt8}(ha:jx C n a)(hb:jx C n b):a=b:=by
 rcases ha with ⟨rfl,ha⟩ | ⟨a1,a2,a3⟩
 ·rcases hb with ⟨rfl,_⟩ | ⟨b1,b2,_⟩
  ·rfl
  ·rw[ha b b1] at b2;cases b2
 ·rcases hb with ⟨rfl,hb⟩ | ⟨b1,b2,b3⟩
  ·rw[hb a a1] at a2;cases a2
  ·rcases Rl (hC a a1) (hC b b1) a2 b2 with h | h
   ·exact (a3 b b1 h).symm
   ·exact b3 a a1 h
theorem jx.above{C:List UInt8->Bool}(hC:∀ c,C c=true->c≠[]){n o c:List UInt8}(h:jx C n o)(hc:C c=true)(hu:bq n c=true):C o=true/\bq n o=true/\bq c o=true:=by
 rcases h with ⟨_,h⟩ | ⟨h1,h2,h3⟩
 ·rw[h c hc] at hu;cases hu
 ·refine⟨h1,h2,?_⟩;rcases Rl (hC o h1) (hC c hc) h2 hu with h | h
  ·rw[h3 c hc h];exact Fa o
  ·exact h
def dM(C:List UInt8->Bool)(cut n:List UInt8):List UInt8:=
 if (if cut≠[]/\bq n cut=false then [] else cut) = []/\C n=true then n else if cut≠[]/\bq n cut=false then [] else cut
theorem Ra{C:List UInt8->Bool}{n:List UInt8}(h:∀ c,C c=true->bq n c=true->c=n):jx C n (if C n=true then n else []):=by
 split
 ·rename_i hn;exact .inr ⟨hn,Fa n,h⟩
 ·rename_i hn;refine .inl ⟨rfl,λc hc=>?_⟩
  cases hu:bq n c with
  | false=>rfl
  | true=>rw[<-h c hc hu] at hn;exact absurd hc hn
theorem avZ{C:List UInt8->Bool}(hC:∀ c,C c=true->c≠[]){n:List UInt8}(aP:∀ c,C c=true->¬ aI c n<0):jx C n (dM C [] n):=by
 have h:=Ra (n:=n) (λc hc hu=>by
  have h1:=E9 (hC c hc) hu;have h2:=aP c hc;exact Dk (by omega))
 have e:dM C [] n=if C n=true then n else []:=by simp[dM]
 rw[e];exact h
theorem avJ{C:List UInt8->Bool}(hC:∀ c,C c=true->c≠[]){m cut n:List UInt8}(hm:jx C m cut)(eV:aI m n<=0)(aP:∀ c,C c=true->aI c n<0->aI c m<=0):jx C n (dM C cut n):=by
 by_cases hcut:cut≠[]/\bq n cut=true
 ·have e:dM C cut n=cut:=by simp[dM,hcut.1,hcut.2]
  rw[e];rcases hm with ⟨h,_⟩ | ⟨h1,_,h3⟩
  ·exact absurd h hcut.1
  ·exact .inr ⟨h1,hcut.2,h3⟩
 ·have lA:∀ c,C c=true->bq n c=true->c=n:=λc hc hu=>by
   refine Classical.byContradiction λhne=>hcut ?_;have h1:=E9 (hC c hc) hu;have aa:aI c n<0:=by
    rcases Int.lt_or_eq_of_le h1 with h | h
    ·exact h
    ·exact absurd (Dk h) hne
   have h2:=Kf (hC c hc) hu (aP c hc aa) eV;obtain⟨a1,_,a3⟩:=hm.above hC hc h2;exact⟨hC _ a1,Kg (hC c hc) (hC _ a1) hu a3⟩
  have h:=Ra lA;have e:dM C cut n=if C n=true then n else []:=by
   unfold dM;by_cases h0:cut = []
   ·subst h0;simp
   ·have:bq n cut=false:=by
     cases hu:bq n cut with
     | false=>rfl
     | true=>exact absurd ⟨h0,hu⟩ hcut
    simp[h0,this]
  rw[e];exact h
structure L9(C:List UInt8->Bool)(H:List (List UInt8)):Prop where
 cut:∀ h∈H,C h=true/\∀ c,C c=true->bq h c=true->c=h
 sorted:H.Pairwise λa b=>aI a b<0
theorem Xt{C:List UInt8->Bool}(hC:∀ c,C c=true->c≠[]){H:List (List UInt8)}(hH:L9 C H){n:List UInt8}(aP:∀ h,C h=true->(∀ c,C c=true->bq h c=true->c=h)->aI h n<=0->h∈H){k:Nat}(hk:k<=H.length)(h1:∀ j (hj:j<H.length),j<k->aI H[j] n<=0)(h2:∀ j (hj:j<H.length),k<=j->0<aI H[j] n) :
 jx C n (if h:0<k/\bq n (H[k - 1]?.getD [])=true then H[k - 1]?.getD [] else []):=by
 have iA:∀ c,C c=true->bq n c=true->(∀ d,C d=true->bq c d=true->d=c)->0<k/\∃ bL:k - 1<H.length,H[k - 1]=c:=λc hc hu ht=>by
  have eV:=E9 (hC c hc) hu;obtain⟨j,hj,rfl⟩:=nQ.1 (aP c hc ht eV);have Bn:j<k:=by
   refine Nat.lt_of_not_le λh=>?_
   have:=h2 j hj h
   omega
  refine⟨by omega,by omega,?_⟩;rcases Nat.lt_or_ge j (k - 1) with h | h
  ·have h3:=List.pairwise_iff_getElem.1 hH.sorted j (k - 1) hj (by omega) h;have h4:=h1 (k - 1) (by omega) (by omega);have h5:=Kf (hC _ hc) hu (by omega) h4;have h6:=(hH.cut _ (List.getElem_mem (show k - 1<H.length by omega))).2 _ hc h5;exact h6.symm
  ·obtain rfl:j=k - 1:=by omega
   rfl
 split
 ·rename_i h;obtain⟨h0,h⟩:=h;have hl:k - 1<H.length:=by omega
  rw[aQ hl] at h |-;obtain⟨a,b⟩:=hH.cut _ (List.getElem_mem hl);exact .inr ⟨a,h,b⟩
 ·rename_i h;refine .inl ⟨rfl,λc hc=>?_⟩
  cases hu:bq n c with
  | false=>rfl
  | true=>
   exfalso;have hex:∀ (m:Nat) (c:List UInt8),(back c).length<=m->C c=true->bq n c=true->∃ t,C t=true/\bq n t=true/\∀ d,C d=true->bq t d=true->d=t:=by
    intro m
    induction m with
    | zero=>
     intro c hm hc hu;refine⟨c,hc,hu,λd hd Iv=>?_⟩;have h3:=((oZ (hC d hd)).1 Iv);exact zX (h3.eq_of_length_le (by omega))
    | succ m ih=>
     intro c hm hc hu;by_cases ht:∀ d,C d=true->bq c d=true->d=c
     ·exact⟨c,hc,hu,ht⟩
     ·obtain⟨d,hd⟩:=Classical.not_forall.1 ht;obtain⟨eU,hd⟩:=Classical.not_imp.1 hd;obtain⟨fS,Iz⟩:=Classical.not_imp.1 hd;have h3:=((oZ (hC d eU)).1 fS);refine ih d ?_ eU (Kg (hC c hc) (hC d eU) hu fS);refine Nat.le_of_lt_succ (lQ (Nat.lt_of_not_le λhl=>Iz (zX (h3.eq_of_length_le hl))) hm)
   obtain⟨t,t1,t2,t3⟩:=hex _ c (bQ _) hc hu;obtain⟨p1,p2,p3⟩:=iA t t1 t2 t3;refine h ⟨p1,?_⟩;rw[aQ p2,p3];exact t2
end Np
section
open Go.RowKit
theorem aoZ{a b:Bool}(h:a=b):Ending.returned (.tuple #[.bool a,.int .i64 0]) = .returned (.tuple #[.bool b,.int .i64 0]):=by rw[h]
def Np.yS(s z:ByteArray):Bool:=decide (z.size<=s.size)&&((s.extract (s.size - z.size) s.size).toList == z.toList)
def Np.under(s z:ByteArray):Bool:=(s.toList == z.toList)||(z.toList == [46])||(decide (z.size<s.size)&&Np.yS s z&&((s.data.toList[s.size - z.size - 1]?).map UInt8.toNat == some 46))
theorem awQ(s z:ByteArray)(h:z.size<=s.size):Np.yS s z=(s.data.toList.drop (s.data.toList.length - z.data.toList.length) == z.data.toList):=by
 unfold Np.yS;rw[uQ h,Bool.true_and,dQ,dQ,Dq,bk,bk]
theorem azQ(s z:ByteArray):Np.under s z=Np.bq s.data.toList z.data.toList:=by
 unfold Np.under Np.bq;rw[dQ,dQ,bk,bk];congr 1;by_cases h:z.size<s.size
 ·rw[awQ s z (by omega),bk,bk,uQ h];congr 1;have e:s.data.toList[s.size - z.size - 1]?=some (s[s.size - z.size - 1]'(by omega)):=ya s _ (by omega);rw[e];simp only[Option.map_some];rw[Bool.eq_iff_iff];simp only[beq_iff_eq,Option.some.injEq];constructor
  ·intro h;apply UInt8.toNat_inj.1;rw[h];rfl
  ·intro h;rw[h];rfl
 ·rw[tQ h];rfl
theorem WJ(s z:ByteArray)(hs:s.size<=140737488355328)(hz:z.size<=140737488355328)(w:World) :
 Calls prog 320 #[.string s,.string z] w λe w'=>e = .returned (.bool (Np.yS s z))/\w'=w:=by
 go_enter func320,ntmps320;go_wp2_with fail
 all_goals
  go_ret;refine⟨ae ?_,rfl⟩;simp_all [Np.yS] <;> (intros;omega)
theorem WI(s z:ByteArray)(hs:s.size<=140737488355328)(hz:z.size<=140737488355328)(w:World) :
 Calls prog 250 #[.string s,.string z] w λe w'=>e = .returned (.bool (Np.yS s z))/\w'=w:=by
 go_enter func250,ntmps250;go_wp2_with (go_at_call 320;refine (WJ s z hs hz _).mono ?_;rintro e w' ⟨rfl,rfl⟩);go_ret;exact⟨rfl,rfl⟩
theorem Kh(s z:ByteArray)(hs:s.size<=140737488355328)(hz:z.size<=140737488355328)(w:World)(v1:Np.aG s.data.toList=true)(v2:Np.aG z.data.toList=true) :
 Calls prog 184 #[.string s,.string z] w (aOJ w.heap.size w (.tuple #[.bool (Np.bq s.data.toList z.data.toList),.int .i64 0])):=by
 rw[<-azQ];have V1:=jq v1;have V2:=jq v2;clear v1 v2;go_enter func184,ntmps184;go_wp2_with (first
  | (go_at_call 175;have v1:=V1.out;clear V1;refine (valid_any s hs _).mono ?_;rintro e w1 ⟨rfl,hb⟩;rw[v1];clear v1;have am:=jq hb;clear hb)
  | (go_at_call 175;have v2:=V2.out;clear V2;refine (valid_any z hz _).mono ?_;rintro e w2 ⟨rfl,hb⟩;rw[v2];clear v2;have ah:=jq hb;clear hb)
  | (go_at_call 250;refine (WI s z hs hz _).mono ?_;rintro e w3 ⟨rfl,rfl⟩))
 all_goals
  go_ret2;refine⟨aoZ ?_,am.out.trans (ah.out.mono am.out.size)⟩;simp_all [Np.under,dQ]
 ·rename_i _ h1 h2 h3 _;have e1:(s.data == z.data)=false:=by simpa using h1
  have e2:(z.data.toList == [46])=false:=by simpa using h2
  have e3:s.data[s.size - z.size - 1]?=some s[s.size - z.size - 1]:=pQ (by simp;omega);rw[e1,e2,e3,Bool.eq_iff_iff];simp;omega
 ·intros;omega
theorem RK(s1 s2:ByteArray)(bh:s1.size<=140737488355328)(cJ:s2.size<=140737488355328)(t1 t2:Int)(n1:Np.aG s1.data.toList=true)(n2:Np.aG s2.data.toList=true)(w:World) :
 Calls prog 270 #[.string s1,.int .i64 t1,.string s2,.int .i64 t2] w
  λe w'=>e = .returned (.int .i64 (Np.eS (s1.data.toList,t1) (s2.data.toList,t2)))/\Below w.heap.size w w':=by
 have hv:cmpVal s1.data.toList s2.data.toList = .tuple #[.int .i64 (Np.aI s1.data.toList s2.data.toList),.int .i64 0]:=by rw[cmpVal,n1,n2];rfl
 have HV:=jq hv;clear hv n1 n2;by_cases h:s1.data.toList=s2.data.toList
 ·have he:(!s1.toList == s2.toList)=false:=by rw[dQ,dQ,h];simp
  have hc:Np.eS (s1.data.toList,t1) (s2.data.toList,t2)=Np.cP t1 t2:=by unfold Np.eS;dsimp only;rw[h,Np.Ab,Qc (by simp)]
  rw[hc];clear hc h;go_enter func270,ntmps270;go_wp2_with (go_at_call 123;refine (zZ _ _ _).mono ?_;rintro e w' ⟨rfl,rfl⟩);go_ret;exact⟨rfl,vQ _ _⟩
 ·have he:(!s1.toList == s2.toList)=true:=by rw[dQ,dQ];simpa using h
  have hc:Np.eS (s1.data.toList,t1) (s2.data.toList,t2)=Np.aI s1.data.toList s2.data.toList:=by unfold Np.eS;dsimp only;rw[Qb (λe=>h (Np.Dk e))]
  rw[hc];clear hc h;go_enter func270,ntmps270;go_wp2_with fail;refine (compare_any s1 s2 bh cJ _).mono ?_;rintro e w1 ⟨rfl,hb⟩;rw[HV.out];have HB:=jq hb;clear hb;go_wp2_with fail;go_ret;exact⟨rfl,HB.out⟩
theorem Fb{s:Np.DSet}(h:Np.dC s=true):Np.aG s.name=true:=by
 unfold Np.dC at h;simp only[Bool.and_eq_true] at h;exact h.1.1.1.1.1.1
end
namespace Np
def cS(z:Zone)(n:List UInt8):Bool:=z.sets.any λx=>decide (x.set.type=2)&&!(x.set.name == z.apex)&&x.set.name == n
theorem G7{z:Zone}{n:List UInt8} : cS z n=true↔∃ x∈z.sets,x.set.type=2/\x.set.name≠z.apex/\x.set.name=n:=by
 unfold cS;rw[List.any_eq_true];constructor
 ·rintro⟨x,hx,h⟩;simp only[Bool.and_eq_true,Qa,Bool.not_eq_true',beq_eq_false_iff_ne,beq_iff_eq] at h;exact⟨x,hx,h.1.1,h.1.2,h.2⟩
 ·rintro⟨x,hx,h1,h2,h3⟩;refine⟨x,hx,?_⟩;rw[h3] at h2 |-;simp[h1,h2]
def oy(C:List UInt8->Bool):List UInt8->List Signed->List (List UInt8)
 | _,[]=>[]
 | cut,x::r=>dM C cut x.set.name::oy C (dM C cut x.set.name) r
def ej(z:Zone):List (List UInt8):=oy (cS z) [] z.sets
theorem Mv(C:List UInt8->Bool):∀ (cut:List UInt8) (l:List Signed),(oy C cut l).length=l.length
 | _,[]=>rfl
 | cut,x::r=>by rw[oy,List.length_cons,Mv,List.length_cons]
theorem tg(z:Zone):(ej z).length=z.sets.length:=Mv _ _ _
structure InOrder(z:Zone):Prop where
 order:(z.sets.map (·.set)).Pairwise λa b=>hZ a b<0
 name:∀ x∈z.sets,x.set.name≠[]
 type:∀ x∈z.sets,x.set.type<=8
theorem ME{a b:DSet}(h:hZ a b<0):aI a.name b.name<=0:=by
 rw[Dl] at h;split at h
 ·omega
 ·rename_i h0;have:=Decidable.not_not.1 h0;omega
theorem MF{a b:DSet}(h:hZ a b<0)(he:a.name=b.name):a.type<b.type:=by
 rw[Dl,he,Ab,Qc (by simp)] at h;unfold cP at h;split at h
 ·assumption
 ·split at h <;> omega
theorem InOrder.names{z:Zone}(h:InOrder z){i j:Nat}(dE:i<j)(hj:j<z.sets.length):aI (z.sets[i]'(by omega)).set.name (z.sets[j]).set.name<=0:=by
 have:=List.pairwise_iff_getElem.1 h.order i j (by simp;omega) (by simpa using hj) dE
 rw[List.getElem_map,List.getElem_map] at this;exact ME this
theorem InOrder.types{z:Zone}(h:InOrder z){i j:Nat}(dE:i<j)(hj:j<z.sets.length)(he:(z.sets[i]'(by omega)).set.name=(z.sets[j]).set.name):(z.sets[i]'(by omega)).set.type<(z.sets[j]).set.type:=by
 have:=List.pairwise_iff_getElem.1 h.order i j (by simp;omega) (by simpa using hj) dE
 rw[List.getElem_map,List.getElem_map] at this;exact MF this he
theorem ZS{a b c:List UInt8}(h1:aI a b<=0)(h2:aI b c<=0)(he:a=c):b=a:=by
 subst he;by_cases h:aI a b<0
 ·have:=eY.anti _ _ h;omega
 ·exact (eY.zero _ _ (by omega)).symm
theorem Ag{z:Zone}(h:InOrder z):∀ c,cS z c=true->c≠[]:=λc hc=>by
 obtain⟨x,hx,_,_,rfl⟩:=G7.1 hc;exact h.name x hx
theorem MN{z:Zone}(h:InOrder z){c:List UInt8}(hc:cS z c=true){i:Nat}(hi:i<z.sets.length)(aa:aI c (z.sets[i]).set.name<0):∃ j,∃ hj:j<i,(z.sets[j]'(by omega)).set.name=c:=by
 obtain⟨x,hx,_,_,rfl⟩:=G7.1 hc;obtain⟨j,hj,rfl⟩:=nQ.1 hx;refine⟨j,?_,rfl⟩;refine Nat.lt_of_not_le λdE=>?_;rcases Nat.lt_or_eq_of_le dE with hl | rfl
 ·have h1:=h.names hl hj;have h2:=eY.anti _ _ aa;omega
 ·rw[Ab] at aa;omega
theorem Mw{z:Zone}(h:InOrder z):∀ (l:List Signed) (i:Nat) (cut:List UInt8),z.sets.drop i=l->i<=z.sets.length->(i=0/\cut = []\/∃ hi:i - 1<z.sets.length,0<i/\jx (cS z) (z.sets[i - 1]).set.name cut)->∀ (k:Nat) (x:Signed) (b:List UInt8),l[k]?=some x->(oy (cS z) cut l)[k]?=some b->jx (cS z) x.set.name b
 | [],_,_,_,_,_,k,x,b,hx,_=>by simp at hx
 | y::l,i,cut,hd,hi,hc,k,x,b,hx,hb=>by
   have ee:i<z.sets.length:=by
    have:=Qd List.length hd
    simp at this;omega
   have hy:z.sets[i]=y:=by
    have:=List.getElem?_drop (xs:=z.sets) (i:=i) (j:=0)
    rw[hd,Nat.add_zero,aQ ee] at this;simpa using this.symm
   have hd':z.sets.drop (i+1)=l:=by
    have:=Qd (List.drop 1) hd
    rw[List.drop_drop] at this;simpa using this
   have O7:jx (cS z) y.set.name (dM (cS z) cut y.set.name):=by
    rcases hc with ⟨rfl,rfl⟩ | ⟨h1,h0,hc⟩
    ·refine avZ (Ag h) (λc tw aa=>?_);rw[<-hy] at aa;obtain⟨j,hj,_⟩:=MN h tw ee aa;omega
    ·refine avJ (Ag h) hc ?_ (λc tw aa=>?_)
     ·rw[<-hy];exact h.names (by omega) ee
     ·rw[<-hy] at aa;obtain⟨j,hj,Xz⟩:=MN h tw ee aa;rw[<-Xz];rcases Nat.lt_or_eq_of_le (show j<=i - 1 by omega) with hl | he
      ·exact h.names hl h1
      ·subst he;rw[Ab];exact Int.le_refl 0
   cases k with
   | zero=>
    simp only[oy,List.getElem?_cons_zero,Option.some.injEq] at hx hb;rw[<-hx,<-hb];exact O7
   | succ k=>
    simp only[oy,List.getElem?_cons_succ] at hx hb;exact Mw h l (i+1) _ hd' ee (.inr ⟨by simpa using ee,by omega,by simpa [hy] using O7⟩) k x b hx hb
theorem UM{z:Zone}(h:InOrder z){i:Nat}{x:Signed}{b:List UInt8}(hx:z.sets[i]?=some x)(hb:(ej z)[i]?=some b):jx (cS z) x.set.name b:=
 Mw h z.sets 0 [] rfl (jQ _) (.inl ⟨rfl,rfl⟩) i x b hx hb
theorem UN{z:Zone}(h:InOrder z){B:List (List UInt8)}(hl:B.length=z.sets.length)(hB:∀ (i:Nat) (x:Signed) (b:List UInt8),z.sets[i]?=some x->B[i]?=some b->jx (cS z) x.set.name b):B=ej z:=by
 refine List.ext_getElem (hl.trans (tg z).symm) λi h1 h2=>?_;have hi:i<z.sets.length:=by omega
 exact jx.unique (Ag h) (hB i _ _ (aQ hi) (aQ h1)) (UM h (aQ hi) (aQ h2))
def jW(t:Int)(at':Bool):Bool:=if t=3\/t=6 then !at' else if t=4\/t=7 then at' else true
structure SigOk(apex:List UInt8)(l:List Sig)(i:Nat)(g:Sig):Prop where
 zone:g.zone=apex
 key:1<=g.key/\g.key<=1000000
 alg:1<=g.alg/\g.alg<=3
 win:0<=g.frm/\g.frm<=g.til/\g.til<=20000000
 same:∀ a,l[0]?=some a->g.frm=a.frm/\g.til=a.til
 up:∀ p,l[i - 1]?=some p->0<i->p.key<g.key
def gH(apex:List UInt8)(l:List Sig):Prop:=l.length<=6/\∀ i g,l[i]?=some g->SigOk apex l i g
def mb(x:DSet)(b:List UInt8):Prop:=(b = []->x.type≠6)/\(b≠[]->b=x.name->x.type=2\/x.type=6\/x.type=8\/x.type=1)/\(b≠[]->b≠x.name->x.type=1)
structure VZone(z:Zone):Prop where
 right:eX z=true
 few:z.sets.length<=20000
 start:∃ x∈z.sets,x.set.name=z.apex/\x.set.type=4
 server:∃ x∈z.sets,x.set.name=z.apex/\x.set.type=2
 fits:∀ x∈z.sets,jW x.set.type (x.set.name == z.apex)=true
 aliasBefore:∀ i (hi:i+1<z.sets.length),(z.sets[i+1]).set.type=3->(z.sets[i]).set.name≠(z.sets[i+1]).set.name
 aliasBehind:∀ i (hi:i+1<z.sets.length),(z.sets[i]).set.type=3->(z.sets[i+1]).set.name=(z.sets[i]).set.name->(z.sets[i+1]).set.type=8
 cuts:∀ (i:Nat) (x:Signed) (b:List UInt8),z.sets[i]?=some x->(ej z)[i]?=some b->mb x.set b
 sigs:∀ (i:Nat) (x:Signed) (b:List UInt8),z.sets[i]?=some x->(ej z)[i]?=some b->b≠[]->x.set.type=2\/x.set.type=1->x.sigs = []
 form:∀ x∈z.sets,gH z.apex x.sigs
theorem VZone.inOrder{z:Zone}(h:eX z=true):InOrder z:=by
 unfold eX at h;simp only[Bool.and_eq_true] at h;have az:∀ (l:List Signed) (p:Option DSet),jY z.apex p l=true->(p.toList++l.map (·.set)).Pairwise (λa b=>hZ a b<0)/\∀ x∈l,dC x.set=true:=by
  intro l
  induction l with
  | nil=>intro p _;cases p <;> simp
  | cons x l ih=>
   intro p h;unfold jY at h;rw[Bool.and_eq_true,Bool.and_eq_true,Bool.and_eq_true,Bool.and_eq_true] at h;obtain⟨i1,i2⟩:=ih (some x.set) h.2;have i1:(x.set::l.map (·.set)).Pairwise (λa b=>hZ a b<0):=i1;refine⟨?_,λy hy=>?_⟩
   ·cases p with
    | none=>exact i1
    | some q=>
     have h2:hZ q x.set<0:=by simpa using h.1.2
     refine List.pairwise_cons.2 ⟨λy hy=>?_,i1⟩;rcases List.mem_cons.1 hy with e | hy
     ·rw[e];exact h2
     ·have h3:=(List.pairwise_cons.1 i1).1 y hy;rw[G6] at h2 h3 |-;exact yU.trans _ _ _ h2 h3
   ·rcases List.mem_cons.1 hy with e | hy
    ·subst e;exact h.1.1.2
    ·exact i2 y hy
 obtain⟨h1,h2⟩:=az _ none h.2;refine⟨h1,λx hx=>?_,λx hx=>?_⟩
 ·have hv:=(um (h2 x hx)).1;intro e;rw[e] at hv;exact absurd hv (by decide)
 ·exact (um (h2 x hx)).2.2.1
def nM(l:List Signed):List UInt8:=l.foldl (λa x=>if x.set.type=3 then x.set.name else a) []
structure RZoneOk(z:Zone):Prop where
 right:eX z=true
 few:z.sets.length<=20000
 start:∃ x∈z.sets,x.set.name=z.apex/\x.set.type=4
 server:∃ x∈z.sets,x.set.name=z.apex/\x.set.type=2
 fits:∀ x∈z.sets,jW x.set.type (x.set.name == z.apex)=true
 three:∀ i (hi:i+1<z.sets.length),(z.sets[i]).set.name=(z.sets[i+1]).set.name->(z.sets[i+1]).set.type≠3/\(nM (z.sets.take (i+2))=(z.sets[i+1]).set.name->(z.sets[i+1]).set.type=8)
 cuts:∀ (i:Nat) (x:Signed) (b:List UInt8),z.sets[i]?=some x->(ej z)[i]?=some b->mb x.set b
 sigs:∀ (i:Nat) (x:Signed) (b:List UInt8),z.sets[i]?=some x->(ej z)[i]?=some b->b≠[]->x.set.type=2\/x.set.type=1->x.sigs = []
 form:∀ x∈z.sets,gH z.apex x.sigs
theorem JB(l:List Signed)(x:Signed):nM (l ++ [x])=if x.set.type=3 then x.set.name else nM l:=by simp[nM]
theorem PE:∀ (l:List Signed) (a:List UInt8),l.foldl (λa x=>if x.set.type=3 then x.set.name else a) a=a\/∃ (j:Nat) (hj:j<l.length),(l[j]).set.type=3/\(l[j]).set.name=l.foldl (λa x=>if x.set.type=3 then x.set.name else a) a
 | [],_=>.inl rfl
 | x::l,a=>by
   rw[List.foldl_cons];rcases PE l (if x.set.type=3 then x.set.name else a) with h | ⟨j,hj,h1,h2⟩
   ·rw[h];split
    ·rename_i ht;exact .inr ⟨0,by simp,ht,rfl⟩
    ·exact .inl rfl
   ·exact .inr ⟨j+1,by simpa using hj,h1,h2⟩
theorem Zk(l:List Signed):nM l = []\/∃ (j:Nat) (hj:j<l.length),(l[j]).set.type=3/\(l[j]).set.name=nM l:=PE l []
theorem aCZ(z:Zone):VZone z↔RZoneOk z:=by
 constructor
 ·intro h;have ho:=VZone.inOrder h.right;refine⟨h.right,h.few,h.start,h.server,h.fits,λi hi he=>?_,h.cuts,h.sigs,h.form⟩;have h3:(z.sets[i+1]).set.type≠3:=λht=>h.aliasBefore i hi ht he;refine⟨h3,λhl=>?_⟩;rcases Zk (z.sets.take (i+2)) with e | ⟨j,hj,j1,j2⟩
  ·rw[e] at hl;exact absurd hl.symm (ho.name _ (List.getElem_mem hi))
  ·rw[List.getElem_take] at j1 j2;rw[hl] at j2;have tD:j<i+2:=by have:=hj;rw[List.length_take] at this;omega
   have rO:j≠i+1:=λe=>by subst e;exact h3 j1
   have j8:j+1<z.sets.length:=by omega
   have BD:(z.sets[j+1]).set.name=(z.sets[j]).set.name:=by
    rcases Nat.lt_or_eq_of_le (show j+1<=i+1 by omega) with hl | Bm
    ·exact ZS (ho.names (by omega) j8) (ho.names hl hi) j2
    ·have:j=i:=by omega
     subst this;exact he.symm
   have h8:=h.aliasBehind j j8 j1 BD;rcases Nat.lt_or_eq_of_le (show j+1<=i+1 by omega) with hl | Bm
   ·have h9:=ho.types hl hi (BD.trans j2);have yb:=ho.type _ (List.getElem_mem hi);omega
   ·have:j=i:=by omega
    subst this;exact h8
 ·intro h;have ho:=VZone.inOrder h.right;refine⟨h.right,h.few,h.start,h.server,h.fits,λi hi ht he=>?_,λi hi ht he=>?_,h.cuts,h.sigs,h.form⟩
  ·exact (h.three i hi he).1 ht
  ·obtain⟨h1,h2⟩:=h.three i hi he.symm;refine h2 ?_;have e1:z.sets.take (i+2)=z.sets.take (i+1) ++ [z.sets[i+1]]:=fQ hi;have e2:z.sets.take (i+1)=z.sets.take i ++ [z.sets[i]]:=fQ (by omega);rw[e1,JB,Qc h1,e2,JB,Qb ht];exact he.symm
end Np
namespace Np
variable {α:Type} [DecidableEq α]
def kB(o:List α)(x:α):List α:=if x∈o then o else o ++ [x]
def cF(l:List α):List α:=l.foldl kB []
theorem ZB{o:List α}{x y:α} : y∈kB o x↔y∈o\/y=x:=by
 unfold kB;split
 ·rename_i h;constructor
  ·exact .inl
  ·rintro (h1 | rfl);exact h1;exact h
 ·simp
theorem ZZ{o:List α}{x:α}(h:o.Nodup):(kB o x).Nodup:=by
 unfold kB;split
 ·exact h
 ·rename_i hx;exact List.nodup_append.2 ⟨h,by simp,λa ha b hb=>by rw[List.mem_singleton] at hb;rintro rfl;exact hx (hb ▸ ha)⟩
theorem PH:∀ (l o:List α) (y:α),y∈l.foldl kB o↔y∈o\/y∈l
 | [],o,y=>by simp
 | x::l,o,y=>by
   rw[List.foldl_cons,PH l,ZB,List.mem_cons,or_assoc]
theorem PO:∀ (l o:List α),o.Nodup->(l.foldl kB o).Nodup
 | [],_,h=>h
 | _::l,_,h=>PO l _ (ZZ h)
theorem wl{l:List α}{y:α} : y∈cF l↔y∈l:=by unfold cF;rw[PH];simp
theorem wt(l:List α):(cF l).Nodup:=PO l [] List.nodup_nil
theorem Cv(l:List α)(x:α):cF (l ++ [x])=kB (cF l) x:=by simp[cF]
theorem GV{o:List α}{x:α}(h:x∈o):kB o x=o:=Qb h
theorem wO(l:List α):(cF l).length<=l.length:=by
 have:∀ (l o:List α),(l.foldl kB o).length<=o.length+l.length:=by
  intro l
  induction l with
  | nil=>intro o;simp
  | cons x l ih=>
   intro o;have h:=ih (kB o x);have h2:(kB o x).length<=o.length+1:=by unfold kB;split <;> simp
   rw[List.foldl_cons,List.length_cons];omega
 have h:=this l [];simpa [cF] using h
omit [DecidableEq α] in
theorem Ka{c:α->α->Int}(hc:TO c):∀ (l m:List α),l.Pairwise (λa b=>c a b<0)->m.Pairwise (λa b=>c a b<0)->(∀ x,x∈l↔x∈m)->l=m
 | [],[],_,_,_=>rfl
 | [],b::m,_,_,h=>by have:=(h b).2 (by simp);cases this
 | a::l,[],_,_,h=>by have:=(h a).1 (by simp);cases this
 | a::l,b::m,hl,hm,h=>by
   obtain⟨l1,l2⟩:=List.pairwise_cons.1 hl;obtain⟨m1,m2⟩:=List.pairwise_cons.1 hm;have e:a=b:=by
    rcases List.mem_cons.1 ((h a).1 (by simp)) with e | h1
    ·exact e
    ·rcases List.mem_cons.1 ((h b).2 (by simp)) with e | h2
     ·exact e.symm
     ·have:=hc.anti _ _ (l1 b h2)
      have:=m1 a h1
      omega
   subst e;rw[Ka hc l m l2 m2 (λx=>by
    constructor
    ·intro hx;rcases List.mem_cons.1 ((h x).1 (mQ _ hx)) with e | h1
     ·subst e;have:=l1 x hx;rw[hc.self] at this;omega
     ·exact h1
    ·intro hx;rcases List.mem_cons.1 ((h x).2 (mQ _ hx)) with e | h1
     ·subst e;have:=m1 x hx;rw[hc.self] at this;omega
     ·exact h1)]
def uk(l:List (List UInt8)):List (List UInt8):=l.mergeSort λa b=>!decide (aI b a<0)
theorem E3(l:List (List UInt8)):(uk l).Perm l:=List.mergeSort_perm _ _
theorem J4{l:List (List UInt8)}(h:l.Nodup):(uk l).Pairwise λa b=>aI a b<0:=by
 have hs:(uk l).Pairwise λa b=>(!decide (aI b a<0))=true:=List.pairwise_mergeSort (le:=λa b=>!decide (aI b a<0)) (λx y z=>Zs eY x y z) (λx y=>Zr eY x y) l;have hn:(uk l).Nodup:=(E3 l).nodup_iff.2 h;refine (hs.and hn).imp λ{a b} ⟨h1,h2⟩=>?_;have h3:¬ aI b a<0:=by simpa using h1
 refine Int.lt_of_not_ge λh4=>?_;by_cases h5:0<aI a b
 ·exact h3 (eY.anti' _ _ h5)
 ·exact h2 (eY.zero _ _ (by omega))
def eJ:List (List UInt8)->List UInt8->List (List UInt8)
 | [],a=>[a]
 | x::l,a=>if aI x a<0 then x::eJ l a else if x=a then x::l else a::x::l
theorem Ql:∀ (l:List (List UInt8)) (a:List UInt8),l.Pairwise (λa b=>aI a b<0)->(eJ l a).Pairwise (λa b=>aI a b<0)/\∀ y,y∈eJ l a↔y∈l\/y=a
 | [],a,_=>⟨by simp[eJ],λy=>by simp[eJ]⟩
 | x::l,a,h=>by
   obtain⟨h1,h2⟩:=List.pairwise_cons.1 h;rw[eJ];split
   ·rename_i aa;obtain⟨i1,i2⟩:=Ql l a h2;refine⟨List.pairwise_cons.2 ⟨λy hy=>?_,i1⟩,λy=>?_⟩
    ·rcases (i2 y).1 hy with hy | rfl
     ·exact h1 y hy
     ·exact aa
    ·rw[List.mem_cons,i2,List.mem_cons,or_assoc]
   ·rename_i aa;split
    ·rename_i he;subst he;refine⟨h,λy=>?_⟩;constructor
     ·exact .inl
     ·rintro (hy | rfl);exact hy;simp
    ·rename_i hne;have qx:aI a x<0:=by
      by_cases h0:0<aI x a
      ·exact eY.anti' _ _ h0
      ·exact absurd (eY.zero _ _ (by omega)) hne
     refine⟨List.pairwise_cons.2 ⟨λy hy=>?_,h⟩,λy=>?_⟩
     ·rcases List.mem_cons.1 hy with e | hy
      ·subst e;exact qx
      ·exact eY.trans _ _ _ qx (h1 y hy)
     ·rw[List.mem_cons,Or.comm]
end Np
namespace Np
structure Host where
 name:List UInt8
 addr:Int
 owner:Int
deriving DecidableEq
structure Copy where
 host:Int
 frm:Int
 til:Int
 zone:Zone
deriving DecidableEq
structure Placed where
 host:Int
 zone:Zone
deriving DecidableEq
structure Held where
 zone:List UInt8
 signed:Signed
 fresh:List Span
 spans:List Span
deriving DecidableEq
structure Hist where
 hosts:List Host
 copies:List Copy
 anchor:DSet
 hints:List Int
 drift:Int
 stop:Int
structure WorldP where
 hosts:List Host
 zones:List Placed
 anchor:DSet
 hints:List Int
noncomputable def yes(P:Prop):Bool:=@decide P (Classical.propDecidable P)
theorem cu{P:Prop}(h:P):yes P=true:=by unfold yes;exact @uQ _ (Classical.propDecidable P) h
theorem aS{P:Prop}(h:¬ P):yes P=false:=by unfold yes;exact @tQ _ (Classical.propDecidable P) h
theorem f8{P:Prop} : yes P=true↔P:=by unfold yes;exact @decide_eq_true_iff _ (Classical.propDecidable P)
theorem uo{P Q:Prop}(h:P↔Q):yes P=yes Q:=by rw[Bool.eq_iff_iff,f8,f8];exact h
structure HostOk(h:Host):Prop where
 name:aG h.name=true
 wild:eF h.name=false
 addr:1<=h.addr/\h.addr<=1000000
 owner:0<=h.owner/\h.owner<=31
structure VHosts(l:List Host):Prop where
 few:l.length<=64
 each:∀ h∈l,HostOk h
 addrs:(l.map (·.addr)).Nodup
structure VRoot(a:DSet)(hints:List Int):Prop where
 set:dC a=true
 type:a.type=6
 name:a.name = [46]
 few:1<=hints.length/\hints.length<=8
 each:∀ n∈hints,1<=n/\n<=1000000
structure CopyOk(h:Hist)(c:Copy):Prop where
 host:0<=c.host/\c.host<h.hosts.length
 times:0<=c.frm/\c.frm<c.til/\c.til<=h.stop
 zone:VZone c.zone
def ko(c d:Copy):Prop:=c.host=d.host/\c.zone.apex=d.zone.apex/\c.frm<d.til/\d.frm<c.til
structure VHist(h:Hist):Prop where
 stop:1<=h.stop/\h.stop<=10000000
 drift:0<=h.drift/\h.drift<=1000
 hosts:VHosts h.hosts
 root:VRoot h.anchor h.hints
 each:∀ c∈h.copies,CopyOk h c
 apart:h.copies.Pairwise λc d=>¬ ko c d
structure VWorld(w:WorldP):Prop where
 hosts:VHosts w.hosts
 root:VRoot w.anchor w.hints
 each:∀ p∈w.zones,(0<=p.host/\p.host<w.hosts.length)/\VZone p.zone
 apart:w.zones.Pairwise λp q=>¬ (p.host=q.host/\p.zone.apex=q.zone.apex)
def bN(l:List Span):List Span:=(l.mergeSort λa b=>decide (a.frm<=b.frm)).foldl gF []
theorem Pm{l m:List Span}(h:l.Perm m)(t:Int):inS l t↔inS m t:=
 ⟨λ⟨s,hs,k⟩=>⟨s,h.mem_iff.1 hs,k⟩,λ⟨s,hs,k⟩=>⟨s,h.mem_iff.2 hs,k⟩⟩
theorem M9{l:List Span}(hf:∀ s∈l,s.frm<s.til)(hs:l.Pairwise λa b=>a.frm<=b.frm):ApartS (l.foldl gF [])/\∀ t,inS (l.foldl gF []) t↔inS l t:=by
 obtain⟨h1,h2⟩:=Rn l [] ApartS.nil hf hs (λp hp=>by cases hp);exact⟨h1,λt=>(h2 t).trans ⟨λh=>h.elim (λh=>absurd h (iX t)) id,.inr⟩⟩
theorem Q4(l:List Span):(l.mergeSort λa b=>decide (a.frm<=b.frm)).Perm l:=List.mergeSort_perm _ _
theorem atY(l:List Span):(l.mergeSort λa b=>decide (a.frm<=b.frm)).Pairwise λa b=>a.frm<=b.frm:=by
 have:=List.pairwise_mergeSort (le:=λa b:Span=>decide (a.frm<=b.frm)) (λx y z h1 h2=>by simp at *;omega) (λx y=>by simp;omega) l
 exact this.imp λh=>by simpa using h
theorem sE{l:List Span}(hf:∀ s∈l,s.frm<s.til):ApartS (bN l)/\∀ t,inS (bN l) t↔inS l t:=by
 obtain⟨h1,h2⟩:=M9 (λs hs=>hf s ((Q4 l).mem_iff.1 hs)) (atY l);exact⟨h1,λt=>(h2 t).trans (Pm (Q4 l) t)⟩
theorem Z2:bN [] = []:=by simp[bN]
theorem JI{l m:List Span}(hf:∀ s∈l,s.frm<s.til)(hm:ApartS m)(ht:∀ t,inS m t↔inS l t):m=bN l:=by
 obtain⟨h1,h2⟩:=sE hf;exact GX _ _ hm h1 λt=>(ht t).trans (h2 t).symm
theorem Z3{l m:List Span}(hf:∀ s∈l,s.frm<s.til)(hp:m.Perm l)(hs:m.Pairwise λa b=>a.frm<=b.frm):m.foldl gF []=bN l:=by
 obtain⟨h1,h2⟩:=M9 (λs hs=>hf s (hp.mem_iff.1 hs)) hs;exact JI hf h1 λt=>(h2 t).trans (Pm hp t)
theorem PQ{l m:List Span}(hl:∀ s∈l,s.frm<s.til)(hm:∀ s∈m,s.frm<s.til)(h:∀ t,inS l t↔inS m t):bN l=bN m:=by
 obtain⟨h1,h2⟩:=sE hl;exact JI hm h1 λt=>(h2 t).trans (h t)
theorem aCK{l:List Span}{s:Span}(hl:∀ s∈l,s.frm<s.til)(hs:s.frm<s.til):nT (bN l) s=bN (l ++ [s]):=by
 obtain⟨h1,h2⟩:=sE hl;obtain⟨h3,h4,_⟩:=Kr (bN l) s h1 hs;refine JI (λx hx=>?_) h3 λt=>?_
 ·rcases List.mem_append.1 hx with hx | hx
  ·exact hl x hx
  ·rw[List.mem_singleton] at hx;subst hx;exact hs
 ·rw[h4,h2,qJ,gw];constructor
  ·rintro (h | h);exact .inl h;exact .inr (.inl h)
  ·rintro (h | h | h);exact .inl h;exact .inr h;exact absurd h (iX t)
def jL(c:Copy):Span:=⟨c.frm,c.til⟩
def tm(l:List Copy)(zone:List UInt8):List Copy:=l.filter λc=>c.zone.apex == zone
def nO(c:Copy):List (Span×Signed):=c.zone.sets.map λs=>(jL c,s)
def cL(l:List Copy)(zone:List UInt8):List (Span×Signed):=(tm l zone).flatMap nO
def eq(ps:List (Span×Signed))(s:Signed):List Span:=(ps.filter λp=>decide (p.2=s)).map (·.1)
def kH(f:List Span->List Span)(zone:List UInt8)(ps:List (Span×Signed)):List Held:=(cF (ps.map (·.2))).map λs=>⟨zone,s,f (eq ps s),[]⟩
theorem ul(ps:List (Span×Signed))(p:Span×Signed)(s:Signed):eq (ps ++ [p]) s=if p.2=s then eq ps s ++ [p.1] else eq ps s:=by
 unfold eq;rw[List.filter_append];by_cases h:p.2=s
 ·simp[h]
 ·simp[h]
theorem Ri{ps:List (Span×Signed)}{s:Signed}(h:s∉ps.map (·.2)):eq ps s = []:=by
 unfold eq;rw[List.filter_eq_nil_iff.2 (λp hp=>?_)];rfl;simp only[Qa];rintro rfl;exact h (List.mem_map.2 ⟨p,hp,rfl⟩)
theorem N6(f:List Span->List Span)(zone:List UInt8)(ps:List (Span×Signed)):(kH f zone ps).length=(cF (ps.map (·.2))).length:=List.length_map _
theorem N5{f:List Span->List Span}{zone:List UInt8}{ps:List (Span×Signed)}{i:Nat}{x:Held} : (kH f zone ps)[i]?=some x↔∃ s,(cF (ps.map (·.2)))[i]?=some s/\x=⟨zone,s,f (eq ps s),[]⟩:=by
 unfold kH;rw[List.getElem?_map];constructor
 ·intro h;obtain⟨s,h1,h2⟩:=Option.map_eq_some_iff.1 h;exact⟨s,h1,h2.symm⟩
 ·rintro⟨s,h1,rfl⟩;rw[h1];rfl
theorem Xc{f:List Span->List Span}{zone:List UInt8}{ps:List (Span×Signed)}{p:Span×Signed}(h:p.2∉cF (ps.map (·.2))):kH f zone (ps ++ [p])=kH f zone ps ++ [⟨zone,p.2,f [p.1],[]⟩]:=by
 have hn:p.2∉ps.map (·.2):=λhm=>h (wl.2 hm);unfold kH;rw[List.map_append,List.map_singleton,Cv,kB,Qc h,List.map_append];congr 1
 ·refine List.map_congr_left λs hs=>?_;rw[ul,Qc (show ¬ p.2=s from λe=>h (by rw[e];exact hs))]
 ·simp[ul,Ri hn]
theorem Xd{f:List Span->List Span}{zone:List UInt8}{ps:List (Span×Signed)}{p:Span×Signed}{i:Nat}(h:(cF (ps.map (·.2)))[i]?=some p.2):kH f zone (ps ++ [p])=(kH f zone ps).set i ⟨zone,p.2,f (eq ps p.2 ++ [p.1]),[]⟩:=by
 obtain⟨hi,he⟩:=cQ.1 h;have hm:p.2∈cF (ps.map (·.2)):=by rw[<-he];exact List.getElem_mem _
 have pN:=wt (ps.map (·.2));have hu:cF ((ps ++ [p]).map (·.2))=cF (ps.map (·.2)):=by rw[List.map_append,List.map_singleton,Cv,GV hm]
 refine List.ext_getElem? λj=>?_;rw[List.getElem?_set];unfold kH;rw[hu,List.getElem?_map,List.getElem?_map,List.length_map];by_cases dE:i=j
 ·subst dE;rw[Qb rfl,Qb hi,h,Option.map_some,ul,Qb rfl]
 ·rw[Qc dE]
  cases hj:(cF (ps.map (·.2)))[j]? with
  | none=>rfl
  | some s=>
   obtain⟨rO,tD⟩:=cQ.1 hj;have hne:p.2≠s:=λe=>dE ((List.getElem_inj (h₀:=hi) (h₁:=rO) pN).1 (he.trans (e.trans tD.symm)));rw[Option.map_some,Option.map_some,ul,Qc hne]
def pub(l:List Copy)(zone:List UInt8):List Held:=kH bN zone (cL l zone)
def apexes(l:List Copy):List (List UInt8):=uk (cF (l.map (·.zone.apex)))
theorem ug{l:List Copy}{zone:List UInt8}{p:Span×Signed} : p∈cL l zone↔∃ c∈l,c.zone.apex=zone/\p.2∈c.zone.sets/\p.1=jL c:=by
 unfold cL tm nO;simp only[List.mem_flatMap,List.mem_filter,List.mem_map,beq_iff_eq];constructor
 ·rintro⟨c,⟨h1,h2⟩,s,hs,rfl⟩;exact⟨c,h1,h2,hs,rfl⟩
 ·rintro⟨c,h1,h2,h3,h4⟩;exact⟨c,⟨h1,h2⟩,p.2,h3,by rw[<-h4]⟩
theorem EE{ps:List (Span×Signed)}{s:Signed}{x:Span} : x∈eq ps s↔(x,s)∈ps:=by
 unfold eq;simp only[List.mem_map,List.mem_filter,Qa];constructor
 ·rintro⟨p,⟨h1,rfl⟩,rfl⟩;exact h1
 ·intro h;exact⟨(x,s),⟨h,rfl⟩,rfl⟩
def nU(l:List Copy):Prop:=∀ c∈l,c.frm<c.til
theorem VHist.full{h:Hist}(v:VHist h):nU h.copies:=λc hc=>(v.each c hc).times.2.1
theorem yT{l:List Copy}(hl:nU l){zone:List UInt8}{s:Signed} : ∀ x∈eq (cL l zone) s,x.frm<x.til:=λx hx=>by
 obtain⟨c,hc,_,_,h4⟩:=ug.1 (EE.1 hx);have h4:x=jL c:=h4;rw[h4];exact hl c hc
theorem Jz{l:List Copy}{zone:List UInt8}{s:Signed}{t:Int} : inS (eq (cL l zone) s) t↔∃ c∈l,c.zone.apex=zone/\s∈c.zone.sets/\c.frm<=t/\t<c.til:=by
 constructor
 ·rintro⟨x,hx,h1,h2⟩;obtain⟨c,hc,h3,h4,h5⟩:=ug.1 (EE.1 hx);have h5:x=jL c:=h5;subst h5;exact⟨c,hc,h3,h4,h1,h2⟩
 ·rintro⟨c,hc,h3,h4,h1,h2⟩;exact⟨jL c,EE.2 (ug.2 ⟨c,hc,h3,h4,rfl⟩),h1,h2⟩
theorem ZC{l:List Copy}{zone:List UInt8}{s:Signed} : s∈cF ((cL l zone).map (·.2))↔∃ c∈l,c.zone.apex=zone/\s∈c.zone.sets:=by
 rw[wl,List.mem_map];constructor
 ·rintro⟨p,hp,rfl⟩;obtain⟨c,h1,h2,h3,_⟩:=ug.1 hp;exact⟨c,h1,h2,h3⟩
 ·rintro⟨c,h1,h2,h3⟩;exact⟨(jL c,s),ug.2 ⟨c,h1,h2,h3,rfl⟩,rfl⟩
theorem ED{l:List Copy}(hl:nU l){zone:List UInt8}{x:Held}(hx:x∈pub l zone):x.zone=zone/\x.spans = []/\ApartS x.fresh/\(∃ c∈l,c.zone.apex=zone/\x.signed∈c.zone.sets)/\∀ t,inS x.fresh t↔∃ c∈l,c.zone.apex=zone/\x.signed∈c.zone.sets/\c.frm<=t/\t<c.til:=by
 unfold pub kH at hx;obtain⟨s,hs,rfl⟩:=List.mem_map.1 hx;obtain⟨h1,h2⟩:=sE (yT hl (zone:=zone) (s:=s));exact⟨rfl,rfl,h1,ZC.1 hs,λt=>(h2 t).trans Jz⟩
end Np
section
open Go.RowKit
theorem pV{w:World}{B:Nat}{v:Value}{xs:List Np.Sig}(h:SlR de 6 w B v xs){k:Nat}{x:Np.Sig}(hx:xs[k]?=some x):∃ (b o c:Nat) (s:ByteArray),v = .slice (some ⟨b,o,none⟩) xs.length c/\b<B/\s.data.toList=x.zone/\s.size<=140737488355328/\
 w.cell? ⟨b,o+k * 6,none⟩=some (.string s)/\w.cell? ⟨b,o+k * 6+1,none⟩=some (.int .i64 x.key)/\w.cell? ⟨b,o+k * 6+2,none⟩=some (.int .i64 x.alg)/\w.cell? ⟨b,o+k * 6+3,none⟩=some (.int .i64 x.frm)/\w.cell? ⟨b,o+k * 6+4,none⟩=some (.int .i64 x.til)/\w.cell? ⟨b,o+k * 6+5,none⟩=some (.int .u64 x.sum):=by
 obtain⟨A,c,rfl,hc,_,he⟩:=h;obtain⟨b,o,e,rfl,hb,_,hce,s,h1,h2,rfl⟩:=he k x hx;exact⟨b,o,c,s,rfl,hb,h1,h2,by have:=hce 0 _ rfl;simpa using this,hce 1 _ rfl,hce 2 _ rfl,hce 3 _ rfl,hce 4 _ rfl,hce 5 _ rfl⟩
theorem M6(t:Int)(b:Bool)(w:World) :
 Calls prog 271 #[.int .i64 t,.bool b] w (aPQ w (.bool (Np.jW t b))):=by
 unfold Np.jW;go_enter func271,ntmps271;go_wp2_with fail
 all_goals
  go_ret;refine⟨ae ?_,rfl⟩;simp_all
theorem Pj{a:List UInt8}{l:List Np.Sig}{k:Nat}{x:Np.Sig}(hx:l[k]?=some x)(h:¬ Np.SigOk a l k x):Np.yes (Np.gH a l)=false:=Np.aS λhf=>h (hf.2 k x hx)
theorem QX{a:List UInt8}{l:List Np.Sig}{k:Nat}{x:Np.Sig}(hx:l[k]?=some x)(h:∀ j g,j<k->l[j]?=some g->Np.SigOk a l j g)(hk:Np.SigOk a l k x):∀ j g,j<k+1->l[j]?=some g->Np.SigOk a l j g:=λj g hj hg=>by
 by_cases e:j=k
 ·subst e;rw[hx] at hg;cases hg;exact hk
 ·exact h j g (by omega) hg
theorem YO(a:ByteArray)(v:Value)(l:List Np.Sig)(w:World)(h:SlR de 6 w w.heap.size v l) :
 Calls prog 272 #[v,.string a] w (aOJ w.heap.size w (.bool (Np.yes (Np.gH a.data.toList l)))):=by
 obtain⟨r,hr⟩:=aJZ (Np.yes (Np.gH a.data.toList l));rw[hr];have HR:=jq hr;have H:=jq h;obtain⟨A,c,rfl,be,bC⟩:=aj h;clear h hr;by_cases h6:l.length<=6
 ·have H6:=jq h6;go_enter func272,ntmps272;go_wp2_with fail;go_loopw [12] (λi wr=>∃ k:Nat,k<=l.length/\i = .int .i64 k/\Hid (Below w.heap.size w wr)/\Hid (∀ j g,j<k->l[j]?=some g->Np.SigOk a.data.toList l j g)) (λi _=>l.length - (intOf i).toNat)
  case atStart=>exact⟨0,jQ _,rfl,jq (vQ _ _),jq (λj g hj=>by omega)⟩
  case round=>
   obtain⟨k,hk,rfl,HB,HA⟩:=hrel;by_cases aa:k<l.length
   ·have dy:=H.out.keep bH HB.out;have ab:=aQ aa;obtain⟨b,o,c',s,hA,bj,hs,al,e0,e1,e2,e3,e4,e5⟩:=pV dy ab
    cases hA
    have wh:=aQ (show 0<l.length by omega);obtain⟨b',o',c'',s',hA,_,_,_,_,z1,z2,z3,z4,_⟩:=pV dy wh;simp only[Value.slice.injEq,Option.some.injEq,Addr.mk.injEq,and_true,true_and] at hA;obtain⟨⟨rfl,rfl⟩,-⟩:=hA;simp only[Nat.zero_mul,Nat.add_zero] at z3 z4;have HN:Hid (∀ h:Np.SigOk a.data.toList l k l[k],∀ j g,j<k+1->l[j]?=some g->Np.SigOk a.data.toList l j g):=jq (λh=>QX ab HA.out h);have HF:Hid (¬ Np.SigOk a.data.toList l k l[k]->r=false):=jq (λh=>HR.out ▸ Pj ab h);have HZ:=jq wh;have mW:=jq ab;have HS:=jq hs;have pD:=HB.out.size;have vD:b<wr.heap.size:=by omega
    have bi:Hid (∀ o n,Below w.heap.size w ((wr.alloc o).drewN n)):=jq (λo n=>below_drewN (HB.out.alloc HB.out.size _) _);have o8:Hid (∀ o,Below w.heap.size w (wr.alloc o)):=jq (λo=>(HB.out.alloc HB.out.size _));have bF:(0:Int)<=(k:Int):=by omega
    have bL:(k:Int)<(l.length:Int):=by omega
    have ba:(0:Int)<(l.length:Int):=by omega
    have Gx:Hid (∀ m,k=m+1->∃ y,l[m]?=some y/\wr.cell? ⟨b,o+m * 6+1,none⟩=some (.int .i64 y.key)):=jq (λm hm=>by
     obtain⟨b2,o2,c2,s2,hA,_,_,_,_,y1,_⟩:=pV dy (aQ (show m<l.length by omega));simp only[Value.slice.injEq,Option.some.injEq,Addr.mk.injEq,and_true,true_and] at hA;obtain⟨⟨rfl,rfl⟩,-⟩:=hA;exact⟨_,aQ (by omega),y1⟩)
    generalize l[k]=x at *;generalize l[0]=x0 at *;clear dy hs ab wh z1 z2;have mG:((!s.toList == a.toList)=true)\/(!s.toList == a.toList)=false/\(decide (x.key<1)=true\/decide (x.key<1)=false/\(decide (1000000<x.key)=true\/decide (1000000<x.key)=false/\(decide (x.alg<1)=true\/decide (x.alg<1)=false/\(decide (3<x.alg)=true\/decide (3<x.alg)=false/\(decide (x.frm<0)=true\/decide (x.frm<0)=false/\(decide (x.til<x.frm)=true\/decide (x.til<x.frm)=false/\(decide (20000000<x.til)=true\/decide (20000000<x.til)=false))))))):=by
     simp only[Qa,decide_eq_false_iff_not];by_cases q:s.toList=a.toList
     ·simp[q];omega
     ·exact .inl (by simpa using q)
    rcases mG with d1 | ⟨d1,d2 | ⟨d2,d3 | ⟨d3,d4 | ⟨d4,d5 | ⟨d5,d6 | ⟨d6,d7 | ⟨d7,d8 | d8⟩⟩⟩⟩⟩⟩⟩
    rotate_right
    ·by_cases ji:k=0
     ·have gU:decide ((0:Int)<(k:Int))=false:=by simp;omega
      have iz:decide (0<k)=false:=by simp;omega
      have bG:Hid (Np.SigOk a.data.toList l k x):=jq (by
       have e1:s.toList=a.toList:=by simpa using d1
       rw[dQ,dQ] at e1;simp only[decide_eq_false_iff_not] at d2 d3 d4 d5 d6 d7 d8;have cK:x0=x:=by
        have h1:=HZ.out;rw[<-ji,mW.out] at h1;exact (Option.some.inj h1).symm
       refine⟨by rw[<-HS.out,e1],by omega,by omega,by omega,λq hq=>?_,λp _ h0=>by omega⟩;rw[HZ.out] at hq;cases hq;rw[cK];exact⟨rfl,rfl⟩)
      clear ji;go_wp2_with fail;go_quiet (fail);go_wp2_with fail;go_roundw
      case rel=>exact⟨k+1,by omega,by go_num,jq (bi.out _ _),jq (HN.out bG.out)⟩
      case measure=>simp[intOf] <;> omega
     ·obtain⟨m,rfl⟩:∃ m,k=m+1:=⟨k - 1,by omega⟩;obtain⟨y,hy,y1⟩:=Gx.out m rfl;have HY:=jq hy;have gU:decide ((0:Int)<((m+1:Nat):Int))=true:=by simp
      have ai:IntKind.i64.wrap (((m+1:Nat):Int) - 1)=(m:Int):=by rw[IntWalk.i64_in _ (by omega)];omega
      have jh:(0:Int)<=(m:Int):=by omega
      have rM:(m:Int)<(l.length:Int):=by omega
      have WV:((x.frm != x0.frm)=true)\/(x.frm != x0.frm)=false/\((x.til != x0.til)=true\/(x.til != x0.til)=false/\(decide (x.key<=y.key)=true\/decide (x.key<=y.key)=false)):=by
       simp only[bne_iff_ne,bne_eq_false_iff_eq,Qa,decide_eq_false_iff_not];omega
      clear hy ji;rcases WV with c1 | ⟨c1,c2 | ⟨c2,c3 | c3⟩⟩
      rotate_right
      ·have bG:Hid (Np.SigOk a.data.toList l (m+1) x):=jq (by
        have e1:s.toList=a.toList:=by simpa using d1
        rw[dQ,dQ] at e1;simp only[decide_eq_false_iff_not,bne_eq_false_iff_eq] at d2 d3 d4 d5 d6 d7 d8 c1 c2 c3;refine⟨by rw[<-HS.out,e1],by omega,by omega,by omega,λq hq=>?_,λp hp h0=>?_⟩
        ·rw[HZ.out] at hq;cases hq;exact⟨c1,c2⟩
        ·rw[show m+1 - 1=m by omega,HY.out] at hp;cases hp;omega)
       go_wp2_with fail;go_quiet (fail);go_wp2_with fail;go_roundw
       case rel=>exact⟨m+1+1,by omega,by go_num,jq (bi.out _ _),jq (HN.out bG.out)⟩
       case measure=>simp[intOf] <;> omega
      all_goals
       go_wp2_with fail;go_quiet (fail);go_wp2_with fail;go_ret;refine⟨ae (HF.out ?_).symm,bi.out _ _⟩;intro kb;have k5:=kb.same _ HZ.out;have k6:=kb.up _ HY.out (by omega);simp only[bne_iff_ne,bne_eq_false_iff_eq,Qa,decide_eq_false_iff_not] at *;omega
    all_goals
     go_wp2_with fail;go_ret;refine⟨ae (HF.out ?_).symm,o8.out _⟩;intro kb;obtain⟨k1,k2,k3,k4,_,_⟩:=kb
     first
      | (rw[dQ,dQ,HS.out,k1] at d1;simp at d1;done)
      | (simp only[Qa,decide_eq_false_iff_not] at *;omega)
   ·go_wp2_with fail;go_ret;refine⟨ae ?_,HB.out⟩;rw[<-HR.out];exact (Np.cu ⟨H6.out,λj g hg=>HA.out j g (by have:=(cQ.1 hg).1;omega) hg⟩).symm
 ·have h6':6<l.length:=by omega
  have HF:Hid (r=false):=jq (by rw[<-HR.out];exact Np.aS λhf=>h6 hf.1);clear h6;go_enter func272,ntmps272;go_wp2_with fail;go_ret;exact⟨ae HF.out.symm,vQ _ _⟩
theorem RL(s:ByteArray)(hs:s.size<=140737488355328)(w:World) :
 Calls prog 242 #[.string s,.string ⟨#[42]⟩] w (aPQ w (.bool (Np.eF s.data.toList))):=by
 have h1:1<=s.size->((s.extract 0 1).toList == [42])=Np.eF s.data.toList:=Pv s;have h2:s.size<1->Np.eF s.data.toList=false:=λh=>by
  have:s.data.toList = []:=rQ (by rw[bk];omega)
  rw[this];rfl
 have H1:=jq h1;have H2:=jq h2;clear h1 h2;go_enter func242,ntmps242;go_wp2
 ·go_ret;exact⟨ae (H1.out (by omega)),rfl⟩
 ·go_ret;exact⟨ae (H2.out (by omega)).symm,rfl⟩
def pY(l:List Np.Signed)(k:Nat):Option Np.DSet:=(l.take k).getLast?.map (·.set)
theorem Fh{l:List Np.Signed}{k:Nat}{x:Np.Signed}(h:l[k]?=some x):pY l (k+1)=some x.set:=by
 obtain⟨hl,rfl⟩:=cQ.1 h;unfold pY;rw[fQ hl,List.getLast?_append];rfl
theorem RJ{apex:List UInt8}{l:List Np.Signed}{k:Nat}{x:Np.Signed}(h:l[k]?=some x)(p:Option Np.DSet) :
 Np.jY apex p (l.drop k)=((Np.aG x.set.name&&Np.bq x.set.name apex)&&Np.dC x.set&&(match p with | none=>true | some q=>decide (Np.hZ q x.set<0))&&Np.jY apex (some x.set) (l.drop (k+1))):=by
 obtain⟨hl,rfl⟩:=cQ.1 h;rw[sQ hl]
 cases p <;> rfl
def Ur(w1:World)(apex:List UInt8)(l:List Np.Signed)(i:Value)(wr:World):Prop:=
 ∃ k:Nat,k<=l.length/\i = .int .i64 k/\Below w1.heap.size w1 wr/\Hid (∀ j x,j<k->l[j]?=some x->Np.dC x.set=true)/\Hid (Np.jY apex none l=Np.jY apex (pY l k) (l.drop k))
theorem aGQ(a:ByteArray)(ha:a.size<=140737488355328)(v:Value)(l:List Np.Signed)(bw:l.length<=20000)(w:World)(hR:iv w w.heap.size)(hd:SlR cV 5 w w.heap.size v l) :
 Calls prog 198 #[.agg #[.string a,v]] w (aOJ w.heap.size w (.bool (Np.eX ⟨a.data.toList,l⟩))):=by
 have HR:=jq hR;have HD:=jq hd;obtain⟨A,c,rfl,be,bC,-⟩:=hd;clear hR;have HW:Hid (∀ o,Below w.heap.size w (w.alloc o)):=jq (λo=>(vQ _ w).alloc (bQ _) _);go_enter func198,ntmps198;go_wp2_with fail;refine (nameValid_any _ ha _).mono ?_;rintro e w1 ⟨rfl,hb⟩;have c0:w1.cell? ⟨w.heap.size,0,none⟩=some (.string a):=by rw[hb.cell (by simp)];go_simp
 have c1:w1.cell? ⟨w.heap.size,1,none⟩=some (.slice A l.length c):=by rw[hb.cell (by simp)];go_simp
 have cI:w.heap.size<w1.heap.size:=by have:=hb.size;simp at this;omega
 have am:=jq ((HW.out _).trans (hb.mono (by simp)));clear hb
 cases nG:Np.aG a.data.toList with
 | false=>
  have HF:Hid (Np.eX ⟨a.data.toList,l⟩=false):=jq (by unfold Np.eX;rw[nG];rfl);clear nG;go_wp2_with fail;go_ret;exact⟨ae HF.out.symm,am.out⟩
 | true=>
  have xO:=jq nG;clear nG
  cases sm:Np.eF a.data.toList with
  | true=>
   have HF:Hid (Np.eX ⟨a.data.toList,l⟩=false):=jq (by unfold Np.eX;rw[sm];simp);go_wp2_with (go_at_call 242;refine (RL a ha _).mono ?_;rintro e w' ⟨rfl,rfl⟩);go_ret;exact⟨ae HF.out.symm,am.out⟩
  | false=>
   have HF:Hid (Np.eX ⟨a.data.toList,l⟩=Np.jY a.data.toList none l):=jq (by unfold Np.eX;rw[sm,xO.out];simp);go_wp2_with (go_at_call 242;refine (RL a ha _).mono ?_;rintro e w' ⟨rfl,rfl⟩);clear sm;go_loopw [30] (λi wr=>Ur w1 a.data.toList l i wr) (λi _=>l.length - (intOf i).toNat)
   case atStart=>exact⟨0,jQ _,rfl,vQ _ _,jq (λj x hj=>by omega),jq rfl⟩
   case round=>
    obtain⟨k,hk,rfl,aB,HV,HG⟩:=hrel;by_cases aa:k<l.length
    ·have lS:Below w.heap.size w wr:=am.out.trans (aB.aKZ);have ab:=aQ aa;obtain⟨b,o,c',sn,dv,sv,hA,bj,_,ay,al,aT,aR,e0,e1,e2,e3,e4⟩:=fE (HD.out.keep bU lS) ab
     cases hA
     generalize hx:l[k]=x at *;clear hx;obtain⟨Ad,cd,rfl,Iv,XK⟩:=aj aT;obtain⟨As,cs,rfl,hcs,hls⟩:=aj aR;have d0:wr.cell? ⟨w.heap.size,0,none⟩=some (.string a):=by rw[aB.cell (by simpa using cI)];exact c0
     have d1:wr.cell? ⟨w.heap.size,1,none⟩=some (.slice (some ⟨b,o,none⟩) l.length c):=by rw[aB.cell (by simpa using cI)];exact c1
     have bR:w.heap.size<wr.heap.size:=by have:=aB.size;omega
     have mh:=jq aT;have HX:=jq ab;have aW:=jq ay;have aO:=jq aB;have xo:=jq lS;have ju:=jq (HG.out.trans (RJ ab (pY l k)));clear aT aR ab ay aB lS c0 c1;go_wp2_with fail;have mF:Below wr.heap.size wr (wr.alloc (.cells #[.string sn,.int .i64 x.set.type,.int .i64 x.set.life,.slice Ad x.set.data.length cd,.slice As x.sigs.length cs] 42)):=(vQ _ _).alloc (bQ _) _;have p0:=World.cell?_alloc_new wr #[.string sn,.int .i64 x.set.type,.int .i64 x.set.life,.slice Ad x.set.data.length cd,.slice As x.sigs.length cs] 42 0;have p1:=World.cell?_alloc_new wr #[.string sn,.int .i64 x.set.type,.int .i64 x.set.life,.slice Ad x.set.data.length cd,.slice As x.sigs.length cs] 42 1;have l4:wr.heap.size<(wr.alloc (.cells #[.string sn,.int .i64 x.set.type,.int .i64 x.set.life,.slice Ad x.set.data.length cd,.slice As x.sigs.length cs] 42)).heap.size:=by simp
     generalize wr.alloc (.cells #[.string sn,.int .i64 x.set.type,.int .i64 x.set.life,.slice Ad x.set.data.length cd,.slice As x.sigs.length cs] 42)=wa at mF p0 p1 l4 |-;have eb:=jq mF;have ux:=aIX xo mF;replace p0:wa.cell? ⟨wr.heap.size,0,none⟩=some (.string sn):=p0;replace p1:wa.cell? ⟨wr.heap.size,1,none⟩=some (.int .i64 x.set.type):=p1;replace d0:wa.cell? ⟨w.heap.size,0,none⟩=some (.string a):=by rw[mF.cell (by simpa using bR)];exact d0
     replace d1:wa.cell? ⟨w.heap.size,1,none⟩=some (.slice (some ⟨b,o,none⟩) l.length c):=by rw[mF.cell (by simpa using bR)];exact d1
     clear mF e0 e1 e2 e3 e4;refine (JT sn al _ _ _ x.set.data _ ((HR.out.keep ux.out).more (by omega)) ((mh.out.keep bD (eb.out.aKZ)).more bP (by omega))).mono ?_;have qD:(⟨sn.data.toList,x.set.type,x.set.life,x.set.data⟩:Np.DSet)=x.set:=by rw[aW.out]
     rw[qD];clear qD;rintro e w2 ⟨rfl,ac⟩;have aN:wr.heap.size<w2.heap.size:=by have:=ac.size;omega
     have aYY:w.heap.size<w2.heap.size:=by omega
     replace d0:w2.cell? ⟨w.heap.size,0,none⟩=some (.string a):=by rw[ac.cell (by simp;omega)];exact d0
     replace d1:w2.cell? ⟨w.heap.size,1,none⟩=some (.slice (some ⟨b,o,none⟩) l.length c):=by rw[ac.cell (by simp;omega)];exact d1
     replace p0:w2.cell? ⟨wr.heap.size,0,none⟩=some (.string sn):=by rw[ac.cell (by simpa using l4)];exact p0
     replace p1:w2.cell? ⟨wr.heap.size,1,none⟩=some (.int .i64 x.set.type):=by rw[ac.cell (by simpa using l4)];exact p1
     have ah:=aIX ux ac;have pa:=aIX eb ac;clear ac
     cases fC:Np.dC x.set with
     | false=>
      have ky:=jq fC;clear fC;go_wp2_with fail;go_ret;refine⟨ae ?_,ah.out⟩;rw[HF.out,ju.out,ky.out,Bool.and_false];rfl
     | true=>
      have ky:=jq fC;have lE:Np.aG sn.data.toList=true:=by rw[aW.out];exact Fb fC
      have iu:=jq lE;have AJ:∀ j y,j<k+1->l[j]?=some y->Np.dC y.set=true:=λj y hj hy=>by
       by_cases e:j=k
       ·subst e;rw[HX.out] at hy;cases hy;exact fC
       ·exact HV.out j y (by omega) hy
      have nX:=jq AJ;clear fC lE AJ;go_wp2_with fail;refine (Kh sn a al ha _ iu.out xO.out).mono ?_;rintro e w3 ⟨rfl,ak⟩;have gV:wr.heap.size<w3.heap.size:=by have:=ak.size;omega
      have aZQ:w.heap.size<w3.heap.size:=by omega
      replace d1:w3.cell? ⟨w.heap.size,1,none⟩=some (.slice (some ⟨b,o,none⟩) l.length c):=by rw[ak.cell (by simp;omega)];exact d1
      replace p0:w3.cell? ⟨wr.heap.size,0,none⟩=some (.string sn):=by rw[ak.cell (by simpa using aN)];exact p0
      replace p1:w3.cell? ⟨wr.heap.size,1,none⟩=some (.int .i64 x.set.type):=by rw[ak.cell (by simpa using aN)];exact p1
      have aA:=aIX ah ak;have KE:=aIX pa ak;clear ak d0
      cases fT:Np.bq sn.data.toList a.data.toList with
      | false=>
       have zK:=jq fT;clear fT;go_wp2_with fail;go_ret;refine⟨ae ?_,aA.out⟩;rw[HF.out,ju.out,<-aW.out,iu.out,zK.out];rfl
      | true=>
       have ck:=jq (show Np.jY a.data.toList none l=((match pY l k with | none=>true | some q=>decide (Np.hZ q x.set<0))&&Np.jY a.data.toList (pY l (k+1)) (l.drop (k+1))) by
        rw[ju.out,<-aW.out,iu.out,fT,ky.out,Fh HX.out];rfl)
       clear fT;by_cases bF:k=0
       ·subst bF;go_wp2_with fail;go_roundw
        case rel=>exact⟨1,by omega,by go_num,aO.out.trans (KE.out.mono aO.out.size),nX,jq (by rw[ck.out];rfl)⟩
        case measure=>simp[intOf] <;> omega
       ·obtain⟨i,rfl⟩:∃ i,k=i+1:=⟨k - 1,by omega⟩;have rJ:=aQ (show i<l.length by omega);obtain⟨b',o',c'',sq,dq,sg,pu,AO,_,kR,OY,Ba,_,f0,f1,f2,f3,_⟩:=fE ((HD.out.keep bU aA.out)) rJ
        cases pu
        have BY:=Fb (HV.out i l[i] (by omega) rJ);generalize hy:l[i]=y at *;clear hy;obtain⟨Aq,cq,rfl,W4,Ow⟩:=aj Ba;have yw:((((i+1:Nat):Int)) == 0)=false:=by simp;omega
        have Ud:Hid (Np.aG sq.data.toList=true):=jq (by rw[kR];exact BY);have Ss:Hid (Np.eS (sq.data.toList,y.set.type) (sn.data.toList,x.set.type)=Np.hZ y.set x.set):=jq (by rw[kR,aW.out,Np.G6];rfl);have mq:=jq (Fh rJ);clear Ba kR rJ BY;have aNY:b<w3.heap.size:=by omega
        have ai:IntKind.i64.wrap (((i+1:Nat):Int) - 1)=(i:Int):=by rw[IntWalk.i64_in _ (by omega)];omega
        have jh:(0:Int)<=(i:Int):=by omega
        have rM:(i:Int)<(l.length:Int):=by omega
        have mU:Hid (∀ o,Below w3.heap.size w3 (w3.alloc o)):=jq (λo=>(vQ _ _).alloc (bQ _) _);go_wp2_with fail;refine (RK sq sn OY al _ _ Ud.out iu.out _).mono ?_;rw[Ss.out];rintro e w4 ⟨rfl,ar⟩;have b7:=jq ((mU.out _).trans (ar.mono (by simp)));clear ar;by_cases gj:Np.hZ y.set x.set<0
        ·have lc:=jq (uQ gj);have Iw:¬ (0<=Np.hZ y.set x.set):=by omega
         clear gj;go_wp2_with fail;go_roundw
         case rel=>
          refine⟨i+1+1,by omega,by go_num,aO.out.trans ((KE.out.trans (b7.out.aKZ)).mono aO.out.size),nX,jq ?_⟩;rw[ck.out,mq.out];simp only[lc.out,Bool.true_and]
         case measure=>simp[intOf] <;> omega
        ·have lc:=jq (tQ gj);have Iw:0<=Np.hZ y.set x.set:=by omega
         clear gj;go_wp2_with fail;go_ret;refine⟨ae ?_,aA.out.trans (b7.out.aKZ)⟩;rw[HF.out,ck.out,mq.out];simp only[lc.out,Bool.false_and]
    ·go_wp2_with fail;go_ret;refine⟨ae ?_,am.out.trans (aB.aKZ)⟩;rw[HF.out,HG.out,List.drop_eq_nil_of_le (by omega)];rfl
theorem VP(s1 s2:ByteArray)(h1:s1.size<=140737488355328)(h2:s2.size<=140737488355328)(t1 l1 t2:Int)(A1 A2:Option Addr)(m1 c1 m2 c2:Nat)(n1:Np.aG s1.data.toList=true)(n2:Np.aG s2.data.toList=true)(w:World) :
 Calls prog 328 #[.agg #[.string s1,.int .i64 t1,.int .i64 l1,.slice A1 m1 c1,.slice A2 m2 c2],.agg #[.string s2,.int .i64 t2]] w
  λe w'=>e = .returned (.int .i64 (Np.eS (s1.data.toList,t1) (s2.data.toList,t2)))/\Below w.heap.size w w':=by
 have HW:Hid (∀ o o',Below w.heap.size w ((w.alloc o).alloc o')):=jq (λo o'=>((vQ _ w).alloc (bQ _) _).alloc (by simp) _);have N1:=jq n1;have N2:=jq n2;clear n1 n2;go_enter func328,ntmps328;go_wp2_with fail;refine (RK s1 s2 h1 h2 _ _ N1.out N2.out _).mono ?_;rintro e w1 ⟨rfl,hb⟩;have HB:=jq ((HW.out _ _).trans (hb.mono (by simp;omega)));clear hb;go_wp2_with fail;go_ret;exact⟨rfl,HB.out⟩
def Np.Ca(l:List Np.Signed)(key:List UInt8×Int):Nat:=l.countP λx=>decide (Np.eS (Np.eG x.set) key<0)
def Np.ve(l:List Np.Signed):Prop:=l.Pairwise λa b=>Np.eS (Np.eG a.set) (Np.eG b.set)<0
theorem abK{l:List Np.Signed}{key:List UInt8×Int}{i:Nat}(hi:i<=l.length)(h1:∀ j x,j<i->l[j]?=some x->Np.eS (Np.eG x.set) key<0)(h2:∀ j x,i<=j->l[j]?=some x->¬ Np.eS (Np.eG x.set) key<0):Np.Ca l key=i:=by
 unfold Np.Ca;have e:=List.take_append_drop i l;rw[<-e,List.countP_append,List.countP_eq_length.2,List.countP_eq_zero.2]
 ·rw[List.length_take];omega
 ·intro x hx;obtain⟨j,hj,rfl⟩:=nQ.1 hx;rw[List.getElem_drop];simpa using h2 (i+j) _ (by omega) (aQ _)
 ·intro x hx;obtain⟨j,hj,rfl⟩:=nQ.1 hx;rw[List.getElem_take];rw[List.length_take] at hj;simpa using h1 j _ (by omega) (aQ _)
theorem V5{l:List Np.Signed}(hs:Np.ve l){key:List UInt8×Int}{i:Nat}(h1:∀ j x,j<i->l[j]?=some x->Np.eS (Np.eG x.set) key<0)(h2:∀ j x,i<=j->l[j]?=some x->¬ Np.eS (Np.eG x.set) key<0):(∃ x∈l,Np.eG x.set=key)↔∃ x,l[i]?=some x/\Np.eS (Np.eG x.set) key=0:=by
 constructor
 ·rintro⟨x,hx,rfl⟩;obtain⟨j,hj,rfl⟩:=nQ.1 hx;have Yf:=Np.yU.self (Np.eG l[j].set);rcases Nat.lt_trichotomy j i with h | h | h
  ·have:=h1 j _ h (aQ hj)
   omega
  ·subst h;exact⟨_,aQ hj,Yf⟩
  ·exact absurd (List.pairwise_iff_getElem.1 hs i j (by omega) hj h) (h2 i _ (bQ _) (aQ (by omega)))
 ·rintro⟨x,hx,h⟩;exact⟨x,gQ hx,Np.yU.zero _ _ h⟩
theorem J5{l:List Np.Signed}(hs:Np.ve l){i j:Nat}{x y:Np.Signed}(hx:l[i]?=some x)(hy:l[j]?=some y)(h:i<j):Np.eS (Np.eG x.set) (Np.eG y.set)<0:=by
 obtain⟨hi,rfl⟩:=cQ.1 hx;obtain⟨hj,rfl⟩:=cQ.1 hy;exact List.pairwise_iff_getElem.1 hs i j hi hj h
theorem auK{z:Np.Zone}(h:Np.InOrder z):Np.ve z.sets:=by
 have:=h.order
 rw[List.pairwise_map] at this;exact this.imp λh=>by rw[<-Np.G6];exact h
def Np.j5(l:List Np.Signed)(n:List UInt8)(t:Int):Prop:=∃ x∈l,x.set.name=n/\x.set.type=t
theorem WH{l:List Np.Signed}{n:List UInt8}{t:Int} : Np.j5 l n t↔∃ x∈l,Np.eG x.set=(n,t):=by
 unfold Np.j5 Np.eG;simp only[Prod.mk.injEq]
theorem US(v:Value)(l:List Np.Signed)(bw:l.length<=20000)(hv:∀ x∈l,Np.aG x.set.name=true)(hs:Np.ve l)(q:ByteArray)(hq:q.size<=140737488355328)(qt:Int)(nq:Np.aG q.data.toList=true)(w:World)(hd:SlR cV 5 w w.heap.size v l) :
 Calls prog 327 #[v,.agg #[.string q,.int .i64 qt],.func (.func 328) #[] #[]] w
  λe w'=>e = .returned (.tuple #[.int .i64 (Np.Ca l (q.data.toList,qt)),.bool (Np.yes (Np.j5 l q.data.toList qt))])/\Below w.heap.size w w':=by
 obtain⟨pl,vY⟩:=aJZ (Np.Ca l (q.data.toList,qt));obtain⟨r,hr⟩:=aJZ (Np.yes (Np.j5 l q.data.toList qt));rw[vY,hr];have jR:=jq vY;have HR:=jq hr;have HV:=jq hv;have HS:=jq hs;have HD:=jq hd;have NQ:=jq nq;have eg:∀ args w,(callFunc 328 args).run prog w = .ok (.enter 328 args) w:=enters_of func328 (by kernel_rfl) rfl;obtain⟨A,c,rfl,be,bC⟩:=aj hd;clear vY hr hv hs hd nq;have HW:Hid (∀ o,Below w.heap.size w (w.alloc o)):=jq (λo=>(vQ _ w).alloc (bQ _) _);go_enter func327,ntmps327;go_wp2_with fail;have c0:=World.cell?_alloc_new w #[.string q,.int .i64 qt] 31 0;have c1:=World.cell?_alloc_new w #[.string q,.int .i64 qt] 31 1;have cI:w.heap.size<(w.alloc (.cells #[.string q,.int .i64 qt] 31)).heap.size:=by simp
 have am:=jq (HW.out (.cells #[.string q,.int .i64 qt] 31));generalize w.alloc (.cells #[.string q,.int .i64 qt] 31)=w1 at c0 c1 cI am |-;replace c0:w1.cell? ⟨w.heap.size,0,none⟩=some (.string q):=c0;replace c1:w1.cell? ⟨w.heap.size,1,none⟩=some (.int .i64 qt):=c1;go_loopg [9,10] l.length (λg s7 s8 wr=>∃ lo hi:Nat,s7 = .int .i64 lo/\s8 = .int .i64 hi/\lo<=hi/\hi<=l.length/\hi - lo<=g/\Hid (Below w1.heap.size w1 wr)/\Hid ((∀ j x,j<lo->l[j]?=some x->Np.eS (Np.eG x.set) (q.data.toList,qt)<0)/\(∀ j x,hi<=j->l[j]?=some x->¬ Np.eS (Np.eG x.set) (q.data.toList,qt)<0)))
 case atStart=>exact⟨0,l.length,rfl,rfl,jQ _,bQ _,by omega,jq (vQ _ _),jq ⟨λj x hj=>by omega,λj x hj hx=>by have:=(cQ.1 hx).1;omega⟩⟩
 case round=>
  obtain⟨lo,hi,rfl,rfl,hlh,hin,hg,HB,HI⟩:=hrel;have Yy:=HB.out.size;have d0:wr.cell? ⟨w.heap.size,0,none⟩=some (.string q):=by rw[HB.out.cell (by simpa using cI)];exact c0
  have d1:wr.cell? ⟨w.heap.size,1,none⟩=some (.int .i64 qt):=by rw[HB.out.cell (by simpa using cI)];exact c1
  have bR:w.heap.size<wr.heap.size:=by omega
  have aD:=aIX am HB.out;have nA:∀ (g:bO wr) (p:Addr),p.block<wr.heap.size->g.w.cell? p=wr.cell? p:=λg p h=>g.cell p h;have dy:=HD.out.keep bU aD.out;have kr:Hid (∀ (k:Nat) (x:Np.Signed),l[k]?=some x->∃ (b o c':Nat) (s:ByteArray) (Ad:Option Addr) (md cd:Nat) (As:Option Addr) (ms cs:Nat),A=some ⟨b,o,none⟩/\b<wr.heap.size/\wr.cell? ⟨b,o+k * 5,none⟩=some (.string s)/\wr.cell? ⟨b,o+k * 5+1,none⟩=some (.int .i64 x.set.type)/\wr.cell? ⟨b,o+k * 5+2,none⟩=some (.int .i64 x.set.life)/\wr.cell? ⟨b,o+k * 5+3,none⟩=some (.slice Ad md cd)/\wr.cell? ⟨b,o+k * 5+4,none⟩=some (.slice As ms cs)/\
   ∀ g:bO wr,Calls prog 328 #[.agg #[.string s,.int .i64 x.set.type,.int .i64 x.set.life,.slice Ad md cd,.slice As ms cs],.agg #[.string q,.int .i64 qt]] g.w λe w'=>e = .returned (.int .i64 (Np.eS (Np.eG x.set) (q.data.toList,qt)))/\Below g.w.heap.size g.w w'):=jq (λk x hx=>by
   obtain⟨b,o,c',s,dv,sv,hA,bj,_,ay,al,aT,aR,e0,e1,e2,e3,e4⟩:=fE dy hx
   cases hA
   obtain⟨Ad,cd,rfl,_,_⟩:=aj aT;obtain⟨As,cs,rfl,_,_⟩:=aj aR;refine⟨b,o,c,s,Ad,_,cd,As,_,cs,rfl,by omega,e0,e1,e2,e3,e4,λg=>?_⟩
   have:=VP s q al hq x.set.type x.set.life qt Ad As x.set.data.length cd x.sigs.length cs (by rw[ay];exact HV.out x (gQ hx)) NQ.out g.w
   rw[ay] at this;exact this)
  clear dy c0 c1;by_cases aa:lo<hi
  ·obtain⟨k,hk⟩:=aJZ ((lo+hi) / 2);have mI:k<l.length:=by omega
   have ab:=aQ mI;obtain⟨b,o,c',s,Ad,md,cd,As,ms,cs,rfl,aB,e0,e1,e2,e3,e4,cB⟩:=kr.out k _ ab;generalize hx:l[k]=x at *;have HX:=jq ab;have me:=jq cB;have hkI:((lo:Int)+(hi:Int)) / 2=(k:Int):=by omega
   have HK:=jq hk;have bF:(0:Int)<=(k:Int):=by omega
   have bL:(k:Int)<(l.length:Int):=by omega
   clear ab cB hx hk;by_cases hc:Np.eS (Np.eG x.set) (q.data.toList,qt)<0
   ·have HN:Hid (∀ j y,j<k+1->l[j]?=some y->Np.eS (Np.eG y.set) (q.data.toList,qt)<0):=jq (λj y hj hy=>by
     by_cases e:j=k
     ·subst e;rw[HX.out] at hy;cases hy;exact hc
     ·exact Np.yU.trans _ _ _ (J5 HS.out hy HX.out (by omega)) hc)
    have dV:decide (Np.eS (Np.eG x.set) (q.data.toList,qt)<0)=true:=by simpa using hc
    clear hc;go_wp2_with fail;refine aMQ ?_
    repeat (go_big_quiet_step ((go_at_call 328;exact Calls.grow_of (me.out _))))
    refine wpQuiet_nil ?_;rintro _ ⟨g,rfl⟩;go_wp2_with fail;go_roundg (hi - (k+1))
    case measure=>have:=HK.out;omega
    case rel=>exact⟨k+1,hi,by go_num,rfl,by have:=HK.out;omega,hin,bQ _,aIX HB g.below,jq ⟨HN.out,HI.out.2⟩⟩
   ·have HN:Hid (∀ j y,k<=j->l[j]?=some y->¬ Np.eS (Np.eG y.set) (q.data.toList,qt)<0):=jq (λj y hj hy aa=>by
     by_cases e:j=k
     ·subst e;rw[HX.out] at hy;cases hy;exact hc aa
     ·exact hc (Np.yU.trans _ _ _ (J5 HS.out HX.out hy (by omega)) aa))
    have dV:decide (Np.eS (Np.eG x.set) (q.data.toList,qt)<0)=false:=by simpa using hc
    clear hc;go_wp2_with fail;refine aMQ ?_
    repeat (go_big_quiet_step ((go_at_call 328;exact Calls.grow_of (me.out _))))
    refine wpQuiet_nil ?_;rintro _ ⟨g,rfl⟩;go_wp2_with fail;go_roundg (k - lo)
    case measure=>have:=HK.out;omega
    case rel=>exact⟨lo,k,rfl,by go_num,by have:=HK.out;omega,by omega,bQ _,aIX HB g.below,jq ⟨HI.out.1,HN.out⟩⟩
  ·obtain rfl:hi=lo:=by omega
   have HE:Hid (pl=hi):=jq (by rw[<-jR.out];exact abK hin HI.out.1 HI.out.2);have HF:Hid (r=Np.yes (∃ x,l[hi]?=some x/\Np.eS (Np.eG x.set) (q.data.toList,qt)=0)):=jq (by rw[<-HR.out];exact Np.uo (WH.trans (V5 HS.out HI.out.1 HI.out.2)));by_cases hn:hi<l.length
   ·have ab:=aQ hn;obtain⟨b,o,c',s,Ad,md,cd,As,ms,cs,rfl,aB,e0,e1,e2,e3,e4,cB⟩:=kr.out hi _ ab;generalize hx:l[hi]=x at *;have HX:=jq ab;have me:=jq cB;have bF:(0:Int)<=(hi:Int):=by omega
    have bL:(hi:Int)<(l.length:Int):=by omega
    clear ab cB hx;by_cases hc:Np.eS (Np.eG x.set) (q.data.toList,qt)=0
    ·have HT:Hid (r=true):=jq (by rw[HF.out];exact Np.cu ⟨x,HX.out,hc⟩);have dV:(Np.eS (Np.eG x.set) (q.data.toList,qt) == 0)=true:=by simpa using hc
     clear hc;go_wp2_with fail;refine aMQ ?_
     repeat (go_big_quiet_step ((go_at_call 328;exact Calls.grow_of (me.out _))))
     refine wpQuiet_nil ?_;rintro _ ⟨g,rfl⟩;go_wp2_with fail;go_ret2;exact⟨by rw[HE.out,HT.out];rfl,aD.out.trans (g.below.aKZ)⟩
    ·have HT:Hid (r=false):=jq (by rw[HF.out];exact Np.aS λ⟨y,hy,h0⟩=>by rw[HX.out] at hy;cases hy;exact hc h0);have dV:(Np.eS (Np.eG x.set) (q.data.toList,qt) == 0)=false:=by simpa using hc
     clear hc;go_wp2_with fail;refine aMQ ?_
     repeat (go_big_quiet_step ((go_at_call 328;exact Calls.grow_of (me.out _))))
     refine wpQuiet_nil ?_;rintro _ ⟨g,rfl⟩;go_wp2_with fail;go_ret2;exact⟨by rw[HE.out,HT.out];rfl,aD.out.trans (g.below.aKZ)⟩
   ·have HT:Hid (r=false):=jq (by rw[HF.out];exact Np.aS λ⟨y,hy,h0⟩=>by have:=(cQ.1 hy).1;omega);have bY:decide ((hi:Int)<(l.length:Int))=false:=by simp;omega
    have dF:decide (hi<l.length)=false:=by simp;omega
    go_wp2_with fail;refine aMQ ?_
    repeat (go_big_quiet_step (fail))
    refine wpQuiet_nil ?_;rintro _ ⟨g,rfl⟩;go_wp2_with fail;go_ret2;exact⟨by rw[HE.out,HT.out];rfl,aD.out.trans (g.below.aKZ)⟩
theorem M5(a:ByteArray)(v:Value)(l:List Np.Signed)(bw:l.length<=20000)(hv:∀ x∈l,Np.aG x.set.name=true)(hs:Np.ve l)(q:ByteArray)(hq:q.size<=140737488355328)(qt:Int)(nq:Np.aG q.data.toList=true)(w:World)(hd:SlR cV 5 w w.heap.size v l) :
 Calls prog 262 #[.agg #[.string a,v],.agg #[.string q,.int .i64 qt]] w
  λe w'=>e = .returned (.tuple #[.int .i64 (Np.Ca l (q.data.toList,qt)),.bool (Np.yes (Np.j5 l q.data.toList qt))])/\Below w.heap.size w w':=by
 have HV:=jq hv;have HS:=jq hs;have HD:=jq hd;have NQ:=jq nq;obtain⟨A,c,rfl,be,bC⟩:=aj hd;have HW:Hid (∀ o o',Below w.heap.size w ((w.alloc o).alloc o')):=jq (λo o'=>((vQ _ w).alloc (bQ _) _).alloc (by simp) _);clear hv hs hd nq;go_enter func262,ntmps262;go_wp2_with fail;refine (US _ l bw HV.out HS.out q hq qt NQ.out _ (HD.out.later bU fD (HW.out _ _))).mono ?_;rintro e w1 ⟨rfl,hb⟩;have HB:=jq ((HW.out _ _).trans (hb.mono (by simp;omega)));clear hb;go_wp2_with fail;go_ret2;exact⟨rfl,HB.out⟩
structure Np.ApexH(a:List UInt8)(l:List Np.Signed):Prop where
 start:Np.j5 l a 4
 server:Np.j5 l a 2
 fits:∀ x∈l,Np.jW x.set.type (x.set.name == a)=true
theorem UD(a:ByteArray)(ha:a.size<=140737488355328)(na:Np.aG a.data.toList=true)(v:Value)(l:List Np.Signed)(bw:l.length<=20000)(hv:∀ x∈l,Np.aG x.set.name=true)(hs:Np.ve l)(w:World)(hd:SlR cV 5 w w.heap.size v l) :
 Calls prog 199 #[.agg #[.string a,v]] w (aOJ w.heap.size w (.bool (Np.yes (Np.ApexH a.data.toList l)))):=by
 obtain⟨r,hr⟩:=aJZ (Np.yes (Np.ApexH a.data.toList l));rw[hr];have HR:=jq hr;have HV:=jq hv;have HS:=jq hs;have HD:=jq hd;have NA:=jq na;obtain⟨A,c,rfl,be,bC⟩:=aj hd;clear hr hv hs hd na;have HW:Hid (∀ o o',Below w.heap.size w ((w.alloc o).alloc o')):=jq (λo o'=>((vQ _ w).alloc (bQ _) _).alloc (by simp) _);go_enter func199,ntmps199;go_wp2_with fail;obtain⟨w1,ai⟩:=aJZ ((w.alloc (.cells #[.string a,.slice A l.length c] 263)).alloc (.cells #[.int .i64 4,.int .i64 2] 3));have c0:w1.cell? ⟨w.heap.size,0,none⟩=some (.string a):=by rw[<-ai];simp[go_sem]
 have c1:w1.cell? ⟨w.heap.size,1,none⟩=some (.slice A l.length c):=by rw[<-ai];simp[go_sem]
 have c2:w1.cell? ⟨w.heap.size+1,0,none⟩=some (.int .i64 4):=by rw[<-ai];simp[go_sem]
 have c3:w1.cell? ⟨w.heap.size+1,1,none⟩=some (.int .i64 2):=by rw[<-ai];simp[go_sem]
 have cI:w1.heap.size=w.heap.size+2:=by rw[<-ai];simp
 have am:Hid (Below w.heap.size w w1):=jq (by rw[<-ai];exact HW.out _ _);rw[ai];clear ai;go_loopw [11] (λi wr=>Hid (Below w1.heap.size w1 wr)/\(i = .int .i64 0\/(i = .int .i64 1/\Hid (Np.j5 l a.data.toList 4))\/(i = .int .i64 2/\Hid (Np.j5 l a.data.toList 4)/\Hid (Np.j5 l a.data.toList 2)))) (λi _=>2 - (intOf i).toNat)
 case atStart=>exact⟨jq (vQ _ _),.inl rfl⟩
 case round=>
  obtain⟨HB,hi⟩:=hrel;have al:=HB.out.size;obtain⟨bc,bf⟩:=tf HB.out;have d0:wr.cell? ⟨w.heap.size,0,none⟩=some (.string a):=by rw[bc _ _ (by omega)];exact c0
  have d1:wr.cell? ⟨w.heap.size,1,none⟩=some (.slice A l.length c):=by rw[bc _ _ (by omega)];exact c1
  have d2:wr.cell? ⟨w.heap.size+1,0,none⟩=some (.int .i64 4):=by rw[bc _ _ (by omega)];exact c2
  have d3:wr.cell? ⟨w.heap.size+1,1,none⟩=some (.int .i64 2):=by rw[bc _ _ (by omega)];exact c3
  clear bc bf;have aD:=aIX am HB.out;have FL:=jq ((HD.out.keep bU aD.out).more fD (show w.heap.size<=wr.heap.size by omega));have bR:w.heap.size+1<wr.heap.size:=by omega
  have WR:w.heap.size<wr.heap.size:=by omega
  rcases hi with rfl | ⟨rfl,H4⟩ | ⟨rfl,H4,H2⟩
  ·go_wp2_with fail;refine (M5 a _ l bw HV.out HS.out a ha 4 NA.out _ FL.out).mono ?_;rintro e w2 ⟨rfl,hb⟩;have ah:=jq hb;have aN:=hb.size;clear hb
   cases hk:Np.yes (Np.j5 l a.data.toList 4) with
   | true=>
    have HK:=jq hk;clear hk;go_wp2_with fail;go_roundw
    case rel=>exact⟨jq (HB.out.trans (ah.out.mono HB.out.size)),.inr (.inl ⟨by go_num,jq (Np.f8.1 HK.out)⟩)⟩
    case measure=>simp[intOf] <;> omega
   | false=>
    have HK:=jq hk;clear hk;go_wp2_with fail;go_ret;refine⟨ae ?_,aD.out.trans (ah.out.aKZ)⟩;rw[<-HR.out];refine (Np.aS λh=>?_).symm
    have:=Np.cu h.start
    rw[HK.out] at this
    cases this
  ·go_wp2_with fail;refine (M5 a _ l bw HV.out HS.out a ha 2 NA.out _ FL.out).mono ?_;rintro e w2 ⟨rfl,hb⟩;have ah:=jq hb;have aN:=hb.size;clear hb
   cases hk:Np.yes (Np.j5 l a.data.toList 2) with
   | true=>
    have HK:=jq hk;clear hk;go_wp2_with fail;go_roundw
    case rel=>exact⟨jq (HB.out.trans (ah.out.mono HB.out.size)),.inr (.inr ⟨by go_num,H4,jq (Np.f8.1 HK.out)⟩)⟩
    case measure=>simp[intOf] <;> omega
   | false=>
    have HK:=jq hk;clear hk;go_wp2_with fail;go_ret;refine⟨ae ?_,aD.out.trans (ah.out.aKZ)⟩;rw[<-HR.out];refine (Np.aS λh=>?_).symm
    have:=Np.cu h.server
    rw[HK.out] at this
    cases this
  ·go_wp2_with fail;clear d2 d3 c0 c1 c2 c3;obtain⟨w5,rfl⟩:=aKQ wr;go_loopw [32] (λi wx=>∃ k:Nat,k<=l.length/\i = .int .i64 k/\Hid (Below w5.heap.size w5 wx)/\Hid (∀ j x,j<k->l[j]?=some x->Np.jW x.set.type (x.set.name == a.data.toList)=true)) (λi _=>l.length - (intOf i).toNat)
   case atStart=>exact⟨0,jQ _,rfl,jq (vQ _ _),jq (λj g hj=>by omega)⟩
   case round=>
    obtain⟨k,hk,rfl,HX,HA⟩:=hrel;by_cases aa:k<l.length
    ·have ab:=aQ aa;obtain⟨b,o,c',sn,dv,sv,hA,bj,_,ay,cC,aT,aR,e0,e1,e2,e3,e4⟩:=fE (FL.out.keep bU HX.out) ab
     cases hA
     generalize hx:l[k]=x at *;clear hx;obtain⟨Ad,cd,rfl,_,_⟩:=aj aT;obtain⟨As,cs,rfl,_,_⟩:=aj aR;have nI:=HX.out.size;have g0:wr.cell? ⟨w.heap.size,0,none⟩=some (.string a):=by rw[HX.out.cell (by simpa using WR)];exact d0
     have fR:w.heap.size<wr.heap.size:=by omega
     have heq:(sn.toList == a.toList)=(x.set.name == a.data.toList):=by rw[dQ,dQ,ay]
     have uG:Hid (Np.jW x.set.type (x.set.name == a.data.toList)=true->∀ j y,j<k+1->l[j]?=some y->Np.jW y.set.type (y.set.name == a.data.toList)=true):=jq (λh j y hj hy=>by
      by_cases e:j=k
      ·subst e;rw[ab] at hy;cases hy;exact h
      ·exact HA.out j y (by omega) hy)
     have FU:Hid (Np.jW x.set.type (x.set.name == a.data.toList)=false->r=false):=jq (λh=>by
      rw[<-HR.out];exact Np.aS λq=>by have:=q.fits x (gQ ab);rw[h] at this;cases this)
     have bi:Hid (∀ o,Below w5.heap.size w5 (wr.alloc o)):=jq (λo=>HX.out.alloc HX.out.size _);generalize (x.set.name == a.data.toList)=bb at *;clear ab ay aT aR
     cases hf:Np.jW x.set.type bb with
     | true=>
      have HF:=jq hf;go_wp2_with (go_at_call 271;refine (M6 _ _ _).mono ?_;rintro e w' ⟨rfl,rfl⟩);go_roundw
      case rel=>exact⟨k+1,by omega,by go_num,jq (bi.out _),jq (uG.out HF.out)⟩
      case measure=>simp[intOf] <;> omega
     | false=>
      have HF:=jq hf;go_wp2_with (go_at_call 271;refine (M6 _ _ _).mono ?_;rintro e w' ⟨rfl,rfl⟩);go_ret;exact⟨ae (FU.out HF.out).symm,aD.out.trans ((bi.out _).aKZ)⟩
    ·go_wp2_with fail;go_ret;refine⟨ae ?_,aD.out.trans (HX.out.aKZ)⟩;rw[<-HR.out];refine (Np.cu ⟨H4.out,H2.out,λx hx=>?_⟩).symm;obtain⟨j,hj,rfl⟩:=nQ.1 hx;exact HA.out j _ (by omega) (aQ hj)
end
section
open Go.RowKit Go.Sort Go.Shelf
section
variable {α:Type} [Inhabited α]
theorem Hd(enc:α->List Value)(k:Nat)(hk:∀ x,(enc x).length=k)(h0:0<k)(xs:List α):(flatK enc k xs.toArray).toList=(xs.map enc).flatten:=by
 have hlen:(xs.map enc).flatten.length=xs.length * k:=by
  clear h0
  induction xs with
  | nil=>simp
  | cons y ys ih=>rw[List.map_cons,List.flatten_cons,List.length_append,ih,hk,List.length_cons,Nat.succ_mul];omega
 apply List.ext_getElem?;intro t;by_cases ht:t<xs.length * k
 ·have h1:t / k<xs.length:=(Nat.div_lt_iff_lt_mul h0).2 ht;have h2:t % k<k:=Nat.mod_lt _ h0;have hr:(xs.map enc)[t / k]?=some (enc xs[t / k]):=by simp[h1]
  have hu:(enc xs[t / k])[t % k]?=some ((enc xs[t / k])[t % k]'(by rw[hk];exact h2)):=aQ _;have h3:=Dx (xs.map enc) (t / k) (t % k) _ _ (by intro r hr;obtain⟨x,_,rfl⟩:=List.mem_map.1 hr;exact hk x) hr hu;rw[show t / k * k+t % k=t by rw[Nat.mul_comm];exact Nat.div_add_mod t k] at h3;rw[h3];have hs:t<(flatK enc k xs.toArray).size:=by simpa using ht
  rw[Array.getElem?_toList,pQ hs];congr 1;have h4:=get_flatK enc k xs.toArray t (by simpa using ht);rw[getElem!_pos (flatK enc k xs.toArray) t hs] at h4;rw[h4];rw[getElem!_pos xs.toArray (t / k) (by simpa using h1)];rw[getElem!_pos _ (t % k) (by rw[hk];exact h2)];simp
 ·rw[List.getElem?_eq_none (by simp;omega),List.getElem?_eq_none (by rw[hlen];omega)]
theorem XV(enc:α->List Value)(k:Nat)(hk:∀ x,(enc x).length=k)(h0:0<k){w:World}{g:Nat}{cur:Array Value}{e:TypeId}{xs:List α}(hb:w.heap[g]?=some (.cells cur e (0,0)))(ht:cur.toList.take (xs.length * k)=(xs.map enc).flatten):HoldsK enc k w g 0 xs.toArray:=by
 intro j hj;have hj':j<xs.length * k:=by simpa using hj
 refine⟨?_,by simp[World.frozen?,hb]⟩;have h1:(cur.toList.take (xs.length * k))[j]?=(flatK enc k xs.toArray).toList[j]?:=by rw[ht,Hd enc k hk h0]
 rw[List.getElem?_take_of_lt hj'] at h1;simp only[World.cell?,hb,Nat.zero_add,Option.isSome_none,Bool.false_eq_true,if_false];rw[<-Array.getElem?_toList,h1];have hs:j<(flatK enc k xs.toArray).size:=by simpa using hj'
 rw[Array.getElem?_toList,pQ hs,getElem!_pos _ j hs];rfl
theorem Xb(enc:α->List Value)(k:Nat){w:World}{g n:Nat}{os:Array Obj}{cur:Array Value}{e:TypeId}{fr:Nat×Nat}(d:Array α)(hb:w.heap[g]?=some (.cells cur e fr)) :
 (sortWorldK enc k w g 0 n d os).heap[g]?=some (.cells (putCells id 0 (flatK enc k d) cur) e fr):=by
 have hl:g<w.heap.size:=(eQ.1 hb).1;unfold sortWorldK putRowK;rw[heap_grow_old _ _ (by simpa [putRow,mapBlock,Sort.ahead] using hl)];simp[putRow,mapBlock,Sort.ahead,Array.getElem?_modify,hb,onCells]
theorem Wm(enc:α->List Value)(k:Nat){w:World}{g n:Nat}{os:Array Obj}(d:Array α):w.grownBy (sortWorldK enc k w g 0 n d os) (some g):=by
 unfold sortWorldK putRowK;refine⟨rfl,rfl,rfl,by simp,λq hq hne=>?_⟩;rw[heap_grow_old _ _ (by simpa using hq)]
 have:g≠q:=λe=>hne (by rw[e])
 simp[putRow,mapBlock,Sort.ahead,Array.getElem?_modify,this]
theorem abZ(enc:α->List Value)(k:Nat)(hk:∀ x,(enc x).length=k)(h0:0<k){w:World}{base g cap n:Nat}{e:TypeId}{os:Array Obj}{cur:Array Value}{xs ys:List α}(hl:ys.length=xs.length)(dw:base<=g)(hb:w.heap[g]?=some (.cells cur e (0,0)))
 (h1:xs.length<=cap) (h2:cap<=maxLen) (h3:cur.size=cap * k) :
 (sortWorldK enc k w g 0 n ys.toArray os).ownsRow base e k (.slice (some ⟨g,0,none⟩) xs.length cap) xs.length (ys.map enc).flatten:=by
 have yn:(ys.map enc).flatten.length=ys.length * k:=by
  rw[<-Hd enc k hk h0 ys];simp
 have eV:ys.length * k<=cur.size:=by rw[h3];exact Nat.mul_le_mul_right k (by omega)
 refine⟨by rw[yn,hl],.inr ⟨g,cap,_,rfl,dw,Xb enc k _ hb,h1,h2,by simp[putCells,h3],?_⟩⟩;rw[<-hl];apply List.ext_getElem?;intro j;by_cases hj:j<ys.length * k
 ·rw[List.getElem?_take_of_lt hj,Array.getElem?_toList,<-Hd enc k hk h0 ys];have hs:j<(flatK enc k ys.toArray).size:=by simpa using hj
  rw[Array.getElem?_toList,pQ hs];have tD:j<cur.size:=by omega
  simp[putCells,hj,tD]
 ·rw[List.getElem?_take_eq_none (by omega),List.getElem?_eq_none (by rw[yn];omega)]
end
def fN(s:Np.Span):List Value:=[.int .i64 s.frm,.int .i64 s.til]
def aw(base:Nat)(w:World)(v:Value)(ps:List Np.Span):Prop:=w.ownsRow base 110 2 v ps.length (ps.map fN).flatten
theorem aw.form{base:Nat}{w:World}{v:Value}{ps:List Np.Span}(h:aw base w v ps):∃ A c,v = .slice A ps.length c:=sF h
theorem aw.alloc{base:Nat}{w:World}{v:Value}{ps:List Np.Span}(h:aw base w v ps)(o:Obj):aw base (w.alloc o) v ps:=World.ownsRow.alloc h o
theorem aw.keep{base:Nat}{w w':World}{v:Value}{ps:List Np.Span}(h:aw base w v ps)(hb:Below w.heap.size w w'):aw base w' v ps:=cX h (λg hg=>hb.block g (h.lt g hg).2)
theorem aw.nil(base:Nat)(w:World):aw base w (.slice none 0 0) []:=⟨by simp,.inl ⟨rfl,rfl⟩⟩
theorem aw.slr{base:Nat}{w:World}{v:Value}{ps:List Np.Span}(h:aw base w v ps)(hl:ps.length<=140737488355328):SlR bA 2 w w.heap.size v ps:=by
 refine Cj (sz:=2) (e:=110) (base:=base) fN (λ_ _=>rfl) ?_ hl (λx hx=>rfl)
 have:w.ownsRow base 110 2 v ps.length (ps.map fN).flatten:=h
 rwa [<-List.flatMap_def] at this
theorem Tryz.infoSpan:(prog.info? 110).map (λi=>(i.zero,i.size,i.bytes))=some (some (.agg #[.int .i64 0,.int .i64 0]),2,16):=by kernel_rfl
section
variable {ops:Array Oper} {rest:List Oper} {o:Oper} {a:Act} {Q:Exit->Act->World->Prop}
theorem o4(w:World)(go:o.guard=none)(s x:Operand)(ho:o.op = .call { callee:=.builtin .append,args:=#[s,x],argTypes:=#[55,55] })
 (base:Nat) (v:Value) (ps:List Np.Span) (hs:a.eval s=v) (hown:aw base w v ps) (blk:Nat) (f u:Int) (hx:a.eval x = .slice (some ⟨blk,0,none⟩) 1 1) (hc:w.cell? ⟨blk,0,none⟩=some (.int .i64 f)) (be:w.cell? ⟨blk,1,none⟩=some (.int .i64 u)) (hlen:ps.length<=100000) (dw:base<=w.heap.size)
 (h:∀ v' w',aw base w' v' (ps ++ [⟨f,u⟩])->Below base w w'->wpList prog ops Q rest (a.put o.dst v') w'):wpList prog ops Q (o::rest) a w:=by
 obtain⟨i0,hi,di,ba,aN⟩:=info_parts Tryz.infoSpan;refine wpList_append_own_at w go s x 55 ho base 110 i0 (.agg #[.int .i64 0,.int .i64 0]) 2 16 underlying55 hi di ba aN rfl (by decide) v ps.length (ps.map fN).flatten hs hown ⟨blk,0,none⟩ 1 1 [.int .i64 f,.int .i64 u] hx rfl ?_ (by simp[Value.oneCell']) (by unfold maxLen;omega) (by omega) dw ?_
 ·intro j y hj
  match j,hj with
  | 0,hj=>simp at hj;subst hj;simpa [Addr.add] using hc
  | 1,hj=>simp at hj;subst hj;simpa [Addr.add] using be
  | j+2,hj=>simp at hj
 ·intro v' w' ho' hg _ _;refine h v' w' ?_ ((vQ _ _).grown hg dw (λk hk=>(hown.lt k hk).1));have e:(ps ++ [(⟨f,u⟩:Np.Span)]).length=ps.length+1:=by simp
  unfold aw;rw[e,List.map_append,List.flatten_append];exact ho'
end
theorem V9(f u:Int)(w:World) :
 Calls prog 177 #[.agg #[.int .i64 f,.int .i64 u]] w (aOJ w.heap.size w (.bool (decide (f<u)))):=by
 have HB:Hid (∀ o,Below w.heap.size w (w.alloc o)):=jq (λo=>(vQ _ w).alloc (bQ _) _);go_enter func177,ntmps177;go_wp2_with fail;go_ret;exact⟨rfl,HB.out _⟩
theorem asX(v:Value)(l:List Np.Span)(bw:l.length<=20000)(hf:∀ s∈l,s.frm<s.til)(w:World)(h:SlR bA 2 w w.heap.size v l) :
 Calls prog 176 #[v,.func (.func 177) #[] #[]] w λe w'=>∃ v',e = .returned v'/\aw w.heap.size w' v' l/\Below w.heap.size w w':=by
 have HD:=jq h;have HF:=jq hf;obtain⟨A,c,rfl,be,bC⟩:=aj h;clear h hf;have HE:=jq (enters_of func177 (by kernel_rfl) rfl);go_enter func176,ntmps176;go_wp2_with fail;go_loopw [5,10] (λvo i wr=>∃ (k:Nat),k<=l.length/\i = .int .i64 k/\Hid (Below w.heap.size w wr)/\Hid (aw w.heap.size wr vo (l.take k))) (λ_ i _=>l.length - (intOf i).toNat)
 case atStart=>exact⟨0,jQ _,rfl,jq (vQ _ _),jq (aw.nil _ _)⟩
 case round=>
  obtain⟨k,hk,rfl,HB,HO⟩:=hrel;have al:=HB.out.size;by_cases aa:k<l.length
  ·obtain⟨x,ab⟩:∃ x,l[k]?=some x:=⟨_,aQ aa⟩;obtain⟨A',c',hA',_,_,aY⟩:=HD.out.keep bE HB.out
   cases hA'
   obtain⟨b,o,e,rfl,bB,hlen,hce,hR⟩:=aY k _ ab;obtain rfl:=hR;have h0:wr.cell? ⟨b,o+k * 2,none⟩=some (.int .i64 x.frm):=hce 0 _ rfl;have h1:wr.cell? ⟨b,o+k * 2+1,none⟩=some (.int .i64 x.til):=hce 1 _ rfl;have hd:decide (x.frm<x.til)=true:=uQ (HF.out x (gQ ab));have HT:Hid (l.take (k+1)=l.take k ++ [x]):=jq (by
    obtain⟨hl,he⟩:=cQ.1 ab;rw[fQ hl,he])
   have HL:Hid ((l.take k).length<=100000):=jq (by rw[List.length_take];omega);obtain⟨f,u⟩:=x;have bR:b<wr.heap.size:=by omega
   clear aY hce ab;dsimp only at h0 h1 hd;have bi:Hid (∀ o,Below w.heap.size w (wr.alloc o)):=jq (λo=>HB.out.alloc HB.out.size _);go_wp2_with (fail);refine (V9 f u _).mono ?_;rintro e w2 ⟨rfl,ac⟩;rw[hd];have ah:Hid (Below w.heap.size w w2):=jq ((bi.out _).trans (ac.mono (by simp;omega)));have db:Hid (aw w.heap.size w2 u5 (l.take k)):=jq ((HO.out.alloc _).keep ac);have c0:w2.cell? ⟨wr.heap.size,0,none⟩=some (.int .i64 f):=by rw[ac.cell (by simp)];simp[go_sem]
   have c1:w2.cell? ⟨wr.heap.size,1,none⟩=some (.int .i64 u):=by rw[ac.cell (by simp)];simp[go_sem]
   have aN:wr.heap.size<w2.heap.size:=by have:=ac.size;simp at this;omega
   clear ac;go_wp2_with (at_builtin;refine o4 _ rfl _ _ rfl w.heap.size _ (l.take k) rfl (db.out.alloc _) w2.heap.size f u (by simp[go_sem]) (by simp[go_sem]) (by simp[go_sem]) HL.out (by simp;omega) ?_;intro v5 w5 bS av;have H5:=jq (And.intro bS av);clear bS av);go_roundw
   case rel=>exact⟨k+1,by omega,by go_num,jq ((ah.out.alloc (by omega) _).trans H5.out.2),jq (by rw[HT.out];exact H5.out.1)⟩
   case measure=>simp[intOf] <;> omega
  ·have HE':Hid (l.take k=l):=jq (kQ (by omega));go_wp2_with fail;go_ret;exact⟨_,rfl,by have:=HO.out;rwa [HE'.out] at this,HB.out⟩
instance:Inhabited Np.Span:=⟨⟨0,0⟩⟩
theorem Z0(f u f' u':Int)(w:World) :
 Calls prog 178 #[.agg #[.int .i64 f,.int .i64 u],.agg #[.int .i64 f',.int .i64 u']] w λe w'=>e = .returned (.int .i64 (Np.cP f f'))/\∃ q os,w'=grow (w.drewN q) os:=by
 go_enter func178,ntmps178;go_wp2_with (go_at_call 123;refine (zZ _ _ _).mono ?_;rintro e w' ⟨rfl,rfl⟩);go_ret;exact⟨rfl,0,_,by rw[alloc_eq_grow,alloc_eq_grow,grow_grow];rfl⟩
theorem EB(x y:Np.Span):ltOf (λx y:Np.Span=>Np.cP x.frm y.frm) x y=decide (x.frm<y.frm):=by
 unfold ltOf Np.cP;by_cases h1:x.frm<y.frm
 ·simp[h1]
 ·by_cases h2:y.frm<x.frm <;> simp[h1,h2]
theorem awY:SWO (ltOf λx y:Np.Span=>Np.cP x.frm y.frm) where
 irrefl x:=by rw[EB];simp
 trans x y z h1 h2:=by rw[EB] at *;simp at *;omega
 ntrans x y z h1 h2:=by rw[EB] at *;simp at *;omega
theorem auJ{d d':Array Np.Span}(hp:PermIn 0 d.size d d')(hs:SortedIn (ltOf λx y:Np.Span=>Np.cP x.frm y.frm) 0 d.size d'):d'.toList.Perm d.toList/\d'.toList.Pairwise λa b=>a.frm<=b.frm:=by
 obtain⟨h1,_,h3⟩:=hp;refine⟨?_,?_⟩
 ·have e1:d'.extract 0 d.size=d':=by rw[<-h1];simp
  have e2:d.extract 0 d.size=d:=by simp
  rwa [e1,e2] at h3
 ·rw[List.pairwise_iff_getElem];intro i j hi hj dE
  have:=hs i j (jQ _) dE (by rw[<-h1];simpa using hj)
  rw[EB,getElem!_pos d' i (by simpa using hi),getElem!_pos d' j (by simpa using hj)] at this;simpa using this
theorem Q5(fid:FuncId)(Xe:∀ (f u f' u':Int) (w:World),Calls prog fid #[.agg #[.int .i64 f,.int .i64 u],.agg #[.int .i64 f',.int .i64 u']] w λe w'=>e = .returned (.int .i64 (Np.cP f f'))/\∃ q os,w'=grow (w.drewN q) os)(eg:∀ args w,(callFunc fid args).run prog w = .ok (.enter fid args) w)(base:Nat)(v:Value)(xs:List Np.Span)(w:World)(hown:aw base w v xs)(hl:xs.length<=100000) :
 Calls prog 121 #[v,.func (.func fid) #[] #[]] w λe w'=>e = .returned (.tuple #[])/\∃ ys:List Np.Span,ys.Perm xs/\ys.Pairwise (λa b=>a.frm<=b.frm)/\aw base w' v ys/\w.grownBy w' v.ownBlock:=by
 have kM:w.ownsRow base 110 2 v xs.length (xs.map fN).flatten:=hown;rcases kM.2 with ⟨rfl,h0⟩ | ⟨g,cap,cur,rfl,dw,hb,h1,h2,h3,h4⟩
 ·have:xs = []:=rQ h0
  subst this;refine (AnyF.slices_SortFunc_none Tryz.sortSpan none 0 _ w).mono ?_;intro e w' hh;obtain⟨rfl,rfl⟩:=hh;exact⟨rfl,[],List.Perm.refl _,List.Pairwise.nil,hown,⟨rfl,rfl,rfl,bQ _,λ_ _ _=>rfl⟩⟩
 have aE:∀ w,(isAgg 110).run prog w = .ok true w:=λw=>by kernel_rfl
 have zE:∀ w,(Go.sizeOf 110).run prog w = .ok 2 w:=λw=>by kernel_rfl
 have hH:=XV fN 2 (λ_=>rfl) (by omega) hb h4;have AW:CmpLays prog fid #[] fN 2 (λx y:Np.Span=>Np.cP x.frm y.frm) g 0 xs.toArray.size w:=λm os dk _ x y=>Xe x.frm x.til y.frm y.til _;have DY:=AnyQ.slices_SortFunc Tryz.sortSpan 2 aE zE fN (λ_=>rfl) (λx u hu=>by simp only[fN,List.mem_cons,Qh,or_false] at hu;rcases hu with rfl | rfl <;> rfl) (λx y:Np.Span=>Np.cP x.frm y.frm) awY fid #[] g 0 cap xs.toArray w eg AW hH (eQ.1 hb).1 (by simp;omega);refine DY.mono λe w' ⟨he,d',n,os,hp,hs,hw⟩=>⟨he,d'.toList,?_⟩;obtain⟨p1,p2⟩:=auJ hp hs;have hlen:d'.toList.length=xs.length:=by simpa using p1.length_eq
 refine⟨by simpa using p1,p2,?_,?_⟩
 ·subst hw;unfold aw;rw[hlen]
  have:=abZ fN 2 (λ_=>rfl) (by omega) (n:=n) (os:=os) hlen dw hb h1 h2 h3
  simpa using this
 ·subst hw;exact Wm fN 2 _
theorem auQ(base:Nat)(v:Value)(xs:List Np.Span)(w:World)(hown:aw base w v xs)(hl:xs.length<=100000) :
 Calls prog 121 #[v,.func (.func 178) #[] #[]] w λe w'=>e = .returned (.tuple #[])/\∃ ys:List Np.Span,ys.Perm xs/\ys.Pairwise (λa b=>a.frm<=b.frm)/\aw base w' v ys/\w.grownBy w' v.ownBlock:=
 Q5 _ Z0 (enters_of func178 (by kernel_rfl) rfl) base v xs w hown hl
theorem Rp:∀ (l o:List Np.Span),(l.foldl Np.gF o).length<=o.length+l.length:=by
 intro l
 induction l with
 | nil=>intro o;simp
 | cons s l ih=>
  intro o;have h1:(Np.gF o s).length<=o.length+1:=by
   rcases List.eq_nil_or_concat o with rfl | ⟨q,p,rfl⟩
   ·simp[Np.Ro]
   ·rw[List.concat_eq_append,Np.Ki];split <;> simp
  have:=ih (Np.gF o s)
  rw[List.foldl_cons,List.length_cons];omega
theorem VY(q:List Np.Span)(p:Np.Span)(u:Int):(((q ++ [p]).map fN).flatten).set (q.length * 2+1) (.int .i64 u)=((q ++ [(⟨p.frm,u⟩:Np.Span)]).map fN).flatten:=by
 have hl:((q.map fN).flatten).length=q.length * 2:=by rw[<-List.flatMap_def];induction q with | nil=>rfl | cons a q ih=>simp[List.flatMap_cons,ih,fN];omega
 rw[List.map_append,List.flatten_append,List.map_append,List.flatten_append,List.set_append_right _ _ (by rw[hl];omega),hl];congr 1;rw[show q.length * 2+1 - q.length * 2=1 by omega];rfl
theorem VX(q:List Np.Span)(p:Np.Span)(j:Nat):(((q ++ [p]).map fN).flatten)[q.length * 2+j]?=(fN p)[j]?:=by
 have hl:((q.map fN).flatten).length=q.length * 2:=by rw[<-List.flatMap_def];induction q with | nil=>rfl | cons a q ih=>simp[List.flatMap_cons,ih,fN];omega
 rw[List.map_append,List.flatten_append,oQ (by rw[hl];omega),hl];simp
theorem azJ(v:Value)(l:List Np.Span)(bw:l.length<=20000)(w:World)(h:SlR bA 2 w w.heap.size v l) :
 Calls prog 179 #[v] w (λe w'=>∃ v',e = .returned v'/\aw w.heap.size w' v' (l.foldl Np.gF [])/\Below w.heap.size w w'):=by
 have HD:=jq h;obtain⟨A,c,rfl,be,bC⟩:=aj h;clear h;have HN:Hid (∀ k,((l.take k).foldl Np.gF []).length<=k):=jq (λk=>yQ (Rp _ _) (by simp;omega));go_enter func179,ntmps179;go_wp2_with fail;go_loopw [3,9] (λvo i wr=>∃ (k:Nat),k<=l.length/\i = .int .i64 k/\Hid (Below w.heap.size w wr)/\Hid (aw w.heap.size wr vo ((l.take k).foldl Np.gF []))) (λ_ i _=>l.length - (intOf i).toNat)
 case atStart=>exact⟨0,jQ _,rfl,jq (vQ _ _),jq (aw.nil _ _)⟩
 case round=>
  obtain⟨k,hk,rfl,HB,HO⟩:=hrel;have al:=HB.out.size;by_cases aa:k<l.length
  ·obtain⟨x,ab⟩:∃ x,l[k]?=some x:=⟨_,aQ aa⟩;obtain⟨A',c',hA',_,_,aY⟩:=HD.out.keep bE HB.out
   cases hA'
   obtain⟨b,o,e,rfl,bB,hlen,hce,hR⟩:=aY k _ ab;obtain rfl:=hR;have h0:wr.cell? ⟨b,o+k * 2,none⟩=some (.int .i64 x.frm):=hce 0 _ rfl;have h1:wr.cell? ⟨b,o+k * 2+1,none⟩=some (.int .i64 x.til):=hce 1 _ rfl;have HT:Hid ((l.take (k+1)).foldl Np.gF []=Np.gF ((l.take k).foldl Np.gF []) x):=jq (by
    obtain⟨hl,he⟩:=cQ.1 ab;rw[fQ hl,he,List.foldl_append];rfl)
   have bR:b<wr.heap.size:=by omega
   have bi:Hid (∀ o,Below w.heap.size w (wr.alloc o)):=jq (λo=>HB.out.alloc HB.out.size _);have yw:=HN.out k;obtain⟨fr,ti⟩:=x;clear aY hce ab;dsimp only at h0 h1;obtain⟨ol,rW⟩:=aJZ ((l.take k).foldl Np.gF []);rw[rW] at HO HT yw;clear rW;rcases List.eq_nil_or_concat ol with rfl | ⟨q,p,rfl⟩
   ·obtain⟨A0,c0,rfl⟩:=aw.form HO.out;go_wp2_with fail;go_quiet (fail);obtain⟨w2,ag⟩:=aJZ ((wr.alloc (.cells #[.int .i64 fr,.int .i64 ti] 110)).drewN nq);have aN:w2.heap.size=wr.heap.size+1:=by rw[<-ag];simp
    have c0:w2.cell? ⟨wr.heap.size,0,none⟩=some (.int .i64 fr):=by rw[<-ag];simp[go_sem]
    have c1:w2.cell? ⟨wr.heap.size,1,none⟩=some (.int .i64 ti):=by rw[<-ag];simp[go_sem]
    have jf:Below wr.heap.size wr w2:=by rw[<-ag];exact below_drewN ((vQ _ _).alloc (bQ _) _) _
    have ah:Hid (Below w.heap.size w w2):=jq (HB.out.trans (jf.mono al));have db:Hid (aw w.heap.size w2 _ []):=jq (HO.out.keep jf);rw[ag];clear ag jf;go_wp2_with (at_builtin;refine o4 _ rfl _ _ rfl w.heap.size _ [] rfl (db.out.alloc _) w2.heap.size fr ti (by simp[go_sem]) (by simp[go_sem]) (by simp[go_sem]) (by simp) (by simp;omega) ?_;intro v5 w5 bS av;have H5:=jq (And.intro bS av);clear bS av);go_roundw
    case rel=>exact⟨k+1,by omega,by go_num,jq ((ah.out.alloc (by omega) _).trans H5.out.2),jq (by rw[HT.out];exact H5.out.1)⟩
    case measure=>simp[intOf] <;> omega
   ·rw[List.concat_eq_append] at HO HT yw;have hown:wr.ownsRow w.heap.size 110 2 u3 (q ++ [p]).length ((q ++ [p]).map fN).flatten:=HO.out;have mV:=jq (VX q p);have SG:=jq (VY q p);have Ti:Hid ((q ++ [p]).length<=100000):=jq (by omega);have no:(q ++ [p]).length=q.length+1:=by simp
    have hqk:q.length+1<=k:=by rw[no] at yw;exact yw
    clear yw;rcases hown.2 with ⟨_,Wo⟩ | ⟨g,cap,cur,rfl,dw,hb,bK,bY,_,_⟩
    ·rw[no] at Wo;omega
    have iH:=jq hown;have lg:g<wr.heap.size:=(eQ.1 hb).1;clear hb hown;obtain⟨M,hM⟩:=aJZ ((q ++ [p]).length);obtain⟨m,hm⟩:=aJZ q.length;have g0:wr.cell? ⟨g,m * 2,none⟩=some (.int .i64 p.frm):=by
     rw[<-hm,iH.out.cellAt _ (by rw[no];omega)]
     have:=mV.out 0
     rwa [Nat.add_zero] at this
    have g1:wr.cell? ⟨g,m * 2+1,none⟩=some (.int .i64 p.til):=by
     rw[<-hm,iH.out.cellAt _ (by rw[no];omega)];exact mV.out 1
    have gf:wr.frozen? ⟨g,m * 2+1,none⟩=false:=iH.out.frozenAt _;rw[no,hm] at hM;have hq:IntKind.i64.wrap ((M:Int) - 1)=(m:Int):=by rw[show (M:Int) - 1=m by omega];simp[IntKind.wrap,IntKind.bits,IntKind.signed];omega
    have hM0:decide (0<(M:Int))=true:=aLQ;have aLZ:decide (0<M)=true:=aLQ;have hmM:m<M:=by omega
    have aUK:(m:Int)<(M:Int):=by omega
    have gU:(0:Int)<=(m:Int):=by omega
    have HM:Hid ((q ++ [p]).length=M):=jq (by rw[no,hm,hM]);rw[HM.out] at bK;have HM2:=jq hM;have HQ:=jq hm;have po:=jq (Np.Ki q p ⟨fr,ti⟩);clear hM hm no;rw[HM.out];by_cases eV:fr<=p.til
    ·have hd:decide (fr<=p.til)=true:=uQ eV;have iJ:Hid ((l.take (k+1)).foldl Np.gF []=q ++ [⟨p.frm,max p.til ti⟩]):=jq (by rw[HT.out,po.out,Qb eV]);clear eV;go_wp2_with fail;go_quiet (fail);obtain⟨w2,ag⟩:=aJZ ((wr.alloc (.cells #[.int .i64 fr,.int .i64 ti] 110)).drewN nq);have aN:w2.heap.size=wr.heap.size+1:=by rw[<-ag];simp
     have c0:w2.cell? ⟨wr.heap.size,0,none⟩=some (.int .i64 fr):=by rw[<-ag];simp[go_sem]
     have c1:w2.cell? ⟨wr.heap.size,1,none⟩=some (.int .i64 ti):=by rw[<-ag];simp[go_sem]
     have jf:Below wr.heap.size wr w2:=by rw[<-ag];exact below_drewN ((vQ _ _).alloc (bQ _) _) _
     have ah:Hid (Below w.heap.size w w2):=jq (HB.out.trans (jf.mono al));have db:Hid (aw w.heap.size w2 (.slice (some ⟨g,0,none⟩) M cap) (q ++ [p])):=jq (HM.out ▸ HO.out.keep jf);rw[ag];clear ag;have d1:w2.cell? ⟨g,m * 2+1,none⟩=some (.int .i64 p.til):=(jf.cell lg).trans g1;have df:w2.frozen? ⟨g,m * 2+1,none⟩=false:=(jf.frozen lg).trans gf;clear jf g0 g1 gf;go_wp2_with fail;go_region;have ck:Hid (aw w.heap.size (w2.setCell ⟨g,m * 2+1,none⟩ (.int .i64 (max p.til ti))).drew (.slice (some ⟨g,0,none⟩) M cap) (q ++ [⟨p.frm,max p.til ti⟩])/\Below w.heap.size w (w2.setCell ⟨g,m * 2+1,none⟩ (.int .i64 (max p.til ti))).drew):=jq (by
      have h1:w2.ownsRow w.heap.size 110 2 (.slice (some ⟨g,0,none⟩) (q ++ [p]).length cap) (q ++ [p]).length ((q ++ [p]).map fN).flatten:=by
       have:=db.out
       rw[<-HM.out] at this;exact this
      obtain⟨h2,h3⟩:=World.ownsRow.stored h1 (m * 2+1) (.int .i64 (max p.til ti));refine⟨aw.keep (w:=w2.setCell ⟨g,m * 2+1,none⟩ (.int .i64 (max p.til ti))) ?_ (vQ _ _).drew,(ah.out.grown h3 ah.out.size (λk hk=>by simp at hk;omega)).drew⟩;rw[<-HQ.out] at h2 |-;rw[SG.out] at h2;have e1:(q ++ [(⟨p.frm,max p.til ti⟩:Np.Span)]).length=(q ++ [p]).length:=by simp
      unfold aw;rw[e1,<-HM.out];exact h2)
     go_wp2_with fail;go_roundw
     case rel=>exact⟨k+1,by omega,by go_num,jq ck.out.2,jq (by rw[iJ.out];exact ck.out.1)⟩
     case measure=>simp[intOf] <;> omega
    ·have hd:decide (fr<=p.til)=false:=tQ eV;have iJ:Hid ((l.take (k+1)).foldl Np.gF []=q ++ [p] ++ [⟨fr,ti⟩]):=jq (by rw[HT.out,po.out,Qc eV]);clear eV;go_wp2_with fail;go_quiet (fail);obtain⟨w2,ag⟩:=aJZ ((wr.alloc (.cells #[.int .i64 fr,.int .i64 ti] 110)).drewN nq);have aN:w2.heap.size=wr.heap.size+1:=by rw[<-ag];simp
     have c0:w2.cell? ⟨wr.heap.size,0,none⟩=some (.int .i64 fr):=by rw[<-ag];simp[go_sem]
     have c1:w2.cell? ⟨wr.heap.size,1,none⟩=some (.int .i64 ti):=by rw[<-ag];simp[go_sem]
     have jf:Below wr.heap.size wr w2:=by rw[<-ag];exact below_drewN ((vQ _ _).alloc (bQ _) _) _
     have ah:Hid (Below w.heap.size w w2):=jq (HB.out.trans (jf.mono al));have db:Hid (aw w.heap.size w2 (.slice (some ⟨g,0,none⟩) M cap) (q ++ [p])):=jq (HM.out ▸ HO.out.keep jf);rw[ag];clear ag;clear jf g0 g1 gf;go_wp2_with (at_builtin;refine o4 _ rfl _ _ rfl w.heap.size _ (q ++ [p]) rfl (db.out.alloc _) w2.heap.size fr ti (by simp[go_sem]) (by simp[go_sem]) (by simp[go_sem]) Ti.out (by simp;omega) ?_;intro v5 w5 bS av;have H5:=jq (And.intro bS av);clear bS av);go_roundw
     case rel=>exact⟨k+1,by omega,by go_num,jq ((ah.out.alloc (by omega) _).trans H5.out.2),jq (by rw[iJ.out];exact H5.out.1)⟩
     case measure=>simp[intOf] <;> omega
  ·have HE':Hid (l.take k=l):=jq (kQ (by omega));go_wp2_with fail;go_ret;exact⟨_,rfl,by have:=HO.out;rwa [HE'.out] at this,HB.out⟩
end
namespace Np
def cR(a:List UInt8)(l:List Signed):List (List UInt8):=(l.filter λx=>decide (x.set.type=2)&&!(x.set.name == a)).map (·.set.name)
theorem Vu(a:List UInt8)(l:List Signed)(x:Signed):cR a (l ++ [x])=if x.set.type=2/\x.set.name≠a then cR a l ++ [x.set.name] else cR a l:=by
 unfold cR;rw[List.filter_append];by_cases h1:x.set.type=2 <;> by_cases h2:x.set.name=a <;> simp[h1,h2]
theorem B7{a:List UInt8}{l:List Signed}{c:List UInt8} : c∈cR a l↔cS ⟨a,l⟩ c=true:=by
 unfold cR;rw[G7,List.mem_map];constructor
 ·rintro⟨x,hx,rfl⟩;obtain⟨h1,h2⟩:=List.mem_filter.1 hx;simp only[Bool.and_eq_true,Qa,Bool.not_eq_true',beq_eq_false_iff_ne] at h2;exact⟨x,h1,h2.1,h2.2,rfl⟩
 ·rintro⟨x,hx,h1,h2,rfl⟩;exact⟨x,List.mem_filter.2 ⟨hx,by simpa [h1] using h2⟩,rfl⟩
theorem MQ{z:Zone}(h:InOrder z):(cR z.apex z.sets).Pairwise λa b=>aI a b<0:=by
 unfold cR;rw[List.pairwise_map];have h1:(z.sets.filter λx=>decide (x.set.type=2)&&!(x.set.name == z.apex)).Pairwise λa b=>hZ a.set b.set<0:=by
  have:=h.order
  rw[List.pairwise_map] at this;exact this.sublist List.filter_sublist
 refine h1.imp_of_mem λ{a b} ha hb aa=>?_;obtain⟨_,ha⟩:=List.mem_filter.1 ha;obtain⟨_,hb⟩:=List.mem_filter.1 hb;simp only[Bool.and_eq_true,Qa] at ha hb;rcases Int.lt_or_eq_of_le (ME aa) with h2 | h2
 ·exact h2
 ·have:=MF aa (eY.zero _ _ h2)
  omega
def oL(out:List (List UInt8))(c:List UInt8):List (List UInt8):=
 match out.getLast? with
 | none=>[c]
 | some h=>if bq c h=true then out else out ++ [c]
def el(l:List (List UInt8)):List (List UInt8):=l.foldl oL []
theorem Of(l:List (List UInt8))(c:List UInt8):el (l ++ [c])=oL (el l) c:=by simp[el]
structure zP(l out:List (List UInt8)):Prop where
 sub:out.Sublist l
 above:∀ c∈l,∃ h∈out,bq c h=true
 top:∀ h∈out,∀ c∈l,bq h c=true->c=h
theorem Xs{l out:List (List UInt8)}{c:List UInt8}(hne:∀ x∈l ++ [c],x≠[])(hs:(l ++ [c]).Pairwise λa b=>aI a b<0)(h:zP l out):zP (l ++ [c]) (oL out c):=by
 obtain⟨h1,_,h3⟩:=List.pairwise_append.1 hs;have aa:∀ x∈l,aI x c<0:=λx hx=>h3 x hx c (by simp);have hout:∀ x∈out,x∈l:=λx hx=>h.sub.subset hx;have DW:c≠[]:=hne c (by simp);have O9:∀ x∈l,bq x c=true->False:=λx hx hu=>by
  have a1:=E9 DW hu;have a2:=eY.anti _ _ (aa x hx);omega
 unfold oL
 cases hg:out.getLast? with
 | none=>
  have ho:out = []:=by simpa using hg
  have hl:l = []:=by
   cases l with
   | nil=>rfl
   | cons y l=>obtain⟨q,hq,_⟩:=h.above y (by simp);rw[ho] at hq;cases hq
  subst ho hl;refine⟨by simp,λx hx=>⟨c,by simp,?_⟩,λx hx y hy _=>?_⟩
  ·simp at hx;subst hx;exact Fa _
  ·simp at hx hy;rw[hx,hy]
 | some q=>
  have hq:q∈out:=List.mem_of_getLast? hg;dsimp only;split
  ·rename_i hu;refine⟨h.sub.trans (List.sublist_append_left _ _),λx hx=>?_,λx hx y hy bZ=>?_⟩
   ·rcases List.mem_append.1 hx with hx | hx
    ·exact h.above x hx
    ·simp at hx;subst hx;exact⟨q,hq,hu⟩
   ·rcases List.mem_append.1 hy with hy | hy
    ·exact h.top x hx y hy bZ
    ·simp at hy;subst hy;exact (O9 x (hout x hx) bZ).elim
  ·rename_i hu;refine⟨List.Sublist.append h.sub (List.Sublist.refl _),λx hx=>?_,λx hx y hy bZ=>?_⟩
   ·rcases List.mem_append.1 hx with hx | hx
    ·obtain⟨t,ht,lD⟩:=h.above x hx;exact⟨t,List.mem_append_left _ ht,lD⟩
    ·simp at hx;subst hx;exact⟨x,by simp,Fa _⟩
   ·rcases List.mem_append.1 hx with bM | bM
    ·rcases List.mem_append.1 hy with sB | sB
     ·exact h.top x bM y sB bZ
     ·rw[List.mem_singleton] at sB;rw[sB] at bZ;exact (O9 x (hout x bM) bZ).elim
    ·simp at bM;subst bM;rcases List.mem_append.1 hy with hy | hy
     ·exfalso;obtain⟨t,ht,lD⟩:=h.above y hy;have O5:t≠[]:=hne t (List.mem_append_left _ (hout t ht));have YG:y≠[]:=hne y (List.mem_append_left _ hy);have Pc:=Kg YG O5 bZ lD;by_cases Je:t=q
      ·subst Je;exact hu Pc
      ·obtain⟨o',ho'⟩:=List.getLast?_eq_some_iff.1 hg;have OX:out.Pairwise λa b=>aI a b<0:=h1.sublist h.sub;rw[ho'] at OX ht;have O6:t∈o':=by
        rcases List.mem_append.1 ht with ht | ht
        ·exact ht
        ·simp at ht;exact absurd ht Je
       have t6:=(List.pairwise_append.1 OX).2.2 t O6 q (by simp);have X7:=aa q (hout q hq);have X6:=Kf O5 Pc (Int.le_of_lt t6) (Int.le_of_lt X7);exact Je (h.top q hq t (hout t (by rw[ho'];exact List.mem_append_left _ O6)) X6)
     ·simp at hy;exact hy
theorem Oh:∀ (r p:List (List UInt8)),(∀ x∈p++r,x≠[])->(p++r).Pairwise (λa b=>aI a b<0)->zP p (el p)->zP (p++r) (el (p++r))
 | [],p,_,_,h=>by rw[List.append_nil];exact h
 | c::r,p,hne,hs,h=>by
   have e:p++c::r=(p ++ [c])++r:=by simp
   rw[e] at hne hs |-;refine Oh r (p ++ [c]) hne hs ?_;rw[Of];exact Xs (λx hx=>hne x (List.mem_append_left _ hx)) (List.pairwise_append.1 hs).1 h
theorem Xr(l:List (List UInt8))(hne:∀ x∈l,x≠[])(hs:l.Pairwise λa b=>aI a b<0):zP l (el l):=
 Oh l [] hne hs ⟨List.Sublist.refl _,λc hc=>(by cases hc),λh hh=>(by cases hh)⟩
theorem Og{z:Zone}(h:InOrder z):L9 (cS z) (el (cR z.apex z.sets))/\∀ c,cS z c=true->(∀ d,cS z d=true->bq c d=true->d=c)->c∈el (cR z.apex z.sets):=by
 have hne:∀ x∈cR z.apex z.sets,x≠[]:=λx hx=>Ag h x (B7.1 hx);have ho:=Xr _ hne (MQ h);refine⟨⟨λc hc=>⟨B7.1 (ho.sub.subset hc),λd hd hu=>ho.top c hc d (B7.2 hd) hu⟩,(MQ h).sublist ho.sub⟩,λc hc ht=>?_⟩;obtain⟨t,h1,h2⟩:=ho.above c (B7.2 hc);rw[<-ht t (B7.1 (ho.sub.subset h1)) h2];exact h1
def jJ(H:List (List UInt8))(k:Nat)(n:List UInt8):List UInt8:=if 0<k/\bq n (H[k - 1]?.getD [])=true then H[k - 1]?.getD [] else []
theorem ajQ{z:Zone}(h:InOrder z){n:List UInt8}{k:Nat}(hk:k<=(el (cR z.apex z.sets)).length)(h1:∀ j x,j<k->(el (cR z.apex z.sets))[j]?=some x->aI x n<=0)(h2:∀ j x,k<=j->(el (cR z.apex z.sets))[j]?=some x->0<aI x n):jx (cS z) n (jJ (el (cR z.apex z.sets)) k n):=by
 obtain⟨p1,p2⟩:=Og h
 have:=Xt (Ag h) p1 (n:=n) (λc hc ht _=>p2 c hc ht) hk (λj hj Bn=>h1 j _ Bn (aQ hj)) (λj hj Bn=>h2 j _ Bn (aQ hj))
 unfold jJ;split
 ·rename_i hc;rw[dif_pos hc] at this;exact this
 ·rename_i hc;rw[dif_neg hc] at this;exact this
end Np
section
open Go.RowKit Go.Sort Go.Shelf
def Np.zU(s:Np.Span):Prop:=0<=s.frm/\s.frm<s.til/\s.til<=20000000
theorem aw.weak{base base':Nat}{w:World}{v:Value}{ps:List Np.Span}(h:aw base w v ps)(hb:base'<=base):aw base' w v ps:=by
 refine⟨h.1,?_⟩;rcases h.2 with h2 | ⟨g,cap,cur,h1,h2,h3⟩
 ·exact .inl h2
 ·exact .inr ⟨g,cap,cur,h1,yQ hb h2,h3⟩
theorem mO(l:List Np.Span):(Np.bN l).length<=l.length:=by
 have:=Rp (l.mergeSort λa b=>decide (a.frm<=b.frm)) []
 simpa [Np.bN] using this
theorem PR(v:Value)(l:List Np.Span)(bw:l.length<=20000)(hin:∀ s∈l,Np.zU s)(w:World)(h:SlR bA 2 w w.heap.size v l) :
 Calls prog 109 #[v] w (λe w'=>∃ v',e = .returned (.tuple #[v',.int .i64 0])/\aw w.heap.size w' v' (Np.bN l)/\Below w.heap.size w w'):=by
 have HD:=jq h;have jO:=jq hin;obtain⟨A,c,rfl,be,bC⟩:=aj h;clear h hin;have eV:decide (20000<(l.length:Int))=false:=aKX;go_enter func109,ntmps109;go_wp2_with fail;go_loopw [12] (λi wr=>∃ (k:Nat),k<=l.length/\i = .int .i64 k/\Hid (Below w.heap.size w wr)) (λi _=>l.length - (intOf i).toNat)
 case atStart=>exact⟨0,jQ _,rfl,jq (vQ _ _)⟩
 case round=>
  obtain⟨k,hk,rfl,HB⟩:=hrel;have al:=HB.out.size;by_cases aa:k<l.length
  ·obtain⟨x,ab⟩:∃ x,l[k]?=some x:=⟨_,aQ aa⟩;obtain⟨A',c',hA',_,_,aY⟩:=HD.out.keep bE HB.out
   cases hA'
   obtain⟨b,o,e,rfl,bB,hlen,hce,hR⟩:=aY k _ ab;obtain rfl:=hR;have h0:wr.cell? ⟨b,o+k * 2,none⟩=some (.int .i64 x.frm):=hce 0 _ rfl;have h1:wr.cell? ⟨b,o+k * 2+1,none⟩=some (.int .i64 x.til):=hce 1 _ rfl;obtain⟨i1,i2,i3⟩:=jO.out x (gQ ab);have eU:decide (x.frm<0)=false:=aKX;have fS:decide (x.til<x.frm)=false:=aKX;have Iz:decide (20000000<x.til)=false:=aKX;have bi:Hid (∀ o,Below w.heap.size w (wr.alloc o)):=jq (λo=>HB.out.alloc HB.out.size _);have bR:b<wr.heap.size:=by omega
   obtain⟨fr,ti⟩:=x;clear aY hce ab i1 i2 i3;dsimp only at h0 h1 eU fS Iz;go_wp2_with fail;go_roundw
   case rel=>exact⟨k+1,by omega,by go_num,jq (bi.out _)⟩
   case measure=>simp[intOf] <;> omega
  ·have ci:=jq (HD.out.keep bE HB.out);go_wp2_with fail;refine (asX _ l bw (λs hs=>(jO.out s hs).2.1) _ ((ci.out.more dP al))).mono ?_;rintro e w2 ⟨v2,rfl,fw,ac⟩;have db:=jq fw;have ah:=jq (HB.out.trans (ac.mono al));have aN:wr.heap.size<=w2.heap.size:=ac.size;clear fw ac;obtain⟨A2,c2,rfl⟩:=db.out.form;go_wp2_with fail;refine (auQ wr.heap.size _ l _ db.out (by omega)).mono ?_;rintro e w3 ⟨rfl,ys,hp,hs,jl,pF⟩;have nB:ys.length=l.length:=hp.length_eq;have HY:Hid (ys.foldl Np.gF []=Np.bN l):=jq (Np.Z3 (λs hs=>(jO.out s hs).2.1) hp hs);have iq:=jq jl;have ak:Below wr.heap.size w2 w3:=(vQ _ _).grown pF aN (λk hk=>(World.ownsRow.lt db.out k hk).1);have aA:=jq (ah.out.trans (ak.mono al));clear hp hs jl pF;go_wp2_with fail;refine (azJ _ ys (by omega) _ (iq.out.slr (by omega))).mono ?_;rintro e w4 ⟨v4,rfl,ka,ar⟩;have HE:=jq (And.intro ka (aA.out.trans (ar.mono aA.out.size)));clear ka ar;go_wp2_with fail;go_ret2;exact⟨_,rfl,by have:=HE.out.1.weak aA.out.size;rw[HY.out] at this;exact this,HE.out.2⟩
end
namespace Np
def gC(c:Copy):Int×List UInt8:=(c.host,c.zone.apex)
def fP(l:List Copy)(p:Int×List UInt8):List Span:=(l.filter λc=>decide (gC c=p)).map jL
theorem DA(l:List Copy)(c:Copy)(p:Int×List UInt8):fP (l ++ [c]) p=if gC c=p then fP l p ++ [jL c] else fP l p:=by
 unfold fP;rw[List.filter_append];by_cases h:gC c=p
 ·simp[h]
 ·simp[h]
theorem Nk{l:List Copy}{p:Int×List UInt8}(h:∀ c∈l,gC c≠p):fP l p = []:=by
 unfold fP;rw[List.filter_eq_nil_iff.2 (λc hc=>by simpa using h c hc)];rfl
structure GrpI(kvs:List ((Int×List UInt8)×List Span))(l:List Copy):Prop where
 nodup:(kvs.map (·.1)).Nodup
 each:∀ x∈kvs,x.2=fP l x.1
 all:∀ c∈l,gC c∈kvs.map (·.1)
theorem GrpI.nil:GrpI [] []:=⟨by simp,λx hx=>(by cases hx),λc hc=>(by cases hc)⟩
theorem GrpI.old{kvs:List ((Int×List UInt8)×List Span)}{l:List Copy}(h:GrpI kvs l){c:Copy}{j:Nat}{g:List Span}(hj:kvs[j]?=some (gC c,g)):GrpI (kvs.set j (gC c,g ++ [jL c])) (l ++ [c]):=by
 obtain⟨hl,he⟩:=cQ.1 hj;have hk:(kvs.set j (gC c,g ++ [jL c])).map (·.1)=kvs.map (·.1):=by
  rw[List.map_set];apply List.ext_getElem?;intro i;rw[List.getElem?_set];split
  ·rename_i e;subst e;rw[List.length_map,Qb hl,List.getElem?_map,hj];rfl
  ·rfl
 have hg:=h.each _ (gQ hj);refine⟨by rw[hk];exact h.nodup,λx hx=>?_,λd hd=>?_⟩
 ·obtain⟨i,hi,rfl⟩:=nQ.1 hx;rw[List.length_set] at hi;rw[List.getElem_set];split
  ·rename_i e;subst e;rw[DA,Qb rfl];simp only at hg |-;rw[<-hg]
  ·rename_i e;rw[DA,Qc]
   ·exact h.each _ (List.getElem_mem hi)
   ·intro e2;apply e;have h1:(kvs.map (·.1))[j]'(by simpa using hl)=(kvs.map (·.1))[i]'(by simpa using hi):=by simp[he,e2]
    exact (List.getElem_inj (h₀:=by simpa using hl) (h₁:=by simpa using hi) h.nodup).1 h1
 ·rw[hk];rcases List.mem_append.1 hd with hd | hd
  ·exact h.all d hd
  ·rw[List.mem_singleton] at hd;subst hd;exact List.mem_map.2 ⟨_,gQ hj,rfl⟩
theorem GrpI.new{kvs:List ((Int×List UInt8)×List Span)}{l:List Copy}(h:GrpI kvs l){c:Copy}(hn:gC c∉kvs.map (·.1)):GrpI (kvs ++ [(gC c,[jL c])]) (l ++ [c]):=by
 have h0:fP l (gC c) = []:=Nk λd hd e=>hn (by rw[<-e];exact h.all d hd);refine⟨?_,λx hx=>?_,λd hd=>?_⟩
 ·rw[List.map_append,List.nodup_append];refine⟨h.nodup,by simp,λa ha b hb e=>?_⟩;simp at hb;subst hb;subst e;exact hn ha
 ·rcases List.mem_append.1 hx with hx | hx
  ·rw[DA,Qc]
   ·exact h.each x hx
   ·intro e;exact hn (by rw[e];exact List.mem_map.2 ⟨x,hx,rfl⟩)
  ·rw[List.mem_singleton] at hx;subst hx;rw[DA,Qb rfl,h0];rfl
 ·rw[List.map_append];rcases List.mem_append.1 hd with hd | hd
  ·exact List.mem_append_left _ (h.all d hd)
  ·rw[List.mem_singleton] at hd;subst hd;simp
def om(a b:Span):Prop:=a.frm<b.til/\b.frm<a.til
theorem om.symm{a b:Span}(h:om a b):om b a:=⟨h.2,h.1⟩
def GT(m:List Span):Prop:=∀ i (h:i+1<m.length),m[i].til<=m[i+1].frm
theorem aoX{m l:List Span}(hp:m.Perm l)(hs:m.Pairwise λa b=>a.frm<=b.frm)(hf:∀ s∈l,s.frm<s.til):GT m↔l.Pairwise λa b=>¬ om a b:=by
 rw[<-hp.pairwise_iff (R:=λa b=>¬ om a b) (λ{a b} h k=>h k.symm)];have N9:∀ s∈m,s.frm<s.til:=λs hs=>hf s (hp.mem_iff.1 hs);clear hp hf;constructor
 ·intro h;rw[List.pairwise_iff_getElem];intro i j hi hj dE ho;have key:∀ d,∀ (h1:i+d+1<m.length),(m[i]'(by omega)).til<=(m[i+d+1]'h1).frm:=by
   intro d
   induction d with
   | zero=>intro h1;exact h i h1
   | succ d ih=>
    intro h1;have h2:=ih (by omega);have h3:=h (i+d+1) (by omega);have h4:=N9 _ (List.getElem_mem (show i+d+1<m.length by omega));have e:i+(d+1)+1=i+d+1+1:=by omega
    simp only[e];omega
  obtain⟨d,rfl⟩:∃ d,j=i+d+1:=⟨j - i - 1,by omega⟩
  have:=key d hj
  have:=ho.2
  omega
 ·intro h i hi;rw[List.pairwise_iff_getElem] at h hs;have h1:=h i (i+1) (by omega) hi (by omega);have h2:=hs i (i+1) (by omega) hi (by omega);have h3:=N9 _ (List.getElem_mem hi);unfold om at h1;omega
theorem Wi(l:List Copy):(l.Pairwise λc d=>¬ ko c d)↔∀ p,(fP l p).Pairwise λa b=>¬ om a b:=by
 induction l with
 | nil=>simp[fP]
 | cons c l ih=>
  rw[List.pairwise_cons,ih];constructor
  ·rintro⟨h1,h2⟩ p;by_cases hp:gC c=p
   ·have e:fP (c::l) p=jL c::fP l p:=by unfold fP;simp[hp]
    rw[e,List.pairwise_cons];refine⟨λs hs=>?_,h2 p⟩;obtain⟨d,hd,rfl⟩:=List.mem_map.1 hs;obtain⟨eU,fS⟩:=List.mem_filter.1 hd;have hk:gC d=gC c:=by rw[hp];simpa using fS
    intro ho;unfold gC at hk;simp only[Prod.mk.injEq] at hk;exact h1 d eU ⟨hk.1.symm,hk.2.symm,ho.1,ho.2⟩
   ·have e:fP (c::l) p=fP l p:=by unfold fP;simp[hp]
    rw[e];exact h2 p
  ·intro h;refine⟨λd hd jB=>?_,λp=>?_⟩
   ·have h1:=h (gC c);have e:fP (c::l) (gC c)=jL c::fP l (gC c):=by unfold fP;simp
    rw[e,List.pairwise_cons] at h1;refine h1.1 (jL d) (List.mem_map.2 ⟨d,List.mem_filter.2 ⟨hd,?_⟩,rfl⟩) ⟨jB.2.2.1,jB.2.2.2⟩;unfold gC;simp[jB.1,jB.2.1]
   ·have h1:=h p;by_cases hp:gC c=p
    ·have e:fP (c::l) p=jL c::fP l p:=by unfold fP;simp[hp]
     rw[e,List.pairwise_cons] at h1;exact h1.2
    ·have e:fP (c::l) p=fP l p:=by unfold fP;simp[hp]
     rwa [e] at h1
theorem GrpI.ok{kvs:List ((Int×List UInt8)×List Span)}{l:List Copy}(h:GrpI kvs l):(l.Pairwise λc d=>¬ ko c d)↔∀ x∈kvs,x.2.Pairwise λa b=>¬ om a b:=by
 rw[Wi];constructor
 ·intro h1 x hx;rw[h.each x hx];exact h1 _
 ·intro h1 p;by_cases hp:p∈kvs.map (·.1)
  ·obtain⟨x,hx,rfl⟩:=List.mem_map.1 hp;rw[<-h.each x hx];exact h1 x hx
  ·rw[Nk λc hc e=>hp (by rw[<-e];exact h.all c hc)];exact List.Pairwise.nil
end Np
end Go.Proofs.YtfnopgdcaanaiaaGreatDoor
