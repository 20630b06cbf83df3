/- Parts of the proof. No condition. -/
import Derived.Test.YtfnopgdcaanaiaaGreatDoorW02
import Derived.Test.YtfnopgdcaanaiaaGreatDoorW03
import Derived.Test.YtfnopgdcaanaiaaGreatDoorW04
import Derived.Test.YtfnopgdcaanaiaaGreatDoorW05
set_option linter.all false
set_option maxRecDepth 100000
set_option maxHeartbeats 8000000
namespace Go.Proofs.YtfnopgdcaanaiaaGreatDoor
open Go.Proofs.Tryz
namespace Np
structure TO{α:Type}(c:α->α->Int):Prop where
 self:∀ x,c x x=0
 zero:∀ x y,c x y=0->x=y
 anti:∀ x y,c x y<0->0<c y x
 anti':∀ x y,0<c x y->c y x<0
 trans:∀ x y z,c x y<0->c y z<0->c x z<0
theorem TO.lex{α β γ:Type}{c:α->α->Int}{d:β->β->Int}(hc:TO c)(hd:TO d)(f:γ->α)(g:γ->β)(Wp:∀ x y,f x=f y->g x=g y->x=y):TO (λx y:γ=>if c (f x) (f y)≠0 then c (f x) (f y) else d (g x) (g y)) where
 self x:=by simp[hc.self,hd.self]
 zero x y h:=by
  by_cases h1:c (f x) (f y)≠0
  ·rw[Qb h1] at h;exact absurd h h1
  ·rw[Qc h1] at h;exact Wp x y (hc.zero _ _ (Decidable.not_not.1 h1)) (hd.zero _ _ h)
 anti x y h:=by
  by_cases h1:c (f x) (f y)≠0
  ·rw[Qb h1] at h
   have:=hc.anti _ _ h
   rw[Qb (by omega)];exact this
  ·rw[Qc h1] at h;have e:=hc.zero _ _ (Decidable.not_not.1 h1);rw[e,hc.self,Qc (by simp)];exact hd.anti _ _ h
 anti' x y h:=by
  by_cases h1:c (f x) (f y)≠0
  ·rw[Qb h1] at h
   have:=hc.anti' _ _ h
   rw[Qb (by omega)];exact this
  ·rw[Qc h1] at h;have e:=hc.zero _ _ (Decidable.not_not.1 h1);rw[e,hc.self,Qc (by simp)];exact hd.anti' _ _ h
 trans x y z h k:=by
  by_cases h1:c (f x) (f y)≠0
  ·rw[Qb h1] at h;by_cases h2:c (f y) (f z)≠0
   ·rw[Qb h2] at k
    have:=hc.trans _ _ _ h k
    rw[Qb (by omega)];exact this
   ·have e:=hc.zero _ _ (Decidable.not_not.1 h2);rw[<-e,Qb h1];exact h
  ·rw[Qc h1] at h;have e:=hc.zero _ _ (Decidable.not_not.1 h1);by_cases h2:c (f y) (f z)≠0
   ·rw[Qb h2] at k;rw[e,Qb h2];exact k
   ·rw[Qc h2] at k;rw[e,Qc h2];exact hd.trans _ _ _ h k
theorem TO.of{α β:Type}{c:α->α->Int}(hc:TO c)(f:β->α)(hf:∀ x y,f x=f y->x=y):TO (λx y=>c (f x) (f y)) where
 self _:=hc.self _
 zero _ _ h:=hf _ _ (hc.zero _ _ h)
 anti _ _ h:=hc.anti _ _ h
 anti' _ _ h:=hc.anti' _ _ h
 trans _ _ _ h k:=hc.trans _ _ _ h k
theorem Ed:∀ (x y:List UInt8),Go.Op.bytesLess x y=decide (x<y)
 | [],[]=>by simp[Go.Op.bytesLess]
 | _::_,[]=>by simp[Go.Op.bytesLess]
 | [],_::_=>by simp[Go.Op.bytesLess]
 | a::x,b::y=>by
   rw[Go.Op.bytesLess,Ed x y];simp only[List.cons_lt_cons_iff];by_cases h1:a<b <;> by_cases h2:a=b <;> by_cases h3:x<y <;> simp[h1,h2,h3]
theorem toS:TO cI where
 self:=uN
 zero _ _:=rq
 anti x y h:=by
  rcases xJ x y with ⟨h1,h2⟩ | ⟨_,_,_,h2⟩ | ⟨_,_,_,h2⟩
  ·rcases xJ y x with ⟨h3,h4⟩ | ⟨_,_,_,h4⟩ | ⟨_,_,h5,h4⟩
   ·rw[Ed,Qa] at h1 h3;exact absurd h3 (List.lt_asymm h1)
   ·omega
   ·rw[h5,uN] at h;omega
  ·omega
  ·omega
 anti' x y h:=by
  rcases xJ x y with ⟨_,h2⟩ | ⟨_,h1,_,h2⟩ | ⟨_,_,_,h2⟩
  ·omega
  ·simp[cI,h1]
  ·omega
 trans x y z h k:=by
  have e:∀ a b:List UInt8,cI a b<0->a<b:=λa b h=>by
   rcases xJ a b with ⟨h1,h2⟩ | ⟨_,_,_,h2⟩ | ⟨_,_,_,h2⟩
   ·rw[Ed,Qa] at h1;exact h1
   ·omega
   ·omega
  have:=List.lt_trans (e _ _ h) (e _ _ k)
  unfold cI;rw[Ed,Qb (by simpa using this)];omega
theorem toI:TO cO where
 self x:=by unfold cO;rw[Qc (by omega),Qc (by omega)]
 zero x y h:=by unfold cO at h;split at h;omega;split at h <;> omega
 anti x y h:=by
  unfold cO at h |-;split at h
  ·rw[Qc (by omega),Qb (by omega)];omega
  ·split at h <;> omega
 anti' x y h:=by
  unfold cO at h |-;split at h
  ·omega
  ·split at h
   ·rw[Qb (by omega)];omega
   ·omega
 trans x y z h k:=by
  unfold cO at h k |-;split at h
  ·split at k
   ·rw[Qb (by omega)];omega
   ·split at k <;> omega
  ·split at h <;> omega
theorem toR:TO cK:=by
 have hs:=toS;refine⟨Pe,?_,?_,?_,?_⟩
 ·intro l
  induction l with
  | nil=>intro m h;cases m with
    | nil=>rfl
    | cons y m=>simp[cK] at h
  | cons x l ih=>
   intro m h
   cases m with
   | nil=>simp[cK] at h
   | cons y m=>
    rw[cK] at h;split at h
    ·rename_i hc;exact absurd h hc
    ·rename_i hc;rw[rq (Decidable.not_not.1 hc),ih m h]
 ·intro l
  induction l with
  | nil=>intro m h;cases m with
    | nil=>simp[cK] at h
    | cons y m=>simp[cK]
  | cons x l ih=>
   intro m h
   cases m with
   | nil=>simp[cK] at h
   | cons y m=>
    rw[cK] at h |-;split at h
    ·have:=hs.anti _ _ h
     rw[Qb (by omega)];exact this
    ·rename_i hc;have e:=rq (Decidable.not_not.1 hc);subst e;rw[Qc hc];exact ih m h
 ·intro l
  induction l with
  | nil=>intro m h;cases m with
    | nil=>simp[cK] at h
    | cons y m=>simp[cK] at h
  | cons x l ih=>
   intro m h
   cases m with
   | nil=>simp[cK]
   | cons y m=>
    rw[cK] at h |-;split at h
    ·have:=hs.anti' _ _ h
     rw[Qb (by omega)];exact this
    ·rename_i hc;have e:=rq (Decidable.not_not.1 hc);subst e;rw[Qc hc];exact ih m h
 ·intro l
  induction l with
  | nil=>intro m n h k;cases m with
    | nil=>simp[cK] at h
    | cons y m=>cases n with
      | nil=>simp[cK] at k
      | cons z n=>simp[cK]
  | cons x l ih=>
   intro m n h k
   cases m with
   | nil=>simp[cK] at h
   | cons y m=>
    cases n with
    | nil=>simp[cK] at k
    | cons z n=>
     rw[cK] at h k |-;by_cases hc:cI x y≠0
     ·rw[Qb hc] at h;by_cases hd:cI y z≠0
      ·rw[Qb hd] at k
       have:=hs.trans _ _ _ h k
       rw[Qb (by omega)];exact this
      ·have e:=rq (Decidable.not_not.1 hd);rw[<-e,Qb hc];exact h
     ·rw[Qc hc] at h;have e:=rq (Decidable.not_not.1 hc);by_cases hd:cI y z≠0
      ·rw[Qb hd] at k;rw[e,Qb hd];exact k
      ·rw[Qc hd] at k;rw[e,Qc hd];exact ih m n h k
theorem fx:TO aH:=by
 have:=toR.of back (λ_ _ h=>zU h)
 have e:aH=λx y=>cK (back x) (back y):=by funext x y;exact zZ x y
 rw[e];exact this
def fp(a b:List UInt8×Int):Int:=if aH a.1 b.1≠0 then aH a.1 b.1 else cO a.2 b.2
theorem yF:TO fp:=fx.lex toI (λd:List UInt8×Int=>d.1) (λd=>d.2) (λ_ _ h k=>Prod.ext h k)
def eN(s:DSet):List UInt8×Int:=(s.name,s.type)
theorem GF(a b:DSet):gR a b=fp (eN a) (eN b):=CY a b
theorem YW{α:Type}{c:α->α->Int}(h:TO c)(x y z:α):(!decide (c y x<0))=true->(!decide (c z y<0))=true->(!decide (c z x<0))=true:=by
 simp only[Bool.not_eq_true',decide_eq_false_iff_not,Int.not_lt];intro h1 h2;apply Decidable.byContradiction;intro h3;have h4:c z x<0:=by omega
 rcases Int.lt_or_eq_of_le h1 with h5 | h5
 ·have:=h.trans _ _ _ h4 (h.anti' _ _ h5);omega
 ·have:=h.zero _ _ h5.symm;subst this;omega
theorem YV{α:Type}{c:α->α->Int}(h:TO c)(x y:α):((!decide (c y x<0))||(!decide (c x y<0)))=true:=by
 by_cases h1:c y x<0
 ·have:=h.anti _ _ h1
  have:¬ c x y<0:=by omega
  simp[this]
 ·simp[h1]
theorem o8{s z:List UInt8}(hz:z≠[]):bi s z=true↔back z <+: back s:=by
 rw[<-yn hz,OC,<-BQ,<-BQ];constructor
 ·rintro⟨p,h⟩;exact⟨p.reverse,by rw[h,List.reverse_append]⟩
 ·rintro⟨p,h⟩;refine⟨p.reverse,?_⟩
  have:=Qd List.reverse h
  simpa using this.symm
theorem Pq:∀ (c n:List (List UInt8)),c <+: n->cK c n<=0
 | [],[],_=>by simp[cK]
 | [],_::_,_=>by simp[cK]
 | x::c,[],h=>by have:=h.length_le;simp at this
 | x::c,y::n,h=>by
   obtain⟨rfl,h2⟩:=List.cons_prefix_cons.1 h;rw[cK,uN,Qc (by simp)];exact Pq c n h2
theorem Pp:∀ (c a b:List (List UInt8)),c <+: b->cK c a<=0->cK a b<=0->c <+: a
 | [],a,b,_,_,_=>List.nil_prefix
 | x::c,[],b,_,h,_=>by simp[cK] at h
 | x::c,y::a,[],h,_,_=>by have:=h.length_le;simp at this
 | x::c,y::a,z::b,h,h1,h2=>by
   obtain⟨rfl,h3⟩:=List.cons_prefix_cons.1 h;rw[cK] at h1 h2;by_cases cB:cI x y=0
   ·have e:=rq cB;subst e;rw[uN,Qc (by simp)] at h1 h2;exact List.cons_prefix_cons.2 ⟨rfl,Pp c a b h3 h1 h2⟩
   ·rw[Qb cB] at h1
    have:=toS.anti x y (by omega)
    rw[Qb (by omega)] at h2;omega
theorem EK{s z:List UInt8}(hz:z≠[])(h:bi s z=true):aH z s<=0:=by
 rw[zZ];exact Pq _ _ ((o8 hz).1 h)
theorem JK{c a b:List UInt8}(hc:c≠[])(h:bi b c=true)(h1:aH c a<=0)(h2:aH a b<=0):bi a c=true:=by
 rw[zZ] at h1 h2;exact (o8 hc).2 (Pp _ _ _ ((o8 hc).1 h) h1 h2)
theorem JL{a b c:List UInt8}(hb:b≠[])(hc:c≠[])(h1:bi a b=true)(h2:bi b c=true):bi a c=true:=
 (o8 hc).2 (((o8 hc).1 h2).trans ((o8 hb).1 h1))
theorem EL(a:List UInt8):bi a a=true:=by simp[bi]
theorem QB{n a b:List UInt8}(ha:a≠[])(hb:b≠[])(h1:bi n a=true)(h2:bi n b=true):bi a b=true\/bi b a=true:=by
 rcases List.prefix_or_prefix_of_prefix ((o8 ha).1 h1) ((o8 hb).1 h2) with h | h
 ·exact .inr ((o8 ha).2 h)
 ·exact .inl ((o8 hb).2 h)
def je(C:List UInt8->Bool)(n o:List UInt8):Prop:=
 (o = []/\∀ c,C c=true->bi n c=false)\/(C o=true/\bi n o=true/\∀ c,C c=true->bi o c=true->c=o)
theorem je.unique{C:List UInt8->Bool}(hC:∀ c,C c=true->c≠[]){n a b:List UInt8}(ha:je C n a)(hb:je C n b):a=b:=by
 rcases ha with ⟨rfl,ha⟩ | ⟨a1,a2,a3⟩
 ·rcases hb with ⟨rfl,_⟩ | ⟨b1,b2,_⟩
  ·rfl
  ·rw[ha b b1] at b2;cases b2
 ·rcases hb with ⟨rfl,hb⟩ | ⟨b1,b2,b3⟩
  ·rw[hb a a1] at a2;cases a2
  ·rcases QB (hC a a1) (hC b b1) a2 b2 with h | h
   ·exact (a3 b b1 h).symm
   ·exact b3 a a1 h
theorem je.above{C:List UInt8->Bool}(hC:∀ c,C c=true->c≠[]){n o c:List UInt8}(h:je C n o)(hc:C c=true)(hu:bi n c=true):C o=true/\bi n o=true/\bi c o=true:=by
 rcases h with ⟨_,h⟩ | ⟨h1,h2,h3⟩
 ·rw[h c hc] at hu;cases hu
 ·refine⟨h1,h2,?_⟩;rcases QB (hC o h1) (hC c hc) h2 hu with h | h
  ·rw[h3 c hc h];exact EL o
  ·exact h
def dK(C:List UInt8->Bool)(cut n:List UInt8):List UInt8:=
 if (if cut≠[]/\bi n cut=false then [] else cut) = []/\C n=true then n else if cut≠[]/\bi n cut=false then [] else cut
theorem Qr{C:List UInt8->Bool}{n:List UInt8}(h:∀ c,C c=true->bi n c=true->c=n):je C n (if C n=true then n else []):=by
 split
 ·rename_i hn;exact .inr ⟨hn,EL n,h⟩
 ·rename_i hn;refine .inl ⟨rfl,λc hc=>?_⟩
  cases hu:bi n c with
  | false=>rfl
  | true=>rw[<-h c hc hu] at hn;exact absurd hc hn
theorem apK{C:List UInt8->Bool}(hC:∀ c,C c=true->c≠[]){n:List UInt8}(bG:∀ c,C c=true->¬ aH c n<0):je C n (dK C [] n):=by
 have h:=Qr (n:=n) (λc hc hu=>by
  have h1:=EK (hC c hc) hu;have h2:=bG c hc;exact CX (by omega))
 have e:dK C [] n=if C n=true then n else []:=by simp[dK]
 rw[e];exact h
theorem apX{C:List UInt8->Bool}(hC:∀ c,C c=true->c≠[]){m cut n:List UInt8}(hm:je C m cut)(gH:aH m n<=0)(bG:∀ c,C c=true->aH c n<0->aH c m<=0):je C n (dK C cut n):=by
 by_cases hcut:cut≠[]/\bi n cut=true
 ·have e:dK C cut n=cut:=by simp[dK,hcut.1,hcut.2]
  rw[e];rcases hm with ⟨h,_⟩ | ⟨h1,_,h3⟩
  ·exact absurd h hcut.1
  ·exact .inr ⟨h1,hcut.2,h3⟩
 ·have nI:∀ c,C c=true->bi n c=true->c=n:=λc hc hu=>by
   refine Classical.byContradiction λhne=>hcut ?_;have h1:=EK (hC c hc) hu;have aa:aH c n<0:=by
    rcases Int.lt_or_eq_of_le h1 with h | h
    ·exact h
    ·exact absurd (CX h) hne
   have h2:=JK (hC c hc) hu (bG c hc aa) gH;obtain⟨a1,_,a3⟩:=hm.above hC hc h2;exact⟨hC _ a1,JL (hC c hc) (hC _ a1) hu a3⟩
  have h:=Qr nI;have e:dK C cut n=if C n=true then n else []:=by
   unfold dK;by_cases h0:cut = []
   ·subst h0;simp
   ·have:bi n cut=false:=by
     cases hu:bi n cut with
     | false=>rfl
     | true=>exact absurd ⟨h0,hu⟩ hcut
    simp[h0,this]
  rw[e];exact h
structure Lt(C:List UInt8->Bool)(H:List (List UInt8)):Prop where
 cut:∀ h∈H,C h=true/\∀ c,C c=true->bi h c=true->c=h
 sorted:H.Pairwise λa b=>aH a b<0
theorem WA{C:List UInt8->Bool}(hC:∀ c,C c=true->c≠[]){H:List (List UInt8)}(hH:Lt C H){n:List UInt8}(bG:∀ h,C h=true->(∀ c,C c=true->bi h c=true->c=h)->aH h n<=0->h∈H){k:Nat}(hk:k<=H.length)(h1:∀ j (hj:j<H.length),j<k->aH H[j] n<=0)(h2:∀ j (hj:j<H.length),k<=j->0<aH H[j] n) :
 je C n (if h:0<k/\bi n (H[k - 1]?.getD [])=true then H[k - 1]?.getD [] else []):=by
 have gI:∀ c,C c=true->bi n c=true->(∀ d,C d=true->bi c d=true->d=c)->0<k/\∃ bT:k - 1<H.length,H[k - 1]=c:=λc hc hu ht=>by
  have gH:=EK (hC c hc) hu;obtain⟨j,hj,rfl⟩:=nQ.1 (bG c hc ht gH);have tj:j<k:=by
   refine Nat.lt_of_not_le λh=>?_
   have:=h2 j hj h
   omega
  refine⟨by omega,by omega,?_⟩;rcases Nat.lt_or_ge j (k - 1) with h | h
  ·have h3:=List.pairwise_iff_getElem.1 hH.sorted j (k - 1) hj (by omega) h;have h4:=h1 (k - 1) (by omega) (by omega);have h5:=JK (hC _ hc) hu (by omega) h4;have h6:=(hH.cut _ (List.getElem_mem (show k - 1<H.length by omega))).2 _ hc h5;exact h6.symm
  ·obtain rfl:j=k - 1:=by omega
   rfl
 split
 ·rename_i h;obtain⟨h0,h⟩:=h;have hl:k - 1<H.length:=by omega
  rw[aQ hl] at h |-;obtain⟨a,b⟩:=hH.cut _ (List.getElem_mem hl);exact .inr ⟨a,h,b⟩
 ·rename_i h;refine .inl ⟨rfl,λc hc=>?_⟩
  cases hu:bi n c with
  | false=>rfl
  | true=>
   exfalso;have hex:∀ (m:Nat) (c:List UInt8),(back c).length<=m->C c=true->bi n c=true->∃ t,C t=true/\bi n t=true/\∀ d,C d=true->bi t d=true->d=t:=by
    intro m
    induction m with
    | zero=>
     intro c hm hc hu;refine⟨c,hc,hu,λd hd Hu=>?_⟩;have h3:=((o8 (hC d hd)).1 Hu);exact zU (h3.eq_of_length_le (by omega))
    | succ m ih=>
     intro c hm hc hu;by_cases ht:∀ d,C d=true->bi c d=true->d=c
     ·exact⟨c,hc,hu,ht⟩
     ·obtain⟨d,hd⟩:=Classical.not_forall.1 ht;obtain⟨fG,hd⟩:=Classical.not_imp.1 hd;obtain⟨kZ,Hz⟩:=Classical.not_imp.1 hd;have h3:=((o8 (hC d fG)).1 kZ);refine ih d ?_ fG (JL (hC c hc) (hC d fG) hu kZ);refine Nat.le_of_lt_succ (lQ (Nat.lt_of_not_le λhl=>Hz (zU (h3.eq_of_length_le hl))) hm)
   obtain⟨t,t1,t2,t3⟩:=hex _ c (bQ _) hc hu;obtain⟨p1,p2,p3⟩:=gI t t1 t2 t3;refine h ⟨p1,?_⟩;rw[aQ p2,p3];exact t2
end Np
section
open Go.RowKit
theorem aiQ{a b:Bool}(h:a=b):Ending.returned (.tuple #[.bool a,.int .i64 0]) = .returned (.tuple #[.bool b,.int .i64 0]):=by rw[h]
def Np.yE(s z:ByteArray):Bool:=decide (z.size<=s.size)&&((s.extract (s.size - z.size) s.size).toList == z.toList)
def Np.under(s z:ByteArray):Bool:=(s.toList == z.toList)||(z.toList == [46])||(decide (z.size<s.size)&&Np.yE s z&&((s.data.toList[s.size - z.size - 1]?).map UInt8.toNat == some 46))
theorem aqJ(s z:ByteArray)(h:z.size<=s.size):Np.yE s z=(s.data.toList.drop (s.data.toList.length - z.data.toList.length) == z.data.toList):=by
 unfold Np.yE;rw[uQ h,Bool.true_and,dQ,dQ,C4,aX,aX]
theorem asJ(s z:ByteArray):Np.under s z=Np.bi s.data.toList z.data.toList:=by
 unfold Np.under Np.bi;rw[dQ,dQ,aX,aX];congr 1;by_cases h:z.size<s.size
 ·rw[aqJ s z (by omega),aX,aX,uQ h];congr 1;have e:s.data.toList[s.size - z.size - 1]?=some (s[s.size - z.size - 1]'(by omega)):=xN s _ (by omega);rw[e];simp only[Option.map_some];rw[Bool.eq_iff_iff];simp only[beq_iff_eq,Option.some.injEq];constructor
  ·intro h;apply UInt8.toNat_inj.1;rw[h];rfl
  ·intro h;rw[h];rfl
 ·rw[tQ h];rfl
theorem VM(s z:ByteArray)(hs:s.size<=140737488355328)(hz:z.size<=140737488355328)(w:World) :
 Calls prog 320 #[.string s,.string z] w λe w'=>e = .returned (.bool (Np.yE s z))/\w'=w:=by
 go_enter func320,ntmps320;go_wp2_with fail
 all_goals
  go_ret;refine⟨ag ?_,rfl⟩;simp_all [Np.yE] <;> (intros;omega)
theorem VL(s z:ByteArray)(hs:s.size<=140737488355328)(hz:z.size<=140737488355328)(w:World) :
 Calls prog 250 #[.string s,.string z] w λe w'=>e = .returned (.bool (Np.yE s z))/\w'=w:=by
 go_enter func250,ntmps250;go_wp2_with (go_at_call 320;refine (VM s z hs hz _).mono ?_;rintro e w' ⟨rfl,rfl⟩);go_ret;exact⟨rfl,rfl⟩
theorem B4(s z:ByteArray)(hs:s.size<=140737488355328)(hz:z.size<=140737488355328)(w:World)(v1:Np.aA s.data.toList=true)(v2:Np.aA z.data.toList=true) :
 Calls prog 184 #[.string s,.string z] w (aFQ w.heap.size w (.tuple #[.bool (Np.bi s.data.toList z.data.toList),.int .i64 0])):=by
 rw[<-asJ];have V1:=jq v1;have V2:=jq v2;clear v1 v2;go_enter func184,ntmps184;go_wp2_with (first
  | (go_at_call 175;have v1:=V1.out;clear V1;refine (valid_any s hs _).mono ?_;rintro e w1 ⟨rfl,hb⟩;rw[v1];clear v1;have aq:=jq hb;clear hb)
  | (go_at_call 175;have v2:=V2.out;clear V2;refine (valid_any z hz _).mono ?_;rintro e w2 ⟨rfl,hb⟩;rw[v2];clear v2;have ai:=jq hb;clear hb)
  | (go_at_call 250;refine (VL s z hs hz _).mono ?_;rintro e w3 ⟨rfl,rfl⟩))
 all_goals
  go_ret2;refine⟨aiQ ?_,aq.out.trans (ai.out.mono aq.out.size)⟩;simp_all [Np.under,dQ]
 ·rename_i _ h1 h2 h3 _;have e1:(s.data == z.data)=false:=by simpa using h1
  have e2:(z.data.toList == [46])=false:=by simpa using h2
  have e3:s.data[s.size - z.size - 1]?=some s[s.size - z.size - 1]:=pQ (by simp;omega);rw[e1,e2,e3,Bool.eq_iff_iff];simp;omega
 ·intros;omega
theorem QC(s z:ByteArray)(hs:s.size<=140737488355328)(w:World)(v1:Np.aA s.data.toList=false) :
 Calls prog 184 #[.string s,.string z] w (aFQ w.heap.size w (.tuple #[.bool false,.int .i64 11])):=by
 have V1:=jq v1;clear v1;go_enter func184,ntmps184;go_wp2_with fail;refine (valid_any s hs _).mono ?_;rintro e w1 ⟨rfl,hb⟩;rw[V1.out];have aq:=jq hb;clear hb;go_wp2_with fail;go_ret2;exact⟨rfl,aq.out⟩
theorem Q0(s1 s2:ByteArray)(bp:s1.size<=140737488355328)(iX:s2.size<=140737488355328)(t1 t2:Int)(n1:Np.aA s1.data.toList=true)(n2:Np.aA s2.data.toList=true)(w:World) :
 Calls prog 270 #[.string s1,.int .i64 t1,.string s2,.int .i64 t2] w
  λe w'=>e = .returned (.int .i64 (Np.fp (s1.data.toList,t1) (s2.data.toList,t2)))/\Below w.heap.size w w':=by
 have hv:cmpVal s1.data.toList s2.data.toList = .tuple #[.int .i64 (Np.aH s1.data.toList s2.data.toList),.int .i64 0]:=by rw[cmpVal,n1,n2];rfl
 have HV:=jq hv;clear hv n1 n2;by_cases h:s1.data.toList=s2.data.toList
 ·have he:(!s1.toList == s2.toList)=false:=by rw[dQ,dQ,h];simp
  have hc:Np.fp (s1.data.toList,t1) (s2.data.toList,t2)=Np.cO t1 t2:=by unfold Np.fp;dsimp only;rw[h,Np.Ab,Qc (by simp)]
  rw[hc];clear hc h;go_enter func270,ntmps270;go_wp2_with (go_at_call 123;refine (zY _ _ _).mono ?_;rintro e w' ⟨rfl,rfl⟩);go_ret;exact⟨rfl,vQ _ _⟩
 ·have he:(!s1.toList == s2.toList)=true:=by rw[dQ,dQ];simpa using h
  have hc:Np.fp (s1.data.toList,t1) (s2.data.toList,t2)=Np.aH s1.data.toList s2.data.toList:=by unfold Np.fp;dsimp only;rw[Qb (λe=>h (Np.CX e))]
  rw[hc];clear hc h;go_enter func270,ntmps270;go_wp2_with fail;refine (compare_any s1 s2 bp iX _).mono ?_;rintro e w1 ⟨rfl,hb⟩;rw[HV.out];have HB:=jq hb;clear hb;go_wp2_with fail;go_ret;exact⟨rfl,HB.out⟩
theorem EM{s:Np.DSet}(h:Np.cN s=true):Np.aA s.name=true:=by
 unfold Np.cN at h;simp only[Bool.and_eq_true] at h;exact h.1.1.1.1.1.1
end
namespace Np
def cR(z:Zone)(n:List UInt8):Bool:=z.sets.any λx=>decide (x.set.type=2)&&!(x.set.name == z.apex)&&x.set.name == n
theorem GG{z:Zone}{n:List UInt8} : cR z n=true↔∃ x∈z.sets,x.set.type=2/\x.set.name≠z.apex/\x.set.name=n:=by
 unfold cR;rw[List.any_eq_true];constructor
 ·rintro⟨x,hx,h⟩;simp only[Bool.and_eq_true,Qa,Bool.not_eq_true',beq_eq_false_iff_ne,beq_iff_eq] at h;exact⟨x,hx,h.1.1,h.1.2,h.2⟩
 ·rintro⟨x,hx,h1,h2,h3⟩;refine⟨x,hx,?_⟩;rw[h3] at h2 |-;simp[h1,h2]
def oD(C:List UInt8->Bool):List UInt8->List Signed->List (List UInt8)
 | _,[]=>[]
 | cut,x::r=>dK C cut x.set.name::oD C (dK C cut x.set.name) r
def ea(z:Zone):List (List UInt8):=oD (cR z) [] z.sets
theorem LW(C:List UInt8->Bool):∀ (cut:List UInt8) (l:List Signed),(oD C cut l).length=l.length
 | _,[]=>rfl
 | cut,x::r=>by rw[oD,List.length_cons,LW,List.length_cons]
theorem sX(z:Zone):(ea z).length=z.sets.length:=LW _ _ _
structure InOrder(z:Zone):Prop where
 order:(z.sets.map (·.set)).Pairwise λa b=>gR a b<0
 name:∀ x∈z.sets,x.set.name≠[]
 type:∀ x∈z.sets,x.set.type<=8
theorem L6{a b:DSet}(h:gR a b<0):aH a.name b.name<=0:=by
 rw[CY] at h;split at h
 ·omega
 ·rename_i h0;have:=Decidable.not_not.1 h0;omega
theorem L7{a b:DSet}(h:gR a b<0)(he:a.name=b.name):a.type<b.type:=by
 rw[CY,he,Ab,Qc (by simp)] at h;unfold cO at h;split at h
 ·assumption
 ·split at h <;> omega
theorem InOrder.names{z:Zone}(h:InOrder z){i j:Nat}(dp:i<j)(hj:j<z.sets.length):aH (z.sets[i]'(by omega)).set.name (z.sets[j]).set.name<=0:=by
 have:=List.pairwise_iff_getElem.1 h.order i j (by simp;omega) (by simpa using hj) dp
 rw[List.getElem_map,List.getElem_map] at this;exact L6 this
theorem InOrder.types{z:Zone}(h:InOrder z){i j:Nat}(dp:i<j)(hj:j<z.sets.length)(he:(z.sets[i]'(by omega)).set.name=(z.sets[j]).set.name):(z.sets[i]'(by omega)).set.type<(z.sets[j]).set.type:=by
 have:=List.pairwise_iff_getElem.1 h.order i j (by simp;omega) (by simpa using hj) dp
 rw[List.getElem_map,List.getElem_map] at this;exact L7 this he
theorem Zg{a b c:List UInt8}(h1:aH a b<=0)(h2:aH b c<=0)(he:a=c):b=a:=by
 subst he;by_cases h:aH a b<0
 ·have:=fx.anti _ _ h;omega
 ·exact (fx.zero _ _ (by omega)).symm
theorem Ae{z:Zone}(h:InOrder z):∀ c,cR z c=true->c≠[]:=λc hc=>by
 obtain⟨x,hx,_,_,rfl⟩:=GG.1 hc;exact h.name x hx
theorem Mg{z:Zone}(h:InOrder z){c:List UInt8}(hc:cR z c=true){i:Nat}(hi:i<z.sets.length)(aa:aH c (z.sets[i]).set.name<0):∃ j,∃ hj:j<i,(z.sets[j]'(by omega)).set.name=c:=by
 obtain⟨x,hx,_,_,rfl⟩:=GG.1 hc;obtain⟨j,hj,rfl⟩:=nQ.1 hx;refine⟨j,?_,rfl⟩;refine Nat.lt_of_not_le λdp=>?_;rcases Nat.lt_or_eq_of_le dp with hl | rfl
 ·have h1:=h.names hl hj;have h2:=fx.anti _ _ aa;omega
 ·rw[Ab] at aa;omega
theorem LX{z:Zone}(h:InOrder z):∀ (l:List Signed) (i:Nat) (cut:List UInt8),z.sets.drop i=l->i<=z.sets.length->(i=0/\cut = []\/∃ hi:i - 1<z.sets.length,0<i/\je (cR z) (z.sets[i - 1]).set.name cut)->∀ (k:Nat) (x:Signed) (b:List UInt8),l[k]?=some x->(oD (cR z) cut l)[k]?=some b->je (cR z) x.set.name b
 | [],_,_,_,_,_,k,x,b,hx,_=>by simp at hx
 | y::l,i,cut,hd,hi,hc,k,x,b,hx,hb=>by
   have ed:i<z.sets.length:=by
    have:=Qd List.length hd
    simp at this;omega
   have hy:z.sets[i]=y:=by
    have:=List.getElem?_drop (xs:=z.sets) (i:=i) (j:=0)
    rw[hd,Nat.add_zero,aQ ed] at this;simpa using this.symm
   have hd':z.sets.drop (i+1)=l:=by
    have:=Qd (List.drop 1) hd
    rw[List.drop_drop] at this;simpa using this
   have Oj:je (cR z) y.set.name (dK (cR z) cut y.set.name):=by
    rcases hc with ⟨rfl,rfl⟩ | ⟨h1,h0,hc⟩
    ·refine apK (Ae h) (λc td aa=>?_);rw[<-hy] at aa;obtain⟨j,hj,_⟩:=Mg h td ed aa;omega
    ·refine apX (Ae h) hc ?_ (λc td aa=>?_)
     ·rw[<-hy];exact h.names (by omega) ed
     ·rw[<-hy] at aa;obtain⟨j,hj,WG⟩:=Mg h td ed aa;rw[<-WG];rcases Nat.lt_or_eq_of_le (show j<=i - 1 by omega) with hl | he
      ·exact h.names hl h1
      ·subst he;rw[Ab];exact Int.le_refl 0
   cases k with
   | zero=>
    simp only[oD,List.getElem?_cons_zero,Option.some.injEq] at hx hb;rw[<-hx,<-hb];exact Oj
   | succ k=>
    simp only[oD,List.getElem?_cons_succ] at hx hb;exact LX h l (i+1) _ hd' ed (.inr ⟨by simpa using ed,by omega,by simpa [hy] using Oj⟩) k x b hx hb
theorem TB{z:Zone}(h:InOrder z){i:Nat}{x:Signed}{b:List UInt8}(hx:z.sets[i]?=some x)(hb:(ea z)[i]?=some b):je (cR z) x.set.name b:=
 LX h z.sets 0 [] rfl (jQ _) (.inl ⟨rfl,rfl⟩) i x b hx hb
theorem TC{z:Zone}(h:InOrder z){B:List (List UInt8)}(hl:B.length=z.sets.length)(hB:∀ (i:Nat) (x:Signed) (b:List UInt8),z.sets[i]?=some x->B[i]?=some b->je (cR z) x.set.name b):B=ea z:=by
 refine List.ext_getElem (hl.trans (sX z).symm) λi h1 h2=>?_;have hi:i<z.sets.length:=by omega
 exact je.unique (Ae h) (hB i _ _ (aQ hi) (aQ h1)) (TB h (aQ hi) (aQ h2))
def jC(t:Int)(at':Bool):Bool:=if t=3\/t=6 then !at' else if t=4\/t=7 then at' else true
structure SigOk(apex:List UInt8)(l:List Sig)(i:Nat)(g:Sig):Prop where
 zone:g.zone=apex
 key:1<=g.key/\g.key<=1000000
 alg:1<=g.alg/\g.alg<=3
 win:0<=g.frm/\g.frm<=g.til/\g.til<=20000000
 same:∀ a,l[0]?=some a->g.frm=a.frm/\g.til=a.til
 up:∀ p,l[i - 1]?=some p->0<i->p.key<g.key
def dY(apex:List UInt8)(l:List Sig):Prop:=l.length<=6/\∀ i g,l[i]?=some g->SigOk apex l i g
def jY(x:DSet)(b:List UInt8):Prop:=(b = []->x.type≠6)/\(b≠[]->b=x.name->x.type=2\/x.type=6\/x.type=8\/x.type=1)/\(b≠[]->b≠x.name->x.type=1)
structure VZone(z:Zone):Prop where
 right:fh z=true
 few:z.sets.length<=20000
 start:∃ x∈z.sets,x.set.name=z.apex/\x.set.type=4
 server:∃ x∈z.sets,x.set.name=z.apex/\x.set.type=2
 fits:∀ x∈z.sets,jC x.set.type (x.set.name == z.apex)=true
 aliasBefore:∀ i (hi:i+1<z.sets.length),(z.sets[i+1]).set.type=3->(z.sets[i]).set.name≠(z.sets[i+1]).set.name
 aliasBehind:∀ i (hi:i+1<z.sets.length),(z.sets[i]).set.type=3->(z.sets[i+1]).set.name=(z.sets[i]).set.name->(z.sets[i+1]).set.type=8
 cuts:∀ (i:Nat) (x:Signed) (b:List UInt8),z.sets[i]?=some x->(ea z)[i]?=some b->jY x.set b
 sigs:∀ (i:Nat) (x:Signed) (b:List UInt8),z.sets[i]?=some x->(ea z)[i]?=some b->b≠[]->x.set.type=2\/x.set.type=1->x.sigs = []
 form:∀ x∈z.sets,dY z.apex x.sigs
theorem VZone.inOrder{z:Zone}(h:fh z=true):InOrder z:=by
 unfold fh at h;simp only[Bool.and_eq_true] at h;have ay:∀ (l:List Signed) (p:Option DSet),jD z.apex p l=true->(p.toList++l.map (·.set)).Pairwise (λa b=>gR a b<0)/\∀ x∈l,cN x.set=true:=by
  intro l
  induction l with
  | nil=>intro p _;cases p <;> simp
  | cons x l ih=>
   intro p h;unfold jD at h;rw[Bool.and_eq_true,Bool.and_eq_true,Bool.and_eq_true,Bool.and_eq_true] at h;obtain⟨i1,i2⟩:=ih (some x.set) h.2;have i1:(x.set::l.map (·.set)).Pairwise (λa b=>gR a b<0):=i1;refine⟨?_,λy hy=>?_⟩
   ·cases p with
    | none=>exact i1
    | some q=>
     have h2:gR q x.set<0:=by simpa using h.1.2
     refine List.pairwise_cons.2 ⟨λy hy=>?_,i1⟩;rcases List.mem_cons.1 hy with e | hy
     ·rw[e];exact h2
     ·have h3:=(List.pairwise_cons.1 i1).1 y hy;rw[GF] at h2 h3 |-;exact yF.trans _ _ _ h2 h3
   ·rcases List.mem_cons.1 hy with e | hy
    ·subst e;exact h.1.1.2
    ·exact i2 y hy
 obtain⟨h1,h2⟩:=ay _ none h.2;refine⟨h1,λx hx=>?_,λx hx=>?_⟩
 ·have hv:=(qY (h2 x hx)).1;intro e;rw[e] at hv;exact absurd hv (by decide)
 ·exact (qY (h2 x hx)).2.2.1
def nR(l:List Signed):List UInt8:=l.foldl (λa x=>if x.set.type=3 then x.set.name else a) []
structure RZoneOk(z:Zone):Prop where
 right:fh z=true
 few:z.sets.length<=20000
 start:∃ x∈z.sets,x.set.name=z.apex/\x.set.type=4
 server:∃ x∈z.sets,x.set.name=z.apex/\x.set.type=2
 fits:∀ x∈z.sets,jC x.set.type (x.set.name == z.apex)=true
 three:∀ i (hi:i+1<z.sets.length),(z.sets[i]).set.name=(z.sets[i+1]).set.name->(z.sets[i+1]).set.type≠3/\(nR (z.sets.take (i+2))=(z.sets[i+1]).set.name->(z.sets[i+1]).set.type=8)
 cuts:∀ (i:Nat) (x:Signed) (b:List UInt8),z.sets[i]?=some x->(ea z)[i]?=some b->jY x.set b
 sigs:∀ (i:Nat) (x:Signed) (b:List UInt8),z.sets[i]?=some x->(ea z)[i]?=some b->b≠[]->x.set.type=2\/x.set.type=1->x.sigs = []
 form:∀ x∈z.sets,dY z.apex x.sigs
theorem I9(l:List Signed)(x:Signed):nR (l ++ [x])=if x.set.type=3 then x.set.name else nR l:=by simp[nR]
theorem OY:∀ (l:List Signed) (a:List UInt8),l.foldl (λa x=>if x.set.type=3 then x.set.name else a) a=a\/∃ (j:Nat) (hj:j<l.length),(l[j]).set.type=3/\(l[j]).set.name=l.foldl (λa x=>if x.set.type=3 then x.set.name else a) a
 | [],_=>.inl rfl
 | x::l,a=>by
   rw[List.foldl_cons];rcases OY l (if x.set.type=3 then x.set.name else a) with h | ⟨j,hj,h1,h2⟩
   ·rw[h];split
    ·rename_i ht;exact .inr ⟨0,by simp,ht,rfl⟩
    ·exact .inl rfl
   ·exact .inr ⟨j+1,by simpa using hj,h1,h2⟩
theorem YP(l:List Signed):nR l = []\/∃ (j:Nat) (hj:j<l.length),(l[j]).set.type=3/\(l[j]).set.name=nR l:=OY l []
theorem awQ(z:Zone):VZone z↔RZoneOk z:=by
 constructor
 ·intro h;have ho:=VZone.inOrder h.right;refine⟨h.right,h.few,h.start,h.server,h.fits,λi hi he=>?_,h.cuts,h.sigs,h.form⟩;have h3:(z.sets[i+1]).set.type≠3:=λht=>h.aliasBefore i hi ht he;refine⟨h3,λhl=>?_⟩;rcases YP (z.sets.take (i+2)) with e | ⟨j,hj,j1,j2⟩
  ·rw[e] at hl;exact absurd hl.symm (ho.name _ (List.getElem_mem hi))
  ·rw[List.getElem_take] at j1 j2;rw[hl] at j2;have x8:j<i+2:=by have:=hj;rw[List.length_take] at this;omega
   have vv:j≠i+1:=λe=>by subst e;exact h3 j1
   have nF:j+1<z.sets.length:=by omega
   have oO:(z.sets[j+1]).set.name=(z.sets[j]).set.name:=by
    rcases Nat.lt_or_eq_of_le (show j+1<=i+1 by omega) with hl | ml
    ·exact Zg (ho.names (by omega) nF) (ho.names hl hi) j2
    ·have:j=i:=by omega
     subst this;exact he.symm
   have h8:=h.aliasBehind j nF j1 oO;rcases Nat.lt_or_eq_of_le (show j+1<=i+1 by omega) with hl | ml
   ·have h9:=ho.types hl hi (oO.trans j2);have xO:=ho.type _ (List.getElem_mem hi);omega
   ·have:j=i:=by omega
    subst this;exact h8
 ·intro h;have ho:=VZone.inOrder h.right;refine⟨h.right,h.few,h.start,h.server,h.fits,λi hi ht he=>?_,λi hi ht he=>?_,h.cuts,h.sigs,h.form⟩
  ·exact (h.three i hi he).1 ht
  ·obtain⟨h1,h2⟩:=h.three i hi he.symm;refine h2 ?_;have e1:z.sets.take (i+2)=z.sets.take (i+1) ++ [z.sets[i+1]]:=fQ hi;have e2:z.sets.take (i+1)=z.sets.take i ++ [z.sets[i]]:=fQ (by omega);rw[e1,I9,Qc h1,e2,I9,Qb ht];exact he.symm
end Np
namespace Np
variable {α:Type} [DecidableEq α]
def iC(o:List α)(x:α):List α:=if x∈o then o else o ++ [x]
def dg(l:List α):List α:=l.foldl iC []
theorem Y5{o:List α}{x y:α} : y∈iC o x↔y∈o\/y=x:=by
 unfold iC;split
 ·rename_i h;constructor
  ·exact .inl
  ·rintro (h1 | rfl);exact h1;exact h
 ·simp
theorem Zm{o:List α}{x:α}(h:o.Nodup):(iC o x).Nodup:=by
 unfold iC;split
 ·exact h
 ·rename_i hx;exact List.nodup_append.2 ⟨h,by simp,λa ha b hb=>by rw[List.mem_singleton] at hb;rintro rfl;exact hx (hb ▸ ha)⟩
theorem O1:∀ (l o:List α) (y:α),y∈l.foldl iC o↔y∈o\/y∈l
 | [],o,y=>by simp
 | x::l,o,y=>by
   rw[List.foldl_cons,O1 l,Y5,List.mem_cons,or_assoc]
theorem O8:∀ (l o:List α),o.Nodup->(l.foldl iC o).Nodup
 | [],_,h=>h
 | _::l,_,h=>O8 l _ (Zm h)
theorem tS{l:List α}{y:α} : y∈dg l↔y∈l:=by unfold dg;rw[O1];simp
theorem yq(l:List α):(dg l).Nodup:=O8 l [] List.nodup_nil
theorem yH(l:List α)(x:α):dg (l ++ [x])=iC (dg l) x:=by simp[dg]
theorem CP{o:List α}{x:α}(h:x∈o):iC o x=o:=Qb h
theorem ua(l:List α):(dg l).length<=l.length:=by
 have:∀ (l o:List α),(l.foldl iC o).length<=o.length+l.length:=by
  intro l
  induction l with
  | nil=>intro o;simp
  | cons x l ih=>
   intro o;have h:=ih (iC o x);have h2:(iC o x).length<=o.length+1:=by unfold iC;split <;> simp
   rw[List.foldl_cons,List.length_cons];omega
 have h:=this l [];simpa [dg] using h
omit [DecidableEq α] in
theorem JF{c:α->α->Int}(hc:TO c):∀ (l m:List α),l.Pairwise (λa b=>c a b<0)->m.Pairwise (λa b=>c a b<0)->(∀ x,x∈l↔x∈m)->l=m
 | [],[],_,_,_=>rfl
 | [],b::m,_,_,h=>by have:=(h b).2 (by simp);cases this
 | a::l,[],_,_,h=>by have:=(h a).1 (by simp);cases this
 | a::l,b::m,hl,hm,h=>by
   obtain⟨l1,l2⟩:=List.pairwise_cons.1 hl;obtain⟨m1,m2⟩:=List.pairwise_cons.1 hm;have e:a=b:=by
    rcases List.mem_cons.1 ((h a).1 (by simp)) with e | h1
    ·exact e
    ·rcases List.mem_cons.1 ((h b).2 (by simp)) with e | h2
     ·exact e.symm
     ·have:=hc.anti _ _ (l1 b h2)
      have:=m1 a h1
      omega
   subst e;rw[JF hc l m l2 m2 (λx=>by
    constructor
    ·intro hx;rcases List.mem_cons.1 ((h x).1 (mQ _ hx)) with e | h1
     ·subst e;have:=l1 x hx;rw[hc.self] at this;omega
     ·exact h1
    ·intro hx;rcases List.mem_cons.1 ((h x).2 (mQ _ hx)) with e | h1
     ·subst e;have:=m1 x hx;rw[hc.self] at this;omega
     ·exact h1)]
def tY(l:List (List UInt8)):List (List UInt8):=l.mergeSort λa b=>!decide (aH b a<0)
theorem EG(l:List (List UInt8)):(tY l).Perm l:=List.mergeSort_perm _ _
theorem Jy{l:List (List UInt8)}(h:l.Nodup):(tY l).Pairwise λa b=>aH a b<0:=by
 have hs:(tY l).Pairwise λa b=>(!decide (aH b a<0))=true:=List.pairwise_mergeSort (le:=λa b=>!decide (aH b a<0)) (λx y z=>YW fx x y z) (λx y=>YV fx x y) l;have hn:(tY l).Nodup:=(EG l).nodup_iff.2 h;refine (hs.and hn).imp λ{a b} ⟨h1,h2⟩=>?_;have h3:¬ aH b a<0:=by simpa using h1
 refine Int.lt_of_not_ge λh4=>?_;by_cases h5:0<aH a b
 ·exact h3 (fx.anti' _ _ h5)
 ·exact h2 (fx.zero _ _ (by omega))
def eP:List (List UInt8)->List UInt8->List (List UInt8)
 | [],a=>[a]
 | x::l,a=>if aH x a<0 then x::eP l a else if x=a then x::l else a::x::l
theorem Px:∀ (l:List (List UInt8)) (a:List UInt8),l.Pairwise (λa b=>aH a b<0)->(eP l a).Pairwise (λa b=>aH a b<0)/\∀ y,y∈eP l a↔y∈l\/y=a
 | [],a,_=>⟨by simp[eP],λy=>by simp[eP]⟩
 | x::l,a,h=>by
   obtain⟨h1,h2⟩:=List.pairwise_cons.1 h;rw[eP];split
   ·rename_i aa;obtain⟨i1,i2⟩:=Px l a h2;refine⟨List.pairwise_cons.2 ⟨λy hy=>?_,i1⟩,λy=>?_⟩
    ·rcases (i2 y).1 hy with hy | rfl
     ·exact h1 y hy
     ·exact aa
    ·rw[List.mem_cons,i2,List.mem_cons,or_assoc]
   ·rename_i aa;split
    ·rename_i he;subst he;refine⟨h,λy=>?_⟩;constructor
     ·exact .inl
     ·rintro (hy | rfl);exact hy;simp
    ·rename_i hne;have xU:aH a x<0:=by
      by_cases h0:0<aH x a
      ·exact fx.anti' _ _ h0
      ·exact absurd (fx.zero _ _ (by omega)) hne
     refine⟨List.pairwise_cons.2 ⟨λy hy=>?_,h⟩,λy=>?_⟩
     ·rcases List.mem_cons.1 hy with e | hy
      ·subst e;exact xU
      ·exact fx.trans _ _ _ xU (h1 y hy)
     ·rw[List.mem_cons,Or.comm]
end Np
namespace Np
structure Host where
 name:List UInt8
 addr:Int
 owner:Int
deriving DecidableEq
structure Copy where
 host:Int
 frm:Int
 til:Int
 zone:Zone
deriving DecidableEq
structure Placed where
 host:Int
 zone:Zone
deriving DecidableEq
structure Held where
 zone:List UInt8
 signed:Signed
 fresh:List Span
 spans:List Span
deriving DecidableEq
structure Hist where
 hosts:List Host
 copies:List Copy
 anchor:DSet
 hints:List Int
 drift:Int
 stop:Int
structure WorldP where
 hosts:List Host
 zones:List Placed
 anchor:DSet
 hints:List Int
noncomputable def yes(P:Prop):Bool:=@decide P (Classical.propDecidable P)
theorem ba{P:Prop}(h:P):yes P=true:=by unfold yes;exact @uQ _ (Classical.propDecidable P) h
theorem aC{P:Prop}(h:¬ P):yes P=false:=by unfold yes;exact @tQ _ (Classical.propDecidable P) h
theorem fj{P:Prop} : yes P=true↔P:=by unfold yes;exact @decide_eq_true_iff _ (Classical.propDecidable P)
theorem sw{P Q:Prop}(h:P↔Q):yes P=yes Q:=by rw[Bool.eq_iff_iff,fj,fj];exact h
structure HostOk(h:Host):Prop where
 name:aA h.name=true
 wild:dP h.name=false
 addr:1<=h.addr/\h.addr<=1000000
 owner:0<=h.owner/\h.owner<=31
structure VHosts(l:List Host):Prop where
 few:l.length<=64
 each:∀ h∈l,HostOk h
 addrs:(l.map (·.addr)).Nodup
structure VRoot(a:DSet)(hints:List Int):Prop where
 set:cN a=true
 type:a.type=6
 name:a.name = [46]
 few:1<=hints.length/\hints.length<=8
 each:∀ n∈hints,1<=n/\n<=1000000
structure CopyOk(h:Hist)(c:Copy):Prop where
 host:0<=c.host/\c.host<h.hosts.length
 times:0<=c.frm/\c.frm<c.til/\c.til<=h.stop
 zone:VZone c.zone
def jX(c d:Copy):Prop:=c.host=d.host/\c.zone.apex=d.zone.apex/\c.frm<d.til/\d.frm<c.til
structure VHist(h:Hist):Prop where
 stop:1<=h.stop/\h.stop<=10000000
 drift:0<=h.drift/\h.drift<=1000
 hosts:VHosts h.hosts
 root:VRoot h.anchor h.hints
 each:∀ c∈h.copies,CopyOk h c
 apart:h.copies.Pairwise λc d=>¬ jX c d
structure VWorld(w:WorldP):Prop where
 hosts:VHosts w.hosts
 root:VRoot w.anchor w.hints
 each:∀ p∈w.zones,(0<=p.host/\p.host<w.hosts.length)/\VZone p.zone
 apart:w.zones.Pairwise λp q=>¬ (p.host=q.host/\p.zone.apex=q.zone.apex)
def gX(l:List Span):List Span:=(l.mergeSort λa b=>decide (a.frm<=b.frm)).foldl gm []
theorem OD{l m:List Span}(h:l.Perm m)(t:Int):inS l t↔inS m t:=
 ⟨λ⟨s,hs,k⟩=>⟨s,h.mem_iff.1 hs,k⟩,λ⟨s,hs,k⟩=>⟨s,h.mem_iff.2 hs,k⟩⟩
theorem MF{l:List Span}(hf:∀ s∈l,s.frm<s.til)(hs:l.Pairwise λa b=>a.frm<=b.frm):ApartS (l.foldl gm [])/\∀ t,inS (l.foldl gm []) t↔inS l t:=by
 obtain⟨h1,h2⟩:=QE l [] ApartS.nil hf hs (λp hp=>by cases hp);exact⟨h1,λt=>(h2 t).trans ⟨λh=>h.elim (λh=>absurd h (rZ t)) id,.inr⟩⟩
theorem Qo(l:List Span):(l.mergeSort λa b=>decide (a.frm<=b.frm)).Perm l:=List.mergeSort_perm _ _
theorem anY(l:List Span):(l.mergeSort λa b=>decide (a.frm<=b.frm)).Pairwise λa b=>a.frm<=b.frm:=by
 have:=List.pairwise_mergeSort (le:=λa b:Span=>decide (a.frm<=b.frm)) (λx y z h1 h2=>by simp at *;omega) (λx y=>by simp;omega) l
 exact this.imp λh=>by simpa using h
theorem Ji{l:List Span}(hf:∀ s∈l,s.frm<s.til):ApartS (gX l)/\∀ t,inS (gX l) t↔inS l t:=by
 obtain⟨h1,h2⟩:=MF (λs hs=>hf s ((Qo l).mem_iff.1 hs)) (anY l);exact⟨h1,λt=>(h2 t).trans (OD (Qo l) t)⟩
theorem Jg{l m:List Span}(hf:∀ s∈l,s.frm<s.til)(hm:ApartS m)(ht:∀ t,inS m t↔inS l t):m=gX l:=by
 obtain⟨h1,h2⟩:=Ji hf;exact LN _ _ hm h1 λt=>(ht t).trans (h2 t).symm
theorem Zp{l m:List Span}(hf:∀ s∈l,s.frm<s.til)(hp:m.Perm l)(hs:m.Pairwise λa b=>a.frm<=b.frm):m.foldl gm []=gX l:=by
 obtain⟨h1,h2⟩:=MF (λs hs=>hf s (hp.mem_iff.1 hs)) hs;exact Jg hf h1 λt=>(h2 t).trans (OD hp t)
theorem Zo{l m:List Span}(hl:∀ s∈l,s.frm<s.til)(hm:∀ s∈m,s.frm<s.til)(h:∀ t,inS l t↔inS m t):gX l=gX m:=by
 obtain⟨h1,h2⟩:=Ji hl;exact Jg hm h1 λt=>(h2 t).trans (h t)
def jW(c:Copy):Span:=⟨c.frm,c.til⟩
def uO(l:List Copy)(zone:List UInt8):List Copy:=l.filter λc=>c.zone.apex == zone
def oU(c:Copy):List (Span×Signed):=c.zone.sets.map λs=>(jW c,s)
def dR(l:List Copy)(zone:List UInt8):List (Span×Signed):=(uO l zone).flatMap oU
def gl(ps:List (Span×Signed))(s:Signed):List Span:=(ps.filter λp=>decide (p.2=s)).map (·.1)
def xX(f:List Span->List Span)(zone:List UInt8)(ps:List (Span×Signed)):List Held:=(dg (ps.map (·.2))).map λs=>⟨zone,s,f (gl ps s),[]⟩
theorem EI(ps:List (Span×Signed))(p:Span×Signed)(s:Signed):gl (ps ++ [p]) s=if p.2=s then gl ps s ++ [p.1] else gl ps s:=by
 unfold gl;rw[List.filter_append];by_cases h:p.2=s
 ·simp[h]
 ·simp[h]
theorem arK{ps:List (Span×Signed)}{s:Signed}(h:s∉ps.map (·.2)):gl ps s = []:=by
 unfold gl;rw[List.filter_eq_nil_iff.2 (λp hp=>?_)];rfl;simp only[Qa];rintro rfl;exact h (List.mem_map.2 ⟨p,hp,rfl⟩)
theorem Wl(f:List Span->List Span)(zone:List UInt8)(ps:List (Span×Signed)):(xX f zone ps).length=(dg (ps.map (·.2))).length:=List.length_map _
def pub(l:List Copy)(zone:List UInt8):List Held:=xX gX zone (dR l zone)
def apexes(l:List Copy):List (List UInt8):=tY (dg (l.map (·.zone.apex)))
theorem wn{l:List Copy}{zone:List UInt8}{p:Span×Signed} : p∈dR l zone↔∃ c∈l,c.zone.apex=zone/\p.2∈c.zone.sets/\p.1=jW c:=by
 unfold dR uO oU;simp only[List.mem_flatMap,List.mem_filter,List.mem_map,beq_iff_eq];constructor
 ·rintro⟨c,⟨h1,h2⟩,s,hs,rfl⟩;exact⟨c,h1,h2,hs,rfl⟩
 ·rintro⟨c,h1,h2,h3,h4⟩;exact⟨c,⟨h1,h2⟩,p.2,h3,by rw[<-h4]⟩
theorem Eh{ps:List (Span×Signed)}{s:Signed}{x:Span} : x∈gl ps s↔(x,s)∈ps:=by
 unfold gl;simp only[List.mem_map,List.mem_filter,Qa];constructor
 ·rintro⟨p,⟨h1,rfl⟩,rfl⟩;exact h1
 ·intro h;exact⟨(x,s),⟨h,rfl⟩,rfl⟩
def pZ(l:List Copy):Prop:=∀ c∈l,c.frm<c.til
theorem VHist.full{h:Hist}(v:VHist h):pZ h.copies:=λc hc=>(v.each c hc).times.2.1
theorem EJ{l:List Copy}(hl:pZ l){zone:List UInt8}{s:Signed} : ∀ x∈gl (dR l zone) s,x.frm<x.til:=λx hx=>by
 obtain⟨c,hc,_,_,h4⟩:=wn.1 (Eh.1 hx);have h4:x=jW c:=h4;rw[h4];exact hl c hc
theorem I7{l:List Copy}{zone:List UInt8}{s:Signed}{t:Int} : inS (gl (dR l zone) s) t↔∃ c∈l,c.zone.apex=zone/\s∈c.zone.sets/\c.frm<=t/\t<c.til:=by
 constructor
 ·rintro⟨x,hx,h1,h2⟩;obtain⟨c,hc,h3,h4,h5⟩:=wn.1 (Eh.1 hx);have h5:x=jW c:=h5;subst h5;exact⟨c,hc,h3,h4,h1,h2⟩
 ·rintro⟨c,hc,h3,h4,h1,h2⟩;exact⟨jW c,Eh.2 (wn.2 ⟨c,hc,h3,h4,rfl⟩),h1,h2⟩
theorem Y6{l:List Copy}{zone:List UInt8}{s:Signed} : s∈dg ((dR l zone).map (·.2))↔∃ c∈l,c.zone.apex=zone/\s∈c.zone.sets:=by
 rw[tS,List.mem_map];constructor
 ·rintro⟨p,hp,rfl⟩;obtain⟨c,h1,h2,h3,_⟩:=wn.1 hp;exact⟨c,h1,h2,h3⟩
 ·rintro⟨c,h1,h2,h3⟩;exact⟨(jW c,s),wn.2 ⟨c,h1,h2,h3,rfl⟩,rfl⟩
theorem Je{l:List Copy}(hl:pZ l){zone:List UInt8}{x:Held}(hx:x∈pub l zone):x.zone=zone/\x.spans = []/\ApartS x.fresh/\(∃ c∈l,c.zone.apex=zone/\x.signed∈c.zone.sets)/\∀ t,inS x.fresh t↔∃ c∈l,c.zone.apex=zone/\x.signed∈c.zone.sets/\c.frm<=t/\t<c.til:=by
 unfold pub xX at hx;obtain⟨s,hs,rfl⟩:=List.mem_map.1 hx;obtain⟨h1,h2⟩:=Ji (EJ hl (zone:=zone) (s:=s));exact⟨rfl,rfl,h1,Y6.1 hs,λt=>(h2 t).trans I7⟩
end Np
section
open Go.RowKit
theorem mO{w:World}{B:Nat}{v:Value}{xs:List Np.Sig}(h:SlR dl 6 w B v xs){k:Nat}{x:Np.Sig}(hx:xs[k]?=some x):∃ (b o c:Nat) (s:ByteArray),v = .slice (some ⟨b,o,none⟩) xs.length c/\b<B/\s.data.toList=x.zone/\s.size<=140737488355328/\
 w.cell? ⟨b,o+k * 6,none⟩=some (.string s)/\w.cell? ⟨b,o+k * 6+1,none⟩=some (.int .i64 x.key)/\w.cell? ⟨b,o+k * 6+2,none⟩=some (.int .i64 x.alg)/\w.cell? ⟨b,o+k * 6+3,none⟩=some (.int .i64 x.frm)/\w.cell? ⟨b,o+k * 6+4,none⟩=some (.int .i64 x.til)/\w.cell? ⟨b,o+k * 6+5,none⟩=some (.int .u64 x.sum):=by
 obtain⟨A,c,rfl,hc,_,he⟩:=h;obtain⟨b,o,e,rfl,hb,_,hce,s,h1,h2,rfl⟩:=he k x hx;exact⟨b,o,c,s,rfl,hb,h1,h2,by have:=hce 0 _ rfl;simpa using this,hce 1 _ rfl,hce 2 _ rfl,hce 3 _ rfl,hce 4 _ rfl,hce 5 _ rfl⟩
theorem MD(t:Int)(b:Bool)(w:World) :
 Calls prog 271 #[.int .i64 t,.bool b] w (aFZ w (.bool (Np.jC t b))):=by
 unfold Np.jC;go_enter func271,ntmps271;go_wp2_with fail
 all_goals
  go_ret;refine⟨ag ?_,rfl⟩;simp_all
theorem I5{a:List UInt8}{l:List Np.Sig}{k:Nat}{x:Np.Sig}(hx:l[k]?=some x)(h:¬ Np.SigOk a l k x):Np.yes (Np.dY a l)=false:=Np.aC λhf=>h (hf.2 k x hx)
theorem Ju{a:List UInt8}{l:List Np.Sig}{k:Nat}{x:Np.Sig}(hx:l[k]?=some x)(h:∀ j g,j<k->l[j]?=some g->Np.SigOk a l j g)(hk:Np.SigOk a l k x):∀ j g,j<k+1->l[j]?=some g->Np.SigOk a l j g:=λj g hj hg=>by
 by_cases e:j=k
 ·subst e;rw[hx] at hg;cases hg;exact hk
 ·exact h j g (by omega) hg
theorem Yj(a:ByteArray)(v:Value)(l:List Np.Sig)(w:World)(h:SlR dl 6 w w.heap.size v l) :
 Calls prog 272 #[v,.string a] w (aFQ w.heap.size w (.bool (Np.yes (Np.dY a.data.toList l)))):=by
 obtain⟨r,hr⟩:=aCQ (Np.yes (Np.dY a.data.toList l));rw[hr];have HR:=jq hr;have H:=jq h;obtain⟨A,c,rfl,bq,bN⟩:=ak h;clear h hr;by_cases h6:l.length<=6
 ·have H6:=jq h6;go_enter func272,ntmps272;go_wp2_with fail;go_loopw [12] (λi wr=>∃ k:Nat,k<=l.length/\i = .int .i64 k/\Hid (Below w.heap.size w wr)/\Hid (∀ j g,j<k->l[j]?=some g->Np.SigOk a.data.toList l j g)) (λi _=>l.length - (intOf i).toNat)
  case atStart=>exact⟨0,jQ _,rfl,jq (vQ _ _),jq (λj g hj=>by omega)⟩
  case round=>
   obtain⟨k,hk,rfl,HB,HA⟩:=hrel;by_cases aa:k<l.length
   ·have cY:=H.out.keep dD HB.out;have ac:=aQ aa;obtain⟨b,o,c',s,hA,bR,hs,an,e0,e1,e2,e3,e4,e5⟩:=mO cY ac
    cases hA
    have pV:=aQ (show 0<l.length by omega);obtain⟨b',o',c'',s',hA,_,_,_,_,z1,z2,z3,z4,_⟩:=mO cY pV;simp only[Value.slice.injEq,Option.some.injEq,Addr.mk.injEq,and_true,true_and] at hA;obtain⟨⟨rfl,rfl⟩,-⟩:=hA;simp only[Nat.zero_mul,Nat.add_zero] at z3 z4;have HN:Hid (∀ h:Np.SigOk a.data.toList l k l[k],∀ j g,j<k+1->l[j]?=some g->Np.SigOk a.data.toList l j g):=jq (λh=>Ju ac HA.out h);have HF:Hid (¬ Np.SigOk a.data.toList l k l[k]->r=false):=jq (λh=>HR.out ▸ I5 ac h);have HZ:=jq pV;have qh:=jq ac;have HS:=jq hs;have xW:=HB.out.size;have s9:b<wr.heap.size:=by omega
    have aY:Hid (∀ o n,Below w.heap.size w ((wr.alloc o).drewN n)):=jq (λo n=>below_drewN (HB.out.alloc HB.out.size _) _);have mS:Hid (∀ o,Below w.heap.size w (wr.alloc o)):=jq (λo=>(HB.out.alloc HB.out.size _));have bV:(0:Int)<=(k:Int):=by omega
    have bT:(k:Int)<(l.length:Int):=by omega
    have bk:(0:Int)<(l.length:Int):=by omega
    have zk:Hid (∀ m,k=m+1->∃ y,l[m]?=some y/\wr.cell? ⟨b,o+m * 6+1,none⟩=some (.int .i64 y.key)):=jq (λm hm=>by
     obtain⟨b2,o2,c2,s2,hA,_,_,_,_,y1,_⟩:=mO cY (aQ (show m<l.length by omega));simp only[Value.slice.injEq,Option.some.injEq,Addr.mk.injEq,and_true,true_and] at hA;obtain⟨⟨rfl,rfl⟩,-⟩:=hA;exact⟨_,aQ (by omega),y1⟩)
    generalize l[k]=x at *;generalize l[0]=x0 at *;clear cY hs ac pV z1 z2;have nA:((!s.toList == a.toList)=true)\/(!s.toList == a.toList)=false/\(decide (x.key<1)=true\/decide (x.key<1)=false/\(decide (1000000<x.key)=true\/decide (1000000<x.key)=false/\(decide (x.alg<1)=true\/decide (x.alg<1)=false/\(decide (3<x.alg)=true\/decide (3<x.alg)=false/\(decide (x.frm<0)=true\/decide (x.frm<0)=false/\(decide (x.til<x.frm)=true\/decide (x.til<x.frm)=false/\(decide (20000000<x.til)=true\/decide (20000000<x.til)=false))))))):=by
     simp only[Qa,decide_eq_false_iff_not];by_cases q:s.toList=a.toList
     ·simp[q];omega
     ·exact .inl (by simpa using q)
    rcases nA with d1 | ⟨d1,d2 | ⟨d2,d3 | ⟨d3,d4 | ⟨d4,d5 | ⟨d5,d6 | ⟨d6,d7 | ⟨d7,d8 | d8⟩⟩⟩⟩⟩⟩⟩
    rotate_right
    ·by_cases gC:k=0
     ·have jj:decide ((0:Int)<(k:Int))=false:=by simp;omega
      have jk:decide (0<k)=false:=by simp;omega
      have bl:Hid (Np.SigOk a.data.toList l k x):=jq (by
       have e1:s.toList=a.toList:=by simpa using d1
       rw[dQ,dQ] at e1;simp only[decide_eq_false_iff_not] at d2 d3 d4 d5 d6 d7 d8;have dX:x0=x:=by
        have h1:=HZ.out;rw[<-gC,qh.out] at h1;exact (Option.some.inj h1).symm
       refine⟨by rw[<-HS.out,e1],by omega,by omega,by omega,λq hq=>?_,λp _ h0=>by omega⟩;rw[HZ.out] at hq;cases hq;rw[dX];exact⟨rfl,rfl⟩)
      clear gC;go_wp2_with fail;go_quiet (fail);go_wp2_with fail;go_roundw
      case rel=>exact⟨k+1,by omega,by go_num,jq (aY.out _ _),jq (HN.out bl.out)⟩
      case measure=>simp[intOf] <;> omega
     ·obtain⟨m,rfl⟩:∃ m,k=m+1:=⟨k - 1,by omega⟩;obtain⟨y,hy,y1⟩:=zk.out m rfl;have HY:=jq hy;have jj:decide ((0:Int)<((m+1:Nat):Int))=true:=by simp
      have ah:IntKind.i64.wrap (((m+1:Nat):Int) - 1)=(m:Int):=by rw[IntWalk.i64_in _ (by omega)];omega
      have nE:(0:Int)<=(m:Int):=by omega
      have qE:(m:Int)<(l.length:Int):=by omega
      have Hr:((x.frm != x0.frm)=true)\/(x.frm != x0.frm)=false/\((x.til != x0.til)=true\/(x.til != x0.til)=false/\(decide (x.key<=y.key)=true\/decide (x.key<=y.key)=false)):=by
       simp only[bne_iff_ne,bne_eq_false_iff_eq,Qa,decide_eq_false_iff_not];omega
      clear hy gC;rcases Hr with c1 | ⟨c1,c2 | ⟨c2,c3 | c3⟩⟩
      rotate_right
      ·have bl:Hid (Np.SigOk a.data.toList l (m+1) x):=jq (by
        have e1:s.toList=a.toList:=by simpa using d1
        rw[dQ,dQ] at e1;simp only[decide_eq_false_iff_not,bne_eq_false_iff_eq] at d2 d3 d4 d5 d6 d7 d8 c1 c2 c3;refine⟨by rw[<-HS.out,e1],by omega,by omega,by omega,λq hq=>?_,λp hp h0=>?_⟩
        ·rw[HZ.out] at hq;cases hq;exact⟨c1,c2⟩
        ·rw[show m+1 - 1=m by omega,HY.out] at hp;cases hp;omega)
       go_wp2_with fail;go_quiet (fail);go_wp2_with fail;go_roundw
       case rel=>exact⟨m+1+1,by omega,by go_num,jq (aY.out _ _),jq (HN.out bl.out)⟩
       case measure=>simp[intOf] <;> omega
      all_goals
       go_wp2_with fail;go_quiet (fail);go_wp2_with fail;go_ret;refine⟨ag (HF.out ?_).symm,aY.out _ _⟩;intro dO;have k5:=dO.same _ HZ.out;have k6:=dO.up _ HY.out (by omega);simp only[bne_iff_ne,bne_eq_false_iff_eq,Qa,decide_eq_false_iff_not] at *;omega
    all_goals
     go_wp2_with fail;go_ret;refine⟨ag (HF.out ?_).symm,mS.out _⟩;intro dO;obtain⟨k1,k2,k3,k4,_,_⟩:=dO
     first
      | (rw[dQ,dQ,HS.out,k1] at d1;simp at d1;done)
      | (simp only[Qa,decide_eq_false_iff_not] at *;omega)
   ·go_wp2_with fail;go_ret;refine⟨ag ?_,HB.out⟩;rw[<-HR.out];exact (Np.ba ⟨H6.out,λj g hg=>HA.out j g (by have:=(cQ.1 hg).1;omega) hg⟩).symm
 ·have h6':6<l.length:=by omega
  have HF:Hid (r=false):=jq (by rw[<-HR.out];exact Np.aC λhf=>h6 hf.1);clear h6;go_enter func272,ntmps272;go_wp2_with fail;go_ret;exact⟨ag HF.out.symm,vQ _ _⟩
theorem Q1(s:ByteArray)(hs:s.size<=140737488355328)(w:World) :
 Calls prog 242 #[.string s,.string ⟨#[42]⟩] w (aFZ w (.bool (Np.dP s.data.toList))):=by
 have h1:1<=s.size->((s.extract 0 1).toList == [42])=Np.dP s.data.toList:=OL s;have h2:s.size<1->Np.dP s.data.toList=false:=λh=>by
  have:s.data.toList = []:=rQ (by rw[aX];omega)
  rw[this];rfl
 have H1:=jq h1;have H2:=jq h2;clear h1 h2;go_enter func242,ntmps242;go_wp2
 ·go_ret;exact⟨ag (H1.out (by omega)),rfl⟩
 ·go_ret;exact⟨ag (H2.out (by omega)).symm,rfl⟩
def pX(l:List Np.Signed)(k:Nat):Option Np.DSet:=(l.take k).getLast?.map (·.set)
theorem ER{l:List Np.Signed}{k:Nat}{x:Np.Signed}(h:l[k]?=some x):pX l (k+1)=some x.set:=by
 obtain⟨hl,rfl⟩:=cQ.1 h;unfold pX;rw[fQ hl,List.getLast?_append];rfl
theorem QZ{apex:List UInt8}{l:List Np.Signed}{k:Nat}{x:Np.Signed}(h:l[k]?=some x)(p:Option Np.DSet) :
 Np.jD apex p (l.drop k)=((Np.aA x.set.name&&Np.bi x.set.name apex)&&Np.cN x.set&&(match p with | none=>true | some q=>decide (Np.gR q x.set<0))&&Np.jD apex (some x.set) (l.drop (k+1))):=by
 obtain⟨hl,rfl⟩:=cQ.1 h;rw[sQ hl]
 cases p <;> rfl
def Tf(w1:World)(apex:List UInt8)(l:List Np.Signed)(i:Value)(wr:World):Prop:=
 ∃ k:Nat,k<=l.length/\i = .int .i64 k/\Below w1.heap.size w1 wr/\Hid (∀ j x,j<k->l[j]?=some x->Np.cN x.set=true)/\Hid (Np.jD apex none l=Np.jD apex (pX l k) (l.drop k))
theorem aAY(a:ByteArray)(ha:a.size<=140737488355328)(v:Value)(l:List Np.Signed)(cg:l.length<=20000)(w:World)(hR:iR w w.heap.size)(hd:SlR bP 5 w w.heap.size v l) :
 Calls prog 198 #[.agg #[.string a,v]] w (aFQ w.heap.size w (.bool (Np.fh ⟨a.data.toList,l⟩))):=by
 have HR:=jq hR;have HD:=jq hd;obtain⟨A,c,rfl,bq,bN,-⟩:=hd;clear hR;have HW:Hid (∀ o,Below w.heap.size w (w.alloc o)):=jq (λo=>(vQ _ w).alloc (bQ _) _);go_enter func198,ntmps198;go_wp2_with fail;refine (nameValid_any _ ha _).mono ?_;rintro e w1 ⟨rfl,hb⟩;have c0:w1.cell? ⟨w.heap.size,0,none⟩=some (.string a):=by rw[hb.cell (by simp)];go_simp
 have c1:w1.cell? ⟨w.heap.size,1,none⟩=some (.slice A l.length c):=by rw[hb.cell (by simp)];go_simp
 have eh:w.heap.size<w1.heap.size:=by have:=hb.size;simp at this;omega
 have aq:=jq ((HW.out _).trans (hb.mono (by simp)));clear hb
 cases qJ:Np.aA a.data.toList with
 | false=>
  have HF:Hid (Np.fh ⟨a.data.toList,l⟩=false):=jq (by unfold Np.fh;rw[qJ];rfl);clear qJ;go_wp2_with fail;go_ret;exact⟨ag HF.out.symm,aq.out⟩
 | true=>
  have xB:=jq qJ;clear qJ
  cases rW:Np.dP a.data.toList with
  | true=>
   have HF:Hid (Np.fh ⟨a.data.toList,l⟩=false):=jq (by unfold Np.fh;rw[rW];simp);go_wp2_with (go_at_call 242;refine (Q1 a ha _).mono ?_;rintro e w' ⟨rfl,rfl⟩);go_ret;exact⟨ag HF.out.symm,aq.out⟩
  | false=>
   have HF:Hid (Np.fh ⟨a.data.toList,l⟩=Np.jD a.data.toList none l):=jq (by unfold Np.fh;rw[rW,xB.out];simp);go_wp2_with (go_at_call 242;refine (Q1 a ha _).mono ?_;rintro e w' ⟨rfl,rfl⟩);clear rW;go_loopw [30] (λi wr=>Tf w1 a.data.toList l i wr) (λi _=>l.length - (intOf i).toNat)
   case atStart=>exact⟨0,jQ _,rfl,vQ _ _,jq (λj x hj=>by omega),jq rfl⟩
   case round=>
    obtain⟨k,hk,rfl,aD,HV,HG⟩:=hrel;by_cases aa:k<l.length
    ·have lJ:Below w.heap.size w wr:=aq.out.trans (aD.aDQ);have ac:=aQ aa;obtain⟨b,o,c',sn,dv,sv,hA,bR,_,ar,an,aO,bh,e0,e1,e2,e3,e4⟩:=fR (HD.out.keep bH lJ) ac
     cases hA
     generalize hx:l[k]=x at *;clear hx;obtain⟨Ad,cd,rfl,Hu,WU⟩:=ak aO;obtain⟨As,cs,rfl,hcs,hls⟩:=ak bh;have d0:wr.cell? ⟨w.heap.size,0,none⟩=some (.string a):=by rw[aD.cell (by simpa using eh)];exact c0
     have d1:wr.cell? ⟨w.heap.size,1,none⟩=some (.slice (some ⟨b,o,none⟩) l.length c):=by rw[aD.cell (by simpa using eh)];exact c1
     have dJ:w.heap.size<wr.heap.size:=by have:=aD.size;omega
     have jy:=jq aO;have HX:=jq ac;have aS:=jq ar;have aZ:=jq aD;have wV:=jq lJ;have qi:=jq (HG.out.trans (QZ ac (pX l k)));clear aO bh ac ar aD lJ c0 c1;go_wp2_with fail;have mi:Below wr.heap.size wr (wr.alloc (.cells #[.string sn,.int .i64 x.set.type,.int .i64 x.set.life,.slice Ad x.set.data.length cd,.slice As x.sigs.length cs] 42)):=(vQ _ _).alloc (bQ _) _;have p0:=World.cell?_alloc_new wr #[.string sn,.int .i64 x.set.type,.int .i64 x.set.life,.slice Ad x.set.data.length cd,.slice As x.sigs.length cs] 42 0;have p1:=World.cell?_alloc_new wr #[.string sn,.int .i64 x.set.type,.int .i64 x.set.life,.slice Ad x.set.data.length cd,.slice As x.sigs.length cs] 42 1;have gh:wr.heap.size<(wr.alloc (.cells #[.string sn,.int .i64 x.set.type,.int .i64 x.set.life,.slice Ad x.set.data.length cd,.slice As x.sigs.length cs] 42)).heap.size:=by simp
     generalize wr.alloc (.cells #[.string sn,.int .i64 x.set.type,.int .i64 x.set.life,.slice Ad x.set.data.length cd,.slice As x.sigs.length cs] 42)=wa at mi p0 p1 gh |-;have eT:=jq mi;have uh:=aBY wV mi;replace p0:wa.cell? ⟨wr.heap.size,0,none⟩=some (.string sn):=p0;replace p1:wa.cell? ⟨wr.heap.size,1,none⟩=some (.int .i64 x.set.type):=p1;replace d0:wa.cell? ⟨w.heap.size,0,none⟩=some (.string a):=by rw[mi.cell (by simpa using dJ)];exact d0
     replace d1:wa.cell? ⟨w.heap.size,1,none⟩=some (.slice (some ⟨b,o,none⟩) l.length c):=by rw[mi.cell (by simpa using dJ)];exact d1
     clear mi e0 e1 e2 e3 e4;refine (Jn sn an _ _ _ x.set.data _ ((HR.out.keep uh.out).more (by omega)) ((jy.out.keep cM (eT.out.aDQ)).more dt (by omega))).mono ?_;have oS:(⟨sn.data.toList,x.set.type,x.set.life,x.set.data⟩:Np.DSet)=x.set:=by rw[aS.out]
     rw[oS];clear oS;rintro e w2 ⟨rfl,ae⟩;have aK:wr.heap.size<w2.heap.size:=by have:=ae.size;omega
     have aPQ:w.heap.size<w2.heap.size:=by omega
     replace d0:w2.cell? ⟨w.heap.size,0,none⟩=some (.string a):=by rw[ae.cell (by simp;omega)];exact d0
     replace d1:w2.cell? ⟨w.heap.size,1,none⟩=some (.slice (some ⟨b,o,none⟩) l.length c):=by rw[ae.cell (by simp;omega)];exact d1
     replace p0:w2.cell? ⟨wr.heap.size,0,none⟩=some (.string sn):=by rw[ae.cell (by simpa using gh)];exact p0
     replace p1:w2.cell? ⟨wr.heap.size,1,none⟩=some (.int .i64 x.set.type):=by rw[ae.cell (by simpa using gh)];exact p1
     have ai:=aBY uh ae;have Rf:=aBY eT ae;clear ae
     cases da:Np.cN x.set with
     | false=>
      have kb:=jq da;clear da;go_wp2_with fail;go_ret;refine⟨ag ?_,ai.out⟩;rw[HF.out,qi.out,kb.out,Bool.and_false];rfl
     | true=>
      have kb:=jq da;have lp:Np.aA sn.data.toList=true:=by rw[aS.out];exact EM da
      have ic:=jq lp;have AH:∀ j y,j<k+1->l[j]?=some y->Np.cN y.set=true:=λj y hj hy=>by
       by_cases e:j=k
       ·subst e;rw[HX.out] at hy;cases hy;exact da
       ·exact HV.out j y (by omega) hy
      have nU:=jq AH;clear da lp AH;go_wp2_with fail;refine (B4 sn a an ha _ ic.out xB.out).mono ?_;rintro e w3 ⟨rfl,al⟩;have eF:wr.heap.size<w3.heap.size:=by have:=al.size;omega
      have aPZ:w.heap.size<w3.heap.size:=by omega
      replace d1:w3.cell? ⟨w.heap.size,1,none⟩=some (.slice (some ⟨b,o,none⟩) l.length c):=by rw[al.cell (by simp;omega)];exact d1
      replace p0:w3.cell? ⟨wr.heap.size,0,none⟩=some (.string sn):=by rw[al.cell (by simpa using aK)];exact p0
      replace p1:w3.cell? ⟨wr.heap.size,1,none⟩=some (.int .i64 x.set.type):=by rw[al.cell (by simpa using aK)];exact p1
      have am:=aBY ai al;have J8:=aBY Rf al;clear al d0
      cases eD:Np.bi sn.data.toList a.data.toList with
      | false=>
       have zz:=jq eD;clear eD;go_wp2_with fail;go_ret;refine⟨ag ?_,am.out⟩;rw[HF.out,qi.out,<-aS.out,ic.out,zz.out];rfl
      | true=>
       have dF:=jq (show Np.jD a.data.toList none l=((match pX l k with | none=>true | some q=>decide (Np.gR q x.set<0))&&Np.jD a.data.toList (pX l (k+1)) (l.drop (k+1))) by
        rw[qi.out,<-aS.out,ic.out,eD,kb.out,ER HX.out];rfl)
       clear eD;by_cases bV:k=0
       ·subst bV;go_wp2_with fail;go_roundw
        case rel=>exact⟨1,by omega,by go_num,aZ.out.trans (J8.out.mono aZ.out.size),nU,jq (by rw[dF.out];rfl)⟩
        case measure=>simp[intOf] <;> omega
       ·obtain⟨i,rfl⟩:∃ i,k=i+1:=⟨k - 1,by omega⟩;have rF:=aQ (show i<l.length by omega);obtain⟨b',o',c'',sq,dq,sg,py,AK,_,jP,Od,AR,_,f0,f1,f2,f3,_⟩:=fR ((HD.out.keep bH am.out)) rF
        cases py
        have BI:=EM (HV.out i l[i] (by omega) rF);generalize hy:l[i]=y at *;clear hy;obtain⟨Aq,cq,rfl,Wc,NH⟩:=ak AR;have yg:((((i+1:Nat):Int)) == 0)=false:=by simp;omega
        have SV:Hid (Np.aA sq.data.toList=true):=jq (by rw[jP];exact BI);have RD:Hid (Np.fp (sq.data.toList,y.set.type) (sn.data.toList,x.set.type)=Np.gR y.set x.set):=jq (by rw[jP,aS.out,Np.GF];rfl);have uB:=jq (ER rF);clear AR jP rF BI;have aGJ:b<w3.heap.size:=by omega
        have ah:IntKind.i64.wrap (((i+1:Nat):Int) - 1)=(i:Int):=by rw[IntWalk.i64_in _ (by omega)];omega
        have nE:(0:Int)<=(i:Int):=by omega
        have qE:(i:Int)<(l.length:Int):=by omega
        have sC:Hid (∀ o,Below w3.heap.size w3 (w3.alloc o)):=jq (λo=>(vQ _ _).alloc (bQ _) _);go_wp2_with fail;refine (Q0 sq sn Od an _ _ SV.out ic.out _).mono ?_;rw[RD.out];rintro e w4 ⟨rfl,aw⟩;have aP:=jq ((sC.out _).trans (aw.mono (by simp)));clear aw;by_cases fZ:Np.gR y.set x.set<0
        ·have kD:=jq (uQ fZ);have Hw:¬ (0<=Np.gR y.set x.set):=by omega
         clear fZ;go_wp2_with fail;go_roundw
         case rel=>
          refine⟨i+1+1,by omega,by go_num,aZ.out.trans ((J8.out.trans (aP.out.aDQ)).mono aZ.out.size),nU,jq ?_⟩;rw[dF.out,uB.out];simp only[kD.out,Bool.true_and]
         case measure=>simp[intOf] <;> omega
        ·have kD:=jq (tQ fZ);have Hw:0<=Np.gR y.set x.set:=by omega
         clear fZ;go_wp2_with fail;go_ret;refine⟨ag ?_,am.out.trans (aP.out.aDQ)⟩;rw[HF.out,dF.out,uB.out];simp only[kD.out,Bool.false_and]
    ·go_wp2_with fail;go_ret;refine⟨ag ?_,aq.out.trans (aD.aDQ)⟩;rw[HF.out,HG.out,List.drop_eq_nil_of_le (by omega)];rfl
theorem US(s1 s2:ByteArray)(h1:s1.size<=140737488355328)(h2:s2.size<=140737488355328)(t1 l1 t2:Int)(A1 A2:Option Addr)(m1 c1 m2 c2:Nat)(n1:Np.aA s1.data.toList=true)(n2:Np.aA s2.data.toList=true)(w:World) :
 Calls prog 328 #[.agg #[.string s1,.int .i64 t1,.int .i64 l1,.slice A1 m1 c1,.slice A2 m2 c2],.agg #[.string s2,.int .i64 t2]] w
  λe w'=>e = .returned (.int .i64 (Np.fp (s1.data.toList,t1) (s2.data.toList,t2)))/\Below w.heap.size w w':=by
 have HW:Hid (∀ o o',Below w.heap.size w ((w.alloc o).alloc o')):=jq (λo o'=>((vQ _ w).alloc (bQ _) _).alloc (by simp) _);have N1:=jq n1;have N2:=jq n2;clear n1 n2;go_enter func328,ntmps328;go_wp2_with fail;refine (Q0 s1 s2 h1 h2 _ _ N1.out N2.out _).mono ?_;rintro e w1 ⟨rfl,hb⟩;have HB:=jq ((HW.out _ _).trans (hb.mono (by simp;omega)));clear hb;go_wp2_with fail;go_ret;exact⟨rfl,HB.out⟩
def Np.BR(l:List Np.Signed)(key:List UInt8×Int):Nat:=l.countP λx=>decide (Np.fp (Np.eN x.set) key<0)
def Np.uJ(l:List Np.Signed):Prop:=l.Pairwise λa b=>Np.fp (Np.eN a.set) (Np.eN b.set)<0
theorem ZF{l:List Np.Signed}{key:List UInt8×Int}{i:Nat}(hi:i<=l.length)(h1:∀ j x,j<i->l[j]?=some x->Np.fp (Np.eN x.set) key<0)(h2:∀ j x,i<=j->l[j]?=some x->¬ Np.fp (Np.eN x.set) key<0):Np.BR l key=i:=by
 unfold Np.BR;have e:=List.take_append_drop i l;rw[<-e,List.countP_append,List.countP_eq_length.2,List.countP_eq_zero.2]
 ·rw[List.length_take];omega
 ·intro x hx;obtain⟨j,hj,rfl⟩:=nQ.1 hx;rw[List.getElem_drop];simpa using h2 (i+j) _ (by omega) (aQ _)
 ·intro x hx;obtain⟨j,hj,rfl⟩:=nQ.1 hx;rw[List.getElem_take];rw[List.length_take] at hj;simpa using h1 j _ (by omega) (aQ _)
theorem U6{l:List Np.Signed}(hs:Np.uJ l){key:List UInt8×Int}{i:Nat}(h1:∀ j x,j<i->l[j]?=some x->Np.fp (Np.eN x.set) key<0)(h2:∀ j x,i<=j->l[j]?=some x->¬ Np.fp (Np.eN x.set) key<0):(∃ x∈l,Np.eN x.set=key)↔∃ x,l[i]?=some x/\Np.fp (Np.eN x.set) key=0:=by
 constructor
 ·rintro⟨x,hx,rfl⟩;obtain⟨j,hj,rfl⟩:=nQ.1 hx;have Xv:=Np.yF.self (Np.eN l[j].set);rcases Nat.lt_trichotomy j i with h | h | h
  ·have:=h1 j _ h (aQ hj)
   omega
  ·subst h;exact⟨_,aQ hj,Xv⟩
  ·exact absurd (List.pairwise_iff_getElem.1 hs i j (by omega) hj h) (h2 i _ (bQ _) (aQ (by omega)))
 ·rintro⟨x,hx,h⟩;exact⟨x,gQ hx,Np.yF.zero _ _ h⟩
theorem Jz{l:List Np.Signed}(hs:Np.uJ l){i j:Nat}{x y:Np.Signed}(hx:l[i]?=some x)(hy:l[j]?=some y)(h:i<j):Np.fp (Np.eN x.set) (Np.eN y.set)<0:=by
 obtain⟨hi,rfl⟩:=cQ.1 hx;obtain⟨hj,rfl⟩:=cQ.1 hy;exact List.pairwise_iff_getElem.1 hs i j hi hj h
theorem aoK{z:Np.Zone}(h:Np.InOrder z):Np.uJ z.sets:=by
 have:=h.order
 rw[List.pairwise_map] at this;exact this.imp λh=>by rw[<-Np.GF];exact h
def Np.jF(l:List Np.Signed)(n:List UInt8)(t:Int):Prop:=∃ x∈l,x.set.name=n/\x.set.type=t
theorem VK{l:List Np.Signed}{n:List UInt8}{t:Int} : Np.jF l n t↔∃ x∈l,Np.eN x.set=(n,t):=by
 unfold Np.jF Np.eN;simp only[Prod.mk.injEq]
theorem TH(v:Value)(l:List Np.Signed)(cg:l.length<=20000)(hv:∀ x∈l,Np.aA x.set.name=true)(hs:Np.uJ l)(q:ByteArray)(hq:q.size<=140737488355328)(qt:Int)(nq:Np.aA q.data.toList=true)(w:World)(hd:SlR bP 5 w w.heap.size v l) :
 Calls prog 327 #[v,.agg #[.string q,.int .i64 qt],.func (.func 328) #[] #[]] w
  λe w'=>e = .returned (.tuple #[.int .i64 (Np.BR l (q.data.toList,qt)),.bool (Np.yes (Np.jF l q.data.toList qt))])/\Below w.heap.size w w':=by
 obtain⟨pl,tB⟩:=aCQ (Np.BR l (q.data.toList,qt));obtain⟨r,hr⟩:=aCQ (Np.yes (Np.jF l q.data.toList qt));rw[tB,hr];have rk:=jq tB;have HR:=jq hr;have HV:=jq hv;have HS:=jq hs;have HD:=jq hd;have NQ:=jq nq;have eg:∀ args w,(callFunc 328 args).run prog w = .ok (.enter 328 args) w:=enters_of func328 (by kernel_rfl) rfl;obtain⟨A,c,rfl,bq,bN⟩:=ak hd;clear tB hr hv hs hd nq;have HW:Hid (∀ o,Below w.heap.size w (w.alloc o)):=jq (λo=>(vQ _ w).alloc (bQ _) _);go_enter func327,ntmps327;go_wp2_with fail;have c0:=World.cell?_alloc_new w #[.string q,.int .i64 qt] 31 0;have c1:=World.cell?_alloc_new w #[.string q,.int .i64 qt] 31 1;have eh:w.heap.size<(w.alloc (.cells #[.string q,.int .i64 qt] 31)).heap.size:=by simp
 have aq:=jq (HW.out (.cells #[.string q,.int .i64 qt] 31));generalize w.alloc (.cells #[.string q,.int .i64 qt] 31)=w1 at c0 c1 eh aq |-;replace c0:w1.cell? ⟨w.heap.size,0,none⟩=some (.string q):=c0;replace c1:w1.cell? ⟨w.heap.size,1,none⟩=some (.int .i64 qt):=c1;go_loopg [9,10] l.length (λg s7 s8 wr=>∃ lo hi:Nat,s7 = .int .i64 lo/\s8 = .int .i64 hi/\lo<=hi/\hi<=l.length/\hi - lo<=g/\Hid (Below w1.heap.size w1 wr)/\Hid ((∀ j x,j<lo->l[j]?=some x->Np.fp (Np.eN x.set) (q.data.toList,qt)<0)/\(∀ j x,hi<=j->l[j]?=some x->¬ Np.fp (Np.eN x.set) (q.data.toList,qt)<0)))
 case atStart=>exact⟨0,l.length,rfl,rfl,jQ _,bQ _,by omega,jq (vQ _ _),jq ⟨λj x hj=>by omega,λj x hj hx=>by have:=(cQ.1 hx).1;omega⟩⟩
 case round=>
  obtain⟨lo,hi,rfl,rfl,hlh,hin,hg,HB,HI⟩:=hrel;have XQ:=HB.out.size;have d0:wr.cell? ⟨w.heap.size,0,none⟩=some (.string q):=by rw[HB.out.cell (by simpa using eh)];exact c0
  have d1:wr.cell? ⟨w.heap.size,1,none⟩=some (.int .i64 qt):=by rw[HB.out.cell (by simpa using eh)];exact c1
  have dJ:w.heap.size<wr.heap.size:=by omega
  have az:=aBY aq HB.out;have qD:∀ (g:bE wr) (p:Addr),p.block<wr.heap.size->g.w.cell? p=wr.cell? p:=λg p h=>g.cell p h;have cY:=HD.out.keep bH az.out;have nX:Hid (∀ (k:Nat) (x:Np.Signed),l[k]?=some x->∃ (b o c':Nat) (s:ByteArray) (Ad:Option Addr) (md cd:Nat) (As:Option Addr) (ms cs:Nat),A=some ⟨b,o,none⟩/\b<wr.heap.size/\wr.cell? ⟨b,o+k * 5,none⟩=some (.string s)/\wr.cell? ⟨b,o+k * 5+1,none⟩=some (.int .i64 x.set.type)/\wr.cell? ⟨b,o+k * 5+2,none⟩=some (.int .i64 x.set.life)/\wr.cell? ⟨b,o+k * 5+3,none⟩=some (.slice Ad md cd)/\wr.cell? ⟨b,o+k * 5+4,none⟩=some (.slice As ms cs)/\
   ∀ g:bE wr,Calls prog 328 #[.agg #[.string s,.int .i64 x.set.type,.int .i64 x.set.life,.slice Ad md cd,.slice As ms cs],.agg #[.string q,.int .i64 qt]] g.w λe w'=>e = .returned (.int .i64 (Np.fp (Np.eN x.set) (q.data.toList,qt)))/\Below g.w.heap.size g.w w'):=jq (λk x hx=>by
   obtain⟨b,o,c',s,dv,sv,hA,bR,_,ar,an,aO,bh,e0,e1,e2,e3,e4⟩:=fR cY hx
   cases hA
   obtain⟨Ad,cd,rfl,_,_⟩:=ak aO;obtain⟨As,cs,rfl,_,_⟩:=ak bh;refine⟨b,o,c,s,Ad,_,cd,As,_,cs,rfl,by omega,e0,e1,e2,e3,e4,λg=>?_⟩
   have:=US s q an hq x.set.type x.set.life qt Ad As x.set.data.length cd x.sigs.length cs (by rw[ar];exact HV.out x (gQ hx)) NQ.out g.w
   rw[ar] at this;exact this)
  clear cY c0 c1;by_cases aa:lo<hi
  ·obtain⟨k,hk⟩:=aCQ ((lo+hi) / 2);have mv:k<l.length:=by omega
   have ac:=aQ mv;obtain⟨b,o,c',s,Ad,md,cd,As,ms,cs,rfl,aD,e0,e1,e2,e3,e4,ci⟩:=nX.out k _ ac;generalize hx:l[k]=x at *;have HX:=jq ac;have mV:=jq ci;have hkI:((lo:Int)+(hi:Int)) / 2=(k:Int):=by omega
   have HK:=jq hk;have bV:(0:Int)<=(k:Int):=by omega
   have bT:(k:Int)<(l.length:Int):=by omega
   clear ac ci hx hk;by_cases hc:Np.fp (Np.eN x.set) (q.data.toList,qt)<0
   ·have HN:Hid (∀ j y,j<k+1->l[j]?=some y->Np.fp (Np.eN y.set) (q.data.toList,qt)<0):=jq (λj y hj hy=>by
     by_cases e:j=k
     ·subst e;rw[HX.out] at hy;cases hy;exact hc
     ·exact Np.yF.trans _ _ _ (Jz HS.out hy HX.out (by omega)) hc)
    have fF:decide (Np.fp (Np.eN x.set) (q.data.toList,qt)<0)=true:=by simpa using hc
    clear hc;go_wp2_with fail;refine aEK ?_
    repeat (go_big_quiet_step ((go_at_call 328;exact Calls.grow_of (mV.out _))))
    refine wpQuiet_nil ?_;rintro _ ⟨g,rfl⟩;go_wp2_with fail;go_roundg (hi - (k+1))
    case measure=>have:=HK.out;omega
    case rel=>exact⟨k+1,hi,by go_num,rfl,by have:=HK.out;omega,hin,bQ _,aBY HB g.below,jq ⟨HN.out,HI.out.2⟩⟩
   ·have HN:Hid (∀ j y,k<=j->l[j]?=some y->¬ Np.fp (Np.eN y.set) (q.data.toList,qt)<0):=jq (λj y hj hy aa=>by
     by_cases e:j=k
     ·subst e;rw[HX.out] at hy;cases hy;exact hc aa
     ·exact hc (Np.yF.trans _ _ _ (Jz HS.out HX.out hy (by omega)) aa))
    have fF:decide (Np.fp (Np.eN x.set) (q.data.toList,qt)<0)=false:=by simpa using hc
    clear hc;go_wp2_with fail;refine aEK ?_
    repeat (go_big_quiet_step ((go_at_call 328;exact Calls.grow_of (mV.out _))))
    refine wpQuiet_nil ?_;rintro _ ⟨g,rfl⟩;go_wp2_with fail;go_roundg (k - lo)
    case measure=>have:=HK.out;omega
    case rel=>exact⟨lo,k,rfl,by go_num,by have:=HK.out;omega,by omega,bQ _,aBY HB g.below,jq ⟨HI.out.1,HN.out⟩⟩
  ·obtain rfl:hi=lo:=by omega
   have HE:Hid (pl=hi):=jq (by rw[<-rk.out];exact ZF hin HI.out.1 HI.out.2);have HF:Hid (r=Np.yes (∃ x,l[hi]?=some x/\Np.fp (Np.eN x.set) (q.data.toList,qt)=0)):=jq (by rw[<-HR.out];exact Np.sw (VK.trans (U6 HS.out HI.out.1 HI.out.2)));by_cases hn:hi<l.length
   ·have ac:=aQ hn;obtain⟨b,o,c',s,Ad,md,cd,As,ms,cs,rfl,aD,e0,e1,e2,e3,e4,ci⟩:=nX.out hi _ ac;generalize hx:l[hi]=x at *;have HX:=jq ac;have mV:=jq ci;have bV:(0:Int)<=(hi:Int):=by omega
    have bT:(hi:Int)<(l.length:Int):=by omega
    clear ac ci hx;by_cases hc:Np.fp (Np.eN x.set) (q.data.toList,qt)=0
    ·have HT:Hid (r=true):=jq (by rw[HF.out];exact Np.ba ⟨x,HX.out,hc⟩);have fF:(Np.fp (Np.eN x.set) (q.data.toList,qt) == 0)=true:=by simpa using hc
     clear hc;go_wp2_with fail;refine aEK ?_
     repeat (go_big_quiet_step ((go_at_call 328;exact Calls.grow_of (mV.out _))))
     refine wpQuiet_nil ?_;rintro _ ⟨g,rfl⟩;go_wp2_with fail;go_ret2;exact⟨by rw[HE.out,HT.out];rfl,az.out.trans (g.below.aDQ)⟩
    ·have HT:Hid (r=false):=jq (by rw[HF.out];exact Np.aC λ⟨y,hy,h0⟩=>by rw[HX.out] at hy;cases hy;exact hc h0);have fF:(Np.fp (Np.eN x.set) (q.data.toList,qt) == 0)=false:=by simpa using hc
     clear hc;go_wp2_with fail;refine aEK ?_
     repeat (go_big_quiet_step ((go_at_call 328;exact Calls.grow_of (mV.out _))))
     refine wpQuiet_nil ?_;rintro _ ⟨g,rfl⟩;go_wp2_with fail;go_ret2;exact⟨by rw[HE.out,HT.out];rfl,az.out.trans (g.below.aDQ)⟩
   ·have HT:Hid (r=false):=jq (by rw[HF.out];exact Np.aC λ⟨y,hy,h0⟩=>by have:=(cQ.1 hy).1;omega);have cV:decide ((hi:Int)<(l.length:Int))=false:=by simp;omega
    have eY:decide (hi<l.length)=false:=by simp;omega
    go_wp2_with fail;refine aEK ?_
    repeat (go_big_quiet_step (fail))
    refine wpQuiet_nil ?_;rintro _ ⟨g,rfl⟩;go_wp2_with fail;go_ret2;exact⟨by rw[HE.out,HT.out];rfl,az.out.trans (g.below.aDQ)⟩
theorem MC(a:ByteArray)(v:Value)(l:List Np.Signed)(cg:l.length<=20000)(hv:∀ x∈l,Np.aA x.set.name=true)(hs:Np.uJ l)(q:ByteArray)(hq:q.size<=140737488355328)(qt:Int)(nq:Np.aA q.data.toList=true)(w:World)(hd:SlR bP 5 w w.heap.size v l) :
 Calls prog 262 #[.agg #[.string a,v],.agg #[.string q,.int .i64 qt]] w
  λe w'=>e = .returned (.tuple #[.int .i64 (Np.BR l (q.data.toList,qt)),.bool (Np.yes (Np.jF l q.data.toList qt))])/\Below w.heap.size w w':=by
 have HV:=jq hv;have HS:=jq hs;have HD:=jq hd;have NQ:=jq nq;obtain⟨A,c,rfl,bq,bN⟩:=ak hd;have HW:Hid (∀ o o',Below w.heap.size w ((w.alloc o).alloc o')):=jq (λo o'=>((vQ _ w).alloc (bQ _) _).alloc (by simp) _);clear hv hs hd nq;go_enter func262,ntmps262;go_wp2_with fail;refine (TH _ l cg HV.out HS.out q hq qt NQ.out _ (HD.out.later bH dH (HW.out _ _))).mono ?_;rintro e w1 ⟨rfl,hb⟩;have HB:=jq ((HW.out _ _).trans (hb.mono (by simp;omega)));clear hb;go_wp2_with fail;go_ret2;exact⟨rfl,HB.out⟩
structure Np.ApexH(a:List UInt8)(l:List Np.Signed):Prop where
 start:Np.jF l a 4
 server:Np.jF l a 2
 fits:∀ x∈l,Np.jC x.set.type (x.set.name == a)=true
theorem Ts(a:ByteArray)(ha:a.size<=140737488355328)(na:Np.aA a.data.toList=true)(v:Value)(l:List Np.Signed)(cg:l.length<=20000)(hv:∀ x∈l,Np.aA x.set.name=true)(hs:Np.uJ l)(w:World)(hd:SlR bP 5 w w.heap.size v l) :
 Calls prog 199 #[.agg #[.string a,v]] w (aFQ w.heap.size w (.bool (Np.yes (Np.ApexH a.data.toList l)))):=by
 obtain⟨r,hr⟩:=aCQ (Np.yes (Np.ApexH a.data.toList l));rw[hr];have HR:=jq hr;have HV:=jq hv;have HS:=jq hs;have HD:=jq hd;have NA:=jq na;obtain⟨A,c,rfl,bq,bN⟩:=ak hd;clear hr hv hs hd na;have HW:Hid (∀ o o',Below w.heap.size w ((w.alloc o).alloc o')):=jq (λo o'=>((vQ _ w).alloc (bQ _) _).alloc (by simp) _);go_enter func199,ntmps199;go_wp2_with fail;obtain⟨w1,ah⟩:=aCQ ((w.alloc (.cells #[.string a,.slice A l.length c] 263)).alloc (.cells #[.int .i64 4,.int .i64 2] 3));have c0:w1.cell? ⟨w.heap.size,0,none⟩=some (.string a):=by rw[<-ah];simp[go_sem]
 have c1:w1.cell? ⟨w.heap.size,1,none⟩=some (.slice A l.length c):=by rw[<-ah];simp[go_sem]
 have c2:w1.cell? ⟨w.heap.size+1,0,none⟩=some (.int .i64 4):=by rw[<-ah];simp[go_sem]
 have c3:w1.cell? ⟨w.heap.size+1,1,none⟩=some (.int .i64 2):=by rw[<-ah];simp[go_sem]
 have eh:w1.heap.size=w.heap.size+2:=by rw[<-ah];simp
 have aq:Hid (Below w.heap.size w w1):=jq (by rw[<-ah];exact HW.out _ _);rw[ah];clear ah;go_loopw [11] (λi wr=>Hid (Below w1.heap.size w1 wr)/\(i = .int .i64 0\/(i = .int .i64 1/\Hid (Np.jF l a.data.toList 4))\/(i = .int .i64 2/\Hid (Np.jF l a.data.toList 4)/\Hid (Np.jF l a.data.toList 2)))) (λi _=>2 - (intOf i).toNat)
 case atStart=>exact⟨jq (vQ _ _),.inl rfl⟩
 case round=>
  obtain⟨HB,hi⟩:=hrel;have an:=HB.out.size;obtain⟨bc,bf⟩:=sW HB.out;have d0:wr.cell? ⟨w.heap.size,0,none⟩=some (.string a):=by rw[bc _ _ (by omega)];exact c0
  have d1:wr.cell? ⟨w.heap.size,1,none⟩=some (.slice A l.length c):=by rw[bc _ _ (by omega)];exact c1
  have d2:wr.cell? ⟨w.heap.size+1,0,none⟩=some (.int .i64 4):=by rw[bc _ _ (by omega)];exact c2
  have d3:wr.cell? ⟨w.heap.size+1,1,none⟩=some (.int .i64 2):=by rw[bc _ _ (by omega)];exact c3
  clear bc bf;have az:=aBY aq HB.out;have Fr:=jq ((HD.out.keep bH az.out).more dH (show w.heap.size<=wr.heap.size by omega));have dJ:w.heap.size+1<wr.heap.size:=by omega
  have VY:w.heap.size<wr.heap.size:=by omega
  rcases hi with rfl | ⟨rfl,H4⟩ | ⟨rfl,H4,H2⟩
  ·go_wp2_with fail;refine (MC a _ l cg HV.out HS.out a ha 4 NA.out _ Fr.out).mono ?_;rintro e w2 ⟨rfl,hb⟩;have ai:=jq hb;have aK:=hb.size;clear hb
   cases hk:Np.yes (Np.jF l a.data.toList 4) with
   | true=>
    have HK:=jq hk;clear hk;go_wp2_with fail;go_roundw
    case rel=>exact⟨jq (HB.out.trans (ai.out.mono HB.out.size)),.inr (.inl ⟨by go_num,jq (Np.fj.1 HK.out)⟩)⟩
    case measure=>simp[intOf] <;> omega
   | false=>
    have HK:=jq hk;clear hk;go_wp2_with fail;go_ret;refine⟨ag ?_,az.out.trans (ai.out.aDQ)⟩;rw[<-HR.out];refine (Np.aC λh=>?_).symm
    have:=Np.ba h.start
    rw[HK.out] at this
    cases this
  ·go_wp2_with fail;refine (MC a _ l cg HV.out HS.out a ha 2 NA.out _ Fr.out).mono ?_;rintro e w2 ⟨rfl,hb⟩;have ai:=jq hb;have aK:=hb.size;clear hb
   cases hk:Np.yes (Np.jF l a.data.toList 2) with
   | true=>
    have HK:=jq hk;clear hk;go_wp2_with fail;go_roundw
    case rel=>exact⟨jq (HB.out.trans (ai.out.mono HB.out.size)),.inr (.inr ⟨by go_num,H4,jq (Np.fj.1 HK.out)⟩)⟩
    case measure=>simp[intOf] <;> omega
   | false=>
    have HK:=jq hk;clear hk;go_wp2_with fail;go_ret;refine⟨ag ?_,az.out.trans (ai.out.aDQ)⟩;rw[<-HR.out];refine (Np.aC λh=>?_).symm
    have:=Np.ba h.server
    rw[HK.out] at this
    cases this
  ·go_wp2_with fail;clear d2 d3 c0 c1 c2 c3;obtain⟨w5,rfl⟩:=aCY wr;go_loopw [32] (λi wx=>∃ k:Nat,k<=l.length/\i = .int .i64 k/\Hid (Below w5.heap.size w5 wx)/\Hid (∀ j x,j<k->l[j]?=some x->Np.jC x.set.type (x.set.name == a.data.toList)=true)) (λi _=>l.length - (intOf i).toNat)
   case atStart=>exact⟨0,jQ _,rfl,jq (vQ _ _),jq (λj g hj=>by omega)⟩
   case round=>
    obtain⟨k,hk,rfl,HX,HA⟩:=hrel;by_cases aa:k<l.length
    ·have ac:=aQ aa;obtain⟨b,o,c',sn,dv,sv,hA,bR,_,ar,cZ,aO,bh,e0,e1,e2,e3,e4⟩:=fR (Fr.out.keep bH HX.out) ac
     cases hA
     generalize hx:l[k]=x at *;clear hx;obtain⟨Ad,cd,rfl,_,_⟩:=ak aO;obtain⟨As,cs,rfl,_,_⟩:=ak bh;have nM:=HX.out.size;have g0:wr.cell? ⟨w.heap.size,0,none⟩=some (.string a):=by rw[HX.out.cell (by simpa using VY)];exact d0
     have fE:w.heap.size<wr.heap.size:=by omega
     have heq:(sn.toList == a.toList)=(x.set.name == a.data.toList):=by rw[dQ,dQ,ar]
     have uo:Hid (Np.jC x.set.type (x.set.name == a.data.toList)=true->∀ j y,j<k+1->l[j]?=some y->Np.jC y.set.type (y.set.name == a.data.toList)=true):=jq (λh j y hj hy=>by
      by_cases e:j=k
      ·subst e;rw[ac] at hy;cases hy;exact h
      ·exact HA.out j y (by omega) hy)
     have Fu:Hid (Np.jC x.set.type (x.set.name == a.data.toList)=false->r=false):=jq (λh=>by
      rw[<-HR.out];exact Np.aC λq=>by have:=q.fits x (gQ ac);rw[h] at this;cases this)
     have aY:Hid (∀ o,Below w5.heap.size w5 (wr.alloc o)):=jq (λo=>HX.out.alloc HX.out.size _);generalize (x.set.name == a.data.toList)=bb at *;clear ac ar aO bh
     cases hf:Np.jC x.set.type bb with
     | true=>
      have HF:=jq hf;go_wp2_with (go_at_call 271;refine (MD _ _ _).mono ?_;rintro e w' ⟨rfl,rfl⟩);go_roundw
      case rel=>exact⟨k+1,by omega,by go_num,jq (aY.out _),jq (uo.out HF.out)⟩
      case measure=>simp[intOf] <;> omega
     | false=>
      have HF:=jq hf;go_wp2_with (go_at_call 271;refine (MD _ _ _).mono ?_;rintro e w' ⟨rfl,rfl⟩);go_ret;exact⟨ag (Fu.out HF.out).symm,az.out.trans ((aY.out _).aDQ)⟩
    ·go_wp2_with fail;go_ret;refine⟨ag ?_,az.out.trans (HX.out.aDQ)⟩;rw[<-HR.out];refine (Np.ba ⟨H4.out,H2.out,λx hx=>?_⟩).symm;obtain⟨j,hj,rfl⟩:=nQ.1 hx;exact HA.out j _ (by omega) (aQ hj)
end
section
open Go.RowKit Go.Sort Go.Shelf
section
variable {α:Type} [Inhabited α]
theorem GL(enc:α->List Value)(k:Nat)(hk:∀ x,(enc x).length=k)(h0:0<k)(xs:List α):(flatK enc k xs.toArray).toList=(xs.map enc).flatten:=by
 have hlen:(xs.map enc).flatten.length=xs.length * k:=by
  clear h0
  induction xs with
  | nil=>simp
  | cons y ys ih=>rw[List.map_cons,List.flatten_cons,List.length_append,ih,hk,List.length_cons,Nat.succ_mul];omega
 apply List.ext_getElem?;intro t;by_cases ht:t<xs.length * k
 ·have h1:t / k<xs.length:=(Nat.div_lt_iff_lt_mul h0).2 ht;have h2:t % k<k:=Nat.mod_lt _ h0;have hr:(xs.map enc)[t / k]?=some (enc xs[t / k]):=by simp[h1]
  have hu:(enc xs[t / k])[t % k]?=some ((enc xs[t / k])[t % k]'(by rw[hk];exact h2)):=aQ _;have h3:=C8 (xs.map enc) (t / k) (t % k) _ _ (by intro r hr;obtain⟨x,_,rfl⟩:=List.mem_map.1 hr;exact hk x) hr hu;rw[show t / k * k+t % k=t by rw[Nat.mul_comm];exact Nat.div_add_mod t k] at h3;rw[h3];have hs:t<(flatK enc k xs.toArray).size:=by simpa using ht
  rw[Array.getElem?_toList,pQ hs];congr 1;have h4:=get_flatK enc k xs.toArray t (by simpa using ht);rw[getElem!_pos (flatK enc k xs.toArray) t hs] at h4;rw[h4];rw[getElem!_pos xs.toArray (t / k) (by simpa using h1)];rw[getElem!_pos _ (t % k) (by rw[hk];exact h2)];simp
 ·rw[List.getElem?_eq_none (by simp;omega),List.getElem?_eq_none (by rw[hlen];omega)]
theorem Xb(enc:α->List Value)(k:Nat)(hk:∀ x,(enc x).length=k)(h0:0<k){w:World}{g:Nat}{cur:Array Value}{e:TypeId}{xs:List α}(hb:w.heap[g]?=some (.cells cur e (0,0)))(ht:cur.toList.take (xs.length * k)=(xs.map enc).flatten):HoldsK enc k w g 0 xs.toArray:=by
 intro j hj;have hj':j<xs.length * k:=by simpa using hj
 refine⟨?_,by simp[World.frozen?,hb]⟩;have h1:(cur.toList.take (xs.length * k))[j]?=(flatK enc k xs.toArray).toList[j]?:=by rw[ht,GL enc k hk h0]
 rw[List.getElem?_take_of_lt hj'] at h1;simp only[World.cell?,hb,Nat.zero_add,Option.isSome_none,Bool.false_eq_true,if_false];rw[<-Array.getElem?_toList,h1];have hs:j<(flatK enc k xs.toArray).size:=by simpa using hj'
 rw[Array.getElem?_toList,pQ hs,getElem!_pos _ j hs];rfl
theorem Wk(enc:α->List Value)(k:Nat){w:World}{g n:Nat}{os:Array Obj}{cur:Array Value}{e:TypeId}{fr:Nat×Nat}(d:Array α)(hb:w.heap[g]?=some (.cells cur e fr)) :
 (sortWorldK enc k w g 0 n d os).heap[g]?=some (.cells (putCells id 0 (flatK enc k d) cur) e fr):=by
 have hl:g<w.heap.size:=(eQ.1 hb).1;unfold sortWorldK putRowK;rw[heap_grow_old _ _ (by simpa [putRow,mapBlock,Sort.ahead] using hl)];simp[putRow,mapBlock,Sort.ahead,Array.getElem?_modify,hb,onCells]
theorem Vk(enc:α->List Value)(k:Nat){w:World}{g n:Nat}{os:Array Obj}(d:Array α):w.grownBy (sortWorldK enc k w g 0 n d os) (some g):=by
 unfold sortWorldK putRowK;refine⟨rfl,rfl,rfl,by simp,λq hq hne=>?_⟩;rw[heap_grow_old _ _ (by simpa using hq)]
 have:g≠q:=λe=>hne (by rw[e])
 simp[putRow,mapBlock,Sort.ahead,Array.getElem?_modify,this]
theorem ZD(enc:α->List Value)(k:Nat)(hk:∀ x,(enc x).length=k)(h0:0<k){w:World}{base g cap n:Nat}{e:TypeId}{os:Array Obj}{cur:Array Value}{xs ys:List α}(hl:ys.length=xs.length)(eC:base<=g)(hb:w.heap[g]?=some (.cells cur e (0,0)))
 (h1:xs.length<=cap) (h2:cap<=maxLen) (h3:cur.size=cap * k) :
 (sortWorldK enc k w g 0 n ys.toArray os).ownsRow base e k (.slice (some ⟨g,0,none⟩) xs.length cap) xs.length (ys.map enc).flatten:=by
 have xZ:(ys.map enc).flatten.length=ys.length * k:=by
  rw[<-GL enc k hk h0 ys];simp
 have gH:ys.length * k<=cur.size:=by rw[h3];exact Nat.mul_le_mul_right k (by omega)
 refine⟨by rw[xZ,hl],.inr ⟨g,cap,_,rfl,eC,Wk enc k _ hb,h1,h2,by simp[putCells,h3],?_⟩⟩;rw[<-hl];apply List.ext_getElem?;intro j;by_cases hj:j<ys.length * k
 ·rw[List.getElem?_take_of_lt hj,Array.getElem?_toList,<-GL enc k hk h0 ys];have hs:j<(flatK enc k ys.toArray).size:=by simpa using hj
  rw[Array.getElem?_toList,pQ hs];have x8:j<cur.size:=by omega
  simp[putCells,hj,x8]
 ·rw[List.getElem?_take_eq_none (by omega),List.getElem?_eq_none (by rw[xZ];omega)]
end
def fW(s:Np.Span):List Value:=[.int .i64 s.frm,.int .i64 s.til]
def aN(base:Nat)(w:World)(v:Value)(ps:List Np.Span):Prop:=w.ownsRow base 110 2 v ps.length (ps.map fW).flatten
theorem aN.form{base:Nat}{w:World}{v:Value}{ps:List Np.Span}(h:aN base w v ps):∃ A c,v = .slice A ps.length c:=yr h
theorem aN.alloc{base:Nat}{w:World}{v:Value}{ps:List Np.Span}(h:aN base w v ps)(o:Obj):aN base (w.alloc o) v ps:=World.ownsRow.alloc h o
theorem aN.keep{base:Nat}{w w':World}{v:Value}{ps:List Np.Span}(h:aN base w v ps)(hb:Below w.heap.size w w'):aN base w' v ps:=gY h (λg hg=>hb.block g (h.lt g hg).2)
theorem aN.nil(base:Nat)(w:World):aN base w (.slice none 0 0) []:=⟨by simp,.inl ⟨rfl,rfl⟩⟩
theorem aN.slr{base:Nat}{w:World}{v:Value}{ps:List Np.Span}(h:aN base w v ps)(hl:ps.length<=140737488355328):SlR eJ 2 w w.heap.size v ps:=by
 refine Jw (sz:=2) (e:=110) (base:=base) fW (λ_ _=>rfl) ?_ hl (λx hx=>rfl)
 have:w.ownsRow base 110 2 v ps.length (ps.map fW).flatten:=h
 rwa [<-List.flatMap_def] at this
theorem Tryz.infoSpan:(prog.info? 110).map (λi=>(i.zero,i.size,i.bytes))=some (some (.agg #[.int .i64 0,.int .i64 0]),2,16):=by kernel_rfl
section
variable {ops:Array Oper} {rest:List Oper} {o:Oper} {a:Act} {Q:Exit->Act->World->Prop}
theorem EQ(w:World)(iU:o.guard=none)(s x:Operand)(ho:o.op = .call { callee:=.builtin .append,args:=#[s,x],argTypes:=#[55,55] })
 (base:Nat) (v:Value) (ps:List Np.Span) (hs:a.eval s=v) (hown:aN base w v ps) (blk:Nat) (f u:Int) (hx:a.eval x = .slice (some ⟨blk,0,none⟩) 1 1) (hc:w.cell? ⟨blk,0,none⟩=some (.int .i64 f)) (bq:w.cell? ⟨blk,1,none⟩=some (.int .i64 u)) (hlen:ps.length<=100000) (eC:base<=w.heap.size)
 (h:∀ v' w',aN base w' v' (ps ++ [⟨f,u⟩])->Below base w w'->wpList prog ops Q rest (a.put o.dst v') w'):wpList prog ops Q (o::rest) a w:=by
 obtain⟨i0,hi,db,bk,aK⟩:=info_parts Tryz.infoSpan;refine wpList_append_own_at w iU s x 55 ho base 110 i0 (.agg #[.int .i64 0,.int .i64 0]) 2 16 underlying55 hi db bk aK rfl (by decide) v ps.length (ps.map fW).flatten hs hown ⟨blk,0,none⟩ 1 1 [.int .i64 f,.int .i64 u] hx rfl ?_ (by simp[Value.oneCell']) (by unfold maxLen;omega) (by omega) eC ?_
 ·intro j y hj
  match j,hj with
  | 0,hj=>simp at hj;subst hj;simpa [Addr.add] using hc
  | 1,hj=>simp at hj;subst hj;simpa [Addr.add] using bq
  | j+2,hj=>simp at hj
 ·intro v' w' ho' hg _ _;refine h v' w' ?_ ((vQ _ _).grown hg eC (λk hk=>(hown.lt k hk).1));have e:(ps ++ [(⟨f,u⟩:Np.Span)]).length=ps.length+1:=by simp
  unfold aN;rw[e,List.map_append,List.flatten_append];exact ho'
end
theorem Va(f u:Int)(w:World) :
 Calls prog 177 #[.agg #[.int .i64 f,.int .i64 u]] w (aFQ w.heap.size w (.bool (decide (f<u)))):=by
 have HB:Hid (∀ o,Below w.heap.size w (w.alloc o)):=jq (λo=>(vQ _ w).alloc (bQ _) _);go_enter func177,ntmps177;go_wp2_with fail;go_ret;exact⟨rfl,HB.out _⟩
theorem anQ(v:Value)(l:List Np.Span)(cg:l.length<=20000)(hf:∀ s∈l,s.frm<s.til)(w:World)(h:SlR eJ 2 w w.heap.size v l) :
 Calls prog 176 #[v,.func (.func 177) #[] #[]] w λe w'=>∃ v',e = .returned v'/\aN w.heap.size w' v' l/\Below w.heap.size w w':=by
 have HD:=jq h;have HF:=jq hf;obtain⟨A,c,rfl,bq,bN⟩:=ak h;clear h hf;have HE:=jq (enters_of func177 (by kernel_rfl) rfl);go_enter func176,ntmps176;go_wp2_with fail;go_loopw [5,10] (λvo i wr=>∃ (k:Nat),k<=l.length/\i = .int .i64 k/\Hid (Below w.heap.size w wr)/\Hid (aN w.heap.size wr vo (l.take k))) (λ_ i _=>l.length - (intOf i).toNat)
 case atStart=>exact⟨0,jQ _,rfl,jq (vQ _ _),jq (aN.nil _ _)⟩
 case round=>
  obtain⟨k,hk,rfl,HB,HO⟩:=hrel;have an:=HB.out.size;by_cases aa:k<l.length
  ·obtain⟨x,ac⟩:∃ x,l[k]?=some x:=⟨_,aQ aa⟩;obtain⟨A',c',hA',_,_,bX⟩:=HD.out.keep iu HB.out
   cases hA'
   obtain⟨b,o,e,rfl,bD,hlen,hce,hR⟩:=bX k _ ac;obtain rfl:=hR;have h0:wr.cell? ⟨b,o+k * 2,none⟩=some (.int .i64 x.frm):=hce 0 _ rfl;have h1:wr.cell? ⟨b,o+k * 2+1,none⟩=some (.int .i64 x.til):=hce 1 _ rfl;have hd:decide (x.frm<x.til)=true:=uQ (HF.out x (gQ ac));have HT:Hid (l.take (k+1)=l.take k ++ [x]):=jq (by
    obtain⟨hl,he⟩:=cQ.1 ac;rw[fQ hl,he])
   have HL:Hid ((l.take k).length<=100000):=jq (by rw[List.length_take];omega);obtain⟨f,u⟩:=x;have dJ:b<wr.heap.size:=by omega
   clear bX hce ac;dsimp only at h0 h1 hd;have aY:Hid (∀ o,Below w.heap.size w (wr.alloc o)):=jq (λo=>HB.out.alloc HB.out.size _);go_wp2_with (fail);refine (Va f u _).mono ?_;rintro e w2 ⟨rfl,ae⟩;rw[hd];have ai:Hid (Below w.heap.size w w2):=jq ((aY.out _).trans (ae.mono (by simp;omega)));have eH:Hid (aN w.heap.size w2 u5 (l.take k)):=jq ((HO.out.alloc _).keep ae);have c0:w2.cell? ⟨wr.heap.size,0,none⟩=some (.int .i64 f):=by rw[ae.cell (by simp)];simp[go_sem]
   have c1:w2.cell? ⟨wr.heap.size,1,none⟩=some (.int .i64 u):=by rw[ae.cell (by simp)];simp[go_sem]
   have aK:wr.heap.size<w2.heap.size:=by have:=ae.size;simp at this;omega
   clear ae;go_wp2_with (at_builtin;refine EQ _ rfl _ _ rfl w.heap.size _ (l.take k) rfl (eH.out.alloc _) w2.heap.size f u (by simp[go_sem]) (by simp[go_sem]) (by simp[go_sem]) HL.out (by simp;omega) ?_;intro v5 w5 gS aJ;have H5:=jq (And.intro gS aJ);clear gS aJ);go_roundw
   case rel=>exact⟨k+1,by omega,by go_num,jq ((ai.out.alloc (by omega) _).trans H5.out.2),jq (by rw[HT.out];exact H5.out.1)⟩
   case measure=>simp[intOf] <;> omega
  ·have HE':Hid (l.take k=l):=jq (kQ (by omega));go_wp2_with fail;go_ret;exact⟨_,rfl,by have:=HO.out;rwa [HE'.out] at this,HB.out⟩
instance:Inhabited Np.Span:=⟨⟨0,0⟩⟩
theorem Zn(f u f' u':Int)(w:World) :
 Calls prog 178 #[.agg #[.int .i64 f,.int .i64 u],.agg #[.int .i64 f',.int .i64 u']] w λe w'=>e = .returned (.int .i64 (Np.cO f f'))/\∃ q os,w'=grow (w.drewN q) os:=by
 go_enter func178,ntmps178;go_wp2_with (go_at_call 123;refine (zY _ _ _).mono ?_;rintro e w' ⟨rfl,rfl⟩);go_ret;exact⟨rfl,0,_,by rw[alloc_eq_grow,alloc_eq_grow,grow_grow];rfl⟩
theorem Eg(x y:Np.Span):ltOf (λx y:Np.Span=>Np.cO x.frm y.frm) x y=decide (x.frm<y.frm):=by
 unfold ltOf Np.cO;by_cases h1:x.frm<y.frm
 ·simp[h1]
 ·by_cases h2:y.frm<x.frm <;> simp[h1,h2]
theorem aqK:SWO (ltOf λx y:Np.Span=>Np.cO x.frm y.frm) where
 irrefl x:=by rw[Eg];simp
 trans x y z h1 h2:=by rw[Eg] at *;simp at *;omega
 ntrans x y z h1 h2:=by rw[Eg] at *;simp at *;omega
theorem aoJ{d d':Array Np.Span}(hp:PermIn 0 d.size d d')(hs:SortedIn (ltOf λx y:Np.Span=>Np.cO x.frm y.frm) 0 d.size d'):d'.toList.Perm d.toList/\d'.toList.Pairwise λa b=>a.frm<=b.frm:=by
 obtain⟨h1,_,h3⟩:=hp;refine⟨?_,?_⟩
 ·have e1:d'.extract 0 d.size=d':=by rw[<-h1];simp
  have e2:d.extract 0 d.size=d:=by simp
  rwa [e1,e2] at h3
 ·rw[List.pairwise_iff_getElem];intro i j hi hj dp
  have:=hs i j (jQ _) dp (by rw[<-h1];simpa using hj)
  rw[Eg,getElem!_pos d' i (by simpa using hi),getElem!_pos d' j (by simpa using hj)] at this;simpa using this
theorem Qp(fid:FuncId)(Wo:∀ (f u f' u':Int) (w:World),Calls prog fid #[.agg #[.int .i64 f,.int .i64 u],.agg #[.int .i64 f',.int .i64 u']] w λe w'=>e = .returned (.int .i64 (Np.cO f f'))/\∃ q os,w'=grow (w.drewN q) os)(eg:∀ args w,(callFunc fid args).run prog w = .ok (.enter fid args) w)(base:Nat)(v:Value)(xs:List Np.Span)(w:World)(hown:aN base w v xs)(hl:xs.length<=100000) :
 Calls prog 121 #[v,.func (.func fid) #[] #[]] w λe w'=>e = .returned (.tuple #[])/\∃ ys:List Np.Span,ys.Perm xs/\ys.Pairwise (λa b=>a.frm<=b.frm)/\aN base w' v ys/\w.grownBy w' v.ownBlock:=by
 have pM:w.ownsRow base 110 2 v xs.length (xs.map fW).flatten:=hown;rcases pM.2 with ⟨rfl,h0⟩ | ⟨g,cap,cur,rfl,eC,hb,h1,h2,h3,h4⟩
 ·have:xs = []:=rQ h0
  subst this;refine (AnyF.slices_SortFunc_none Tryz.sortSpan none 0 _ w).mono ?_;intro e w' hh;obtain⟨rfl,rfl⟩:=hh;exact⟨rfl,[],List.Perm.refl _,List.Pairwise.nil,hown,⟨rfl,rfl,rfl,bQ _,λ_ _ _=>rfl⟩⟩
 have aE:∀ w,(isAgg 110).run prog w = .ok true w:=λw=>by kernel_rfl
 have zE:∀ w,(Go.sizeOf 110).run prog w = .ok 2 w:=λw=>by kernel_rfl
 have hH:=Xb fW 2 (λ_=>rfl) (by omega) hb h4;have AO:CmpLays prog fid #[] fW 2 (λx y:Np.Span=>Np.cO x.frm y.frm) g 0 xs.toArray.size w:=λm os dk _ x y=>Wo x.frm x.til y.frm y.til _;have DF:=AnyQ.slices_SortFunc Tryz.sortSpan 2 aE zE fW (λ_=>rfl) (λx u hu=>by simp only[fW,List.mem_cons,Qh,or_false] at hu;rcases hu with rfl | rfl <;> rfl) (λx y:Np.Span=>Np.cO x.frm y.frm) aqK fid #[] g 0 cap xs.toArray w eg AO hH (eQ.1 hb).1 (by simp;omega);refine DF.mono λe w' ⟨he,d',n,os,hp,hs,hw⟩=>⟨he,d'.toList,?_⟩;obtain⟨p1,p2⟩:=aoJ hp hs;have hlen:d'.toList.length=xs.length:=by simpa using p1.length_eq
 refine⟨by simpa using p1,p2,?_,?_⟩
 ·subst hw;unfold aN;rw[hlen]
  have:=ZD fW 2 (λ_=>rfl) (by omega) (n:=n) (os:=os) hlen eC hb h1 h2 h3
  simpa using this
 ·subst hw;exact Vk fW 2 _
theorem aoQ(base:Nat)(v:Value)(xs:List Np.Span)(w:World)(hown:aN base w v xs)(hl:xs.length<=100000) :
 Calls prog 121 #[v,.func (.func 178) #[] #[]] w λe w'=>e = .returned (.tuple #[])/\∃ ys:List Np.Span,ys.Perm xs/\ys.Pairwise (λa b=>a.frm<=b.frm)/\aN base w' v ys/\w.grownBy w' v.ownBlock:=
 Qp _ Zn (enters_of func178 (by kernel_rfl) rfl) base v xs w hown hl
theorem QG:∀ (l o:List Np.Span),(l.foldl Np.gm o).length<=o.length+l.length:=by
 intro l
 induction l with
 | nil=>intro o;simp
 | cons s l ih=>
  intro o;have h1:(Np.gm o s).length<=o.length+1:=by
   rcases List.eq_nil_or_concat o with rfl | ⟨q,p,rfl⟩
   ·simp[Np.QF]
   ·rw[List.concat_eq_append,Np.JM];split <;> simp
  have:=ih (Np.gm o s)
  rw[List.foldl_cons,List.length_cons];omega
theorem U2(q:List Np.Span)(p:Np.Span)(u:Int):(((q ++ [p]).map fW).flatten).set (q.length * 2+1) (.int .i64 u)=((q ++ [(⟨p.frm,u⟩:Np.Span)]).map fW).flatten:=by
 have hl:((q.map fW).flatten).length=q.length * 2:=by rw[<-List.flatMap_def];induction q with | nil=>rfl | cons a q ih=>simp[List.flatMap_cons,ih,fW];omega
 rw[List.map_append,List.flatten_append,List.map_append,List.flatten_append,List.set_append_right _ _ (by rw[hl];omega),hl];congr 1;rw[show q.length * 2+1 - q.length * 2=1 by omega];rfl
theorem U1(q:List Np.Span)(p:Np.Span)(j:Nat):(((q ++ [p]).map fW).flatten)[q.length * 2+j]?=(fW p)[j]?:=by
 have hl:((q.map fW).flatten).length=q.length * 2:=by rw[<-List.flatMap_def];induction q with | nil=>rfl | cons a q ih=>simp[List.flatMap_cons,ih,fW];omega
 rw[List.map_append,List.flatten_append,oQ (by rw[hl];omega),hl];simp
theorem asX(v:Value)(l:List Np.Span)(cg:l.length<=20000)(w:World)(h:SlR eJ 2 w w.heap.size v l) :
 Calls prog 179 #[v] w (λe w'=>∃ v',e = .returned v'/\aN w.heap.size w' v' (l.foldl Np.gm [])/\Below w.heap.size w w'):=by
 have HD:=jq h;obtain⟨A,c,rfl,bq,bN⟩:=ak h;clear h;have HN:Hid (∀ k,((l.take k).foldl Np.gm []).length<=k):=jq (λk=>yQ (QG _ _) (by simp;omega));go_enter func179,ntmps179;go_wp2_with fail;go_loopw [3,9] (λvo i wr=>∃ (k:Nat),k<=l.length/\i = .int .i64 k/\Hid (Below w.heap.size w wr)/\Hid (aN w.heap.size wr vo ((l.take k).foldl Np.gm []))) (λ_ i _=>l.length - (intOf i).toNat)
 case atStart=>exact⟨0,jQ _,rfl,jq (vQ _ _),jq (aN.nil _ _)⟩
 case round=>
  obtain⟨k,hk,rfl,HB,HO⟩:=hrel;have an:=HB.out.size;by_cases aa:k<l.length
  ·obtain⟨x,ac⟩:∃ x,l[k]?=some x:=⟨_,aQ aa⟩;obtain⟨A',c',hA',_,_,bX⟩:=HD.out.keep iu HB.out
   cases hA'
   obtain⟨b,o,e,rfl,bD,hlen,hce,hR⟩:=bX k _ ac;obtain rfl:=hR;have h0:wr.cell? ⟨b,o+k * 2,none⟩=some (.int .i64 x.frm):=hce 0 _ rfl;have h1:wr.cell? ⟨b,o+k * 2+1,none⟩=some (.int .i64 x.til):=hce 1 _ rfl;have HT:Hid ((l.take (k+1)).foldl Np.gm []=Np.gm ((l.take k).foldl Np.gm []) x):=jq (by
    obtain⟨hl,he⟩:=cQ.1 ac;rw[fQ hl,he,List.foldl_append];rfl)
   have dJ:b<wr.heap.size:=by omega
   have aY:Hid (∀ o,Below w.heap.size w (wr.alloc o)):=jq (λo=>HB.out.alloc HB.out.size _);have yg:=HN.out k;obtain⟨fr,ti⟩:=x;clear bX hce ac;dsimp only at h0 h1;obtain⟨ol,NV⟩:=aCQ ((l.take k).foldl Np.gm []);rw[NV] at HO HT yg;clear NV;rcases List.eq_nil_or_concat ol with rfl | ⟨q,p,rfl⟩
   ·obtain⟨A0,c0,rfl⟩:=aN.form HO.out;go_wp2_with fail;go_quiet (fail);obtain⟨w2,aj⟩:=aCQ ((wr.alloc (.cells #[.int .i64 fr,.int .i64 ti] 110)).drewN nq);have aK:w2.heap.size=wr.heap.size+1:=by rw[<-aj];simp
    have c0:w2.cell? ⟨wr.heap.size,0,none⟩=some (.int .i64 fr):=by rw[<-aj];simp[go_sem]
    have c1:w2.cell? ⟨wr.heap.size,1,none⟩=some (.int .i64 ti):=by rw[<-aj];simp[go_sem]
    have ig:Below wr.heap.size wr w2:=by rw[<-aj];exact below_drewN ((vQ _ _).alloc (bQ _) _) _
    have ai:Hid (Below w.heap.size w w2):=jq (HB.out.trans (ig.mono an));have eH:Hid (aN w.heap.size w2 _ []):=jq (HO.out.keep ig);rw[aj];clear aj ig;go_wp2_with (at_builtin;refine EQ _ rfl _ _ rfl w.heap.size _ [] rfl (eH.out.alloc _) w2.heap.size fr ti (by simp[go_sem]) (by simp[go_sem]) (by simp[go_sem]) (by simp) (by simp;omega) ?_;intro v5 w5 gS aJ;have H5:=jq (And.intro gS aJ);clear gS aJ);go_roundw
    case rel=>exact⟨k+1,by omega,by go_num,jq ((ai.out.alloc (by omega) _).trans H5.out.2),jq (by rw[HT.out];exact H5.out.1)⟩
    case measure=>simp[intOf] <;> omega
   ·rw[List.concat_eq_append] at HO HT yg;have hown:wr.ownsRow w.heap.size 110 2 u3 (q ++ [p]).length ((q ++ [p]).map fW).flatten:=HO.out;have Kj:=jq (U1 q p);have RM:=jq (U2 q p);have zc:Hid ((q ++ [p]).length<=100000):=jq (by omega);have nv:(q ++ [p]).length=q.length+1:=by simp
    have hqk:q.length+1<=k:=by rw[nv] at yg;exact yg
    clear yg;rcases hown.2 with ⟨_,Vm⟩ | ⟨g,cap,cur,rfl,eC,hb,bU,cV,_,_⟩
    ·rw[nv] at Vm;omega
    have iw:=jq hown;have lg:g<wr.heap.size:=(eQ.1 hb).1;clear hb hown;obtain⟨M,hM⟩:=aCQ ((q ++ [p]).length);obtain⟨m,hm⟩:=aCQ q.length;have g0:wr.cell? ⟨g,m * 2,none⟩=some (.int .i64 p.frm):=by
     rw[<-hm,iw.out.cellAt _ (by rw[nv];omega)]
     have:=Kj.out 0
     rwa [Nat.add_zero] at this
    have g1:wr.cell? ⟨g,m * 2+1,none⟩=some (.int .i64 p.til):=by
     rw[<-hm,iw.out.cellAt _ (by rw[nv];omega)];exact Kj.out 1
    have gf:wr.frozen? ⟨g,m * 2+1,none⟩=false:=iw.out.frozenAt _;rw[nv,hm] at hM;have hq:IntKind.i64.wrap ((M:Int) - 1)=(m:Int):=by rw[show (M:Int) - 1=m by omega];simp[IntKind.wrap,IntKind.bits,IntKind.signed];omega
    have hM0:decide (0<(M:Int))=true:=aDX;have aDK:decide (0<M)=true:=aDX;have hmM:m<M:=by omega
    have aLZ:(m:Int)<(M:Int):=by omega
    have jj:(0:Int)<=(m:Int):=by omega
    have HM:Hid ((q ++ [p]).length=M):=jq (by rw[nv,hm,hM]);rw[HM.out] at bU;have KA:=jq hM;have HQ:=jq hm;have qp:=jq (Np.JM q p ⟨fr,ti⟩);clear hM hm nv;rw[HM.out];by_cases gH:fr<=p.til
    ·have hd:decide (fr<=p.til)=true:=uQ gH;have iy:Hid ((l.take (k+1)).foldl Np.gm []=q ++ [⟨p.frm,max p.til ti⟩]):=jq (by rw[HT.out,qp.out,Qb gH]);clear gH;go_wp2_with fail;go_quiet (fail);obtain⟨w2,aj⟩:=aCQ ((wr.alloc (.cells #[.int .i64 fr,.int .i64 ti] 110)).drewN nq);have aK:w2.heap.size=wr.heap.size+1:=by rw[<-aj];simp
     have c0:w2.cell? ⟨wr.heap.size,0,none⟩=some (.int .i64 fr):=by rw[<-aj];simp[go_sem]
     have c1:w2.cell? ⟨wr.heap.size,1,none⟩=some (.int .i64 ti):=by rw[<-aj];simp[go_sem]
     have ig:Below wr.heap.size wr w2:=by rw[<-aj];exact below_drewN ((vQ _ _).alloc (bQ _) _) _
     have ai:Hid (Below w.heap.size w w2):=jq (HB.out.trans (ig.mono an));have eH:Hid (aN w.heap.size w2 (.slice (some ⟨g,0,none⟩) M cap) (q ++ [p])):=jq (HM.out ▸ HO.out.keep ig);rw[aj];clear aj;have d1:w2.cell? ⟨g,m * 2+1,none⟩=some (.int .i64 p.til):=(ig.cell lg).trans g1;have df:w2.frozen? ⟨g,m * 2+1,none⟩=false:=(ig.frozen lg).trans gf;clear ig g0 g1 gf;go_wp2_with fail;go_region;have dF:Hid (aN w.heap.size (w2.setCell ⟨g,m * 2+1,none⟩ (.int .i64 (max p.til ti))).drew (.slice (some ⟨g,0,none⟩) M cap) (q ++ [⟨p.frm,max p.til ti⟩])/\Below w.heap.size w (w2.setCell ⟨g,m * 2+1,none⟩ (.int .i64 (max p.til ti))).drew):=jq (by
      have h1:w2.ownsRow w.heap.size 110 2 (.slice (some ⟨g,0,none⟩) (q ++ [p]).length cap) (q ++ [p]).length ((q ++ [p]).map fW).flatten:=by
       have:=eH.out
       rw[<-HM.out] at this;exact this
      obtain⟨h2,h3⟩:=World.ownsRow.stored h1 (m * 2+1) (.int .i64 (max p.til ti));refine⟨aN.keep (w:=w2.setCell ⟨g,m * 2+1,none⟩ (.int .i64 (max p.til ti))) ?_ (vQ _ _).drew,(ai.out.grown h3 ai.out.size (λk hk=>by simp at hk;omega)).drew⟩;rw[<-HQ.out] at h2 |-;rw[RM.out] at h2;have e1:(q ++ [(⟨p.frm,max p.til ti⟩:Np.Span)]).length=(q ++ [p]).length:=by simp
      unfold aN;rw[e1,<-HM.out];exact h2)
     go_wp2_with fail;go_roundw
     case rel=>exact⟨k+1,by omega,by go_num,jq dF.out.2,jq (by rw[iy.out];exact dF.out.1)⟩
     case measure=>simp[intOf] <;> omega
    ·have hd:decide (fr<=p.til)=false:=tQ gH;have iy:Hid ((l.take (k+1)).foldl Np.gm []=q ++ [p] ++ [⟨fr,ti⟩]):=jq (by rw[HT.out,qp.out,Qc gH]);clear gH;go_wp2_with fail;go_quiet (fail);obtain⟨w2,aj⟩:=aCQ ((wr.alloc (.cells #[.int .i64 fr,.int .i64 ti] 110)).drewN nq);have aK:w2.heap.size=wr.heap.size+1:=by rw[<-aj];simp
     have c0:w2.cell? ⟨wr.heap.size,0,none⟩=some (.int .i64 fr):=by rw[<-aj];simp[go_sem]
     have c1:w2.cell? ⟨wr.heap.size,1,none⟩=some (.int .i64 ti):=by rw[<-aj];simp[go_sem]
     have ig:Below wr.heap.size wr w2:=by rw[<-aj];exact below_drewN ((vQ _ _).alloc (bQ _) _) _
     have ai:Hid (Below w.heap.size w w2):=jq (HB.out.trans (ig.mono an));have eH:Hid (aN w.heap.size w2 (.slice (some ⟨g,0,none⟩) M cap) (q ++ [p])):=jq (HM.out ▸ HO.out.keep ig);rw[aj];clear aj;clear ig g0 g1 gf;go_wp2_with (at_builtin;refine EQ _ rfl _ _ rfl w.heap.size _ (q ++ [p]) rfl (eH.out.alloc _) w2.heap.size fr ti (by simp[go_sem]) (by simp[go_sem]) (by simp[go_sem]) zc.out (by simp;omega) ?_;intro v5 w5 gS aJ;have H5:=jq (And.intro gS aJ);clear gS aJ);go_roundw
     case rel=>exact⟨k+1,by omega,by go_num,jq ((ai.out.alloc (by omega) _).trans H5.out.2),jq (by rw[iy.out];exact H5.out.1)⟩
     case measure=>simp[intOf] <;> omega
  ·have HE':Hid (l.take k=l):=jq (kQ (by omega));go_wp2_with fail;go_ret;exact⟨_,rfl,by have:=HO.out;rwa [HE'.out] at this,HB.out⟩
end
namespace Np
def cP(a:List UInt8)(l:List Signed):List (List UInt8):=(l.filter λx=>decide (x.set.type=2)&&!(x.set.name == a)).map (·.set.name)
theorem Uv(a:List UInt8)(l:List Signed)(x:Signed):cP a (l ++ [x])=if x.set.type=2/\x.set.name≠a then cP a l ++ [x.set.name] else cP a l:=by
 unfold cP;rw[List.filter_append];by_cases h1:x.set.type=2 <;> by_cases h2:x.set.name=a <;> simp[h1,h2]
theorem BO{a:List UInt8}{l:List Signed}{c:List UInt8} : c∈cP a l↔cR ⟨a,l⟩ c=true:=by
 unfold cP;rw[GG,List.mem_map];constructor
 ·rintro⟨x,hx,rfl⟩;obtain⟨h1,h2⟩:=List.mem_filter.1 hx;simp only[Bool.and_eq_true,Qa,Bool.not_eq_true',beq_eq_false_iff_ne] at h2;exact⟨x,h1,h2.1,h2.2,rfl⟩
 ·rintro⟨x,hx,h1,h2,rfl⟩;exact⟨x,List.mem_filter.2 ⟨hx,by simpa [h1] using h2⟩,rfl⟩
theorem Mj{z:Zone}(h:InOrder z):(cP z.apex z.sets).Pairwise λa b=>aH a b<0:=by
 unfold cP;rw[List.pairwise_map];have h1:(z.sets.filter λx=>decide (x.set.type=2)&&!(x.set.name == z.apex)).Pairwise λa b=>gR a.set b.set<0:=by
  have:=h.order
  rw[List.pairwise_map] at this;exact this.sublist List.filter_sublist
 refine h1.imp_of_mem λ{a b} ha hb aa=>?_;obtain⟨_,ha⟩:=List.mem_filter.1 ha;obtain⟨_,hb⟩:=List.mem_filter.1 hb;simp only[Bool.and_eq_true,Qa] at ha hb;rcases Int.lt_or_eq_of_le (L6 aa) with h2 | h2
 ·exact h2
 ·have:=L7 aa (fx.zero _ _ h2)
  omega
def oN(out:List (List UInt8))(c:List UInt8):List (List UInt8):=
 match out.getLast? with
 | none=>[c]
 | some h=>if bi c h=true then out else out ++ [c]
def er(l:List (List UInt8)):List (List UInt8):=l.foldl oN []
theorem Ns(l:List (List UInt8))(c:List UInt8):er (l ++ [c])=oN (er l) c:=by simp[er]
structure zJ(l out:List (List UInt8)):Prop where
 sub:out.Sublist l
 above:∀ c∈l,∃ h∈out,bi c h=true
 top:∀ h∈out,∀ c∈l,bi h c=true->c=h
theorem Wz{l out:List (List UInt8)}{c:List UInt8}(hne:∀ x∈l ++ [c],x≠[])(hs:(l ++ [c]).Pairwise λa b=>aH a b<0)(h:zJ l out):zJ (l ++ [c]) (oN out c):=by
 obtain⟨h1,_,h3⟩:=List.pairwise_append.1 hs;have aa:∀ x∈l,aH x c<0:=λx hx=>h3 x hx c (by simp);have hout:∀ x∈out,x∈l:=λx hx=>h.sub.subset hx;have qC:c≠[]:=hne c (by simp);have Ol:∀ x∈l,bi x c=true->False:=λx hx hu=>by
  have a1:=EK qC hu;have a2:=fx.anti _ _ (aa x hx);omega
 unfold oN
 cases hg:out.getLast? with
 | none=>
  have ho:out = []:=by simpa using hg
  have hl:l = []:=by
   cases l with
   | nil=>rfl
   | cons y l=>obtain⟨q,hq,_⟩:=h.above y (by simp);rw[ho] at hq;cases hq
  subst ho hl;refine⟨by simp,λx hx=>⟨c,by simp,?_⟩,λx hx y hy _=>?_⟩
  ·simp at hx;subst hx;exact EL _
  ·simp at hx hy;rw[hx,hy]
 | some q=>
  have hq:q∈out:=List.mem_of_getLast? hg;dsimp only;split
  ·rename_i hu;refine⟨h.sub.trans (List.sublist_append_left _ _),λx hx=>?_,λx hx y hy cB=>?_⟩
   ·rcases List.mem_append.1 hx with hx | hx
    ·exact h.above x hx
    ·simp at hx;subst hx;exact⟨q,hq,hu⟩
   ·rcases List.mem_append.1 hy with hy | hy
    ·exact h.top x hx y hy cB
    ·simp at hy;subst hy;exact (Ol x (hout x hx) cB).elim
  ·rename_i hu;refine⟨List.Sublist.append h.sub (List.Sublist.refl _),λx hx=>?_,λx hx y hy cB=>?_⟩
   ·rcases List.mem_append.1 hx with hx | hx
    ·obtain⟨t,ht,lk⟩:=h.above x hx;exact⟨t,List.mem_append_left _ ht,lk⟩
    ·simp at hx;subst hx;exact⟨x,by simp,EL _⟩
   ·rcases List.mem_append.1 hx with ej | ej
    ·rcases List.mem_append.1 hy with rY | rY
     ·exact h.top x ej y rY cB
     ·rw[List.mem_singleton] at rY;rw[rY] at cB;exact (Ol x (hout x ej) cB).elim
    ·simp at ej;subst ej;rcases List.mem_append.1 hy with hy | hy
     ·exfalso;obtain⟨t,ht,lk⟩:=h.above y hy;have Oi:t≠[]:=hne t (List.mem_append_left _ (hout t ht));have X6:y≠[]:=hne y (List.mem_append_left _ hy);have Ox:=JL X6 Oi cB lk;by_cases IL:t=q
      ·subst IL;exact hu Ox
      ·obtain⟨o',ho'⟩:=List.getLast?_eq_some_iff.1 hg;have Oc:out.Pairwise λa b=>aH a b<0:=h1.sublist h.sub;rw[ho'] at Oc ht;have nL:t∈o':=by
        rcases List.mem_append.1 ht with ht | ht
        ·exact ht
        ·simp at ht;exact absurd ht IL
       have iY:=(List.pairwise_append.1 Oc).2.2 t nL q (by simp);have Xn:=aa q (hout q hq);have Xm:=JK Oi Ox (Int.le_of_lt iY) (Int.le_of_lt Xn);exact IL (h.top q hq t (hout t (by rw[ho'];exact List.mem_append_left _ nL)) Xm)
     ·simp at hy;exact hy
theorem Nu:∀ (r p:List (List UInt8)),(∀ x∈p++r,x≠[])->(p++r).Pairwise (λa b=>aH a b<0)->zJ p (er p)->zJ (p++r) (er (p++r))
 | [],p,_,_,h=>by rw[List.append_nil];exact h
 | c::r,p,hne,hs,h=>by
   have e:p++c::r=(p ++ [c])++r:=by simp
   rw[e] at hne hs |-;refine Nu r (p ++ [c]) hne hs ?_;rw[Ns];exact Wz (λx hx=>hne x (List.mem_append_left _ hx)) (List.pairwise_append.1 hs).1 h
theorem Wy(l:List (List UInt8))(hne:∀ x∈l,x≠[])(hs:l.Pairwise λa b=>aH a b<0):zJ l (er l):=
 Nu l [] hne hs ⟨List.Sublist.refl _,λc hc=>(by cases hc),λh hh=>(by cases hh)⟩
theorem Nt{z:Zone}(h:InOrder z):Lt (cR z) (er (cP z.apex z.sets))/\∀ c,cR z c=true->(∀ d,cR z d=true->bi c d=true->d=c)->c∈er (cP z.apex z.sets):=by
 have hne:∀ x∈cP z.apex z.sets,x≠[]:=λx hx=>Ae h x (BO.1 hx);have ho:=Wy _ hne (Mj h);refine⟨⟨λc hc=>⟨BO.1 (ho.sub.subset hc),λd hd hu=>ho.top c hc d (BO.2 hd) hu⟩,(Mj h).sublist ho.sub⟩,λc hc ht=>?_⟩;obtain⟨t,h1,h2⟩:=ho.above c (BO.2 hc);rw[<-ht t (BO.1 (ho.sub.subset h1)) h2];exact h1
def jp(H:List (List UInt8))(k:Nat)(n:List UInt8):List UInt8:=if 0<k/\bi n (H[k - 1]?.getD [])=true then H[k - 1]?.getD [] else []
theorem aeZ{z:Zone}(h:InOrder z){n:List UInt8}{k:Nat}(hk:k<=(er (cP z.apex z.sets)).length)(h1:∀ j x,j<k->(er (cP z.apex z.sets))[j]?=some x->aH x n<=0)(h2:∀ j x,k<=j->(er (cP z.apex z.sets))[j]?=some x->0<aH x n):je (cR z) n (jp (er (cP z.apex z.sets)) k n):=by
 obtain⟨p1,p2⟩:=Nt h
 have:=WA (Ae h) p1 (n:=n) (λc hc ht _=>p2 c hc ht) hk (λj hj tj=>h1 j _ tj (aQ hj)) (λj hj tj=>h2 j _ tj (aQ hj))
 unfold jp;split
 ·rename_i hc;rw[dif_pos hc] at this;exact this
 ·rename_i hc;rw[dif_neg hc] at this;exact this
end Np
section
open Go.RowKit Go.Sort Go.Shelf
def Np.zP(s:Np.Span):Prop:=0<=s.frm/\s.frm<s.til/\s.til<=20000000
theorem aN.weak{base base':Nat}{w:World}{v:Value}{ps:List Np.Span}(h:aN base w v ps)(hb:base'<=base):aN base' w v ps:=by
 refine⟨h.1,?_⟩;rcases h.2 with h2 | ⟨g,cap,cur,h1,h2,h3⟩
 ·exact .inl h2
 ·exact .inr ⟨g,cap,cur,h1,yQ hb h2,h3⟩
theorem Jh(l:List Np.Span):(Np.gX l).length<=l.length:=by
 have:=QG (l.mergeSort λa b=>decide (a.frm<=b.frm)) []
 simpa [Np.gX] using this
theorem Pa(v:Value)(l:List Np.Span)(cg:l.length<=20000)(hin:∀ s∈l,Np.zP s)(w:World)(h:SlR eJ 2 w w.heap.size v l) :
 Calls prog 109 #[v] w (λe w'=>∃ v',e = .returned (.tuple #[v',.int .i64 0])/\aN w.heap.size w' v' (Np.gX l)/\Below w.heap.size w w'):=by
 have HD:=jq h;have fU:=jq hin;obtain⟨A,c,rfl,bq,bN⟩:=ak h;clear h hin;have gH:decide (20000<(l.length:Int))=false:=aDJ;go_enter func109,ntmps109;go_wp2_with fail;go_loopw [12] (λi wr=>∃ (k:Nat),k<=l.length/\i = .int .i64 k/\Hid (Below w.heap.size w wr)) (λi _=>l.length - (intOf i).toNat)
 case atStart=>exact⟨0,jQ _,rfl,jq (vQ _ _)⟩
 case round=>
  obtain⟨k,hk,rfl,HB⟩:=hrel;have an:=HB.out.size;by_cases aa:k<l.length
  ·obtain⟨x,ac⟩:∃ x,l[k]?=some x:=⟨_,aQ aa⟩;obtain⟨A',c',hA',_,_,bX⟩:=HD.out.keep iu HB.out
   cases hA'
   obtain⟨b,o,e,rfl,bD,hlen,hce,hR⟩:=bX k _ ac;obtain rfl:=hR;have h0:wr.cell? ⟨b,o+k * 2,none⟩=some (.int .i64 x.frm):=hce 0 _ rfl;have h1:wr.cell? ⟨b,o+k * 2+1,none⟩=some (.int .i64 x.til):=hce 1 _ rfl;obtain⟨i1,i2,i3⟩:=fU.out x (gQ ac);have fG:decide (x.frm<0)=false:=aDJ;have kZ:decide (x.til<x.frm)=false:=aDJ;have Hz:decide (20000000<x.til)=false:=aDJ;have aY:Hid (∀ o,Below w.heap.size w (wr.alloc o)):=jq (λo=>HB.out.alloc HB.out.size _);have dJ:b<wr.heap.size:=by omega
   obtain⟨fr,ti⟩:=x;clear bX hce ac i1 i2 i3;dsimp only at h0 h1 fG kZ Hz;go_wp2_with fail;go_roundw
   case rel=>exact⟨k+1,by omega,by go_num,jq (aY.out _)⟩
   case measure=>simp[intOf] <;> omega
  ·have iL:=jq (HD.out.keep iu HB.out);go_wp2_with fail;refine (anQ _ l cg (λs hs=>(fU.out s hs).2.1) _ ((iL.out.more pW an))).mono ?_;rintro e w2 ⟨v2,rfl,lO,ae⟩;have eH:=jq lO;have ai:=jq (HB.out.trans (ae.mono an));have aK:wr.heap.size<=w2.heap.size:=ae.size;clear lO ae;obtain⟨A2,c2,rfl⟩:=eH.out.form;go_wp2_with fail;refine (aoQ wr.heap.size _ l _ eH.out (by omega)).mono ?_;rintro e w3 ⟨rfl,ys,hp,hs,pL,x7⟩;have nG:ys.length=l.length:=hp.length_eq;have HY:Hid (ys.foldl Np.gm []=Np.gX l):=jq (Np.Zp (λs hs=>(fU.out s hs).2.1) hp hs);have ia:=jq pL;have al:Below wr.heap.size w2 w3:=(vQ _ _).grown x7 aK (λk hk=>(World.ownsRow.lt eH.out k hk).1);have am:=jq (ai.out.trans (al.mono an));clear hp hs pL x7;go_wp2_with fail;refine (asX _ ys (by omega) _ (ia.out.slr (by omega))).mono ?_;rintro e w4 ⟨v4,rfl,rN,aw⟩;have HE:=jq (And.intro rN (am.out.trans (aw.mono am.out.size)));clear rN aw;go_wp2_with fail;go_ret2;exact⟨_,rfl,by have:=HE.out.1.weak am.out.size;rw[HY.out] at this;exact this,HE.out.2⟩
end
namespace Np
def gi(c:Copy):Int×List UInt8:=(c.host,c.zone.apex)
def fM(l:List Copy)(p:Int×List UInt8):List Span:=(l.filter λc=>decide (gi c=p)).map jW
theorem Db(l:List Copy)(c:Copy)(p:Int×List UInt8):fM (l ++ [c]) p=if gi c=p then fM l p ++ [jW c] else fM l p:=by
 unfold fM;rw[List.filter_append];by_cases h:gi c=p
 ·simp[h]
 ·simp[h]
theorem MM{l:List Copy}{p:Int×List UInt8}(h:∀ c∈l,gi c≠p):fM l p = []:=by
 unfold fM;rw[List.filter_eq_nil_iff.2 (λc hc=>by simpa using h c hc)];rfl
structure GrpI(kvs:List ((Int×List UInt8)×List Span))(l:List Copy):Prop where
 nodup:(kvs.map (·.1)).Nodup
 each:∀ x∈kvs,x.2=fM l x.1
 all:∀ c∈l,gi c∈kvs.map (·.1)
theorem GrpI.nil:GrpI [] []:=⟨by simp,λx hx=>(by cases hx),λc hc=>(by cases hc)⟩
theorem GrpI.old{kvs:List ((Int×List UInt8)×List Span)}{l:List Copy}(h:GrpI kvs l){c:Copy}{j:Nat}{g:List Span}(hj:kvs[j]?=some (gi c,g)):GrpI (kvs.set j (gi c,g ++ [jW c])) (l ++ [c]):=by
 obtain⟨hl,he⟩:=cQ.1 hj;have hk:(kvs.set j (gi c,g ++ [jW c])).map (·.1)=kvs.map (·.1):=by
  rw[List.map_set];apply List.ext_getElem?;intro i;rw[List.getElem?_set];split
  ·rename_i e;subst e;rw[List.length_map,Qb hl,List.getElem?_map,hj];rfl
  ·rfl
 have hg:=h.each _ (gQ hj);refine⟨by rw[hk];exact h.nodup,λx hx=>?_,λd hd=>?_⟩
 ·obtain⟨i,hi,rfl⟩:=nQ.1 hx;rw[List.length_set] at hi;rw[List.getElem_set];split
  ·rename_i e;subst e;rw[Db,Qb rfl];simp only at hg |-;rw[<-hg]
  ·rename_i e;rw[Db,Qc]
   ·exact h.each _ (List.getElem_mem hi)
   ·intro e2;apply e;have h1:(kvs.map (·.1))[j]'(by simpa using hl)=(kvs.map (·.1))[i]'(by simpa using hi):=by simp[he,e2]
    exact (List.getElem_inj (h₀:=by simpa using hl) (h₁:=by simpa using hi) h.nodup).1 h1
 ·rw[hk];rcases List.mem_append.1 hd with hd | hd
  ·exact h.all d hd
  ·rw[List.mem_singleton] at hd;subst hd;exact List.mem_map.2 ⟨_,gQ hj,rfl⟩
theorem GrpI.new{kvs:List ((Int×List UInt8)×List Span)}{l:List Copy}(h:GrpI kvs l){c:Copy}(hn:gi c∉kvs.map (·.1)):GrpI (kvs ++ [(gi c,[jW c])]) (l ++ [c]):=by
 have h0:fM l (gi c) = []:=MM λd hd e=>hn (by rw[<-e];exact h.all d hd);refine⟨?_,λx hx=>?_,λd hd=>?_⟩
 ·rw[List.map_append,List.nodup_append];refine⟨h.nodup,by simp,λa ha b hb e=>?_⟩;simp at hb;subst hb;subst e;exact hn ha
 ·rcases List.mem_append.1 hx with hx | hx
  ·rw[Db,Qc]
   ·exact h.each x hx
   ·intro e;exact hn (by rw[e];exact List.mem_map.2 ⟨x,hx,rfl⟩)
  ·rw[List.mem_singleton] at hx;subst hx;rw[Db,Qb rfl,h0];rfl
 ·rw[List.map_append];rcases List.mem_append.1 hd with hd | hd
  ·exact List.mem_append_left _ (h.all d hd)
  ·rw[List.mem_singleton] at hd;subst hd;simp
def ox(a b:Span):Prop:=a.frm<b.til/\b.frm<a.til
theorem ox.symm{a b:Span}(h:ox a b):ox b a:=⟨h.2,h.1⟩
def Gv(m:List Span):Prop:=∀ i (h:i+1<m.length),m[i].til<=m[i+1].frm
theorem aiX{m l:List Span}(hp:m.Perm l)(hs:m.Pairwise λa b=>a.frm<=b.frm)(hf:∀ s∈l,s.frm<s.til):Gv m↔l.Pairwise λa b=>¬ ox a b:=by
 rw[<-hp.pairwise_iff (R:=λa b=>¬ ox a b) (λ{a b} h k=>h k.symm)];have Nm:∀ s∈m,s.frm<s.til:=λs hs=>hf s (hp.mem_iff.1 hs);clear hp hf;constructor
 ·intro h;rw[List.pairwise_iff_getElem];intro i j hi hj dp ho;have key:∀ d,∀ (h1:i+d+1<m.length),(m[i]'(by omega)).til<=(m[i+d+1]'h1).frm:=by
   intro d
   induction d with
   | zero=>intro h1;exact h i h1
   | succ d ih=>
    intro h1;have h2:=ih (by omega);have h3:=h (i+d+1) (by omega);have h4:=Nm _ (List.getElem_mem (show i+d+1<m.length by omega));have e:i+(d+1)+1=i+d+1+1:=by omega
    simp only[e];omega
  obtain⟨d,rfl⟩:∃ d,j=i+d+1:=⟨j - i - 1,by omega⟩
  have:=key d hj
  have:=ho.2
  omega
 ·intro h i hi;rw[List.pairwise_iff_getElem] at h hs;have h1:=h i (i+1) (by omega) hi (by omega);have h2:=hs i (i+1) (by omega) hi (by omega);have h3:=Nm _ (List.getElem_mem hi);unfold ox at h1;omega
theorem Vf(l:List Copy):(l.Pairwise λc d=>¬ jX c d)↔∀ p,(fM l p).Pairwise λa b=>¬ ox a b:=by
 induction l with
 | nil=>simp[fM]
 | cons c l ih=>
  rw[List.pairwise_cons,ih];constructor
  ·rintro⟨h1,h2⟩ p;by_cases hp:gi c=p
   ·have e:fM (c::l) p=jW c::fM l p:=by unfold fM;simp[hp]
    rw[e,List.pairwise_cons];refine⟨λs hs=>?_,h2 p⟩;obtain⟨d,hd,rfl⟩:=List.mem_map.1 hs;obtain⟨fG,kZ⟩:=List.mem_filter.1 hd;have hk:gi d=gi c:=by rw[hp];simpa using kZ
    intro ho;unfold gi at hk;simp only[Prod.mk.injEq] at hk;exact h1 d fG ⟨hk.1.symm,hk.2.symm,ho.1,ho.2⟩
   ·have e:fM (c::l) p=fM l p:=by unfold fM;simp[hp]
    rw[e];exact h2 p
  ·intro h;refine⟨λd hd lK=>?_,λp=>?_⟩
   ·have h1:=h (gi c);have e:fM (c::l) (gi c)=jW c::fM l (gi c):=by unfold fM;simp
    rw[e,List.pairwise_cons] at h1;refine h1.1 (jW d) (List.mem_map.2 ⟨d,List.mem_filter.2 ⟨hd,?_⟩,rfl⟩) ⟨lK.2.2.1,lK.2.2.2⟩;unfold gi;simp[lK.1,lK.2.1]
   ·have h1:=h p;by_cases hp:gi c=p
    ·have e:fM (c::l) p=jW c::fM l p:=by unfold fM;simp[hp]
     rw[e,List.pairwise_cons] at h1;exact h1.2
    ·have e:fM (c::l) p=fM l p:=by unfold fM;simp[hp]
     rwa [e] at h1
theorem GrpI.ok{kvs:List ((Int×List UInt8)×List Span)}{l:List Copy}(h:GrpI kvs l):(l.Pairwise λc d=>¬ jX c d)↔∀ x∈kvs,x.2.Pairwise λa b=>¬ ox a b:=by
 rw[Vf];constructor
 ·intro h1 x hx;rw[h.each x hx];exact h1 _
 ·intro h1 p;by_cases hp:p∈kvs.map (·.1)
  ·obtain⟨x,hx,rfl⟩:=List.mem_map.1 hp;rw[<-h.each x hx];exact h1 x hx
  ·rw[MM λc hc e=>hp (by rw[<-e];exact h.all c hc)];exact List.Pairwise.nil
end Np
end Go.Proofs.YtfnopgdcaanaiaaGreatDoor
