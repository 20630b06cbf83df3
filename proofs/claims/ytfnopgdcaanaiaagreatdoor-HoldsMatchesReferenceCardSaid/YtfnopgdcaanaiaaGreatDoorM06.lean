/- Parts of the proof. No condition. -/
import Derived.Test.YtfnopgdcaanaiaaGreatDoorM02
import Derived.Test.YtfnopgdcaanaiaaGreatDoorM03
import Derived.Test.YtfnopgdcaanaiaaGreatDoorM04
import Derived.Test.YtfnopgdcaanaiaaGreatDoorM05
set_option linter.all false
set_option maxRecDepth 100000
set_option maxHeartbeats 8000000
namespace Go.Proofs.YtfnopgdcaanaiaaGreatDoor
open Go.Proofs.Tryz
namespace Np
structure TO{α:Type}(c:α->α->Int):Prop where
 self:∀ x,c x x=0
 zero:∀ x y,c x y=0->x=y
 anti:∀ x y,c x y<0->0<c y x
 anti':∀ x y,0<c x y->c y x<0
 trans:∀ x y z,c x y<0->c y z<0->c x z<0
theorem TO.lex{α β γ:Type}{c:α->α->Int}{d:β->β->Int}(hc:TO c)(hd:TO d)(f:γ->α)(g:γ->β)(YQ:∀ x y,f x=f y->g x=g y->x=y):TO (λx y:γ=>if c (f x) (f y)≠0 then c (f x) (f y) else d (g x) (g y)) where
 self x:=by simp[hc.self,hd.self]
 zero x y h:=by
  by_cases h1:c (f x) (f y)≠0
  ·rw[Qb h1] at h;exact absurd h h1
  ·rw[Qc h1] at h;exact YQ x y (hc.zero _ _ (Decidable.not_not.1 h1)) (hd.zero _ _ h)
 anti x y h:=by
  by_cases h1:c (f x) (f y)≠0
  ·rw[Qb h1] at h
   have:=hc.anti _ _ h
   rw[Qb (by omega)];exact this
  ·rw[Qc h1] at h;have e:=hc.zero _ _ (Decidable.not_not.1 h1);rw[e,hc.self,Qc (by simp)];exact hd.anti _ _ h
 anti' x y h:=by
  by_cases h1:c (f x) (f y)≠0
  ·rw[Qb h1] at h
   have:=hc.anti' _ _ h
   rw[Qb (by omega)];exact this
  ·rw[Qc h1] at h;have e:=hc.zero _ _ (Decidable.not_not.1 h1);rw[e,hc.self,Qc (by simp)];exact hd.anti' _ _ h
 trans x y z h k:=by
  by_cases h1:c (f x) (f y)≠0
  ·rw[Qb h1] at h;by_cases h2:c (f y) (f z)≠0
   ·rw[Qb h2] at k
    have:=hc.trans _ _ _ h k
    rw[Qb (by omega)];exact this
   ·have e:=hc.zero _ _ (Decidable.not_not.1 h2);rw[<-e,Qb h1];exact h
  ·rw[Qc h1] at h;have e:=hc.zero _ _ (Decidable.not_not.1 h1);by_cases h2:c (f y) (f z)≠0
   ·rw[Qb h2] at k;rw[e,Qb h2];exact k
   ·rw[Qc h2] at k;rw[e,Qc h2];exact hd.trans _ _ _ h k
theorem TO.of{α β:Type}{c:α->α->Int}(hc:TO c)(f:β->α)(hf:∀ x y,f x=f y->x=y):TO (λx y=>c (f x) (f y)) where
 self _:=hc.self _
 zero _ _ h:=hf _ _ (hc.zero _ _ h)
 anti _ _ h:=hc.anti _ _ h
 anti' _ _ h:=hc.anti' _ _ h
 trans _ _ _ h k:=hc.trans _ _ _ h k
theorem Fs:∀ (x y:List UInt8),Go.Op.bytesLess x y=decide (x<y)
 | [],[]=>by simp[Go.Op.bytesLess]
 | _::_,[]=>by simp[Go.Op.bytesLess]
 | [],_::_=>by simp[Go.Op.bytesLess]
 | a::x,b::y=>by
   rw[Go.Op.bytesLess,Fs x y];simp only[List.cons_lt_cons_iff];by_cases h1:a<b <;> by_cases h2:a=b <;> by_cases h3:x<y <;> simp[h1,h2,h3]
theorem toS:TO cV where
 self:=wt
 zero _ _:=sw
 anti x y h:=by
  rcases yR x y with ⟨h1,h2⟩ | ⟨_,_,_,h2⟩ | ⟨_,_,_,h2⟩
  ·rcases yR y x with ⟨h3,h4⟩ | ⟨_,_,_,h4⟩ | ⟨_,_,h5,h4⟩
   ·rw[Fs,Qa] at h1 h3;exact absurd h3 (List.lt_asymm h1)
   ·omega
   ·rw[h5,wt] at h;omega
  ·omega
  ·omega
 anti' x y h:=by
  rcases yR x y with ⟨_,h2⟩ | ⟨_,h1,_,h2⟩ | ⟨_,_,_,h2⟩
  ·omega
  ·simp[cV,h1]
  ·omega
 trans x y z h k:=by
  have e:∀ a b:List UInt8,cV a b<0->a<b:=λa b h=>by
   rcases yR a b with ⟨h1,h2⟩ | ⟨_,_,_,h2⟩ | ⟨_,_,_,h2⟩
   ·rw[Fs,Qa] at h1;exact h1
   ·omega
   ·omega
  have:=List.lt_trans (e _ _ h) (e _ _ k)
  unfold cV;rw[Fs,Qb (by simpa using this)];omega
theorem toI:TO de where
 self x:=by unfold de;rw[Qc (by omega),Qc (by omega)]
 zero x y h:=by unfold de at h;split at h;omega;split at h <;> omega
 anti x y h:=by
  unfold de at h |-;split at h
  ·rw[Qc (by omega),Qb (by omega)];omega
  ·split at h <;> omega
 anti' x y h:=by
  unfold de at h |-;split at h
  ·omega
  ·split at h
   ·rw[Qb (by omega)];omega
   ·omega
 trans x y z h k:=by
  unfold de at h k |-;split at h
  ·split at k
   ·rw[Qb (by omega)];omega
   ·split at k <;> omega
  ·split at h <;> omega
theorem toR:TO cW:=by
 have hs:=toS;refine⟨Rv,?_,?_,?_,?_⟩
 ·intro l
  induction l with
  | nil=>intro m h;cases m with
    | nil=>rfl
    | cons y m=>simp[cW] at h
  | cons x l ih=>
   intro m h
   cases m with
   | nil=>simp[cW] at h
   | cons y m=>
    rw[cW] at h;split at h
    ·rename_i hc;exact absurd h hc
    ·rename_i hc;rw[sw (Decidable.not_not.1 hc),ih m h]
 ·intro l
  induction l with
  | nil=>intro m h;cases m with
    | nil=>simp[cW] at h
    | cons y m=>simp[cW]
  | cons x l ih=>
   intro m h
   cases m with
   | nil=>simp[cW] at h
   | cons y m=>
    rw[cW] at h |-;split at h
    ·have:=hs.anti _ _ h
     rw[Qb (by omega)];exact this
    ·rename_i hc;have e:=sw (Decidable.not_not.1 hc);subst e;rw[Qc hc];exact ih m h
 ·intro l
  induction l with
  | nil=>intro m h;cases m with
    | nil=>simp[cW] at h
    | cons y m=>simp[cW] at h
  | cons x l ih=>
   intro m h
   cases m with
   | nil=>simp[cW]
   | cons y m=>
    rw[cW] at h |-;split at h
    ·have:=hs.anti' _ _ h
     rw[Qb (by omega)];exact this
    ·rename_i hc;have e:=sw (Decidable.not_not.1 hc);subst e;rw[Qc hc];exact ih m h
 ·intro l
  induction l with
  | nil=>intro m n h k;cases m with
    | nil=>simp[cW] at h
    | cons y m=>cases n with
      | nil=>simp[cW] at k
      | cons z n=>simp[cW]
  | cons x l ih=>
   intro m n h k
   cases m with
   | nil=>simp[cW] at h
   | cons y m=>
    cases n with
    | nil=>simp[cW] at k
    | cons z n=>
     rw[cW] at h k |-;by_cases hc:cV x y≠0
     ·rw[Qb hc] at h;by_cases hd:cV y z≠0
      ·rw[Qb hd] at k
       have:=hs.trans _ _ _ h k
       rw[Qb (by omega)];exact this
      ·have e:=sw (Decidable.not_not.1 hd);rw[<-e,Qb hc];exact h
     ·rw[Qc hc] at h;have e:=sw (Decidable.not_not.1 hc);by_cases hd:cV y z≠0
      ·rw[Qb hd] at k;rw[e,Qb hd];exact k
      ·rw[Qc hd] at k;rw[e,Qc hd];exact ih m n h k
theorem fW:TO aL:=by
 have:=toR.of back (λ_ _ h=>Bq h)
 have e:aL=λx y=>cW (back x) (back y):=by funext x y;exact Bu x y
 rw[e];exact this
def fP(a b:List UInt8×Int):Int:=if aL a.1 b.1≠0 then aL a.1 b.1 else de a.2 b.2
theorem zO:TO fP:=fW.lex toI (λd:List UInt8×Int=>d.1) (λd=>d.2) (λ_ _ h k=>Prod.ext h k)
def fB(s:DSet):List UInt8×Int:=(s.name,s.type)
theorem IR(a b:DSet):ir a b=fP (fB a) (fB b):=D4 a b
theorem akJ{α:Type}{c:α->α->Int}(h:TO c)(x y z:α):(!decide (c y x<0))=true->(!decide (c z y<0))=true->(!decide (c z x<0))=true:=by
 simp only[Bool.not_eq_true',decide_eq_false_iff_not,Int.not_lt];intro h1 h2;apply Decidable.byContradiction;intro h3;have h4:c z x<0:=by omega
 rcases Int.lt_or_eq_of_le h1 with h5 | h5
 ·have:=h.trans _ _ _ h4 (h.anti' _ _ h5);omega
 ·have:=h.zero _ _ h5.symm;subst this;omega
theorem akZ{α:Type}{c:α->α->Int}(h:TO c)(x y:α):((!decide (c y x<0))||(!decide (c x y<0)))=true:=by
 by_cases h1:c y x<0
 ·have:=h.anti _ _ h1
  have:¬ c x y<0:=by omega
  simp[this]
 ·simp[h1]
theorem py{s z:List UInt8}(hz:z≠[]):bD s z=true↔back z <+: back s:=by
 rw[<-zB hz,QT,<-CY,<-CY];constructor
 ·rintro⟨p,h⟩;exact⟨p.reverse,by rw[h,List.reverse_append]⟩
 ·rintro⟨p,h⟩;refine⟨p.reverse,?_⟩
  have:=Qd List.reverse h
  simpa using this.symm
theorem RE:∀ (c n:List (List UInt8)),c <+: n->cW c n<=0
 | [],[],_=>by simp[cW]
 | [],_::_,_=>by simp[cW]
 | x::c,[],h=>by have:=h.length_le;simp at this
 | x::c,y::n,h=>by
   obtain⟨rfl,h2⟩:=List.cons_prefix_cons.1 h;rw[cW,wt,Qc (by simp)];exact RE c n h2
theorem RD:∀ (c a b:List (List UInt8)),c <+: b->cW c a<=0->cW a b<=0->c <+: a
 | [],a,b,_,_,_=>List.nil_prefix
 | x::c,[],b,_,h,_=>by simp[cW] at h
 | x::c,y::a,[],h,_,_=>by have:=h.length_le;simp at this
 | x::c,y::a,z::b,h,h1,h2=>by
   obtain⟨rfl,h3⟩:=List.cons_prefix_cons.1 h;rw[cW] at h1 h2;by_cases dM:cV x y=0
   ·have e:=sw dM;subst e;rw[wt,Qc (by simp)] at h1 h2;exact List.cons_prefix_cons.2 ⟨rfl,RD c a b h3 h1 h2⟩
   ·rw[Qb dM] at h1
    have:=toS.anti x y (by omega)
    rw[Qb (by omega)] at h2;omega
theorem F0{s z:List UInt8}(hz:z≠[])(h:bD s z=true):aL z s<=0:=by
 rw[Bu];exact RE _ _ ((py hz).1 h)
theorem Ly{c a b:List UInt8}(hc:c≠[])(h:bD b c=true)(h1:aL c a<=0)(h2:aL a b<=0):bD a c=true:=by
 rw[Bu] at h1 h2;exact (py hc).2 (RD _ _ _ ((py hc).1 h) h1 h2)
theorem Lz{a b c:List UInt8}(hb:b≠[])(hc:c≠[])(h1:bD a b=true)(h2:bD b c=true):bD a c=true:=
 (py hc).2 (((py hc).1 h2).trans ((py hb).1 h1))
theorem F3(a:List UInt8):bD a a=true:=by simp[bD]
theorem SK{n a b:List UInt8}(ha:a≠[])(hb:b≠[])(h1:bD n a=true)(h2:bD n b=true):bD a b=true\/bD b a=true:=by
 rcases List.prefix_or_prefix_of_prefix ((py ha).1 h1) ((py hb).1 h2) with h | h
 ·exact .inr ((py ha).2 h)
 ·exact .inl ((py hb).2 h)
def jG(C:List UInt8->Bool)(n o:List UInt8):Prop:=
 (o = []/\∀ c,C c=true->bD n c=false)\/(C o=true/\bD n o=true/\∀ c,C c=true->bD o c=true->c=o)
theorem jG.unique{C:List UInt8->Bool}(hC:∀ c,C c=true->c≠[]){n a b:List UInt8}(ha:jG C n a)(hb:jG C n b):a=b:=by
 rcases ha with ⟨rfl,ha⟩ | ⟨a1,a2,a3⟩
 ·rcases hb with ⟨rfl,_⟩ | ⟨b1,b2,_⟩
  ·rfl
  ·rw[ha b b1] at b2;cases b2
 ·rcases hb with ⟨rfl,hb⟩ | ⟨b1,b2,b3⟩
  ·rw[hb a a1] at a2;cases a2
  ·rcases SK (hC a a1) (hC b b1) a2 b2 with h | h
   ·exact (a3 b b1 h).symm
   ·exact b3 a a1 h
theorem jG.above{C:List UInt8->Bool}(hC:∀ c,C c=true->c≠[]){n o c:List UInt8}(h:jG C n o)(hc:C c=true)(hu:bD n c=true):C o=true/\bD n o=true/\bD c o=true:=by
 rcases h with ⟨_,h⟩ | ⟨h1,h2,h3⟩
 ·rw[h c hc] at hu;cases hu
 ·refine⟨h1,h2,?_⟩;rcases SK (hC o h1) (hC c hc) h2 hu with h | h
  ·rw[h3 c hc h];exact F3 o
  ·exact h
def ed(C:List UInt8->Bool)(cut n:List UInt8):List UInt8:=
 if (if cut≠[]/\bD n cut=false then [] else cut) = []/\C n=true then n else if cut≠[]/\bD n cut=false then [] else cut
theorem SA{C:List UInt8->Bool}{n:List UInt8}(h:∀ c,C c=true->bD n c=true->c=n):jG C n (if C n=true then n else []):=by
 split
 ·rename_i hn;exact .inr ⟨hn,F3 n,h⟩
 ·rename_i hn;refine .inl ⟨rfl,λc hc=>?_⟩
  cases hu:bD n c with
  | false=>rfl
  | true=>rw[<-h c hc hu] at hn;exact absurd hc hn
theorem aNZ{C:List UInt8->Bool}(hC:∀ c,C c=true->c≠[]){n:List UInt8}(bX:∀ c,C c=true->¬ aL c n<0):jG C n (ed C [] n):=by
 have h:=SA (n:=n) (λc hc hu=>by
  have h1:=F0 (hC c hc) hu;have h2:=bX c hc;exact D3 (by omega))
 have e:ed C [] n=if C n=true then n else []:=by simp[ed]
 rw[e];exact h
theorem aNJ{C:List UInt8->Bool}(hC:∀ c,C c=true->c≠[]){m cut n:List UInt8}(hm:jG C m cut)(ie:aL m n<=0)(bX:∀ c,C c=true->aL c n<0->aL c m<=0):jG C n (ed C cut n):=by
 by_cases hcut:cut≠[]/\bD n cut=true
 ·have e:ed C cut n=cut:=by simp[ed,hcut.1,hcut.2]
  rw[e];rcases hm with ⟨h,_⟩ | ⟨h1,_,h3⟩
  ·exact absurd h hcut.1
  ·exact .inr ⟨h1,hcut.2,h3⟩
 ·have pd:∀ c,C c=true->bD n c=true->c=n:=λc hc hu=>by
   refine Classical.byContradiction λhne=>hcut ?_;have h1:=F0 (hC c hc) hu;have ab:aL c n<0:=by
    rcases Int.lt_or_eq_of_le h1 with h | h
    ·exact h
    ·exact absurd (D3 h) hne
   have h2:=Ly (hC c hc) hu (bX c hc ab) ie;obtain⟨a1,_,a3⟩:=hm.above hC hc h2;exact⟨hC _ a1,Lz (hC c hc) (hC _ a1) hu a3⟩
  have h:=SA pd;have e:ed C cut n=if C n=true then n else []:=by
   unfold ed;by_cases h0:cut = []
   ·subst h0;simp
   ·have:bD n cut=false:=by
     cases hu:bD n cut with
     | false=>rfl
     | true=>exact absurd ⟨h0,hu⟩ hcut
    simp[h0,this]
  rw[e];exact h
structure Ns(C:List UInt8->Bool)(H:List (List UInt8)):Prop where
 cut:∀ h∈H,C h=true/\∀ c,C c=true->bD h c=true->c=h
 sorted:H.Pairwise λa b=>aL a b<0
theorem Y1{C:List UInt8->Bool}(hC:∀ c,C c=true->c≠[]){H:List (List UInt8)}(hH:Ns C H){n:List UInt8}(bX:∀ h,C h=true->(∀ c,C c=true->bD h c=true->c=h)->aL h n<=0->h∈H){k:Nat}(hk:k<=H.length)(h1:∀ j (hj:j<H.length),j<k->aL H[j] n<=0)(h2:∀ j (hj:j<H.length),k<=j->0<aL H[j] n) :
 jG C n (if h:0<k/\bD n (H[k - 1]?.getD [])=true then H[k - 1]?.getD [] else []):=by
 have ii:∀ c,C c=true->bD n c=true->(∀ d,C d=true->bD c d=true->d=c)->0<k/\∃ bI:k - 1<H.length,H[k - 1]=c:=λc hc hu ht=>by
  have ie:=F0 (hC c hc) hu;obtain⟨j,hj,rfl⟩:=nQ.1 (bX c hc ht ie);have uo:j<k:=by
   refine Nat.lt_of_not_le λh=>?_
   have:=h2 j hj h
   omega
  refine⟨by omega,by omega,?_⟩;rcases Nat.lt_or_ge j (k - 1) with h | h
  ·have h3:=List.pairwise_iff_getElem.1 hH.sorted j (k - 1) hj (by omega) h;have h4:=h1 (k - 1) (by omega) (by omega);have h5:=Ly (hC _ hc) hu (by omega) h4;have h6:=(hH.cut _ (List.getElem_mem (show k - 1<H.length by omega))).2 _ hc h5;exact h6.symm
  ·obtain rfl:j=k - 1:=by omega
   rfl
 split
 ·rename_i h;obtain⟨h0,h⟩:=h;have hl:k - 1<H.length:=by omega
  rw[aQ hl] at h |-;obtain⟨a,b⟩:=hH.cut _ (List.getElem_mem hl);exact .inr ⟨a,h,b⟩
 ·rename_i h;refine .inl ⟨rfl,λc hc=>?_⟩
  cases hu:bD n c with
  | false=>rfl
  | true=>
   exfalso;have hex:∀ (m:Nat) (c:List UInt8),(back c).length<=m->C c=true->bD n c=true->∃ t,C t=true/\bD n t=true/\∀ d,C d=true->bD t d=true->d=t:=by
    intro m
    induction m with
    | zero=>
     intro c hm hc hu;refine⟨c,hc,hu,λd hd JH=>?_⟩;have h3:=((py (hC d hd)).1 JH);exact Bq (h3.eq_of_length_le (by omega))
    | succ m ih=>
     intro c hm hc hu;by_cases ht:∀ d,C d=true->bD c d=true->d=c
     ·exact⟨c,hc,hu,ht⟩
     ·obtain⟨d,hd⟩:=Classical.not_forall.1 ht;obtain⟨gu,hd⟩:=Classical.not_imp.1 hd;obtain⟨jr,JL⟩:=Classical.not_imp.1 hd;have h3:=((py (hC d gu)).1 jr);refine ih d ?_ gu (Lz (hC c hc) (hC d gu) hu jr);refine Nat.le_of_lt_succ (lQ (Nat.lt_of_not_le λhl=>JL (Bq (h3.eq_of_length_le hl))) hm)
   obtain⟨t,t1,t2,t3⟩:=hex _ c (bQ _) hc hu;obtain⟨p1,p2,p3⟩:=ii t t1 t2 t3;refine h ⟨p1,?_⟩;rw[aQ p2,p3];exact t2
end Np
section
open Go.RowKit
theorem aFX{a b:Bool}(h:a=b):Ending.returned (.tuple #[.bool a,.int .i64 0]) = .returned (.tuple #[.bool b,.int .i64 0]):=by rw[h]
def Np.zM(s z:ByteArray):Bool:=decide (z.size<=s.size)&&((s.extract (s.size - z.size) s.size).toList == z.toList)
def Np.under(s z:ByteArray):Bool:=(s.toList == z.toList)||(z.toList == [46])||(decide (z.size<s.size)&&Np.zM s z&&((s.data.toList[s.size - z.size - 1]?).map UInt8.toNat == some 46))
theorem aNY(s z:ByteArray)(h:z.size<=s.size):Np.zM s z=(s.data.toList.drop (s.data.toList.length - z.data.toList.length) == z.data.toList):=by
 unfold Np.zM;rw[uQ h,Bool.true_and,dQ,dQ,Ea,bn,bn]
theorem aPX(s z:ByteArray):Np.under s z=Np.bD s.data.toList z.data.toList:=by
 unfold Np.under Np.bD;rw[dQ,dQ,bn,bn];congr 1;by_cases h:z.size<s.size
 ·rw[aNY s z (by omega),bn,bn,uQ h];congr 1;have e:s.data.toList[s.size - z.size - 1]?=some (s[s.size - z.size - 1]'(by omega)):=yW s _ (by omega);rw[e];simp only[Option.map_some];rw[Bool.eq_iff_iff];simp only[beq_iff_eq,Option.some.injEq];constructor
  ·intro h;apply UInt8.toNat_inj.1;rw[h];rfl
  ·intro h;rw[h];rfl
 ·rw[tQ h];rfl
theorem Yi(s z:ByteArray)(hs:s.size<=140737488355328)(hz:z.size<=140737488355328)(w:World) :
 Calls prog 320 #[.string s,.string z] w λe w'=>e = .returned (.bool (Np.zM s z))/\w'=w:=by
 go_enter func320,ntmps320;go_wp2_with fail
 all_goals
  go_ret;refine⟨ag ?_,rfl⟩;simp_all [Np.zM] <;> (intros;omega)
theorem Yh(s z:ByteArray)(hs:s.size<=140737488355328)(hz:z.size<=140737488355328)(w:World) :
 Calls prog 250 #[.string s,.string z] w λe w'=>e = .returned (.bool (Np.zM s z))/\w'=w:=by
 go_enter func250,ntmps250;go_wp2_with (go_at_call 320;refine (Yi s z hs hz _).mono ?_;rintro e w' ⟨rfl,rfl⟩);go_ret;exact⟨rfl,rfl⟩
theorem Db(s z:ByteArray)(hs:s.size<=140737488355328)(hz:z.size<=140737488355328)(w:World)(v1:Np.aD s.data.toList=true)(v2:Np.aD z.data.toList=true) :
 Calls prog 184 #[.string s,.string z] w (a0X w.heap.size w (.tuple #[.bool (Np.bD s.data.toList z.data.toList),.int .i64 0])):=by
 rw[<-aPX];have V1:=jq v1;have V2:=jq v2;clear v1 v2;go_enter func184,ntmps184;go_wp2_with (first
  | (go_at_call 175;have v1:=V1.out;clear V1;refine (valid_any s hs _).mono ?_;rintro e w1 ⟨rfl,hb⟩;rw[v1];clear v1;have av:=jq hb;clear hb)
  | (go_at_call 175;have v2:=V2.out;clear V2;refine (valid_any z hz _).mono ?_;rintro e w2 ⟨rfl,hb⟩;rw[v2];clear v2;have ai:=jq hb;clear hb)
  | (go_at_call 250;refine (Yh s z hs hz _).mono ?_;rintro e w3 ⟨rfl,rfl⟩))
 all_goals
  go_ret2;refine⟨aFX ?_,av.out.trans (ai.out.mono av.out.size)⟩;simp_all [Np.under,dQ]
 ·rename_i _ h1 h2 h3 _;have e1:(s.data == z.data)=false:=by simpa using h1
  have e2:(z.data.toList == [46])=false:=by simpa using h2
  have e3:s.data[s.size - z.size - 1]?=some s[s.size - z.size - 1]:=pQ (by simp;omega);rw[e1,e2,e3,Bool.eq_iff_iff];simp;omega
 ·intros;omega
theorem SL(s z:ByteArray)(hs:s.size<=140737488355328)(w:World)(v1:Np.aD s.data.toList=false) :
 Calls prog 184 #[.string s,.string z] w (a0X w.heap.size w (.tuple #[.bool false,.int .i64 11])):=by
 have V1:=jq v1;clear v1;go_enter func184,ntmps184;go_wp2_with fail;refine (valid_any s hs _).mono ?_;rintro e w1 ⟨rfl,hb⟩;rw[V1.out];have av:=jq hb;clear hb;go_wp2_with fail;go_ret2;exact⟨rfl,av.out⟩
theorem Tf(s1 s2:ByteArray)(bK:s1.size<=140737488355328)(dW:s2.size<=140737488355328)(t1 t2:Int)(n1:Np.aD s1.data.toList=true)(n2:Np.aD s2.data.toList=true)(w:World) :
 Calls prog 270 #[.string s1,.int .i64 t1,.string s2,.int .i64 t2] w
  λe w'=>e = .returned (.int .i64 (Np.fP (s1.data.toList,t1) (s2.data.toList,t2)))/\Below w.heap.size w w':=by
 have hv:cmpVal s1.data.toList s2.data.toList = .tuple #[.int .i64 (Np.aL s1.data.toList s2.data.toList),.int .i64 0]:=by rw[cmpVal,n1,n2];rfl
 have HV:=jq hv;clear hv n1 n2;by_cases h:s1.data.toList=s2.data.toList
 ·have he:(!s1.toList == s2.toList)=false:=by rw[dQ,dQ,h];simp
  have hc:Np.fP (s1.data.toList,t1) (s2.data.toList,t2)=Np.de t1 t2:=by unfold Np.fP;dsimp only;rw[h,Np.Bv,Qc (by simp)]
  rw[hc];clear hc h;go_enter func270,ntmps270;go_wp2_with (go_at_call 123;refine (Bt _ _ _).mono ?_;rintro e w' ⟨rfl,rfl⟩);go_ret;exact⟨rfl,vQ _ _⟩
 ·have he:(!s1.toList == s2.toList)=true:=by rw[dQ,dQ];simpa using h
  have hc:Np.fP (s1.data.toList,t1) (s2.data.toList,t2)=Np.aL s1.data.toList s2.data.toList:=by unfold Np.fP;dsimp only;rw[Qb (λe=>h (Np.D3 e))]
  rw[hc];clear hc h;go_enter func270,ntmps270;go_wp2_with fail;refine (compare_any s1 s2 bK dW _).mono ?_;rintro e w1 ⟨rfl,hb⟩;rw[HV.out];have HB:=jq hb;clear hb;go_wp2_with fail;go_ret;exact⟨rfl,HB.out⟩
theorem F4{s:Np.DSet}(h:Np.cZ s=true):Np.aD s.name=true:=by
 unfold Np.cZ at h;simp only[Bool.and_eq_true] at h;exact h.1.1.1.1.1.1
end
namespace Np
def dh(z:Zone)(n:List UInt8):Bool:=z.sets.any λx=>decide (x.set.type=2)&&!(x.set.name == z.apex)&&x.set.name == n
theorem IS{z:Zone}{n:List UInt8} : dh z n=true↔∃ x∈z.sets,x.set.type=2/\x.set.name≠z.apex/\x.set.name=n:=by
 unfold dh;rw[List.any_eq_true];constructor
 ·rintro⟨x,hx,h⟩;simp only[Bool.and_eq_true,Qa,Bool.not_eq_true',beq_eq_false_iff_ne,beq_iff_eq] at h;exact⟨x,hx,h.1.1,h.1.2,h.2⟩
 ·rintro⟨x,hx,h1,h2,h3⟩;refine⟨x,hx,?_⟩;rw[h3] at h2 |-;simp[h1,h2]
def oX(C:List UInt8->Bool):List UInt8->List Signed->List (List UInt8)
 | _,[]=>[]
 | cut,x::r=>ed C cut x.set.name::oX C (ed C cut x.set.name) r
def eM(z:Zone):List (List UInt8):=oX (dh z) [] z.sets
theorem NW(C:List UInt8->Bool):∀ (cut:List UInt8) (l:List Signed),(oX C cut l).length=l.length
 | _,[]=>rfl
 | cut,x::r=>by rw[oX,List.length_cons,NW,List.length_cons]
theorem tW(z:Zone):(eM z).length=z.sets.length:=NW _ _ _
structure InOrder(z:Zone):Prop where
 order:(z.sets.map (·.set)).Pairwise λa b=>ir a b<0
 name:∀ x∈z.sets,x.set.name≠[]
 type:∀ x∈z.sets,x.set.type<=8
theorem N9{a b:DSet}(h:ir a b<0):aL a.name b.name<=0:=by
 rw[D4] at h;split at h
 ·omega
 ·rename_i h0;have:=Decidable.not_not.1 h0;omega
theorem Oa{a b:DSet}(h:ir a b<0)(he:a.name=b.name):a.type<b.type:=by
 rw[D4,he,Bv,Qc (by simp)] at h;unfold de at h;split at h
 ·assumption
 ·split at h <;> omega
theorem InOrder.names{z:Zone}(h:InOrder z){i j:Nat}(dj:i<j)(hj:j<z.sets.length):aL (z.sets[i]'(by omega)).set.name (z.sets[j]).set.name<=0:=by
 have:=List.pairwise_iff_getElem.1 h.order i j (by simp;omega) (by simpa using hj) dj
 rw[List.getElem_map,List.getElem_map] at this;exact N9 this
theorem InOrder.types{z:Zone}(h:InOrder z){i j:Nat}(dj:i<j)(hj:j<z.sets.length)(he:(z.sets[i]'(by omega)).set.name=(z.sets[j]).set.name):(z.sets[i]'(by omega)).set.type<(z.sets[j]).set.type:=by
 have:=List.pairwise_iff_getElem.1 h.order i j (by simp;omega) (by simpa using hj) dj
 rw[List.getElem_map,List.getElem_map] at this;exact Oa this he
theorem anJ{a b c:List UInt8}(h1:aL a b<=0)(h2:aL b c<=0)(he:a=c):b=a:=by
 subst he;by_cases h:aL a b<0
 ·have:=fW.anti _ _ h;omega
 ·exact (fW.zero _ _ (by omega)).symm
theorem Bw{z:Zone}(h:InOrder z):∀ c,dh z c=true->c≠[]:=λc hc=>by
 obtain⟨x,hx,_,_,rfl⟩:=IS.1 hc;exact h.name x hx
theorem Oj{z:Zone}(h:InOrder z){c:List UInt8}(hc:dh z c=true){i:Nat}(hi:i<z.sets.length)(ab:aL c (z.sets[i]).set.name<0):∃ j,∃ hj:j<i,(z.sets[j]'(by omega)).set.name=c:=by
 obtain⟨x,hx,_,_,rfl⟩:=IS.1 hc;obtain⟨j,hj,rfl⟩:=nQ.1 hx;refine⟨j,?_,rfl⟩;refine Nat.lt_of_not_le λdj=>?_;rcases Nat.lt_or_eq_of_le dj with hl | rfl
 ·have h1:=h.names hl hj;have h2:=fW.anti _ _ ab;omega
 ·rw[Bv] at ab;omega
theorem NX{z:Zone}(h:InOrder z):∀ (l:List Signed) (i:Nat) (cut:List UInt8),z.sets.drop i=l->i<=z.sets.length->(i=0/\cut = []\/∃ hi:i - 1<z.sets.length,0<i/\jG (dh z) (z.sets[i - 1]).set.name cut)->∀ (k:Nat) (x:Signed) (b:List UInt8),l[k]?=some x->(oX (dh z) cut l)[k]?=some b->jG (dh z) x.set.name b
 | [],_,_,_,_,_,k,x,b,hx,_=>by simp at hx
 | y::l,i,cut,hd,hi,hc,k,x,b,hx,hb=>by
   have eN:i<z.sets.length:=by
    have:=Qd List.length hd
    simp at this;omega
   have hy:z.sets[i]=y:=by
    have:=List.getElem?_drop (xs:=z.sets) (i:=i) (j:=0)
    rw[hd,Nat.add_zero,aQ eN] at this;simpa using this.symm
   have hd':z.sets.drop (i+1)=l:=by
    have:=Qd (List.drop 1) hd
    rw[List.drop_drop] at this;simpa using this
   have QF:jG (dh z) y.set.name (ed (dh z) cut y.set.name):=by
    rcases hc with ⟨rfl,rfl⟩ | ⟨h1,h0,hc⟩
    ·refine aNZ (Bw h) (λc uh ab=>?_);rw[<-hy] at ab;obtain⟨j,hj,_⟩:=Oj h uh eN ab;omega
    ·refine aNJ (Bw h) hc ?_ (λc uh ab=>?_)
     ·rw[<-hy];exact h.names (by omega) eN
     ·rw[<-hy] at ab;obtain⟨j,hj,Y6⟩:=Oj h uh eN ab;rw[<-Y6];rcases Nat.lt_or_eq_of_le (show j<=i - 1 by omega) with hl | he
      ·exact h.names hl h1
      ·subst he;rw[Bv];exact Int.le_refl 0
   cases k with
   | zero=>
    simp only[oX,List.getElem?_cons_zero,Option.some.injEq] at hx hb;rw[<-hx,<-hb];exact QF
   | succ k=>
    simp only[oX,List.getElem?_cons_succ] at hx hb;exact NX h l (i+1) _ hd' eN (.inr ⟨by simpa using eN,by omega,by simpa [hy] using QF⟩) k x b hx hb
theorem VS{z:Zone}(h:InOrder z){i:Nat}{x:Signed}{b:List UInt8}(hx:z.sets[i]?=some x)(hb:(eM z)[i]?=some b):jG (dh z) x.set.name b:=
 NX h z.sets 0 [] rfl (jQ _) (.inl ⟨rfl,rfl⟩) i x b hx hb
theorem VT{z:Zone}(h:InOrder z){B:List (List UInt8)}(hl:B.length=z.sets.length)(hB:∀ (i:Nat) (x:Signed) (b:List UInt8),z.sets[i]?=some x->B[i]?=some b->jG (dh z) x.set.name b):B=eM z:=by
 refine List.ext_getElem (hl.trans (tW z).symm) λi h1 h2=>?_;have hi:i<z.sets.length:=by omega
 exact jG.unique (Bw h) (hB i _ _ (aQ hi) (aQ h1)) (VS h (aQ hi) (aQ h2))
def km(t:Int)(at':Bool):Bool:=if t=3\/t=6 then !at' else if t=4\/t=7 then at' else true
structure SigOk(apex:List UInt8)(l:List Sig)(i:Nat)(g:Sig):Prop where
 zone:g.zone=apex
 key:1<=g.key/\g.key<=1000000
 alg:1<=g.alg/\g.alg<=3
 win:0<=g.frm/\g.frm<=g.til/\g.til<=20000000
 same:∀ a,l[0]?=some a->g.frm=a.frm/\g.til=a.til
 up:∀ p,l[i - 1]?=some p->0<i->p.key<g.key
def eK(apex:List UInt8)(l:List Sig):Prop:=l.length<=6/\∀ i g,l[i]?=some g->SigOk apex l i g
def kI(x:DSet)(b:List UInt8):Prop:=(b = []->x.type≠6)/\(b≠[]->b=x.name->x.type=2\/x.type=6\/x.type=8\/x.type=1)/\(b≠[]->b≠x.name->x.type=1)
structure VZone(z:Zone):Prop where
 right:fK z=true
 few:z.sets.length<=20000
 start:∃ x∈z.sets,x.set.name=z.apex/\x.set.type=4
 server:∃ x∈z.sets,x.set.name=z.apex/\x.set.type=2
 fits:∀ x∈z.sets,km x.set.type (x.set.name == z.apex)=true
 aliasBefore:∀ i (hi:i+1<z.sets.length),(z.sets[i+1]).set.type=3->(z.sets[i]).set.name≠(z.sets[i+1]).set.name
 aliasBehind:∀ i (hi:i+1<z.sets.length),(z.sets[i]).set.type=3->(z.sets[i+1]).set.name=(z.sets[i]).set.name->(z.sets[i+1]).set.type=8
 cuts:∀ (i:Nat) (x:Signed) (b:List UInt8),z.sets[i]?=some x->(eM z)[i]?=some b->kI x.set b
 sigs:∀ (i:Nat) (x:Signed) (b:List UInt8),z.sets[i]?=some x->(eM z)[i]?=some b->b≠[]->x.set.type=2\/x.set.type=1->x.sigs = []
 form:∀ x∈z.sets,eK z.apex x.sigs
theorem VZone.inOrder{z:Zone}(h:fK z=true):InOrder z:=by
 unfold fK at h;simp only[Bool.and_eq_true] at h;have aB:∀ (l:List Signed) (p:Option DSet),kn z.apex p l=true->(p.toList++l.map (·.set)).Pairwise (λa b=>ir a b<0)/\∀ x∈l,cZ x.set=true:=by
  intro l
  induction l with
  | nil=>intro p _;cases p <;> simp
  | cons x l ih=>
   intro p h;unfold kn at h;rw[Bool.and_eq_true,Bool.and_eq_true,Bool.and_eq_true,Bool.and_eq_true] at h;obtain⟨i1,i2⟩:=ih (some x.set) h.2;have i1:(x.set::l.map (·.set)).Pairwise (λa b=>ir a b<0):=i1;refine⟨?_,λy hy=>?_⟩
   ·cases p with
    | none=>exact i1
    | some q=>
     have h2:ir q x.set<0:=by simpa using h.1.2
     refine List.pairwise_cons.2 ⟨λy hy=>?_,i1⟩;rcases List.mem_cons.1 hy with e | hy
     ·rw[e];exact h2
     ·have h3:=(List.pairwise_cons.1 i1).1 y hy;rw[IR] at h2 h3 |-;exact zO.trans _ _ _ h2 h3
   ·rcases List.mem_cons.1 hy with e | hy
    ·subst e;exact h.1.1.2
    ·exact i2 y hy
 obtain⟨h1,h2⟩:=aB _ none h.2;refine⟨h1,λx hx=>?_,λx hx=>?_⟩
 ·have hv:=(tu (h2 x hx)).1;intro e;rw[e] at hv;exact absurd hv (by decide)
 ·exact (tu (h2 x hx)).2.2.1
def ob(l:List Signed):List UInt8:=l.foldl (λa x=>if x.set.type=3 then x.set.name else a) []
structure RZoneOk(z:Zone):Prop where
 right:fK z=true
 few:z.sets.length<=20000
 start:∃ x∈z.sets,x.set.name=z.apex/\x.set.type=4
 server:∃ x∈z.sets,x.set.name=z.apex/\x.set.type=2
 fits:∀ x∈z.sets,km x.set.type (x.set.name == z.apex)=true
 three:∀ i (hi:i+1<z.sets.length),(z.sets[i]).set.name=(z.sets[i+1]).set.name->(z.sets[i+1]).set.type≠3/\(ob (z.sets.take (i+2))=(z.sets[i+1]).set.name->(z.sets[i+1]).set.type=8)
 cuts:∀ (i:Nat) (x:Signed) (b:List UInt8),z.sets[i]?=some x->(eM z)[i]?=some b->kI x.set b
 sigs:∀ (i:Nat) (x:Signed) (b:List UInt8),z.sets[i]?=some x->(eM z)[i]?=some b->b≠[]->x.set.type=2\/x.set.type=1->x.sigs = []
 form:∀ x∈z.sets,eK z.apex x.sigs
theorem KP(l:List Signed)(x:Signed):ob (l ++ [x])=if x.set.type=3 then x.set.name else ob l:=by simp[ob]
theorem Rf:∀ (l:List Signed) (a:List UInt8),l.foldl (λa x=>if x.set.type=3 then x.set.name else a) a=a\/∃ (j:Nat) (hj:j<l.length),(l[j]).set.type=3/\(l[j]).set.name=l.foldl (λa x=>if x.set.type=3 then x.set.name else a) a
 | [],_=>.inl rfl
 | x::l,a=>by
   rw[List.foldl_cons];rcases Rf l (if x.set.type=3 then x.set.name else a) with h | ⟨j,hj,h1,h2⟩
   ·rw[h];split
    ·rename_i ht;exact .inr ⟨0,by simp,ht,rfl⟩
    ·exact .inl rfl
   ·exact .inr ⟨j+1,by simpa using hj,h1,h2⟩
theorem ajZ(l:List Signed):ob l = []\/∃ (j:Nat) (hj:j<l.length),(l[j]).set.type=3/\(l[j]).set.name=ob l:=Rf l []
theorem aTZ(z:Zone):VZone z↔RZoneOk z:=by
 constructor
 ·intro h;have ho:=VZone.inOrder h.right;refine⟨h.right,h.few,h.start,h.server,h.fits,λi hi he=>?_,h.cuts,h.sigs,h.form⟩;have h3:(z.sets[i+1]).set.type≠3:=λht=>h.aliasBefore i hi ht he;refine⟨h3,λhl=>?_⟩;rcases ajZ (z.sets.take (i+2)) with e | ⟨j,hj,j1,j2⟩
  ·rw[e] at hl;exact absurd hl.symm (ho.name _ (List.getElem_mem hi))
  ·rw[List.getElem_take] at j1 j2;rw[hl] at j2;have un:j<i+2:=by have:=hj;rw[List.length_take] at this;omega
   have sR:j≠i+1:=λe=>by subst e;exact h3 j1
   have nT:j+1<z.sets.length:=by omega
   have ig:(z.sets[j+1]).set.name=(z.sets[j]).set.name:=by
    rcases Nat.lt_or_eq_of_le (show j+1<=i+1 by omega) with hl | mG
    ·exact anJ (ho.names (by omega) nT) (ho.names hl hi) j2
    ·have:j=i:=by omega
     subst this;exact he.symm
   have h8:=h.aliasBehind j nT j1 ig;rcases Nat.lt_or_eq_of_le (show j+1<=i+1 by omega) with hl | mG
   ·have h9:=ho.types hl hi (ig.trans j2);have yX:=ho.type _ (List.getElem_mem hi);omega
   ·have:j=i:=by omega
    subst this;exact h8
 ·intro h;have ho:=VZone.inOrder h.right;refine⟨h.right,h.few,h.start,h.server,h.fits,λi hi ht he=>?_,λi hi ht he=>?_,h.cuts,h.sigs,h.form⟩
  ·exact (h.three i hi he).1 ht
  ·obtain⟨h1,h2⟩:=h.three i hi he.symm;refine h2 ?_;have e1:z.sets.take (i+2)=z.sets.take (i+1) ++ [z.sets[i+1]]:=fQ hi;have e2:z.sets.take (i+1)=z.sets.take i ++ [z.sets[i]]:=fQ (by omega);rw[e1,KP,Qc h1,e2,KP,Qb ht];exact he.symm
end Np
namespace Np
variable {α:Type} [DecidableEq α]
def gS(o:List α)(x:α):List α:=if x∈o then o else o ++ [x]
def cj(l:List α):List α:=l.foldl gS []
theorem alK{o:List α}{x y:α} : y∈gS o x↔y∈o\/y=x:=by
 unfold gS;split
 ·rename_i h;constructor
  ·exact .inl
  ·rintro (h1 | rfl);exact h1;exact h
 ·simp
theorem aoJ{o:List α}{x:α}(h:o.Nodup):(gS o x).Nodup:=by
 unfold gS;split
 ·exact h
 ·rename_i hx;exact List.nodup_append.2 ⟨h,by simp,λa ha b hb=>by rw[List.mem_singleton] at hb;rintro rfl;exact hx (hb ▸ ha)⟩
theorem Ri:∀ (l o:List α) (y:α),y∈l.foldl gS o↔y∈o\/y∈l
 | [],o,y=>by simp
 | x::l,o,y=>by
   rw[List.foldl_cons,Ri l,alK,List.mem_cons,or_assoc]
theorem Ro:∀ (l o:List α),o.Nodup->(l.foldl gS o).Nodup
 | [],_,h=>h
 | _::l,_,h=>Ro l _ (aoJ h)
theorem th{l:List α}{y:α} : y∈cj l↔y∈l:=by unfold cj;rw[Ri];simp
theorem xR(l:List α):(cj l).Nodup:=Ro l [] List.nodup_nil
theorem tt(l:List α)(x:α):cj (l ++ [x])=gS (cj l) x:=by simp[cj]
theorem yO{o:List α}{x:α}(h:x∈o):gS o x=o:=Qb h
theorem tr(l:List α):(cj l).length<=l.length:=by
 have:∀ (l o:List α),(l.foldl gS o).length<=o.length+l.length:=by
  intro l
  induction l with
  | nil=>intro o;simp
  | cons x l ih=>
   intro o;have h:=ih (gS o x);have h2:(gS o x).length<=o.length+1:=by unfold gS;split <;> simp
   rw[List.foldl_cons,List.length_cons];omega
 have h:=this l [];simpa [cj] using h
omit [DecidableEq α] in
theorem Lp{c:α->α->Int}(hc:TO c):∀ (l m:List α),l.Pairwise (λa b=>c a b<0)->m.Pairwise (λa b=>c a b<0)->(∀ x,x∈l↔x∈m)->l=m
 | [],[],_,_,_=>rfl
 | [],b::m,_,_,h=>by have:=(h b).2 (by simp);cases this
 | a::l,[],_,_,h=>by have:=(h a).1 (by simp);cases this
 | a::l,b::m,hl,hm,h=>by
   obtain⟨l1,l2⟩:=List.pairwise_cons.1 hl;obtain⟨m1,m2⟩:=List.pairwise_cons.1 hm;have e:a=b:=by
    rcases List.mem_cons.1 ((h a).1 (by simp)) with e | h1
    ·exact e
    ·rcases List.mem_cons.1 ((h b).2 (by simp)) with e | h2
     ·exact e.symm
     ·have:=hc.anti _ _ (l1 b h2)
      have:=m1 a h1
      omega
   subst e;rw[Lp hc l m l2 m2 (λx=>by
    constructor
    ·intro hx;rcases List.mem_cons.1 ((h x).1 (mQ _ hx)) with e | h1
     ·subst e;have:=l1 x hx;rw[hc.self] at this;omega
     ·exact h1
    ·intro hx;rcases List.mem_cons.1 ((h x).2 (mQ _ hx)) with e | h1
     ·subst e;have:=m1 x hx;rw[hc.self] at this;omega
     ·exact h1)]
def uW(l:List (List UInt8)):List (List UInt8):=l.mergeSort λa b=>!decide (aL b a<0)
theorem FY(l:List (List UInt8)):(uW l).Perm l:=List.mergeSort_perm _ _
theorem Lj{l:List (List UInt8)}(h:l.Nodup):(uW l).Pairwise λa b=>aL a b<0:=by
 have hs:(uW l).Pairwise λa b=>(!decide (aL b a<0))=true:=List.pairwise_mergeSort (le:=λa b=>!decide (aL b a<0)) (λx y z=>akJ fW x y z) (λx y=>akZ fW x y) l;have hn:(uW l).Nodup:=(FY l).nodup_iff.2 h;refine (hs.and hn).imp λ{a b} ⟨h1,h2⟩=>?_;have h3:¬ aL b a<0:=by simpa using h1
 refine Int.lt_of_not_ge λh4=>?_;by_cases h5:0<aL a b
 ·exact h3 (fW.anti' _ _ h5)
 ·exact h2 (fW.zero _ _ (by omega))
def fD:List (List UInt8)->List UInt8->List (List UInt8)
 | [],a=>[a]
 | x::l,a=>if aL x a<0 then x::fD l a else if x=a then x::l else a::x::l
theorem RM:∀ (l:List (List UInt8)) (a:List UInt8),l.Pairwise (λa b=>aL a b<0)->(fD l a).Pairwise (λa b=>aL a b<0)/\∀ y,y∈fD l a↔y∈l\/y=a
 | [],a,_=>⟨by simp[fD],λy=>by simp[fD]⟩
 | x::l,a,h=>by
   obtain⟨h1,h2⟩:=List.pairwise_cons.1 h;rw[fD];split
   ·rename_i ab;obtain⟨i1,i2⟩:=RM l a h2;refine⟨List.pairwise_cons.2 ⟨λy hy=>?_,i1⟩,λy=>?_⟩
    ·rcases (i2 y).1 hy with hy | rfl
     ·exact h1 y hy
     ·exact ab
    ·rw[List.mem_cons,i2,List.mem_cons,or_assoc]
   ·rename_i ab;split
    ·rename_i he;subst he;refine⟨h,λy=>?_⟩;constructor
     ·exact .inl
     ·rintro (hy | rfl);exact hy;simp
    ·rename_i hne;have nL:aL a x<0:=by
      by_cases h0:0<aL x a
      ·exact fW.anti' _ _ h0
      ·exact absurd (fW.zero _ _ (by omega)) hne
     refine⟨List.pairwise_cons.2 ⟨λy hy=>?_,h⟩,λy=>?_⟩
     ·rcases List.mem_cons.1 hy with e | hy
      ·subst e;exact nL
      ·exact fW.trans _ _ _ nL (h1 y hy)
     ·rw[List.mem_cons,Or.comm]
end Np
namespace Np
structure Host where
 name:List UInt8
 addr:Int
 owner:Int
deriving DecidableEq
structure Copy where
 host:Int
 frm:Int
 til:Int
 zone:Zone
deriving DecidableEq
structure Placed where
 host:Int
 zone:Zone
deriving DecidableEq
structure Held where
 zone:List UInt8
 signed:Signed
 fresh:List Span
 spans:List Span
deriving DecidableEq
structure Hist where
 hosts:List Host
 copies:List Copy
 anchor:DSet
 hints:List Int
 drift:Int
 stop:Int
structure WorldP where
 hosts:List Host
 zones:List Placed
 anchor:DSet
 hints:List Int
noncomputable def yes(P:Prop):Bool:=@decide P (Classical.propDecidable P)
theorem bh{P:Prop}(h:P):yes P=true:=by unfold yes;exact @uQ _ (Classical.propDecidable P) h
theorem aF{P:Prop}(h:¬ P):yes P=false:=by unfold yes;exact @tQ _ (Classical.propDecidable P) h
theorem fq{P:Prop} : yes P=true↔P:=by unfold yes;exact @decide_eq_true_iff _ (Classical.propDecidable P)
theorem ve{P Q:Prop}(h:P↔Q):yes P=yes Q:=by rw[Bool.eq_iff_iff,fq,fq];exact h
structure HostOk(h:Host):Prop where
 name:aD h.name=true
 wild:eD h.name=false
 addr:1<=h.addr/\h.addr<=1000000
 owner:0<=h.owner/\h.owner<=31
structure VHosts(l:List Host):Prop where
 few:l.length<=64
 each:∀ h∈l,HostOk h
 addrs:(l.map (·.addr)).Nodup
structure VRoot(a:DSet)(hints:List Int):Prop where
 set:cZ a=true
 type:a.type=6
 name:a.name = [46]
 few:1<=hints.length/\hints.length<=8
 each:∀ n∈hints,1<=n/\n<=1000000
structure CopyOk(h:Hist)(c:Copy):Prop where
 host:0<=c.host/\c.host<h.hosts.length
 times:0<=c.frm/\c.frm<c.til/\c.til<=h.stop
 zone:VZone c.zone
def kH(c d:Copy):Prop:=c.host=d.host/\c.zone.apex=d.zone.apex/\c.frm<d.til/\d.frm<c.til
structure VHist(h:Hist):Prop where
 stop:1<=h.stop/\h.stop<=10000000
 drift:0<=h.drift/\h.drift<=1000
 hosts:VHosts h.hosts
 root:VRoot h.anchor h.hints
 each:∀ c∈h.copies,CopyOk h c
 apart:h.copies.Pairwise λc d=>¬ kH c d
structure VWorld(w:WorldP):Prop where
 hosts:VHosts w.hosts
 root:VRoot w.anchor w.hints
 each:∀ p∈w.zones,(0<=p.host/\p.host<w.hosts.length)/\VZone p.zone
 apart:w.zones.Pairwise λp q=>¬ (p.host=q.host/\p.zone.apex=q.zone.apex)
def bT(l:List Span):List Span:=(l.mergeSort λa b=>decide (a.frm<=b.frm)).foldl gP []
theorem QU{l m:List Span}(h:l.Perm m)(t:Int):inS l t↔inS m t:=
 ⟨λ⟨s,hs,k⟩=>⟨s,h.mem_iff.1 hs,k⟩,λ⟨s,hs,k⟩=>⟨s,h.mem_iff.2 hs,k⟩⟩
theorem OM{l:List Span}(hf:∀ s∈l,s.frm<s.til)(hs:l.Pairwise λa b=>a.frm<=b.frm):ApartS (l.foldl gP [])/\∀ t,inS (l.foldl gP []) t↔inS l t:=by
 obtain⟨h1,h2⟩:=SN l [] ApartS.nil hf hs (λp hp=>by cases hp);exact⟨h1,λt=>(h2 t).trans ⟨λh=>h.elim (λh=>absurd h (pm t)) id,.inr⟩⟩
theorem Sy(l:List Span):(l.mergeSort λa b=>decide (a.frm<=b.frm)).Perm l:=List.mergeSort_perm _ _
theorem aLJ(l:List Span):(l.mergeSort λa b=>decide (a.frm<=b.frm)).Pairwise λa b=>a.frm<=b.frm:=by
 have:=List.pairwise_mergeSort (le:=λa b:Span=>decide (a.frm<=b.frm)) (λx y z h1 h2=>by simp at *;omega) (λx y=>by simp;omega) l
 exact this.imp λh=>by simpa using h
theorem xS{l:List Span}(hf:∀ s∈l,s.frm<s.til):ApartS (bT l)/\∀ t,inS (bT l) t↔inS l t:=by
 obtain⟨h1,h2⟩:=OM (λs hs=>hf s ((Sy l).mem_iff.1 hs)) (aLJ l);exact⟨h1,λt=>(h2 t).trans (QU (Sy l) t)⟩
theorem aoY:bT [] = []:=by simp[bT]
theorem Fy{l m:List Span}(hf:∀ s∈l,s.frm<s.til)(hm:ApartS m)(ht:∀ t,inS m t↔inS l t):m=bT l:=by
 obtain⟨h1,h2⟩:=xS hf;exact NN _ _ hm h1 λt=>(ht t).trans (h2 t).symm
theorem apQ{l m:List Span}(hf:∀ s∈l,s.frm<s.til)(hp:m.Perm l)(hs:m.Pairwise λa b=>a.frm<=b.frm):m.foldl gP []=bT l:=by
 obtain⟨h1,h2⟩:=OM (λs hs=>hf s (hp.mem_iff.1 hs)) hs;exact Fy hf h1 λt=>(h2 t).trans (QU hp t)
theorem Rp{l m:List Span}(hl:∀ s∈l,s.frm<s.til)(hm:∀ s∈m,s.frm<s.til)(h:∀ t,inS l t↔inS m t):bT l=bT m:=by
 obtain⟨h1,h2⟩:=xS hl;exact Fy hm h1 λt=>(h2 t).trans (h t)
theorem aTX{l:List Span}{s:Span}(hl:∀ s∈l,s.frm<s.til)(hs:s.frm<s.til):oq (bT l) s=bT (l ++ [s]):=by
 obtain⟨h1,h2⟩:=xS hl;obtain⟨h3,h4,_⟩:=LK (bT l) s h1 hs;refine Fy (λx hx=>?_) h3 λt=>?_
 ·rcases List.mem_append.1 hx with hx | hx
  ·exact hl x hx
  ·rw[List.mem_singleton] at hx;subst hx;exact hs
 ·rw[h4,h2,zz,jx];constructor
  ·rintro (h | h);exact .inl h;exact .inr (.inl h)
  ·rintro (h | h | h);exact .inl h;exact .inr h;exact absurd h (pm t)
def j8(c:Copy):Span:=⟨c.frm,c.til⟩
def tY(l:List Copy)(zone:List UInt8):List Copy:=l.filter λc=>c.zone.apex == zone
def oe(c:Copy):List (Span×Signed):=c.zone.sets.map λs=>(j8 c,s)
def cX(l:List Copy)(zone:List UInt8):List (Span×Signed):=(tY l zone).flatMap oe
def fd(ps:List (Span×Signed))(s:Signed):List Span:=(ps.filter λp=>decide (p.2=s)).map (·.1)
def me(f:List Span->List Span)(zone:List UInt8)(ps:List (Span×Signed)):List Held:=(cj (ps.map (·.2))).map λs=>⟨zone,s,f (fd ps s),[]⟩
theorem uZ(ps:List (Span×Signed))(p:Span×Signed)(s:Signed):fd (ps ++ [p]) s=if p.2=s then fd ps s ++ [p.1] else fd ps s:=by
 unfold fd;rw[List.filter_append];by_cases h:p.2=s
 ·simp[h]
 ·simp[h]
theorem SJ{ps:List (Span×Signed)}{s:Signed}(h:s∉ps.map (·.2)):fd ps s = []:=by
 unfold fd;rw[List.filter_eq_nil_iff.2 (λp hp=>?_)];rfl;simp only[Qa];rintro rfl;exact h (List.mem_map.2 ⟨p,hp,rfl⟩)
theorem Pv(f:List Span->List Span)(zone:List UInt8)(ps:List (Span×Signed)):(me f zone ps).length=(cj (ps.map (·.2))).length:=List.length_map _
theorem Pu{f:List Span->List Span}{zone:List UInt8}{ps:List (Span×Signed)}{i:Nat}{x:Held} : (me f zone ps)[i]?=some x↔∃ s,(cj (ps.map (·.2)))[i]?=some s/\x=⟨zone,s,f (fd ps s),[]⟩:=by
 unfold me;rw[List.getElem?_map];constructor
 ·intro h;obtain⟨s,h1,h2⟩:=Option.map_eq_some_iff.1 h;exact⟨s,h1,h2.symm⟩
 ·rintro⟨s,h1,rfl⟩;rw[h1];rfl
theorem YM{f:List Span->List Span}{zone:List UInt8}{ps:List (Span×Signed)}{p:Span×Signed}(h:p.2∉cj (ps.map (·.2))):me f zone (ps ++ [p])=me f zone ps ++ [⟨zone,p.2,f [p.1],[]⟩]:=by
 have hn:p.2∉ps.map (·.2):=λhm=>h (th.2 hm);unfold me;rw[List.map_append,List.map_singleton,tt,gS,Qc h,List.map_append];congr 1
 ·refine List.map_congr_left λs hs=>?_;rw[uZ,Qc (show ¬ p.2=s from λe=>h (by rw[e];exact hs))]
 ·simp[uZ,SJ hn]
theorem YN{f:List Span->List Span}{zone:List UInt8}{ps:List (Span×Signed)}{p:Span×Signed}{i:Nat}(h:(cj (ps.map (·.2)))[i]?=some p.2):me f zone (ps ++ [p])=(me f zone ps).set i ⟨zone,p.2,f (fd ps p.2 ++ [p.1]),[]⟩:=by
 obtain⟨hi,he⟩:=cQ.1 h;have hm:p.2∈cj (ps.map (·.2)):=by rw[<-he];exact List.getElem_mem _
 have mg:=xR (ps.map (·.2));have hu:cj ((ps ++ [p]).map (·.2))=cj (ps.map (·.2)):=by rw[List.map_append,List.map_singleton,tt,yO hm]
 refine List.ext_getElem? λj=>?_;rw[List.getElem?_set];unfold me;rw[hu,List.getElem?_map,List.getElem?_map,List.length_map];by_cases dj:i=j
 ·subst dj;rw[Qb rfl,Qb hi,h,Option.map_some,uZ,Qb rfl]
 ·rw[Qc dj]
  cases hj:(cj (ps.map (·.2)))[j]? with
  | none=>rfl
  | some s=>
   obtain⟨sR,un⟩:=cQ.1 hj;have hne:p.2≠s:=λe=>dj ((List.getElem_inj (h₀:=hi) (h₁:=sR) mg).1 (he.trans (e.trans un.symm)));rw[Option.map_some,Option.map_some,uZ,Qc hne]
def pub(l:List Copy)(zone:List UInt8):List Held:=me bT zone (cX l zone)
def apexes(l:List Copy):List (List UInt8):=uW (cj (l.map (·.zone.apex)))
theorem uS{l:List Copy}{zone:List UInt8}{p:Span×Signed} : p∈cX l zone↔∃ c∈l,c.zone.apex=zone/\p.2∈c.zone.sets/\p.1=j8 c:=by
 unfold cX tY oe;simp only[List.mem_flatMap,List.mem_filter,List.mem_map,beq_iff_eq];constructor
 ·rintro⟨c,⟨h1,h2⟩,s,hs,rfl⟩;exact⟨c,h1,h2,hs,rfl⟩
 ·rintro⟨c,h1,h2,h3,h4⟩;exact⟨c,⟨h1,h2⟩,p.2,h3,by rw[<-h4]⟩
theorem Fw{ps:List (Span×Signed)}{s:Signed}{x:Span} : x∈fd ps s↔(x,s)∈ps:=by
 unfold fd;simp only[List.mem_map,List.mem_filter,Qa];constructor
 ·rintro⟨p,⟨h1,rfl⟩,rfl⟩;exact h1
 ·intro h;exact⟨(x,s),⟨h,rfl⟩,rfl⟩
def ot(l:List Copy):Prop:=∀ c∈l,c.frm<c.til
theorem VHist.full{h:Hist}(v:VHist h):ot h.copies:=λc hc=>(v.each c hc).times.2.1
theorem zN{l:List Copy}(hl:ot l){zone:List UInt8}{s:Signed} : ∀ x∈fd (cX l zone) s,x.frm<x.til:=λx hx=>by
 obtain⟨c,hc,_,_,h4⟩:=uS.1 (Fw.1 hx);have h4:x=j8 c:=h4;rw[h4];exact hl c hc
theorem KM{l:List Copy}{zone:List UInt8}{s:Signed}{t:Int} : inS (fd (cX l zone) s) t↔∃ c∈l,c.zone.apex=zone/\s∈c.zone.sets/\c.frm<=t/\t<c.til:=by
 constructor
 ·rintro⟨x,hx,h1,h2⟩;obtain⟨c,hc,h3,h4,h5⟩:=uS.1 (Fw.1 hx);have h5:x=j8 c:=h5;subst h5;exact⟨c,hc,h3,h4,h1,h2⟩
 ·rintro⟨c,hc,h3,h4,h1,h2⟩;exact⟨j8 c,Fw.2 (uS.2 ⟨c,hc,h3,h4,rfl⟩),h1,h2⟩
theorem alX{l:List Copy}{zone:List UInt8}{s:Signed} : s∈cj ((cX l zone).map (·.2))↔∃ c∈l,c.zone.apex=zone/\s∈c.zone.sets:=by
 rw[th,List.mem_map];constructor
 ·rintro⟨p,hp,rfl⟩;obtain⟨c,h1,h2,h3,_⟩:=uS.1 hp;exact⟨c,h1,h2,h3⟩
 ·rintro⟨c,h1,h2,h3⟩;exact⟨(j8 c,s),uS.2 ⟨c,h1,h2,h3,rfl⟩,rfl⟩
theorem KW{l:List Copy}(hl:ot l){zone:List UInt8}{x:Held}(hx:x∈pub l zone):x.zone=zone/\x.spans = []/\ApartS x.fresh/\(∃ c∈l,c.zone.apex=zone/\x.signed∈c.zone.sets)/\∀ t,inS x.fresh t↔∃ c∈l,c.zone.apex=zone/\x.signed∈c.zone.sets/\c.frm<=t/\t<c.til:=by
 unfold pub me at hx;obtain⟨s,hs,rfl⟩:=List.mem_map.1 hx;obtain⟨h1,h2⟩:=xS (zN hl (zone:=zone) (s:=s));exact⟨rfl,rfl,h1,alX.1 hs,λt=>(h2 t).trans KM⟩
end Np
section
open Go.RowKit
theorem mr{w:World}{B:Nat}{v:Value}{xs:List Np.Sig}(h:SlR cS 6 w B v xs){k:Nat}{x:Np.Sig}(hx:xs[k]?=some x):∃ (b o c:Nat) (s:ByteArray),v = .slice (some ⟨b,o,none⟩) xs.length c/\b<B/\s.data.toList=x.zone/\s.size<=140737488355328/\
 w.cell? ⟨b,o+k * 6,none⟩=some (.string s)/\w.cell? ⟨b,o+k * 6+1,none⟩=some (.int .i64 x.key)/\w.cell? ⟨b,o+k * 6+2,none⟩=some (.int .i64 x.alg)/\w.cell? ⟨b,o+k * 6+3,none⟩=some (.int .i64 x.frm)/\w.cell? ⟨b,o+k * 6+4,none⟩=some (.int .i64 x.til)/\w.cell? ⟨b,o+k * 6+5,none⟩=some (.int .u64 x.sum):=by
 obtain⟨A,c,rfl,hc,_,he⟩:=h;obtain⟨b,o,e,rfl,hb,_,hce,s,h1,h2,rfl⟩:=he k x hx;exact⟨b,o,c,s,rfl,hb,h1,h2,by have:=hce 0 _ rfl;simpa using this,hce 1 _ rfl,hce 2 _ rfl,hce 3 _ rfl,hce 4 _ rfl,hce 5 _ rfl⟩
theorem OK(t:Int)(b:Bool)(w:World) :
 Calls prog 271 #[.int .i64 t,.bool b] w (a1Q w (.bool (Np.km t b))):=by
 unfold Np.km;go_enter func271,ntmps271;go_wp2_with fail
 all_goals
  go_ret;refine⟨ag ?_,rfl⟩;simp_all
theorem KL{a:List UInt8}{l:List Np.Sig}{k:Nat}{x:Np.Sig}(hx:l[k]?=some x)(h:¬ Np.SigOk a l k x):Np.yes (Np.eK a l)=false:=Np.aF λhf=>h (hf.2 k x hx)
theorem Lg{a:List UInt8}{l:List Np.Sig}{k:Nat}{x:Np.Sig}(hx:l[k]?=some x)(h:∀ j g,j<k->l[j]?=some g->Np.SigOk a l j g)(hk:Np.SigOk a l k x):∀ j g,j<k+1->l[j]?=some g->Np.SigOk a l j g:=λj g hj hg=>by
 by_cases e:j=k
 ·subst e;rw[hx] at hg;cases hg;exact hk
 ·exact h j g (by omega) hg
theorem adY(a:ByteArray)(v:Value)(l:List Np.Sig)(w:World)(h:SlR cS 6 w w.heap.size v l) :
 Calls prog 272 #[v,.string a] w (a0X w.heap.size w (.bool (Np.yes (Np.eK a.data.toList l)))):=by
 obtain⟨r,hr⟩:=acJ (Np.yes (Np.eK a.data.toList l));rw[hr];have HR:=jq hr;have H:=jq h;obtain⟨A,c,rfl,bq,bM⟩:=ak h;clear h hr;by_cases h6:l.length<=6
 ·have H6:=jq h6;go_enter func272,ntmps272;go_wp2_with fail;go_loopw [12] (λi wr=>∃ k:Nat,k<=l.length/\i = .int .i64 k/\Hid (Below w.heap.size w wr)/\Hid (∀ j g,j<k->l[j]?=some g->Np.SigOk a.data.toList l j g)) (λi _=>l.length - (intOf i).toNat)
  case atStart=>exact⟨0,jQ _,rfl,jq (vQ _ _),jq (λj g hj=>by omega)⟩
  case round=>
   obtain⟨k,hk,rfl,HB,HA⟩:=hrel;by_cases ab:k<l.length
   ·have cx:=H.out.keep cg HB.out;have aa:=aQ ab;obtain⟨b,o,c',s,hA,bA,hs,an,e0,e1,e2,e3,e4,e5⟩:=mr cx aa
    cases hA
    have qw:=aQ (show 0<l.length by omega);obtain⟨b',o',c'',s',hA,_,_,_,_,z1,z2,z3,z4,_⟩:=mr cx qw;simp only[Value.slice.injEq,Option.some.injEq,Addr.mk.injEq,and_true,true_and] at hA;obtain⟨⟨rfl,rfl⟩,-⟩:=hA;simp only[Nat.zero_mul,Nat.add_zero] at z3 z4;have HN:Hid (∀ h:Np.SigOk a.data.toList l k l[k],∀ j g,j<k+1->l[j]?=some g->Np.SigOk a.data.toList l j g):=jq (λh=>Lg aa HA.out h);have HF:Hid (¬ Np.SigOk a.data.toList l k l[k]->r=false):=jq (λh=>HR.out ▸ KL aa h);have HZ:=jq qw;have lW:=jq aa;have HS:=jq hs;have qg:=HB.out.size;have uf:b<wr.heap.size:=by omega
    have aY:Hid (∀ o n,Below w.heap.size w ((wr.alloc o).drewN n)):=jq (λo n=>below_drewN (HB.out.alloc HB.out.size _) _);have nf:Hid (∀ o,Below w.heap.size w (wr.alloc o)):=jq (λo=>(HB.out.alloc HB.out.size _));have bJ:(0:Int)<=(k:Int):=by omega
    have bI:(k:Int)<(l.length:Int):=by omega
    have bd:(0:Int)<(l.length:Int):=by omega
    have AM:Hid (∀ m,k=m+1->∃ y,l[m]?=some y/\wr.cell? ⟨b,o+m * 6+1,none⟩=some (.int .i64 y.key)):=jq (λm hm=>by
     obtain⟨b2,o2,c2,s2,hA,_,_,_,_,y1,_⟩:=mr cx (aQ (show m<l.length by omega));simp only[Value.slice.injEq,Option.some.injEq,Addr.mk.injEq,and_true,true_and] at hA;obtain⟨⟨rfl,rfl⟩,-⟩:=hA;exact⟨_,aQ (by omega),y1⟩)
    generalize l[k]=x at *;generalize l[0]=x0 at *;clear cx hs aa qw z1 z2;have mF:((!s.toList == a.toList)=true)\/(!s.toList == a.toList)=false/\(decide (x.key<1)=true\/decide (x.key<1)=false/\(decide (1000000<x.key)=true\/decide (1000000<x.key)=false/\(decide (x.alg<1)=true\/decide (x.alg<1)=false/\(decide (3<x.alg)=true\/decide (3<x.alg)=false/\(decide (x.frm<0)=true\/decide (x.frm<0)=false/\(decide (x.til<x.frm)=true\/decide (x.til<x.frm)=false/\(decide (20000000<x.til)=true\/decide (20000000<x.til)=false))))))):=by
     simp only[Qa,decide_eq_false_iff_not];by_cases q:s.toList=a.toList
     ·simp[q];omega
     ·exact .inl (by simpa using q)
    rcases mF with d1 | ⟨d1,d2 | ⟨d2,d3 | ⟨d3,d4 | ⟨d4,d5 | ⟨d5,d6 | ⟨d6,d7 | ⟨d7,d8 | d8⟩⟩⟩⟩⟩⟩⟩
    rotate_right
    ·by_cases gX:k=0
     ·have jP:decide ((0:Int)<(k:Int))=false:=by simp;omega
      have jt:decide (0<k)=false:=by simp;omega
      have bH:Hid (Np.SigOk a.data.toList l k x):=jq (by
       have e1:s.toList=a.toList:=by simpa using d1
       rw[dQ,dQ] at e1;simp only[decide_eq_false_iff_not] at d2 d3 d4 d5 d6 d7 d8;have ea:x0=x:=by
        have h1:=HZ.out;rw[<-gX,lW.out] at h1;exact (Option.some.inj h1).symm
       refine⟨by rw[<-HS.out,e1],by omega,by omega,by omega,λq hq=>?_,λp _ h0=>by omega⟩;rw[HZ.out] at hq;cases hq;rw[ea];exact⟨rfl,rfl⟩)
      clear gX;go_wp2_with fail;go_quiet (fail);go_wp2_with fail;go_roundw
      case rel=>exact⟨k+1,by omega,by go_num,jq (aY.out _ _),jq (HN.out bH.out)⟩
      case measure=>simp[intOf] <;> omega
     ·obtain⟨m,rfl⟩:∃ m,k=m+1:=⟨k - 1,by omega⟩;obtain⟨y,hy,y1⟩:=AM.out m rfl;have HY:=jq hy;have jP:decide ((0:Int)<((m+1:Nat):Int))=true:=by simp
      have ah:IntKind.i64.wrap (((m+1:Nat):Int) - 1)=(m:Int):=by rw[IntWalk.i64_in _ (by omega)];omega
      have la:(0:Int)<=(m:Int):=by omega
      have ru:(m:Int)<(l.length:Int):=by omega
      have JE:((x.frm != x0.frm)=true)\/(x.frm != x0.frm)=false/\((x.til != x0.til)=true\/(x.til != x0.til)=false/\(decide (x.key<=y.key)=true\/decide (x.key<=y.key)=false)):=by
       simp only[bne_iff_ne,bne_eq_false_iff_eq,Qa,decide_eq_false_iff_not];omega
      clear hy gX;rcases JE with c1 | ⟨c1,c2 | ⟨c2,c3 | c3⟩⟩
      rotate_right
      ·have bH:Hid (Np.SigOk a.data.toList l (m+1) x):=jq (by
        have e1:s.toList=a.toList:=by simpa using d1
        rw[dQ,dQ] at e1;simp only[decide_eq_false_iff_not,bne_eq_false_iff_eq] at d2 d3 d4 d5 d6 d7 d8 c1 c2 c3;refine⟨by rw[<-HS.out,e1],by omega,by omega,by omega,λq hq=>?_,λp hp h0=>?_⟩
        ·rw[HZ.out] at hq;cases hq;exact⟨c1,c2⟩
        ·rw[show m+1 - 1=m by omega,HY.out] at hp;cases hp;omega)
       go_wp2_with fail;go_quiet (fail);go_wp2_with fail;go_roundw
       case rel=>exact⟨m+1+1,by omega,by go_num,jq (aY.out _ _),jq (HN.out bH.out)⟩
       case measure=>simp[intOf] <;> omega
      all_goals
       go_wp2_with fail;go_quiet (fail);go_wp2_with fail;go_ret;refine⟨ag (HF.out ?_).symm,aY.out _ _⟩;intro ew;have k5:=ew.same _ HZ.out;have k6:=ew.up _ HY.out (by omega);simp only[bne_iff_ne,bne_eq_false_iff_eq,Qa,decide_eq_false_iff_not] at *;omega
    all_goals
     go_wp2_with fail;go_ret;refine⟨ag (HF.out ?_).symm,nf.out _⟩;intro ew;obtain⟨k1,k2,k3,k4,_,_⟩:=ew
     first
      | (rw[dQ,dQ,HS.out,k1] at d1;simp at d1;done)
      | (simp only[Qa,decide_eq_false_iff_not] at *;omega)
   ·go_wp2_with fail;go_ret;refine⟨ag ?_,HB.out⟩;rw[<-HR.out];exact (Np.bh ⟨H6.out,λj g hg=>HA.out j g (by have:=(cQ.1 hg).1;omega) hg⟩).symm
 ·have h6':6<l.length:=by omega
  have HF:Hid (r=false):=jq (by rw[<-HR.out];exact Np.aF λhf=>h6 hf.1);clear h6;go_enter func272,ntmps272;go_wp2_with fail;go_ret;exact⟨ag HF.out.symm,vQ _ _⟩
theorem Tg(s:ByteArray)(hs:s.size<=140737488355328)(w:World) :
 Calls prog 242 #[.string s,.string ⟨#[42]⟩] w (a1Q w (.bool (Np.eD s.data.toList))):=by
 have h1:1<=s.size->((s.extract 0 1).toList == [42])=Np.eD s.data.toList:=Q2 s;have h2:s.size<1->Np.eD s.data.toList=false:=λh=>by
  have:s.data.toList = []:=rQ (by rw[bn];omega)
  rw[this];rfl
 have H1:=jq h1;have H2:=jq h2;clear h1 h2;go_enter func242,ntmps242;go_wp2
 ·go_ret;exact⟨ag (H1.out (by omega)),rfl⟩
 ·go_ret;exact⟨ag (H2.out (by omega)).symm,rfl⟩
def qA(l:List Np.Signed)(k:Nat):Option Np.DSet:=(l.take k).getLast?.map (·.set)
theorem F9{l:List Np.Signed}{k:Nat}{x:Np.Signed}(h:l[k]?=some x):qA l (k+1)=some x.set:=by
 obtain⟨hl,rfl⟩:=cQ.1 h;unfold qA;rw[fQ hl,List.getLast?_append];rfl
theorem Te{apex:List UInt8}{l:List Np.Signed}{k:Nat}{x:Np.Signed}(h:l[k]?=some x)(p:Option Np.DSet) :
 Np.kn apex p (l.drop k)=((Np.aD x.set.name&&Np.bD x.set.name apex)&&Np.cZ x.set&&(match p with | none=>true | some q=>decide (Np.ir q x.set<0))&&Np.kn apex (some x.set) (l.drop (k+1))):=by
 obtain⟨hl,rfl⟩:=cQ.1 h;rw[sQ hl]
 cases p <;> rfl
def Vs(w1:World)(apex:List UInt8)(l:List Np.Signed)(i:Value)(wr:World):Prop:=
 ∃ k:Nat,k<=l.length/\i = .int .i64 k/\Below w1.heap.size w1 wr/\Hid (∀ j x,j<k->l[j]?=some x->Np.cZ x.set=true)/\Hid (Np.kn apex none l=Np.kn apex (qA l k) (l.drop k))
theorem aXY(a:ByteArray)(ha:a.size<=140737488355328)(v:Value)(l:List Np.Signed)(bW:l.length<=20000)(w:World)(hR:jo w w.heap.size)(hd:SlR bO 5 w w.heap.size v l) :
 Calls prog 198 #[.agg #[.string a,v]] w (a0X w.heap.size w (.bool (Np.fK ⟨a.data.toList,l⟩))):=by
 have HR:=jq hR;have HD:=jq hd;obtain⟨A,c,rfl,bq,bM,-⟩:=hd;clear hR;have HW:Hid (∀ o,Below w.heap.size w (w.alloc o)):=jq (λo=>(vQ _ w).alloc (bQ _) _);go_enter func198,ntmps198;go_wp2_with fail;refine (nameValid_any _ ha _).mono ?_;rintro e w1 ⟨rfl,hb⟩;have c0:w1.cell? ⟨w.heap.size,0,none⟩=some (.string a):=by rw[hb.cell (by simp)];go_simp
 have c1:w1.cell? ⟨w.heap.size,1,none⟩=some (.slice A l.length c):=by rw[hb.cell (by simp)];go_simp
 have eO:w.heap.size<w1.heap.size:=by have:=hb.size;simp at this;omega
 have av:=jq ((HW.out _).trans (hb.mono (by simp)));clear hb
 cases rD:Np.aD a.data.toList with
 | false=>
  have HF:Hid (Np.fK ⟨a.data.toList,l⟩=false):=jq (by unfold Np.fK;rw[rD];rfl);clear rD;go_wp2_with fail;go_ret;exact⟨ag HF.out.symm,av.out⟩
 | true=>
  have yK:=jq rD;clear rD
  cases tc:Np.eD a.data.toList with
  | true=>
   have HF:Hid (Np.fK ⟨a.data.toList,l⟩=false):=jq (by unfold Np.fK;rw[tc];simp);go_wp2_with (go_at_call 242;refine (Tg a ha _).mono ?_;rintro e w' ⟨rfl,rfl⟩);go_ret;exact⟨ag HF.out.symm,av.out⟩
  | false=>
   have HF:Hid (Np.fK ⟨a.data.toList,l⟩=Np.kn a.data.toList none l):=jq (by unfold Np.fK;rw[tc,yK.out];simp);go_wp2_with (go_at_call 242;refine (Tg a ha _).mono ?_;rintro e w' ⟨rfl,rfl⟩);clear tc;go_loopw [30] (λi wr=>Vs w1 a.data.toList l i wr) (λi _=>l.length - (intOf i).toNat)
   case atStart=>exact⟨0,jQ _,rfl,vQ _ _,jq (λj x hj=>by omega),jq rfl⟩
   case round=>
    obtain⟨k,hk,rfl,aI,HV,HG⟩:=hrel;by_cases ab:k<l.length
    ·have l7:Below w.heap.size w wr:=av.out.trans (aI.adZ);have aa:=aQ ab;obtain⟨b,o,c',sn,dv,sv,hA,bA,_,aw,an,aK,aS,e0,e1,e2,e3,e4⟩:=fE (HD.out.keep bj l7) aa
     cases hA
     generalize hx:l[k]=x at *;clear hx;obtain⟨Ad,cd,rfl,JH,Zk⟩:=ak aK;obtain⟨As,cs,rfl,hcs,hls⟩:=ak aS;have d0:wr.cell? ⟨w.heap.size,0,none⟩=some (.string a):=by rw[aI.cell (by simpa using eO)];exact c0
     have d1:wr.cell? ⟨w.heap.size,1,none⟩=some (.slice (some ⟨b,o,none⟩) l.length c):=by rw[aI.cell (by simpa using eO)];exact c1
     have dK:w.heap.size<wr.heap.size:=by have:=aI.size;omega
     have im:=jq aK;have HX:=jq aa;have aT:=jq aw;have aV:=jq aI;have yl:=jq l7;have qI:=jq (HG.out.trans (Te aa (qA l k)));clear aK aS aa aw aI l7 c0 c1;go_wp2_with fail;have mE:Below wr.heap.size wr (wr.alloc (.cells #[.string sn,.int .i64 x.set.type,.int .i64 x.set.life,.slice Ad x.set.data.length cd,.slice As x.sigs.length cs] 42)):=(vQ _ _).alloc (bQ _) _;have p0:=World.cell?_alloc_new wr #[.string sn,.int .i64 x.set.type,.int .i64 x.set.life,.slice Ad x.set.data.length cd,.slice As x.sigs.length cs] 42 0;have p1:=World.cell?_alloc_new wr #[.string sn,.int .i64 x.set.type,.int .i64 x.set.life,.slice Ad x.set.data.length cd,.slice As x.sigs.length cs] 42 1;have gK:wr.heap.size<(wr.alloc (.cells #[.string sn,.int .i64 x.set.type,.int .i64 x.set.life,.slice Ad x.set.data.length cd,.slice As x.sigs.length cs] 42)).heap.size:=by simp
     generalize wr.alloc (.cells #[.string sn,.int .i64 x.set.type,.int .i64 x.set.life,.slice Ad x.set.data.length cd,.slice As x.sigs.length cs] 42)=wa at mE p0 p1 gK |-;have dY:=jq mE;have vn:=acZ yl mE;replace p0:wa.cell? ⟨wr.heap.size,0,none⟩=some (.string sn):=p0;replace p1:wa.cell? ⟨wr.heap.size,1,none⟩=some (.int .i64 x.set.type):=p1;replace d0:wa.cell? ⟨w.heap.size,0,none⟩=some (.string a):=by rw[mE.cell (by simpa using dK)];exact d0
     replace d1:wa.cell? ⟨w.heap.size,1,none⟩=some (.slice (some ⟨b,o,none⟩) l.length c):=by rw[mE.cell (by simpa using dK)];exact d1
     clear mE e0 e1 e2 e3 e4;refine (K5 sn an _ _ _ x.set.data _ ((HR.out.keep vn.out).more (by omega)) ((im.out.keep bV (dY.out.adZ)).more cu (by omega))).mono ?_;have ph:(⟨sn.data.toList,x.set.type,x.set.life,x.set.data⟩:Np.DSet)=x.set:=by rw[aT.out]
     rw[ph];clear ph;rintro e w2 ⟨rfl,ac⟩;have aN:wr.heap.size<w2.heap.size:=by have:=ac.size;omega
     have bdZ:w.heap.size<w2.heap.size:=by omega
     replace d0:w2.cell? ⟨w.heap.size,0,none⟩=some (.string a):=by rw[ac.cell (by simp;omega)];exact d0
     replace d1:w2.cell? ⟨w.heap.size,1,none⟩=some (.slice (some ⟨b,o,none⟩) l.length c):=by rw[ac.cell (by simp;omega)];exact d1
     replace p0:w2.cell? ⟨wr.heap.size,0,none⟩=some (.string sn):=by rw[ac.cell (by simpa using gK)];exact p0
     replace p1:w2.cell? ⟨wr.heap.size,1,none⟩=some (.int .i64 x.set.type):=by rw[ac.cell (by simpa using gK)];exact p1
     have ai:=acZ vn ac;have Tr:=acZ dY ac;clear ac
     cases dD:Np.cZ x.set with
     | false=>
      have kM:=jq dD;clear dD;go_wp2_with fail;go_ret;refine⟨ag ?_,ai.out⟩;rw[HF.out,qI.out,kM.out,Bool.and_false];rfl
     | true=>
      have kM:=jq dD;have lR:Np.aD sn.data.toList=true:=by rw[aT.out];exact F4 dD
      have iI:=jq lR;have BP:∀ j y,j<k+1->l[j]?=some y->Np.cZ y.set=true:=λj y hj hy=>by
       by_cases e:j=k
       ·subst e;rw[HX.out] at hy;cases hy;exact dD
       ·exact HV.out j y (by omega) hy
      have qD:=jq BP;clear dD lR BP;go_wp2_with fail;refine (Db sn a an ha _ iI.out yK.out).mono ?_;rintro e w3 ⟨rfl,aq⟩;have eR:wr.heap.size<w3.heap.size:=by have:=aq.size;omega
      have bdJ:w.heap.size<w3.heap.size:=by omega
      replace d1:w3.cell? ⟨w.heap.size,1,none⟩=some (.slice (some ⟨b,o,none⟩) l.length c):=by rw[aq.cell (by simp;omega)];exact d1
      replace p0:w3.cell? ⟨wr.heap.size,0,none⟩=some (.string sn):=by rw[aq.cell (by simpa using aN)];exact p0
      replace p1:w3.cell? ⟨wr.heap.size,1,none⟩=some (.int .i64 x.set.type):=by rw[aq.cell (by simpa using aN)];exact p1
      have ar:=acZ ai aq;have L0:=acZ Tr aq;clear aq d0
      cases fi:Np.bD sn.data.toList a.data.toList with
      | false=>
       have AX:=jq fi;clear fi;go_wp2_with fail;go_ret;refine⟨ag ?_,ar.out⟩;rw[HF.out,qI.out,<-aT.out,iI.out,AX.out];rfl
      | true=>
       have du:=jq (show Np.kn a.data.toList none l=((match qA l k with | none=>true | some q=>decide (Np.ir q x.set<0))&&Np.kn a.data.toList (qA l (k+1)) (l.drop (k+1))) by
        rw[qI.out,<-aT.out,iI.out,fi,kM.out,F9 HX.out];rfl)
       clear fi;by_cases bJ:k=0
       ·subst bJ;go_wp2_with fail;go_roundw
        case rel=>exact⟨1,by omega,by go_num,aV.out.trans (L0.out.mono aV.out.size),qD,jq (by rw[du.out];rfl)⟩
        case measure=>simp[intOf] <;> omega
       ·obtain⟨i,rfl⟩:∃ i,k=i+1:=⟨k - 1,by omega⟩;have sN:=aQ (show i<l.length by omega);obtain⟨b',o',c'',sq,dq,sg,pY,BT,_,kC,Qz,B4,_,f0,f1,f2,f3,_⟩:=fE ((HD.out.keep bj ar.out)) sN
        cases pY
        have CN:=F4 (HV.out i l[i] (by omega) sN);generalize hy:l[i]=y at *;clear hy;obtain⟨Aq,cq,rfl,YC,PX⟩:=ak B4;have zp:((((i+1:Nat):Int)) == 0)=false:=by simp;omega
        have Vc:Hid (Np.aD sq.data.toList=true):=jq (by rw[kC];exact CN);have TY:Hid (Np.fP (sq.data.toList,y.set.type) (sn.data.toList,x.set.type)=Np.ir y.set x.set):=jq (by rw[kC,aT.out,Np.IR];rfl);have pN:=jq (F9 sN);clear B4 kC sN CN;have a3K:b<w3.heap.size:=by omega
        have ah:IntKind.i64.wrap (((i+1:Nat):Int) - 1)=(i:Int):=by rw[IntWalk.i64_in _ (by omega)];omega
        have la:(0:Int)<=(i:Int):=by omega
        have ru:(i:Int)<(l.length:Int):=by omega
        have m9:Hid (∀ o,Below w3.heap.size w3 (w3.alloc o)):=jq (λo=>(vQ _ _).alloc (bQ _) _);go_wp2_with fail;refine (Tf sq sn Qz an _ _ Vc.out iI.out _).mono ?_;rw[TY.out];rintro e w4 ⟨rfl,aC⟩;have aU:=jq ((m9.out _).trans (aC.mono (by simp)));clear aC;by_cases gG:Np.ir y.set x.set<0
        ·have lu:=jq (uQ gG);have JJ:¬ (0<=Np.ir y.set x.set):=by omega
         clear gG;go_wp2_with fail;go_roundw
         case rel=>
          refine⟨i+1+1,by omega,by go_num,aV.out.trans ((L0.out.trans (aU.out.adZ)).mono aV.out.size),qD,jq ?_⟩;rw[du.out,pN.out];simp only[lu.out,Bool.true_and]
         case measure=>simp[intOf] <;> omega
        ·have lu:=jq (tQ gG);have JJ:0<=Np.ir y.set x.set:=by omega
         clear gG;go_wp2_with fail;go_ret;refine⟨ag ?_,ar.out.trans (aU.out.adZ)⟩;rw[HF.out,du.out,pN.out];simp only[lu.out,Bool.false_and]
    ·go_wp2_with fail;go_ret;refine⟨ag ?_,av.out.trans (aI.adZ)⟩;rw[HF.out,HG.out,List.drop_eq_nil_of_le (by omega)];rfl
theorem Xm(s1 s2:ByteArray)(h1:s1.size<=140737488355328)(h2:s2.size<=140737488355328)(t1 l1 t2:Int)(A1 A2:Option Addr)(m1 c1 m2 c2:Nat)(n1:Np.aD s1.data.toList=true)(n2:Np.aD s2.data.toList=true)(w:World) :
 Calls prog 328 #[.agg #[.string s1,.int .i64 t1,.int .i64 l1,.slice A1 m1 c1,.slice A2 m2 c2],.agg #[.string s2,.int .i64 t2]] w
  λe w'=>e = .returned (.int .i64 (Np.fP (s1.data.toList,t1) (s2.data.toList,t2)))/\Below w.heap.size w w':=by
 have HW:Hid (∀ o o',Below w.heap.size w ((w.alloc o).alloc o')):=jq (λo o'=>((vQ _ w).alloc (bQ _) _).alloc (by simp) _);have N1:=jq n1;have N2:=jq n2;clear n1 n2;go_enter func328,ntmps328;go_wp2_with fail;refine (Tf s1 s2 h1 h2 _ _ N1.out N2.out _).mono ?_;rintro e w1 ⟨rfl,hb⟩;have HB:=jq ((HW.out _ _).trans (hb.mono (by simp;omega)));clear hb;go_wp2_with fail;go_ret;exact⟨rfl,HB.out⟩
def Np.CZ(l:List Np.Signed)(key:List UInt8×Int):Nat:=l.countP λx=>decide (Np.fP (Np.fB x.set) key<0)
def Np.wb(l:List Np.Signed):Prop:=l.Pairwise λa b=>Np.fP (Np.fB a.set) (Np.fB b.set)<0
theorem arK{l:List Np.Signed}{key:List UInt8×Int}{i:Nat}(hi:i<=l.length)(h1:∀ j x,j<i->l[j]?=some x->Np.fP (Np.fB x.set) key<0)(h2:∀ j x,i<=j->l[j]?=some x->¬ Np.fP (Np.fB x.set) key<0):Np.CZ l key=i:=by
 unfold Np.CZ;have e:=List.take_append_drop i l;rw[<-e,List.countP_append,List.countP_eq_length.2,List.countP_eq_zero.2]
 ·rw[List.length_take];omega
 ·intro x hx;obtain⟨j,hj,rfl⟩:=nQ.1 hx;rw[List.getElem_drop];simpa using h2 (i+j) _ (by omega) (aQ _)
 ·intro x hx;obtain⟨j,hj,rfl⟩:=nQ.1 hx;rw[List.getElem_take];rw[List.length_take] at hj;simpa using h1 j _ (by omega) (aQ _)
theorem XA{l:List Np.Signed}(hs:Np.wb l){key:List UInt8×Int}{i:Nat}(h1:∀ j x,j<i->l[j]?=some x->Np.fP (Np.fB x.set) key<0)(h2:∀ j x,i<=j->l[j]?=some x->¬ Np.fP (Np.fB x.set) key<0):(∃ x∈l,Np.fB x.set=key)↔∃ x,l[i]?=some x/\Np.fP (Np.fB x.set) key=0:=by
 constructor
 ·rintro⟨x,hx,rfl⟩;obtain⟨j,hj,rfl⟩:=nQ.1 hx;have ZQ:=Np.zO.self (Np.fB l[j].set);rcases Nat.lt_trichotomy j i with h | h | h
  ·have:=h1 j _ h (aQ hj)
   omega
  ·subst h;exact⟨_,aQ hj,ZQ⟩
  ·exact absurd (List.pairwise_iff_getElem.1 hs i j (by omega) hj h) (h2 i _ (bQ _) (aQ (by omega)))
 ·rintro⟨x,hx,h⟩;exact⟨x,gQ hx,Np.zO.zero _ _ h⟩
theorem Lk{l:List Np.Signed}(hs:Np.wb l){i j:Nat}{x y:Np.Signed}(hx:l[i]?=some x)(hy:l[j]?=some y)(h:i<j):Np.fP (Np.fB x.set) (Np.fB y.set)<0:=by
 obtain⟨hi,rfl⟩:=cQ.1 hx;obtain⟨hj,rfl⟩:=cQ.1 hy;exact List.pairwise_iff_getElem.1 hs i j hi hj h
theorem aMQ{z:Np.Zone}(h:Np.InOrder z):Np.wb z.sets:=by
 have:=h.order
 rw[List.pairwise_map] at this;exact this.imp λh=>by rw[<-Np.IR];exact h
def Np.kp(l:List Np.Signed)(n:List UInt8)(t:Int):Prop:=∃ x∈l,x.set.name=n/\x.set.type=t
theorem Yg{l:List Np.Signed}{n:List UInt8}{t:Int} : Np.kp l n t↔∃ x∈l,Np.fB x.set=(n,t):=by
 unfold Np.kp Np.fB;simp only[Prod.mk.injEq]
theorem VZ(v:Value)(l:List Np.Signed)(bW:l.length<=20000)(hv:∀ x∈l,Np.aD x.set.name=true)(hs:Np.wb l)(q:ByteArray)(hq:q.size<=140737488355328)(qt:Int)(nq:Np.aD q.data.toList=true)(w:World)(hd:SlR bO 5 w w.heap.size v l) :
 Calls prog 327 #[v,.agg #[.string q,.int .i64 qt],.func (.func 328) #[] #[]] w
  λe w'=>e = .returned (.tuple #[.int .i64 (Np.CZ l (q.data.toList,qt)),.bool (Np.yes (Np.kp l q.data.toList qt))])/\Below w.heap.size w w':=by
 obtain⟨pl,uC⟩:=acJ (Np.CZ l (q.data.toList,qt));obtain⟨r,hr⟩:=acJ (Np.yes (Np.kp l q.data.toList qt));rw[uC,hr];have kh:=jq uC;have HR:=jq hr;have HV:=jq hv;have HS:=jq hs;have HD:=jq hd;have NQ:=jq nq;have eg:∀ args w,(callFunc 328 args).run prog w = .ok (.enter 328 args) w:=enters_of func328 (by kernel_rfl) rfl;obtain⟨A,c,rfl,bq,bM⟩:=ak hd;clear uC hr hv hs hd nq;have HW:Hid (∀ o,Below w.heap.size w (w.alloc o)):=jq (λo=>(vQ _ w).alloc (bQ _) _);go_enter func327,ntmps327;go_wp2_with fail;have c0:=World.cell?_alloc_new w #[.string q,.int .i64 qt] 31 0;have c1:=World.cell?_alloc_new w #[.string q,.int .i64 qt] 31 1;have eO:w.heap.size<(w.alloc (.cells #[.string q,.int .i64 qt] 31)).heap.size:=by simp
 have av:=jq (HW.out (.cells #[.string q,.int .i64 qt] 31));generalize w.alloc (.cells #[.string q,.int .i64 qt] 31)=w1 at c0 c1 eO av |-;replace c0:w1.cell? ⟨w.heap.size,0,none⟩=some (.string q):=c0;replace c1:w1.cell? ⟨w.heap.size,1,none⟩=some (.int .i64 qt):=c1;go_loopg [9,10] l.length (λg s7 s8 wr=>∃ lo hi:Nat,s7 = .int .i64 lo/\s8 = .int .i64 hi/\lo<=hi/\hi<=l.length/\hi - lo<=g/\Hid (Below w1.heap.size w1 wr)/\Hid ((∀ j x,j<lo->l[j]?=some x->Np.fP (Np.fB x.set) (q.data.toList,qt)<0)/\(∀ j x,hi<=j->l[j]?=some x->¬ Np.fP (Np.fB x.set) (q.data.toList,qt)<0)))
 case atStart=>exact⟨0,l.length,rfl,rfl,jQ _,bQ _,by omega,jq (vQ _ _),jq ⟨λj x hj=>by omega,λj x hj hx=>by have:=(cQ.1 hx).1;omega⟩⟩
 case round=>
  obtain⟨lo,hi,rfl,rfl,hlh,hin,hg,HB,HI⟩:=hrel;have aaQ:=HB.out.size;have d0:wr.cell? ⟨w.heap.size,0,none⟩=some (.string q):=by rw[HB.out.cell (by simpa using eO)];exact c0
  have d1:wr.cell? ⟨w.heap.size,1,none⟩=some (.int .i64 qt):=by rw[HB.out.cell (by simpa using eO)];exact c1
  have dK:w.heap.size<wr.heap.size:=by omega
  have aG:=acZ av HB.out;have k9:∀ (g:bk wr) (p:Addr),p.block<wr.heap.size->g.w.cell? p=wr.cell? p:=λg p h=>g.cell p h;have cx:=HD.out.keep bj aG.out;have jC:Hid (∀ (k:Nat) (x:Np.Signed),l[k]?=some x->∃ (b o c':Nat) (s:ByteArray) (Ad:Option Addr) (md cd:Nat) (As:Option Addr) (ms cs:Nat),A=some ⟨b,o,none⟩/\b<wr.heap.size/\wr.cell? ⟨b,o+k * 5,none⟩=some (.string s)/\wr.cell? ⟨b,o+k * 5+1,none⟩=some (.int .i64 x.set.type)/\wr.cell? ⟨b,o+k * 5+2,none⟩=some (.int .i64 x.set.life)/\wr.cell? ⟨b,o+k * 5+3,none⟩=some (.slice Ad md cd)/\wr.cell? ⟨b,o+k * 5+4,none⟩=some (.slice As ms cs)/\
   ∀ g:bk wr,Calls prog 328 #[.agg #[.string s,.int .i64 x.set.type,.int .i64 x.set.life,.slice Ad md cd,.slice As ms cs],.agg #[.string q,.int .i64 qt]] g.w λe w'=>e = .returned (.int .i64 (Np.fP (Np.fB x.set) (q.data.toList,qt)))/\Below g.w.heap.size g.w w'):=jq (λk x hx=>by
   obtain⟨b,o,c',s,dv,sv,hA,bA,_,aw,an,aK,aS,e0,e1,e2,e3,e4⟩:=fE cx hx
   cases hA
   obtain⟨Ad,cd,rfl,_,_⟩:=ak aK;obtain⟨As,cs,rfl,_,_⟩:=ak aS;refine⟨b,o,c,s,Ad,_,cd,As,_,cs,rfl,by omega,e0,e1,e2,e3,e4,λg=>?_⟩
   have:=Xm s q an hq x.set.type x.set.life qt Ad As x.set.data.length cd x.sigs.length cs (by rw[aw];exact HV.out x (gQ hx)) NQ.out g.w
   rw[aw] at this;exact this)
  clear cx c0 c1;by_cases ab:lo<hi
  ·obtain⟨k,hk⟩:=acJ ((lo+hi) / 2);have mJ:k<l.length:=by omega
   have aa:=aQ mJ;obtain⟨b,o,c',s,Ad,md,cd,As,ms,cs,rfl,aI,e0,e1,e2,e3,e4,bL⟩:=jC.out k _ aa;generalize hx:l[k]=x at *;have HX:=jq aa;have nh:=jq bL;have hkI:((lo:Int)+(hi:Int)) / 2=(k:Int):=by omega
   have HK:=jq hk;have bJ:(0:Int)<=(k:Int):=by omega
   have bI:(k:Int)<(l.length:Int):=by omega
   clear aa bL hx hk;by_cases hc:Np.fP (Np.fB x.set) (q.data.toList,qt)<0
   ·have HN:Hid (∀ j y,j<k+1->l[j]?=some y->Np.fP (Np.fB y.set) (q.data.toList,qt)<0):=jq (λj y hj hy=>by
     by_cases e:j=k
     ·subst e;rw[HX.out] at hy;cases hy;exact hc
     ·exact Np.zO.trans _ _ _ (Lk HS.out hy HX.out (by omega)) hc)
    have fI:decide (Np.fP (Np.fB x.set) (q.data.toList,qt)<0)=true:=by simpa using hc
    clear hc;go_wp2_with fail;refine a0Z ?_
    repeat (go_big_quiet_step ((go_at_call 328;exact Calls.grow_of (nh.out _))))
    refine wpQuiet_nil ?_;rintro _ ⟨g,rfl⟩;go_wp2_with fail;go_roundg (hi - (k+1))
    case measure=>have:=HK.out;omega
    case rel=>exact⟨k+1,hi,by go_num,rfl,by have:=HK.out;omega,hin,bQ _,acZ HB g.below,jq ⟨HN.out,HI.out.2⟩⟩
   ·have HN:Hid (∀ j y,k<=j->l[j]?=some y->¬ Np.fP (Np.fB y.set) (q.data.toList,qt)<0):=jq (λj y hj hy ab=>by
     by_cases e:j=k
     ·subst e;rw[HX.out] at hy;cases hy;exact hc ab
     ·exact hc (Np.zO.trans _ _ _ (Lk HS.out HX.out hy (by omega)) ab))
    have fI:decide (Np.fP (Np.fB x.set) (q.data.toList,qt)<0)=false:=by simpa using hc
    clear hc;go_wp2_with fail;refine a0Z ?_
    repeat (go_big_quiet_step ((go_at_call 328;exact Calls.grow_of (nh.out _))))
    refine wpQuiet_nil ?_;rintro _ ⟨g,rfl⟩;go_wp2_with fail;go_roundg (k - lo)
    case measure=>have:=HK.out;omega
    case rel=>exact⟨lo,k,rfl,by go_num,by have:=HK.out;omega,by omega,bQ _,acZ HB g.below,jq ⟨HI.out.1,HN.out⟩⟩
  ·obtain rfl:hi=lo:=by omega
   have HE:Hid (pl=hi):=jq (by rw[<-kh.out];exact arK hin HI.out.1 HI.out.2);have HF:Hid (r=Np.yes (∃ x,l[hi]?=some x/\Np.fP (Np.fB x.set) (q.data.toList,qt)=0)):=jq (by rw[<-HR.out];exact Np.ve (Yg.trans (XA HS.out HI.out.1 HI.out.2)));by_cases hn:hi<l.length
   ·have aa:=aQ hn;obtain⟨b,o,c',s,Ad,md,cd,As,ms,cs,rfl,aI,e0,e1,e2,e3,e4,bL⟩:=jC.out hi _ aa;generalize hx:l[hi]=x at *;have HX:=jq aa;have nh:=jq bL;have bJ:(0:Int)<=(hi:Int):=by omega
    have bI:(hi:Int)<(l.length:Int):=by omega
    clear aa bL hx;by_cases hc:Np.fP (Np.fB x.set) (q.data.toList,qt)=0
    ·have HT:Hid (r=true):=jq (by rw[HF.out];exact Np.bh ⟨x,HX.out,hc⟩);have fI:(Np.fP (Np.fB x.set) (q.data.toList,qt) == 0)=true:=by simpa using hc
     clear hc;go_wp2_with fail;refine a0Z ?_
     repeat (go_big_quiet_step ((go_at_call 328;exact Calls.grow_of (nh.out _))))
     refine wpQuiet_nil ?_;rintro _ ⟨g,rfl⟩;go_wp2_with fail;go_ret2;exact⟨by rw[HE.out,HT.out];rfl,aG.out.trans (g.below.adZ)⟩
    ·have HT:Hid (r=false):=jq (by rw[HF.out];exact Np.aF λ⟨y,hy,h0⟩=>by rw[HX.out] at hy;cases hy;exact hc h0);have fI:(Np.fP (Np.fB x.set) (q.data.toList,qt) == 0)=false:=by simpa using hc
     clear hc;go_wp2_with fail;refine a0Z ?_
     repeat (go_big_quiet_step ((go_at_call 328;exact Calls.grow_of (nh.out _))))
     refine wpQuiet_nil ?_;rintro _ ⟨g,rfl⟩;go_wp2_with fail;go_ret2;exact⟨by rw[HE.out,HT.out];rfl,aG.out.trans (g.below.adZ)⟩
   ·have HT:Hid (r=false):=jq (by rw[HF.out];exact Np.aF λ⟨y,hy,h0⟩=>by have:=(cQ.1 hy).1;omega);have cr:decide ((hi:Int)<(l.length:Int))=false:=by simp;omega
    have eu:decide (hi<l.length)=false:=by simp;omega
    go_wp2_with fail;refine a0Z ?_
    repeat (go_big_quiet_step (fail))
    refine wpQuiet_nil ?_;rintro _ ⟨g,rfl⟩;go_wp2_with fail;go_ret2;exact⟨by rw[HE.out,HT.out];rfl,aG.out.trans (g.below.adZ)⟩
theorem OJ(a:ByteArray)(v:Value)(l:List Np.Signed)(bW:l.length<=20000)(hv:∀ x∈l,Np.aD x.set.name=true)(hs:Np.wb l)(q:ByteArray)(hq:q.size<=140737488355328)(qt:Int)(nq:Np.aD q.data.toList=true)(w:World)(hd:SlR bO 5 w w.heap.size v l) :
 Calls prog 262 #[.agg #[.string a,v],.agg #[.string q,.int .i64 qt]] w
  λe w'=>e = .returned (.tuple #[.int .i64 (Np.CZ l (q.data.toList,qt)),.bool (Np.yes (Np.kp l q.data.toList qt))])/\Below w.heap.size w w':=by
 have HV:=jq hv;have HS:=jq hs;have HD:=jq hd;have NQ:=jq nq;obtain⟨A,c,rfl,bq,bM⟩:=ak hd;have HW:Hid (∀ o o',Below w.heap.size w ((w.alloc o).alloc o')):=jq (λo o'=>((vQ _ w).alloc (bQ _) _).alloc (by simp) _);clear hv hs hd nq;go_enter func262,ntmps262;go_wp2_with fail;refine (VZ _ l bW HV.out HS.out q hq qt NQ.out _ (HD.out.later bj cC (HW.out _ _))).mono ?_;rintro e w1 ⟨rfl,hb⟩;have HB:=jq ((HW.out _ _).trans (hb.mono (by simp;omega)));clear hb;go_wp2_with fail;go_ret2;exact⟨rfl,HB.out⟩
def RTx(_:World)(_:Nat)(e:List Value)(x:List UInt8):Prop:=∃ s:ByteArray,s.data.toList=x/\s.size<=140737488355328/\e = [.string s]
theorem mY:ep RTx:=λ_ _ _ _ _ h _=>h
theorem Le:eL RTx:=λ_ _ _ _ _ h _=>h
def gV(a:List UInt8)(l:List Np.Signed):List (List UInt8×Value):=(l.filter λx=>decide (x.set.type=2)&&!(x.set.name == a)).map λx=>(x.set.name,.bool true)
theorem WM(a:List UInt8)(l:List Np.Signed)(x:Np.Signed):gV a (l ++ [x])=if x.set.type=2/\x.set.name≠a then gV a l ++ [(x.set.name,.bool true)] else gV a l:=by
 unfold gV;rw[List.filter_append];by_cases h1:x.set.type=2 <;> by_cases h2:x.set.name=a <;> simp[h1,h2]
theorem WL(a:List UInt8)(l:List Np.Signed)(x:Np.Signed):gV a (x::l)=if x.set.type=2/\x.set.name≠a then (x.set.name,.bool true)::gV a l else gV a l:=by
 unfold gV;by_cases h1:x.set.type=2 <;> by_cases h2:x.set.name=a <;> simp[h1,h2]
theorem D6(a:List UInt8)(n:List UInt8):∀ l:List Np.Signed,((gV a l).lookup n).getD (.bool false) = .bool (Np.dh ⟨a,l⟩ n)/\((∀ x∈l,x.set.type=2->x.set.name≠n)->(gV a l).lookup n=none)
 | []=>⟨rfl,λ_=>rfl⟩
 | x::l=>by
   obtain⟨i1,i2⟩:=D6 a n l;have e:Np.dh ⟨a,x::l⟩ n=((decide (x.set.type=2)&&!(x.set.name == a)&&x.set.name == n)||Np.dh ⟨a,l⟩ n):=rfl;rw[WL];split
   ·rename_i h;by_cases hn:x.set.name=n
    ·rw[hn,List.lookup_cons_self];refine⟨?_,λhh=>absurd hn (hh x (by simp) h.1)⟩;rw[e];have h2:=h.2;rw[hn] at h2 |-;simp[h.1,h2]
    ·have hb:(n == x.set.name)=false:=by simpa using λe=>hn e.symm
     rw[List.lookup_cons,hb];refine⟨?_,λhh=>i2 λy hy=>hh y (mQ _ hy)⟩;have ac:(x.set.name == n)=false:=by simpa using hn
     rw[e,ac,Bool.and_false,Bool.false_or];exact i1
   ·rename_i h;refine⟨?_,λhh=>i2 λy hy=>hh y (mQ _ hy)⟩;have hf:(decide (x.set.type=2)&&!(x.set.name == a))=false:=by
     rw[Bool.and_eq_false_iff];by_cases h1:x.set.type=2
     ·right
      have:x.set.name=a:=Decidable.not_not.1 λh2=>h ⟨h1,h2⟩
      simp[this]
     ·left;simpa using h1
    rw[e,hf,Bool.false_and,Bool.false_or];exact i1
theorem KU(n j:Nat)(hj:j<n):(madeCells #[Value.string ⟨#[]⟩] n)[j]?=some (.string ⟨#[]⟩):=by
 unfold madeCells;simp[hj,Nat.mod_one]
theorem Tryz.infoStrZ:(prog.info? 9).map (λi=>(i.zero,i.size,i.bytes))=some (some (.string ⟨#[]⟩),1,16):=by kernel_rfl
theorem KV(n:Nat)(hn:n<=20000)(w:World):(Instr.makeSlice 116 (.int .i64 n) (.int .i64 n)).run prog w = .ok (.slice (some ⟨w.heap.size,0,none⟩) n n) (w.alloc (.cells (madeCells #[Value.string ⟨#[]⟩] n) 9)):=by
 obtain⟨i,hi,hp⟩:=Option.map_eq_some_iff.1 Tryz.infoStrZ;simp only[Prod.mk.injEq] at hp;obtain⟨hz,hs,hb⟩:=hp
 have:=run_make (P:=prog) w 116 9 i (.string ⟨#[]⟩) underlying116 hi hz .i64 .i64 n n (by omega) (Int.le_refl _) (by rw[hb];omega) (by omega)
 rw[hs] at this;simpa [Value.cells] using this
def gb(w:World)(B:Nat)(xs:List (List UInt8)):Prop:=∀ j x,xs[j]?=some x->∃ s:ByteArray,s.data.toList=x/\s.size<=140737488355328/\w.cell? ⟨B,j,none⟩=some (.string s)/\w.frozen? ⟨B,j,none⟩=false
theorem gb.keep{w w':World}{B n:Nat}{xs:List (List UInt8)}(h:gb w B xs)(hb:Below n w w')(hB:B<n):gb w' B xs:=λj x hx=>by
 obtain⟨s,h1,h2,h3,h4⟩:=h j x hx;exact⟨s,h1,h2,(hb.cell (p:=⟨B,j,none⟩) hB).trans h3,(hb.frozen (p:=⟨B,j,none⟩) hB).trans h4⟩
theorem gb.store{w:World}{B:Nat}{xs:List (List UInt8)}(h:gb w B xs){k:Nat}(hk:k<xs.length)(s:ByteArray)(hs:s.size<=140737488355328):gb (w.setCell ⟨B,k,none⟩ (.string s)) B (xs.set k s.data.toList):=λj x hx=>by
 rw[List.getElem?_set] at hx;by_cases Cj:k=j
 ·subst Cj;rw[Qb rfl,Qb hk] at hx
  cases hx
  obtain⟨s0,_,_,h3,h4⟩:=h k _ (aQ hk);exact⟨s,rfl,hs,by simp[World.cell?_setCell_same,h3],(World.frozen?_setCell _ _ _ _).trans h4⟩
 ·rw[Qc Cj] at hx;obtain⟨s0,h1,h2,h3,h4⟩:=h j x hx;exact⟨s0,h1,h2,by rw[xQ _ _ _ _ (by simp <;> omega)];exact h3,(World.frozen?_setCell _ _ _ _).trans h4⟩
theorem gb.other{w:World}{B:Nat}{xs:List (List UInt8)}(h:gb w B xs){p:Addr}(hp:p.block≠B)(u:Value):gb (w.setCell p u) B xs:=λj x hx=>by
 obtain⟨s,h1,h2,h3,h4⟩:=h j x hx;exact⟨s,h1,h2,(xQ _ _ _ _ (λe=>hp (by rw[e]))).trans h3,(World.frozen?_setCell _ _ _ _).trans h4⟩
theorem gb.slr{w:World}{B:Nat}{xs:List (List UInt8)}(h:gb w B xs)(hB:B<w.heap.size)(hl:xs.length<=140737488355328):SlR RTx 1 w w.heap.size (.slice (some ⟨B,0,none⟩) xs.length xs.length) xs:=
 ⟨_,_,rfl,bQ _,hl,λj x hx=>by
  obtain⟨s,h1,h2,h3,_⟩:=h j x hx;refine⟨B,0,[.string s],rfl,hB,rfl,λi v hv=>?_,s,h1,h2,rfl⟩
  match i,hv with
  | 0,hv=>cases hv;simpa using h3⟩
theorem R9{bs:List (List UInt8)}{n k:Nat}{b:List UInt8}(hn:bs.length=n)(hb:bs[k]?=some b):(bs.take k++List.replicate (n - k) []).set k b=bs.take (k+1)++List.replicate (n - (k+1)) []:=by
 obtain⟨hk,rfl⟩:=cQ.1 hb;have e:n - k=(n - (k+1))+1:=by omega
 rw[e,List.replicate_succ,List.set_append_right _ _ (by rw[List.length_take];omega),List.length_take,show k - min k bs.length=0 by omega,List.set_cons_zero,fQ hk,List.append_assoc];rfl
structure LayK(w:World)(M Bl Bs:Nat)(a:ByteArray)(v sl:Value)(kv:List (List UInt8×Value))(wr:World)(bs:List (List UInt8)):Prop where
 below:Below w.heap.size w wr
 b0:wr.cell? ⟨w.heap.size,0,none⟩=some (.string a)
 b1:wr.cell? ⟨w.heap.size,1,none⟩=some v
 r0:wr.cell? ⟨w.heap.size+1,0,none⟩=some (.string ⟨#[]⟩)
 r1:wr.cell? ⟨w.heap.size+1,1,none⟩=some (.slice none 0 0)
 r2:wr.cell? ⟨w.heap.size+1,2,none⟩=some (.slice none 0 0)
 l0:wr.cell? ⟨Bl,0,none⟩=some (.string a)
 l1:wr.cell? ⟨Bl,1,none⟩=some v
 l2:wr.cell? ⟨Bl,2,none⟩=some sl
 map:dG M kv wr
 row:gb wr Bs bs
 blt:Bl<wr.heap.size
 slt:Bs<wr.heap.size
 rf:∀ j,wr.frozen? ⟨w.heap.size+1,j,none⟩=false
structure LayB(n M Bl Bs:Nat):Prop where
 map:n+2=M
 lay:M<Bl
 row:M<Bs
 ne:Bl≠Bs
theorem LayK.keep{w:World}{M Bl Bs:Nat}{a:ByteArray}{v sl:Value}{kv:List (List UInt8×Value)}{wr wx:World}{bs:List (List UInt8)}(h:LayK w M Bl Bs a v sl kv wr bs)(hB:LayB w.heap.size M Bl Bs)(hb:Below wr.heap.size wr wx):LayK w M Bl Bs a v sl kv wx bs:=by
 have h1:=hB.map;have h2:=hB.lay;have h3:=h.blt;have h4:=h.slt;have h5:=h.map.lt;have an:=hb.size;exact⟨h.below.trans (hb.mono h.below.size),(hb.cell (by simp <;> omega)).trans h.b0,(hb.cell (by simp <;> omega)).trans h.b1,(hb.cell (by simp <;> omega)).trans h.r0,(hb.cell (by simp <;> omega)).trans h.r1,(hb.cell (by simp <;> omega)).trans h.r2,
  (hb.cell (by simp <;> omega)).trans h.l0,(hb.cell (by simp <;> omega)).trans h.l1,(hb.cell (by simp <;> omega)).trans h.l2,h.map.keep hb h5,h.row.keep hb h4,by omega,by omega,λj=>(hb.frozen (by simp <;> omega)).trans (h.rf j)⟩
theorem dG.setCell{r:Nat}{kvs:List (List UInt8×Value)}{w:World}(h:dG r kvs w){p:Addr}(hp:p.block≠r)(u:Value):dG r kvs (w.setCell p u):=by
 obtain⟨es,c,h1,h2⟩:=h;exact⟨es,c,(wQ _ _ _ _ (λe=>hp e.symm)).trans h1,h2⟩
theorem LayK.store{w:World}{M Bl Bs:Nat}{a:ByteArray}{v sl:Value}{kv:List (List UInt8×Value)}{wr:World}{bs:List (List UInt8)}(h:LayK w M Bl Bs a v sl kv wr bs)(hB:LayB w.heap.size M Bl Bs){k:Nat}(hk:k<bs.length)(s:ByteArray)(hs:s.size<=140737488355328):LayK w M Bl Bs a v sl kv (wr.setCell ⟨Bs,k,none⟩ (.string s)) (bs.set k s.data.toList):=by
 have h1:=hB.map;have h2:=hB.lay;have h3:=hB.row;have h4:=hB.ne;exact⟨h.below.setCell (by simp <;> omega) _,(xQ _ _ _ _ (by simp <;> omega)).trans h.b0,(xQ _ _ _ _ (by simp <;> omega)).trans h.b1,(xQ _ _ _ _ (by simp <;> omega)).trans h.r0,(xQ _ _ _ _ (by simp <;> omega)).trans h.r1,(xQ _ _ _ _ (by simp <;> omega)).trans h.r2,
  (xQ _ _ _ _ (by simp <;> omega)).trans h.l0,(xQ _ _ _ _ (by simp <;> omega)).trans h.l1,(xQ _ _ _ _ (by simp <;> omega)).trans h.l2,h.map.setCell (by simp <;> omega) _,h.row.store hk s hs,by simpa using h.blt,by simpa using h.slt,λj=>(World.frozen?_setCell _ _ _ _).trans (h.rf j)⟩
def Nu(w:World)(M Bl Bs:Nat)(a:ByteArray)(v sl:Value)(kv:List (List UInt8×Value))(B:List (List UInt8))(C:List UInt8->Bool)(l:List Np.Signed)(vc i:Value)(wr:World):Prop:=
 ∃ (k:Nat) (sc:ByteArray),k<=l.length/\i = .int .i64 k/\vc = .string sc/\sc.size<=140737488355328/\Hid (LayK w M Bl Bs a v sl kv wr (B.take k++List.replicate (l.length - k) []))/\Hid (sc.data.toList = []\/Np.aD sc.data.toList=true)/\Hid (B.drop k=Np.oX C sc.data.toList (l.drop k))
def LayA(M:Nat)(w1:World)(a:List UInt8)(l:List Np.Signed)(i:Value)(wr:World):Prop:=
 ∃ k:Nat,k<=l.length/\i = .int .i64 k/\Hid (Below M w1 wr)/\Hid (dG M (gV a (l.take k)) wr)
theorem akQ(a:ByteArray)(v:Value)(l:List Np.Signed)(bW:l.length<=20000)(hv:∀ x∈l,Np.aD x.set.name=true)(hs:Np.wb l)(w:World)(hd:SlR bO 5 w w.heap.size v l) :
 Calls prog 200 #[.agg #[.string a,v]] w λe w'=>(∃ bv,e = .returned (.agg #[.string a,v,bv])/\SlR RTx 1 w' w'.heap.size bv (Np.eM ⟨a.data.toList,l⟩))/\Below w.heap.size w w':=by
 obtain⟨B,Ek⟩:=acJ (Np.eM ⟨a.data.toList,l⟩);rw[Ek];have fX:=jq Ek;have fY:Hid (B.length=l.length):=jq (by rw[<-Ek];exact Np.tW _);clear Ek;have HV:=jq hv;have HS:=jq hs;have HD:=jq hd;obtain⟨A,c,rfl,bq,bM⟩:=ak hd;clear hv hs hd;have mf:∀ (w:World),(Instr.makeMap 111 none).run prog w = .ok (.map (some w.heap.size)) (w.alloc (.map #[] 0)):=λw=>by
  simp[Instr.makeMap,Result.andThen]
 have HW:Hid (∀ o o' o'',Below w.heap.size w (((w.alloc o).alloc o').alloc o'')):=jq (λo o' o''=>(((vQ _ w).alloc (bQ _) _).alloc (by simp) _).alloc (by simp;omega) _);go_enter func200,ntmps200;go_wp2_with fail;obtain⟨w1,ah⟩:=acJ (((w.alloc (.cells #[.string a,.slice A l.length c] 263)).alloc (.cells #[.string ⟨#[]⟩,.slice none 0 0,.slice none 0 0] 265)).alloc (.map #[] 0));have c0:w1.cell? ⟨w.heap.size,0,none⟩=some (.string a):=by rw[<-ah];simp[go_sem]
 have c1:w1.cell? ⟨w.heap.size,1,none⟩=some (.slice A l.length c):=by rw[<-ah];simp[go_sem]
 have e0:w1.cell? ⟨w.heap.size+1,0,none⟩=some (.string ⟨#[]⟩):=by rw[<-ah];simp[go_sem]
 have e1:w1.cell? ⟨w.heap.size+1,1,none⟩=some (.slice none 0 0):=by rw[<-ah];simp[go_sem]
 have e2:w1.cell? ⟨w.heap.size+1,2,none⟩=some (.slice none 0 0):=by rw[<-ah];simp[go_sem]
 have eO:w1.heap.size=w.heap.size+3:=by rw[<-ah];simp
 have Dy:Hid (dG (w.heap.size+1+1) [] w1):=jq (by
  have:=dG.made ((w.alloc (.cells #[.string a,.slice A l.length c] 263)).alloc (.cells #[.string ⟨#[]⟩,.slice none 0 0,.slice none 0 0] 265))
  rw[<-ah];simpa using this)
 have av:Hid (Below w.heap.size w w1):=jq (by rw[<-ah];exact HW.out _ _ _);have T3:Hid (∀ j,w1.frozen? ⟨w.heap.size+1,j,none⟩=false):=jq (λj=>by rw[<-ah];simp[go_sem]);have HC:=jq (And.intro c0 (And.intro c1 (And.intro e0 (And.intro e1 e2))));rw[ah];clear ah c0 c1 e0 e1 e2;obtain⟨M,hM⟩:=acJ (w.heap.size+1+1);rw[hM] at Dy |-;go_loopw [18] (λi wr=>LayA M w1 a.data.toList l i wr) (λi _=>l.length - (intOf i).toNat)
 case atStart=>exact⟨0,jQ _,rfl,jq (vQ _ _),Dy⟩
 case round=>
  obtain⟨k,hk,rfl,HB,HM⟩:=hrel;have an:=HB.out.size;obtain⟨c0,c1,e0,e1,e2⟩:=HC.out;have d0:wr.cell? ⟨w.heap.size,0,none⟩=some (.string a):=by rw[HB.out.cell (by simp;omega)];exact c0
  have d1:wr.cell? ⟨w.heap.size,1,none⟩=some (.slice A l.length c):=by rw[HB.out.cell (by simp;omega)];exact c1
  have rn:=HM.out.lt;have dK:w.heap.size<wr.heap.size:=by omega
  have aG:Hid (Below w.heap.size w wr):=acZ av HB.out;have T6:Hid (∀ j,wr.frozen? ⟨w.heap.size+1,j,none⟩=false):=jq (λj=>(HB.out.frozen (p:=⟨w.heap.size+1,j,none⟩) (by dsimp only;omega)).trans (T3.out j));have tF:Hid (wr.cell? ⟨w.heap.size+1,0,none⟩=some (.string ⟨#[]⟩)/\wr.cell? ⟨w.heap.size+1,1,none⟩=some (.slice none 0 0)/\wr.cell? ⟨w.heap.size+1,2,none⟩=some (.slice none 0 0)):=jq ⟨(HB.out.cell (by dsimp only;omega)).trans e0,(HB.out.cell (by dsimp only;omega)).trans e1,(HB.out.cell (by dsimp only;omega)).trans e2⟩;clear c0 c1 e0 e1 e2;by_cases ab:k<l.length
  ·have aa:=aQ ab;obtain⟨b,o,c',sn,dv,sv,hA,bA,_,aw,cB,aK,aS,f0,f1,f2,f3,f4⟩:=fE (HD.out.keep bj aG.out) aa
   cases hA
   have ht:l.take (k+1)=l.take k ++ [l[k]]:=fQ ab;have Uw:Hid (l[k].set.type=2->(gV a.data.toList (l.take k)).lookup sn.data.toList=none):=jq (λh2=>by
    refine (D6 _ _ _).2 λy hy h3 he=>?_;obtain⟨j,hj,rfl⟩:=nQ.1 hy;rw[List.length_take] at hj;have h4:=Lk HS.out (aQ (show j<l.length by omega)) aa (by omega);rw[List.getElem_take] at h3 he;have h5:Np.fB l[j].set=Np.fB l[k].set:=by unfold Np.fB;rw[h3,h2,he,aw]
    rw[h5,Np.zO.self] at h4;omega)
   have HT:Hid (∀ kv,(if l[k].set.type=2/\l[k].set.name≠a.data.toList then gV a.data.toList (l.take k) ++ [(l[k].set.name,.bool true)] else gV a.data.toList (l.take k))=kv->gV a.data.toList (l.take (k+1))=kv):=jq (λkv h=>by rw[ht,WM];exact h);generalize hx:l[k]=x at *;clear hx ht;obtain⟨Ad,cd,rfl,_,_⟩:=ak aK;obtain⟨As,cs,rfl,_,_⟩:=ak aS;have aT:=jq aw;have dY:Hid (∀ o,Below wr.heap.size wr (wr.alloc o)):=jq (λo=>(vQ _ _).alloc (bQ _) _);have aY:Hid (∀ o,Below M w1 (wr.alloc o)):=jq (λo=>HB.out.alloc (by omega) _);clear aa aw aK aS;by_cases h2:x.set.type=2
   ·have ac:(x.set.type == 2)=true:=by simpa using h2
    by_cases hn:x.set.name=a.data.toList
    ·have jK:(!sn.toList == a.toList)=false:=by rw[dQ,dQ,aT.out,hn];simp
     have lv:=jq (HT.out _ (Qc λh=>h.2 hn));clear h2 hn;go_wp2_with fail;go_roundw
     case rel=>exact⟨k+1,by omega,by go_num,jq (aY.out _),jq (by rw[lv.out];exact HM.out.keep (dY.out _) rn)⟩
     case measure=>simp[intOf] <;> omega
    ·have jK:(!sn.toList == a.toList)=true:=by rw[dQ,dQ,aT.out];simpa using hn
     have lv:=jq (HT.out _ (Qb ⟨h2,hn⟩));have cI:=jq (Uw.out h2);clear h2 hn;go_wp2_with (at_mapUpdate;refine S9 _ rfl _ _ _ 111 rfl 9 4 underlying111 underlying9 M (gV a.data.toList (l.take k)) rfl (HM.out.keep (dY.out _) rn) sn.data.toList rfl (.bool true) rfl cI.out ?_;intro w5 mL ml;have H5:=jq (And.intro mL ml);clear mL ml);go_roundw
     case rel=>exact⟨k+1,by omega,by go_num,jq ((aY.out _).trans (H5.out.2.below (bQ _))),jq (by rw[lv.out,<-aT.out];exact H5.out.1)⟩
     case measure=>simp[intOf] <;> omega
   ·have ac:(x.set.type == 2)=false:=by simpa using h2
    have lv:=jq (HT.out _ (Qc λh=>h2 h.1));clear h2;go_wp2_with fail;go_roundw
    case rel=>exact⟨k+1,by omega,by go_num,jq (aY.out _),jq (by rw[lv.out];exact HM.out.keep (dY.out _) rn)⟩
    case measure=>simp[intOf] <;> omega
  ·have mJ:k=l.length:=by omega
   subst mJ;rw[List.take_length] at HM;go_wp2_with fail;have gY:=KV l.length bW;have HZ:Hid (∀ j,j<l.length->(madeCells #[Value.string ⟨#[]⟩] l.length)[j]?=some (.string ⟨#[]⟩)):=jq (λj hj=>KU _ _ hj);generalize madeCells #[Value.string ⟨#[]⟩] l.length=Z at gY HZ;have iB:=jq (And.intro d0 d1);have DF:Hid (∀ (Bl Bs:Nat) (w5:World),Below wr.heap.size wr w5->M<Bl->M<Bs->Bl≠Bs->Bl<w5.heap.size->Bs<w5.heap.size->w5.cell? ⟨Bl,0,none⟩=some (.string a)->w5.cell? ⟨Bl,1,none⟩=some (.slice A l.length c)->w5.cell? ⟨Bl,2,none⟩=some (.slice (some ⟨Bs,0,none⟩) l.length l.length)->(∀ j,j<l.length->w5.cell? ⟨Bs,j,none⟩=some (.string ⟨#[]⟩))->(∀ j,w5.frozen? ⟨Bs,j,none⟩=false)->
    LayB w.heap.size M Bl Bs/\LayK w M Bl Bs a (.slice A l.length c) (.slice (some ⟨Bs,0,none⟩) l.length l.length) (gV a.data.toList l) w5 (List.replicate l.length [])):=jq (λBl Bs w5 hb h1 h2 h3 h4 h5 k0 k1 k2 hz wN=>by
    refine⟨⟨by omega,h1,h2,h3⟩,aG.out.trans (hb.adZ),(hb.cell (by dsimp only;omega)).trans iB.out.1,(hb.cell (by dsimp only;omega)).trans iB.out.2,(hb.cell (by dsimp only;omega)).trans tF.out.1,(hb.cell (by dsimp only;omega)).trans tF.out.2.1,(hb.cell (by dsimp only;omega)).trans tF.out.2.2,k0,k1,k2,HM.out.keep hb rn,λj x hx=>?_,h4,h5,λj=>(hb.frozen (by dsimp only;omega)).trans (T6.out j)⟩;rw[List.getElem?_replicate] at hx;split at hx
    ·rename_i hj
     cases hx
     exact⟨⟨#[]⟩,rfl,by decide,hz j hj,wN j⟩
    ·cases hx)
   go_region
   ·obtain⟨w5,aX⟩:=acJ (((wr.alloc (.cells Z 9)).alloc (.cells #[.string a,.slice A l.length c,.slice (some ⟨wr.heap.size,0,none⟩) l.length l.length] 265)).drew);have aH:Below wr.heap.size wr w5:=by rw[<-aX];exact (((vQ _ _).alloc (bQ _) _).alloc (by simp) _).drew
    have hp:=DF.out (wr.heap.size+1) wr.heap.size w5 aH (by omega) (by omega) (by omega) (by rw[<-aX];simp) (by rw[<-aX];simp;omega) (by rw[<-aX];simp[go_sem]) (by rw[<-aX];simp[go_sem]) (by rw[<-aX];simp[go_sem]) (λj hj=>by rw[<-aX];simp[go_sem];exact HZ.out j hj) (λj=>by rw[<-aX];simp[go_sem]);rw[aX];obtain⟨BH,BI⟩:=hp;have iC:=jq BH;have kg:=jq BI;clear aX aH BH BI gY DF HZ tF iB HB aG d0 d1;generalize wr.heap.size+1=X1 at *;generalize wr.heap.size=X0 at *;have c50:=kg.out.b0;have c51:=kg.out.b1;go_wp2_with fail;clear c50 c51;go_loopw [7,51] (λvc i wr=>Nu w M X1 X0 a (.slice A l.length c) (.slice (some ⟨X0,0,none⟩) l.length l.length) (gV a.data.toList l) B (Np.dh ⟨a.data.toList,l⟩) l vc i wr) (λ_ i _=>l.length - (intOf i).toNat)
    case atStart=>exact⟨0,⟨#[]⟩,jQ _,rfl,rfl,by decide,jq kg.out,jq (.inl rfl),jq (by rw[<-fX.out];rfl)⟩
    case round=>
     obtain⟨k,sc,hk,rfl,rfl,eW,HK,qZ,HE⟩:=hrel;have mH:=HK.out.l2;have bB:=HK.out.blt;have qg:=HK.out.slt;have rn:=HK.out.map.lt;have gK:=HK.out.below.size;by_cases ab:k<l.length
     ·have aa:=aQ ab;obtain⟨b,o,c',sn,dv,sv,hA,bA,_,aw,cB,aK,aS,f0,f1,f2,f3,f4⟩:=fE (HD.out.keep bj HK.out.below) aa
      cases hA
      have iI:Hid (Np.aD sn.data.toList=true):=jq (by rw[aw];exact HV.out _ (List.getElem_mem ab));have du:Hid (B[k]?=some (Np.ed (Np.dh ⟨a.data.toList,l⟩) sc.data.toList sn.data.toList)/\B.drop (k+1)=Np.oX (Np.dh ⟨a.data.toList,l⟩) (Np.ed (Np.dh ⟨a.data.toList,l⟩) sc.data.toList sn.data.toList) (l.drop (k+1))):=jq (by
       have h1:=HE.out;rw[sQ ab,Np.oX,<-aw] at h1;refine⟨?_,?_⟩
       ·have:=List.getElem?_drop (xs:=B) (i:=k) (j:=0)
        rw[h1,Nat.add_zero] at this;exact this.symm
       ·have:=Qd (List.drop 1) h1
        rw[List.drop_drop] at this;simpa using this)
      obtain⟨s0,_,_,ij,lL⟩:=HK.out.row k [] (by
       rw[oQ (by rw[List.length_take];omega),List.length_take,fY.out,show k - min k l.length=0 by omega,List.getElem?_replicate,Qb (by omega)])
      have jl:Hid (∀ (wx:World) (s:ByteArray),Below wr.heap.size wr wx->s.size<=140737488355328->s.data.toList=Np.ed (Np.dh ⟨a.data.toList,l⟩) sc.data.toList sn.data.toList->LayK w M X1 X0 a (.slice (some ⟨b,o,none⟩) l.length c) (.slice (some ⟨X0,0,none⟩) l.length l.length) (gV a.data.toList l) (wx.setCell ⟨X0,k,none⟩ (.string s)) (B.take (k+1)++List.replicate (l.length - (k+1)) [])):=jq (λwx s hb an hs=>by
       rw[<-R9 fY.out du.out.1,<-hs];exact (HK.out.keep iC.out hb).store iC.out (by rw[List.length_append,List.length_take,List.length_replicate,fY.out];omega) s an)
      have Hc:=jq HK.out.map;have dY:Hid (∀ o,Below wr.heap.size wr (wr.alloc o)):=jq (λo=>(vQ _ _).alloc (bQ _) _);generalize hx:l[k]=x at *;clear hx aa;obtain⟨Ad,cd,rfl,_,_⟩:=ak aK;obtain⟨As,cs,rfl,_,_⟩:=ak aS;clear aw aK aS;have bJ:(0:Int)<=(k:Int):=by omega
      have bI:(k:Int)<(l.length:Int):=by omega
      obtain⟨cb,eG⟩:=acJ (Np.dh ⟨a.data.toList,l⟩ sn.data.toList);have jD:=jq eG;have iH:Hid (((gV a.data.toList l).lookup sn.data.toList).getD (.bool false) = .bool cb):=jq (by rw[<-eG];exact (D6 _ _ l).1);clear eG;have vK:Hid (∀ wx,Below wr.heap.size wr wx->Sem.run prog (Instr.lookup 111 (.map (some M)) (.string sn) false) wx = .ok (.bool cb) wx):=jq (λwx hb=>by
       have:=FT (P:=prog) wx 111 9 4 underlying111 underlying9 M (gV a.data.toList l) (Hc.out.keep hb rn) sn.data.toList (.bool false) (by kernel_rfl)
       rw[iH.out] at this;exact this)
      by_cases hce:sc.data.toList = []
      ·obtain rfl:sc=⟨#[]⟩:=j9 hce;have fF:Hid (cb=true->sn.data.toList=Np.ed (Np.dh ⟨a.data.toList,l⟩) [] sn.data.toList):=jq (λh=>by
        unfold Np.ed;rw[jD.out,h];simp)
       have ki:Hid (cb=false->[]=Np.ed (Np.dh ⟨a.data.toList,l⟩) [] sn.data.toList):=jq (λh=>by
        unfold Np.ed;rw[jD.out,h];simp)
       clear hce
       cases cb with
       | true=>
        have er:∀ o,Sem.run prog (Instr.lookup 111 (.map (some M)) (.string sn) false) (wr.alloc o) = .ok (.bool true) (wr.alloc o):=λo=>vK.out _ (dY.out o);go_wp2_with fail;go_roundw
        case rel=>exact⟨k+1,sn,by omega,by go_num,rfl,cB,jq ((jl.out wr sn (vQ _ _) cB (fF.out (by simp))).keep iC.out ((vQ _ _).alloc (bQ _) _)),jq (.inr iI.out),jq (by rw[fF.out (by simp)];exact du.out.2)⟩
        case measure=>simp[intOf] <;> omega
       | false=>
        have er:∀ o,Sem.run prog (Instr.lookup 111 (.map (some M)) (.string sn) false) (wr.alloc o) = .ok (.bool false) (wr.alloc o):=λo=>vK.out _ (dY.out o);go_wp2_with fail;go_roundw
        case rel=>exact⟨k+1,⟨#[]⟩,by omega,by go_num,rfl,by decide,jq ((jl.out wr ⟨#[]⟩ (vQ _ _) (by decide) (ki.out (by simp))).keep iC.out ((vQ _ _).alloc (bQ _) _)),jq (.inl rfl),jq (by rw[show (⟨#[]⟩:ByteArray).data.toList = [] from rfl,ki.out (by simp)];exact du.out.2)⟩
        case measure=>simp[intOf] <;> omega
      ·have Zo:(!sc.toList == [])=true:=by rw[dQ];simpa using hce
       have xi:(sc.toList == [])=false:=by rw[dQ];simpa using hce
       have kM:Hid (Np.aD sc.data.toList=true):=jq (qZ.out.resolve_left hce);have lZ:=jq hce;have X3:M<wr.heap.size:=rn;clear hce;go_wp2_with fail;refine (Db sn sc cB eW _ iI.out kM.out).mono ?_;rintro e w2 ⟨rfl,ac⟩;have ai:=jq ((dY.out _).trans (ac.mono (by simp)));have eU:w2.cell? ⟨X1,2,none⟩=some (.slice (some ⟨X0,0,none⟩) l.length l.length):=aaJ ai.out mH;have dW:w2.cell? ⟨X0,k,none⟩=some (.string s0):=aaJ ai.out ij;have aN:=ai.out.size;have YO:w2.frozen? ⟨X0,k,none⟩=false:=(ai.out.frozen (by dsimp only;omega)).trans lL;clear ac mH ij lL
       cases fi:Np.bD sn.data.toList sc.data.toList with
       | true=>
        have fF:Hid (sc.data.toList=Np.ed (Np.dh ⟨a.data.toList,l⟩) sc.data.toList sn.data.toList):=jq (by
         unfold Np.ed;simp[lZ.out,fi])
        clear fi;go_wp2_with fail;go_roundw
        case rel=>exact⟨k+1,sc,by omega,by go_num,rfl,eW,jq (jl.out _ sc ai.out eW fF.out),jq (.inr kM.out),jq (by rw[fF.out];exact du.out.2)⟩
        case measure=>simp[intOf] <;> omega
       | false=>
        have fF:Hid (cb=true->sn.data.toList=Np.ed (Np.dh ⟨a.data.toList,l⟩) sc.data.toList sn.data.toList):=jq (λh=>by
         unfold Np.ed;rw[jD.out,h];simp[fi,lZ.out])
        have ki:Hid (cb=false->[]=Np.ed (Np.dh ⟨a.data.toList,l⟩) sc.data.toList sn.data.toList):=jq (λh=>by
         unfold Np.ed;rw[jD.out,h];simp[fi,lZ.out])
        clear fi;have er:=vK.out w2 ai.out
        cases cb with
        | true=>
         go_wp2_with fail;go_roundw
         case rel=>exact⟨k+1,sn,by omega,by go_num,rfl,cB,jq (jl.out _ sn ai.out cB (fF.out (by simp))),jq (.inr iI.out),jq (by rw[fF.out (by simp)];exact du.out.2)⟩
         case measure=>simp[intOf] <;> omega
        | false=>
         go_wp2_with fail;go_roundw
         case rel=>exact⟨k+1,⟨#[]⟩,by omega,by go_num,rfl,by decide,jq (jl.out _ ⟨#[]⟩ ai.out (by decide) (ki.out (by simp))),jq (.inl rfl),jq (by rw[show (⟨#[]⟩:ByteArray).data.toList = [] from rfl,ki.out (by simp)];exact du.out.2)⟩
         case measure=>simp[intOf] <;> omega
     ·have Ck:k=l.length:=by omega
      have mx:Hid (B.take k++List.replicate (l.length - k) []=B):=jq (by rw[Ck,Nat.sub_self,List.replicate_zero,List.append_nil,kQ (by rw[fY.out];exact bQ _)]);clear Ck;have g0:=HK.out.l0;have g1:=HK.out.l1;have r0:=HK.out.r0;have r1:=HK.out.r1;have r2:=HK.out.r2;have rf0:=HK.out.rf 0;have rf1:=HK.out.rf 1;have rf2:=HK.out.rf 2;go_wp2_with fail;obtain⟨w6,ct⟩:=acJ (((wr.setCell ⟨w.heap.size+1,0,none⟩ (.string a)).setCell ⟨w.heap.size+1,1,none⟩ (.slice A l.length c)).setCell ⟨w.heap.size+1,2,none⟩ (.slice (some ⟨X0,0,none⟩) l.length l.length));have q0:w6.cell? ⟨w.heap.size+1,0,none⟩=some (.string a):=by rw[<-ct];simp[go_sem,r0]
      have q1:w6.cell? ⟨w.heap.size+1,1,none⟩=some (.slice A l.length c):=by rw[<-ct];simp[go_sem,r1]
      have q2:w6.cell? ⟨w.heap.size+1,2,none⟩=some (.slice (some ⟨X0,0,none⟩) l.length l.length):=by rw[<-ct];simp[go_sem,r2]
      have h1:=iC.out.map;have h2:=iC.out.row;have dl:Hid (Below w.heap.size w w6):=jq (by rw[<-ct];exact ((HK.out.below.setCell (by simp) _).setCell (by simp) _).setCell (by simp) _);have Ic:Hid (SlR RTx 1 w6 w6.heap.size (.slice (some ⟨X0,0,none⟩) l.length l.length) B):=jq (by
       have h3:=HK.out.row;rw[mx.out] at h3;have h4:=((h3.other (p:=⟨w.heap.size+1,0,none⟩) (by simp;omega) (.string a)).other (p:=⟨w.heap.size+1,1,none⟩) (by simp;omega) (.slice A l.length c)).other (p:=⟨w.heap.size+1,2,none⟩) (by simp;omega) (.slice (some ⟨X0,0,none⟩) l.length l.length);rw[ct] at h4;have h5:=h4.slr (by rw[<-ct];simp;omega) (by rw[fY.out];omega);rw[fY.out] at h5;exact h5)
      rw[ct];clear ct r0 r1 r2 rf0 rf1 rf2 g0 g1 mH;refine bodyPost_ret (v:=.agg #[.string a,.slice A l.length c,.slice (some ⟨X0,0,none⟩) l.length l.length]) ?_ rfl ⟨⟨_,rfl,Ic.out⟩,dl.out⟩;simp[results,results200,go_sem,q0,q1,q2]
   ·obtain⟨w5,aX⟩:=acJ (((wr.alloc (.cells #[.string a,.slice A l.length c,.slice (some ⟨wr.heap.size+1,0,none⟩) l.length l.length] 265)).alloc (.cells Z 9)).drew);have aH:Below wr.heap.size wr w5:=by rw[<-aX];exact (((vQ _ _).alloc (bQ _) _).alloc (by simp) _).drew
    have hp:=DF.out wr.heap.size (wr.heap.size+1) w5 aH (by omega) (by omega) (by omega) (by rw[<-aX];simp;omega) (by rw[<-aX];simp) (by rw[<-aX];simp[go_sem]) (by rw[<-aX];simp[go_sem]) (by rw[<-aX];simp[go_sem]) (λj hj=>by rw[<-aX];simp[go_sem];exact HZ.out j hj) (λj=>by rw[<-aX];simp[go_sem]);rw[aX];obtain⟨BH,BI⟩:=hp;have iC:=jq BH;have kg:=jq BI;clear aX aH BH BI gY DF HZ tF iB HB aG d0 d1;generalize wr.heap.size+1=X0 at *;generalize wr.heap.size=X1 at *;have c50:=kg.out.b0;have c51:=kg.out.b1;go_wp2_with fail;clear c50 c51;go_loopw [7,51] (λvc i wr=>Nu w M X1 X0 a (.slice A l.length c) (.slice (some ⟨X0,0,none⟩) l.length l.length) (gV a.data.toList l) B (Np.dh ⟨a.data.toList,l⟩) l vc i wr) (λ_ i _=>l.length - (intOf i).toNat)
    case atStart=>exact⟨0,⟨#[]⟩,jQ _,rfl,rfl,by decide,jq kg.out,jq (.inl rfl),jq (by rw[<-fX.out];rfl)⟩
    case round=>
     obtain⟨k,sc,hk,rfl,rfl,eW,HK,qZ,HE⟩:=hrel;have mH:=HK.out.l2;have bB:=HK.out.blt;have qg:=HK.out.slt;have rn:=HK.out.map.lt;have gK:=HK.out.below.size;by_cases ab:k<l.length
     ·have aa:=aQ ab;obtain⟨b,o,c',sn,dv,sv,hA,bA,_,aw,cB,aK,aS,f0,f1,f2,f3,f4⟩:=fE (HD.out.keep bj HK.out.below) aa
      cases hA
      have iI:Hid (Np.aD sn.data.toList=true):=jq (by rw[aw];exact HV.out _ (List.getElem_mem ab));have du:Hid (B[k]?=some (Np.ed (Np.dh ⟨a.data.toList,l⟩) sc.data.toList sn.data.toList)/\B.drop (k+1)=Np.oX (Np.dh ⟨a.data.toList,l⟩) (Np.ed (Np.dh ⟨a.data.toList,l⟩) sc.data.toList sn.data.toList) (l.drop (k+1))):=jq (by
       have h1:=HE.out;rw[sQ ab,Np.oX,<-aw] at h1;refine⟨?_,?_⟩
       ·have:=List.getElem?_drop (xs:=B) (i:=k) (j:=0)
        rw[h1,Nat.add_zero] at this;exact this.symm
       ·have:=Qd (List.drop 1) h1
        rw[List.drop_drop] at this;simpa using this)
      obtain⟨s0,_,_,ij,lL⟩:=HK.out.row k [] (by
       rw[oQ (by rw[List.length_take];omega),List.length_take,fY.out,show k - min k l.length=0 by omega,List.getElem?_replicate,Qb (by omega)])
      have jl:Hid (∀ (wx:World) (s:ByteArray),Below wr.heap.size wr wx->s.size<=140737488355328->s.data.toList=Np.ed (Np.dh ⟨a.data.toList,l⟩) sc.data.toList sn.data.toList->LayK w M X1 X0 a (.slice (some ⟨b,o,none⟩) l.length c) (.slice (some ⟨X0,0,none⟩) l.length l.length) (gV a.data.toList l) (wx.setCell ⟨X0,k,none⟩ (.string s)) (B.take (k+1)++List.replicate (l.length - (k+1)) [])):=jq (λwx s hb an hs=>by
       rw[<-R9 fY.out du.out.1,<-hs];exact (HK.out.keep iC.out hb).store iC.out (by rw[List.length_append,List.length_take,List.length_replicate,fY.out];omega) s an)
      have Hc:=jq HK.out.map;have dY:Hid (∀ o,Below wr.heap.size wr (wr.alloc o)):=jq (λo=>(vQ _ _).alloc (bQ _) _);generalize hx:l[k]=x at *;clear hx aa;obtain⟨Ad,cd,rfl,_,_⟩:=ak aK;obtain⟨As,cs,rfl,_,_⟩:=ak aS;clear aw aK aS;have bJ:(0:Int)<=(k:Int):=by omega
      have bI:(k:Int)<(l.length:Int):=by omega
      obtain⟨cb,eG⟩:=acJ (Np.dh ⟨a.data.toList,l⟩ sn.data.toList);have jD:=jq eG;have iH:Hid (((gV a.data.toList l).lookup sn.data.toList).getD (.bool false) = .bool cb):=jq (by rw[<-eG];exact (D6 _ _ l).1);clear eG;have vK:Hid (∀ wx,Below wr.heap.size wr wx->Sem.run prog (Instr.lookup 111 (.map (some M)) (.string sn) false) wx = .ok (.bool cb) wx):=jq (λwx hb=>by
       have:=FT (P:=prog) wx 111 9 4 underlying111 underlying9 M (gV a.data.toList l) (Hc.out.keep hb rn) sn.data.toList (.bool false) (by kernel_rfl)
       rw[iH.out] at this;exact this)
      by_cases hce:sc.data.toList = []
      ·obtain rfl:sc=⟨#[]⟩:=j9 hce;have fF:Hid (cb=true->sn.data.toList=Np.ed (Np.dh ⟨a.data.toList,l⟩) [] sn.data.toList):=jq (λh=>by
        unfold Np.ed;rw[jD.out,h];simp)
       have ki:Hid (cb=false->[]=Np.ed (Np.dh ⟨a.data.toList,l⟩) [] sn.data.toList):=jq (λh=>by
        unfold Np.ed;rw[jD.out,h];simp)
       clear hce
       cases cb with
       | true=>
        have er:∀ o,Sem.run prog (Instr.lookup 111 (.map (some M)) (.string sn) false) (wr.alloc o) = .ok (.bool true) (wr.alloc o):=λo=>vK.out _ (dY.out o);go_wp2_with fail;go_roundw
        case rel=>exact⟨k+1,sn,by omega,by go_num,rfl,cB,jq ((jl.out wr sn (vQ _ _) cB (fF.out (by simp))).keep iC.out ((vQ _ _).alloc (bQ _) _)),jq (.inr iI.out),jq (by rw[fF.out (by simp)];exact du.out.2)⟩
        case measure=>simp[intOf] <;> omega
       | false=>
        have er:∀ o,Sem.run prog (Instr.lookup 111 (.map (some M)) (.string sn) false) (wr.alloc o) = .ok (.bool false) (wr.alloc o):=λo=>vK.out _ (dY.out o);go_wp2_with fail;go_roundw
        case rel=>exact⟨k+1,⟨#[]⟩,by omega,by go_num,rfl,by decide,jq ((jl.out wr ⟨#[]⟩ (vQ _ _) (by decide) (ki.out (by simp))).keep iC.out ((vQ _ _).alloc (bQ _) _)),jq (.inl rfl),jq (by rw[show (⟨#[]⟩:ByteArray).data.toList = [] from rfl,ki.out (by simp)];exact du.out.2)⟩
        case measure=>simp[intOf] <;> omega
      ·have Zo:(!sc.toList == [])=true:=by rw[dQ];simpa using hce
       have xi:(sc.toList == [])=false:=by rw[dQ];simpa using hce
       have kM:Hid (Np.aD sc.data.toList=true):=jq (qZ.out.resolve_left hce);have lZ:=jq hce;have X3:M<wr.heap.size:=rn;clear hce;go_wp2_with fail;refine (Db sn sc cB eW _ iI.out kM.out).mono ?_;rintro e w2 ⟨rfl,ac⟩;have ai:=jq ((dY.out _).trans (ac.mono (by simp)));have eU:w2.cell? ⟨X1,2,none⟩=some (.slice (some ⟨X0,0,none⟩) l.length l.length):=aaJ ai.out mH;have dW:w2.cell? ⟨X0,k,none⟩=some (.string s0):=aaJ ai.out ij;have aN:=ai.out.size;have YO:w2.frozen? ⟨X0,k,none⟩=false:=(ai.out.frozen (by dsimp only;omega)).trans lL;clear ac mH ij lL
       cases fi:Np.bD sn.data.toList sc.data.toList with
       | true=>
        have fF:Hid (sc.data.toList=Np.ed (Np.dh ⟨a.data.toList,l⟩) sc.data.toList sn.data.toList):=jq (by
         unfold Np.ed;simp[lZ.out,fi])
        clear fi;go_wp2_with fail;go_roundw
        case rel=>exact⟨k+1,sc,by omega,by go_num,rfl,eW,jq (jl.out _ sc ai.out eW fF.out),jq (.inr kM.out),jq (by rw[fF.out];exact du.out.2)⟩
        case measure=>simp[intOf] <;> omega
       | false=>
        have fF:Hid (cb=true->sn.data.toList=Np.ed (Np.dh ⟨a.data.toList,l⟩) sc.data.toList sn.data.toList):=jq (λh=>by
         unfold Np.ed;rw[jD.out,h];simp[fi,lZ.out])
        have ki:Hid (cb=false->[]=Np.ed (Np.dh ⟨a.data.toList,l⟩) sc.data.toList sn.data.toList):=jq (λh=>by
         unfold Np.ed;rw[jD.out,h];simp[fi,lZ.out])
        clear fi;have er:=vK.out w2 ai.out
        cases cb with
        | true=>
         go_wp2_with fail;go_roundw
         case rel=>exact⟨k+1,sn,by omega,by go_num,rfl,cB,jq (jl.out _ sn ai.out cB (fF.out (by simp))),jq (.inr iI.out),jq (by rw[fF.out (by simp)];exact du.out.2)⟩
         case measure=>simp[intOf] <;> omega
        | false=>
         go_wp2_with fail;go_roundw
         case rel=>exact⟨k+1,⟨#[]⟩,by omega,by go_num,rfl,by decide,jq (jl.out _ ⟨#[]⟩ ai.out (by decide) (ki.out (by simp))),jq (.inl rfl),jq (by rw[show (⟨#[]⟩:ByteArray).data.toList = [] from rfl,ki.out (by simp)];exact du.out.2)⟩
         case measure=>simp[intOf] <;> omega
     ·have Ck:k=l.length:=by omega
      have mx:Hid (B.take k++List.replicate (l.length - k) []=B):=jq (by rw[Ck,Nat.sub_self,List.replicate_zero,List.append_nil,kQ (by rw[fY.out];exact bQ _)]);clear Ck;have g0:=HK.out.l0;have g1:=HK.out.l1;have r0:=HK.out.r0;have r1:=HK.out.r1;have r2:=HK.out.r2;have rf0:=HK.out.rf 0;have rf1:=HK.out.rf 1;have rf2:=HK.out.rf 2;go_wp2_with fail;obtain⟨w6,ct⟩:=acJ (((wr.setCell ⟨w.heap.size+1,0,none⟩ (.string a)).setCell ⟨w.heap.size+1,1,none⟩ (.slice A l.length c)).setCell ⟨w.heap.size+1,2,none⟩ (.slice (some ⟨X0,0,none⟩) l.length l.length));have q0:w6.cell? ⟨w.heap.size+1,0,none⟩=some (.string a):=by rw[<-ct];simp[go_sem,r0]
      have q1:w6.cell? ⟨w.heap.size+1,1,none⟩=some (.slice A l.length c):=by rw[<-ct];simp[go_sem,r1]
      have q2:w6.cell? ⟨w.heap.size+1,2,none⟩=some (.slice (some ⟨X0,0,none⟩) l.length l.length):=by rw[<-ct];simp[go_sem,r2]
      have h1:=iC.out.map;have h2:=iC.out.row;have dl:Hid (Below w.heap.size w w6):=jq (by rw[<-ct];exact ((HK.out.below.setCell (by simp) _).setCell (by simp) _).setCell (by simp) _);have Ic:Hid (SlR RTx 1 w6 w6.heap.size (.slice (some ⟨X0,0,none⟩) l.length l.length) B):=jq (by
       have h3:=HK.out.row;rw[mx.out] at h3;have h4:=((h3.other (p:=⟨w.heap.size+1,0,none⟩) (by simp;omega) (.string a)).other (p:=⟨w.heap.size+1,1,none⟩) (by simp;omega) (.slice A l.length c)).other (p:=⟨w.heap.size+1,2,none⟩) (by simp;omega) (.slice (some ⟨X0,0,none⟩) l.length l.length);rw[ct] at h4;have h5:=h4.slr (by rw[<-ct];simp;omega) (by rw[fY.out];omega);rw[fY.out] at h5;exact h5)
      rw[ct];clear ct r0 r1 r2 rf0 rf1 rf2 g0 g1 mH;refine bodyPost_ret (v:=.agg #[.string a,.slice A l.length c,.slice (some ⟨X0,0,none⟩) l.length l.length]) ?_ rfl ⟨⟨_,rfl,Ic.out⟩,dl.out⟩;simp[results,results200,go_sem,q0,q1,q2]
theorem Ln{c:UInt8}{r:List UInt8}(hc:c≠46):∃ x xs,Np.bg (c::r)=(c::x)::xs:=by
 unfold Np.bg;rw[Qc hc]
 cases Np.bg r with
 | nil=>exact⟨[],[],rfl⟩
 | cons x xs=>exact⟨x,xs,rfl⟩
theorem LH{l:List UInt8}(h:Np.aD l=true):Np.eD l=((Np.fm l).head? == some [42]):=by
 unfold Np.fm;by_cases hd:l = [46]
 ·subst hd;decide
 ·rw[Qc hd]
  cases l with
  | nil=>exact absurd h (by decide)
  | cons c r=>
   have hg:Np.gh (Np.bg (c::r)).reverse 0 false=true:=by
    unfold Np.aD at h;rw[Qc hd] at h;split at h
    ·cases h
    ·exact h
   have hl:=Np.OS _ _ _ hg;by_cases hc:c=46
   ·subst hc;have e:Np.bg (46::r) = []::Np.bg r:=by rw[Np.bg,Qb rfl]
    rw[e] at hl
    have:=hl [] (by simp)
    rcases this with h1 | h1
    ·cases h1
    ·exact absurd h1 (by decide)
   ·obtain⟨x,xs,e⟩:=Ln (r:=r) hc;rw[e] at hl |-;rw[Bool.eq_iff_iff];simp only[Np.eD,List.head?_cons,beq_iff_eq,Option.some.injEq,List.cons.injEq];constructor
    ·rintro rfl;rcases hl (42::x) (by simp) with h1 | h1
     ·simpa using h1
     ·exfalso;unfold Np.cM at h1;simp only[Bool.and_eq_true,List.all_cons] at h1;exact absurd h1.2.1 (by decide)
    ·exact λh=>h.1
theorem K9(s:ByteArray)(h:Np.aD s.data.toList=true)(w:World) :
 Calls prog 158 #[.string s] w (a0X w.heap.size w (.bool (Np.eD s.data.toList))):=by
 have hw:=LH h;have an:=uT h;obtain⟨ps,fT⟩:=acJ (Np.fm s.data.toList);obtain⟨r,hr⟩:=acJ (ps.head? == some [42]);rw[hw,fT,hr];have nw:=jq fT;have HR:=jq hr;clear hw h fT hr;go_enter func158,ntmps158;go_wp2_with fail;refine (C3 s (by omega) _).mono ?_;rw[nw.out];rintro e w1 ⟨v,rfl,hv,hb⟩;have HB:=jq hb;clear hb;obtain⟨A,c,rfl,hc,hl,he⟩:=hv
 cases ps with
 | nil=>
  have HX:Hid (r=false):=jq (by rw[<-HR.out];rfl);go_wp2_with fail;go_ret;exact⟨ag HX.out.symm,HB.out⟩
 | cons x xs=>
  obtain⟨b,o,e,rfl,bB,_,hce,hx⟩:=he 0 x rfl;have hx':e = [aA x]:=hx;subst hx';have h0:w1.cell? ⟨b,o,none⟩=some (aA x):=by have:=hce 0 _ rfl;simpa using this
  have HX:Hid ((x == [42])=r):=jq (by rw[<-HR.out,List.head?_cons,Bool.eq_iff_iff];simp);obtain⟨n,hn⟩:=acJ ((x::xs).length);have lM:0<n:=by rw[<-hn];simp
  have P7:(0:Int)<(n:Int):=by omega
  rw[hn];clear he hce hx hc hl hn;go_wp2_with fail
  all_goals
   go_ret;refine⟨ag ?_,HB.out⟩;rw[<-HX.out]
end
end Go.Proofs.YtfnopgdcaanaiaaGreatDoor
