/- Parts of the proof. No condition. -/
import Derived.Shelf.Strings.OnBuilder
import Derived.Shelf.Small.Bits
import Derived.Shelf.Strconv.Itoa3
import Derived.Shelf.Strings.LastIndex
import Derived.Shelf.Strings.Prefix
import Derived.Test.YtfnopgdcaanaiaaGreatDoorProg
import Derived.Lib.AppendIntMem
import Derived.Test.YtfnopgdcaanaiaaGreatDoorU01
set_option linter.all false
set_option maxRecDepth 100000
set_option maxHeartbeats 8000000
namespace Go.Proofs.YtfnopgdcaanaiaaGreatDoor
open Go.Proofs.Tryz
namespace Np
def cj(z:Zone)(n:List UInt8):Bool:=z.sets.any λx=>decide (x.set.type=2)&&!(x.set.name == z.apex)&&x.set.name == n
theorem E2{z:Zone}{n:List UInt8} : cj z n=true↔∃ x∈z.sets,x.set.type=2/\x.set.name≠z.apex/\x.set.name=n:=by
 unfold cj;rw[List.any_eq_true];constructor
 ·rintro⟨x,hx,h⟩;simp only[Bool.and_eq_true,Qa,Bool.not_eq_true',beq_eq_false_iff_ne,beq_iff_eq] at h;exact⟨x,hx,h.1.1,h.1.2,h.2⟩
 ·rintro⟨x,hx,h1,h2,h3⟩;refine⟨x,hx,?_⟩;rw[h3] at h2 |-;simp[h1,h2]
def mJ(C:List UInt8->Bool):List UInt8->List Signed->List (List UInt8)
 | _,[]=>[]
 | cut,x::r=>cZ C cut x.set.name::mJ C (cZ C cut x.set.name) r
def dE(z:Zone):List (List UInt8):=mJ (cj z) [] z.sets
theorem JQ(C:List UInt8->Bool):∀ (cut:List UInt8) (l:List Signed),(mJ C cut l).length=l.length
 | _,[]=>rfl
 | cut,x::r=>by rw[mJ,List.length_cons,JQ,List.length_cons]
theorem qU(z:Zone):(dE z).length=z.sets.length:=JQ _ _ _
structure InOrder(z:Zone):Prop where
 order:(z.sets.map (·.set)).Pairwise λa b=>fM a b<0
 name:∀ x∈z.sets,x.set.name≠[]
 type:∀ x∈z.sets,x.set.type<=8
theorem J5{a b:DSet}(h:fM a b<0):aH a.name b.name<=0:=by
 rw[BC] at h;split at h
 ·omega
 ·rename_i h0;have:=Decidable.not_not.1 h0;omega
theorem J6{a b:DSet}(h:fM a b<0)(he:a.name=b.name):a.type<b.type:=by
 rw[BC,he,xU,Qc (by simp)] at h;unfold b7 at h;split at h
 ·assumption
 ·split at h <;> omega
theorem InOrder.names{z:Zone}(h:InOrder z){i j:Nat}(dz:i<j)(hj:j<z.sets.length):aH (z.sets[i]'(by omega)).set.name (z.sets[j]).set.name<=0:=by
 have:=List.pairwise_iff_getElem.1 h.order i j (by simp;omega) (by simpa using hj) dz
 rw[List.getElem_map,List.getElem_map] at this;exact J5 this
theorem InOrder.types{z:Zone}(h:InOrder z){i j:Nat}(dz:i<j)(hj:j<z.sets.length)(he:(z.sets[i]'(by omega)).set.name=(z.sets[j]).set.name):(z.sets[i]'(by omega)).set.type<(z.sets[j]).set.type:=by
 have:=List.pairwise_iff_getElem.1 h.order i j (by simp;omega) (by simpa using hj) dz
 rw[List.getElem_map,List.getElem_map] at this;exact J6 this he
theorem WI{a b c:List UInt8}(h1:aH a b<=0)(h2:aH b c<=0)(he:a=c):b=a:=by
 subst he;by_cases h:aH a b<0
 ·have:=ej.anti _ _ h;omega
 ·exact (ej.zero _ _ (by omega)).symm
theorem xV{z:Zone}(h:InOrder z):∀ c,cj z c=true->c≠[]:=λc hc=>by
 obtain⟨x,hx,_,_,rfl⟩:=E2.1 hc;exact h.name x hx
theorem Ke{z:Zone}(h:InOrder z){c:List UInt8}(hc:cj z c=true){i:Nat}(hi:i<z.sets.length)(aa:aH c (z.sets[i]).set.name<0):∃ j,∃ hj:j<i,(z.sets[j]'(by omega)).set.name=c:=by
 obtain⟨x,hx,_,_,rfl⟩:=E2.1 hc;obtain⟨j,hj,rfl⟩:=nQ.1 hx;refine⟨j,?_,rfl⟩;refine Nat.lt_of_not_le λdz=>?_;rcases Nat.lt_or_eq_of_le dz with hl | rfl
 ·have h1:=h.names hl hj;have h2:=ej.anti _ _ aa;omega
 ·rw[xU] at aa;omega
theorem JR{z:Zone}(h:InOrder z):∀ (l:List Signed) (i:Nat) (cut:List UInt8),z.sets.drop i=l->i<=z.sets.length->(i=0/\cut = []\/∃ hi:i - 1<z.sets.length,0<i/\ik (cj z) (z.sets[i - 1]).set.name cut)->∀ (k:Nat) (x:Signed) (b:List UInt8),l[k]?=some x->(mJ (cj z) cut l)[k]?=some b->ik (cj z) x.set.name b
 | [],_,_,_,_,_,k,x,b,hx,_=>by simp at hx
 | y::l,i,cut,hd,hi,hc,k,x,b,hx,hb=>by
   have dB:i<z.sets.length:=by
    have:=Qd List.length hd
    simp at this;omega
   have hy:z.sets[i]=y:=by
    have:=List.getElem?_drop (xs:=z.sets) (i:=i) (j:=0)
    rw[hd,Nat.add_zero,aQ dB] at this;simpa using this.symm
   have hd':z.sets.drop (i+1)=l:=by
    have:=Qd (List.drop 1) hd
    rw[List.drop_drop] at this;simpa using this
   have L7:ik (cj z) y.set.name (cZ (cj z) cut y.set.name):=by
    rcases hc with ⟨rfl,rfl⟩ | ⟨h1,h0,hc⟩
    ·refine Y3 (xV h) (λc re aa=>?_);rw[<-hy] at aa;obtain⟨j,hj,_⟩:=Ke h re dB aa;omega
    ·refine Y4 (xV h) hc ?_ (λc re aa=>?_)
     ·rw[<-hy];exact h.names (by omega) dB
     ·rw[<-hy] at aa;obtain⟨j,hj,Ui⟩:=Ke h re dB aa;rw[<-Ui];rcases Nat.lt_or_eq_of_le (show j<=i - 1 by omega) with hl | he
      ·exact h.names hl h1
      ·subst he;rw[xU];exact Int.le_refl 0
   cases k with
   | zero=>
    simp only[mJ,List.getElem?_cons_zero,Option.some.injEq] at hx hb;rw[<-hx,<-hb];exact L7
   | succ k=>
    simp only[mJ,List.getElem?_cons_succ] at hx hb;exact JR h l (i+1) _ hd' dB (.inr ⟨by simpa using dB,by omega,by simpa [hy] using L7⟩) k x b hx hb
theorem Rh{z:Zone}(h:InOrder z){i:Nat}{x:Signed}{b:List UInt8}(hx:z.sets[i]?=some x)(hb:(dE z)[i]?=some b):ik (cj z) x.set.name b:=
 JR h z.sets 0 [] rfl (jQ _) (.inl ⟨rfl,rfl⟩) i x b hx hb
theorem Ri{z:Zone}(h:InOrder z){B:List (List UInt8)}(hl:B.length=z.sets.length)(hB:∀ (i:Nat) (x:Signed) (b:List UInt8),z.sets[i]?=some x->B[i]?=some b->ik (cj z) x.set.name b):B=dE z:=by
 refine List.ext_getElem (hl.trans (qU z).symm) λi h1 h2=>?_;have hi:i<z.sets.length:=by omega
 exact ik.unique (xV h) (hB i _ _ (aQ hi) (aQ h1)) (Rh h (aQ hi) (aQ h2))
def iK(t:Int)(at':Bool):Bool:=if t=3\/t=6 then !at' else if t=4\/t=7 then at' else true
structure SigOk(apex:List UInt8)(l:List Sig)(i:Nat)(g:Sig):Prop where
 zone:g.zone=apex
 key:1<=g.key/\g.key<=1000000
 alg:1<=g.alg/\g.alg<=3
 win:0<=g.frm/\g.frm<=g.til/\g.til<=20000000
 same:∀ a,l[0]?=some a->g.frm=a.frm/\g.til=a.til
 up:∀ p,l[i - 1]?=some p->0<i->p.key<g.key
def fp(apex:List UInt8)(l:List Sig):Prop:=l.length<=6/\∀ i g,l[i]?=some g->SigOk apex l i g
def kR(x:DSet)(b:List UInt8):Prop:=(b = []->x.type≠6)/\(b≠[]->b=x.name->x.type=2\/x.type=6\/x.type=8\/x.type=1)/\(b≠[]->b≠x.name->x.type=1)
structure VZone(z:Zone):Prop where
 right:ei z=true
 few:z.sets.length<=20000
 start:∃ x∈z.sets,x.set.name=z.apex/\x.set.type=4
 server:∃ x∈z.sets,x.set.name=z.apex/\x.set.type=2
 fits:∀ x∈z.sets,iK x.set.type (x.set.name == z.apex)=true
 aliasBefore:∀ i (hi:i+1<z.sets.length),(z.sets[i+1]).set.type=3->(z.sets[i]).set.name≠(z.sets[i+1]).set.name
 aliasBehind:∀ i (hi:i+1<z.sets.length),(z.sets[i]).set.type=3->(z.sets[i+1]).set.name=(z.sets[i]).set.name->(z.sets[i+1]).set.type=8
 cuts:∀ (i:Nat) (x:Signed) (b:List UInt8),z.sets[i]?=some x->(dE z)[i]?=some b->kR x.set b
 sigs:∀ (i:Nat) (x:Signed) (b:List UInt8),z.sets[i]?=some x->(dE z)[i]?=some b->b≠[]->x.set.type=2\/x.set.type=1->x.sigs = []
 form:∀ x∈z.sets,fp z.apex x.sigs
theorem VZone.inOrder{z:Zone}(h:ei z=true):InOrder z:=by
 unfold ei at h;simp only[Bool.and_eq_true] at h;have av:∀ (l:List Signed) (p:Option DSet),iL z.apex p l=true->(p.toList++l.map (·.set)).Pairwise (λa b=>fM a b<0)/\∀ x∈l,da x.set=true:=by
  intro l
  induction l with
  | nil=>intro p _;cases p <;> simp
  | cons x l ih=>
   intro p h;unfold iL at h;rw[Bool.and_eq_true,Bool.and_eq_true,Bool.and_eq_true,Bool.and_eq_true] at h;obtain⟨i1,i2⟩:=ih (some x.set) h.2;have i1:(x.set::l.map (·.set)).Pairwise (λa b=>fM a b<0):=i1;refine⟨?_,λy hy=>?_⟩
   ·cases p with
    | none=>exact i1
    | some q=>
     have h2:fM q x.set<0:=by simpa using h.1.2
     refine List.pairwise_cons.2 ⟨λy hy=>?_,i1⟩;rcases List.mem_cons.1 hy with e | hy
     ·rw[e];exact h2
     ·have h3:=(List.pairwise_cons.1 i1).1 y hy;rw[E1] at h2 h3 |-;exact wg.trans _ _ _ h2 h3
   ·rcases List.mem_cons.1 hy with e | hy
    ·subst e;exact h.1.1.2
    ·exact i2 y hy
 obtain⟨h1,h2⟩:=av _ none h.2;refine⟨h1,λx hx=>?_,λx hx=>?_⟩
 ·have hv:=(rY (h2 x hx)).1;intro e;rw[e] at hv;exact absurd hv (by decide)
 ·exact (rY (h2 x hx)).2.2.1
def mq(l:List Signed):List UInt8:=l.foldl (λa x=>if x.set.type=3 then x.set.name else a) []
structure RZoneOk(z:Zone):Prop where
 right:ei z=true
 few:z.sets.length<=20000
 start:∃ x∈z.sets,x.set.name=z.apex/\x.set.type=4
 server:∃ x∈z.sets,x.set.name=z.apex/\x.set.type=2
 fits:∀ x∈z.sets,iK x.set.type (x.set.name == z.apex)=true
 three:∀ i (hi:i+1<z.sets.length),(z.sets[i]).set.name=(z.sets[i+1]).set.name->(z.sets[i+1]).set.type≠3/\(mq (z.sets.take (i+2))=(z.sets[i+1]).set.name->(z.sets[i+1]).set.type=8)
 cuts:∀ (i:Nat) (x:Signed) (b:List UInt8),z.sets[i]?=some x->(dE z)[i]?=some b->kR x.set b
 sigs:∀ (i:Nat) (x:Signed) (b:List UInt8),z.sets[i]?=some x->(dE z)[i]?=some b->b≠[]->x.set.type=2\/x.set.type=1->x.sigs = []
 form:∀ x∈z.sets,fp z.apex x.sigs
theorem GN(l:List Signed)(x:Signed):mq (l ++ [x])=if x.set.type=3 then x.set.name else mq l:=by simp[mq]
theorem MD:∀ (l:List Signed) (a:List UInt8),l.foldl (λa x=>if x.set.type=3 then x.set.name else a) a=a\/∃ (j:Nat) (hj:j<l.length),(l[j]).set.type=3/\(l[j]).set.name=l.foldl (λa x=>if x.set.type=3 then x.set.name else a) a
 | [],_=>.inl rfl
 | x::l,a=>by
   rw[List.foldl_cons];rcases MD l (if x.set.type=3 then x.set.name else a) with h | ⟨j,hj,h1,h2⟩
   ·rw[h];split
    ·rename_i ht;exact .inr ⟨0,by simp,ht,rfl⟩
    ·exact .inl rfl
   ·exact .inr ⟨j+1,by simpa using hj,h1,h2⟩
theorem We(l:List Signed):mq l = []\/∃ (j:Nat) (hj:j<l.length),(l[j]).set.type=3/\(l[j]).set.name=mq l:=MD l []
theorem ZL(z:Zone):VZone z↔RZoneOk z:=by
 constructor
 ·intro h;have ho:=VZone.inOrder h.right;refine⟨h.right,h.few,h.start,h.server,h.fits,λi hi he=>?_,h.cuts,h.sigs,h.form⟩;have h3:(z.sets[i+1]).set.type≠3:=λht=>h.aliasBefore i hi ht he;refine⟨h3,λhl=>?_⟩;rcases We (z.sets.take (i+2)) with e | ⟨j,hj,j1,j2⟩
  ·rw[e] at hl;exact absurd hl.symm (ho.name _ (List.getElem_mem hi))
  ·rw[List.getElem_take] at j1 j2;rw[hl] at j2;have vl:j<i+2:=by have:=hj;rw[List.length_take] at this;omega
   have rl:j≠i+1:=λe=>by subst e;exact h3 j1
   have jZ:j+1<z.sets.length:=by omega
   have tJ:(z.sets[j+1]).set.name=(z.sets[j]).set.name:=by
    rcases Nat.lt_or_eq_of_le (show j+1<=i+1 by omega) with hl | yR
    ·exact WI (ho.names (by omega) jZ) (ho.names hl hi) j2
    ·have:j=i:=by omega
     subst this;exact he.symm
   have h8:=h.aliasBehind j jZ j1 tJ;rcases Nat.lt_or_eq_of_le (show j+1<=i+1 by omega) with hl | yR
   ·have h9:=ho.types hl hi (tJ.trans j2);have uO:=ho.type _ (List.getElem_mem hi);omega
   ·have:j=i:=by omega
    subst this;exact h8
 ·intro h;have ho:=VZone.inOrder h.right;refine⟨h.right,h.few,h.start,h.server,h.fits,λi hi ht he=>?_,λi hi ht he=>?_,h.cuts,h.sigs,h.form⟩
  ·exact (h.three i hi he).1 ht
  ·obtain⟨h1,h2⟩:=h.three i hi he.symm;refine h2 ?_;have e1:z.sets.take (i+2)=z.sets.take (i+1) ++ [z.sets[i+1]]:=fQ hi;have e2:z.sets.take (i+1)=z.sets.take i ++ [z.sets[i]]:=fQ (by omega);rw[e1,GN,Qc h1,e2,GN,Qb ht];exact he.symm
end Np
namespace Np
variable {α:Type} [DecidableEq α]
def jS(o:List α)(x:α):List α:=if x∈o then o else o ++ [x]
def cU(l:List α):List α:=l.foldl jS []
theorem Ws{o:List α}{x y:α} : y∈jS o x↔y∈o\/y=x:=by
 unfold jS;split
 ·rename_i h;constructor
  ·exact .inl
  ·rintro (h1 | rfl);exact h1;exact h
 ·simp
theorem WP{o:List α}{x:α}(h:o.Nodup):(jS o x).Nodup:=by
 unfold jS;split
 ·exact h
 ·rename_i hx;exact List.nodup_append.2 ⟨h,by simp,λa ha b hb=>by rw[List.mem_singleton] at hb;rintro rfl;exact hx (hb ▸ ha)⟩
theorem MG:∀ (l o:List α) (y:α),y∈l.foldl jS o↔y∈o\/y∈l
 | [],o,y=>by simp
 | x::l,o,y=>by
   rw[List.foldl_cons,MG l,Ws,List.mem_cons,or_assoc]
theorem MO:∀ (l o:List α),o.Nodup->(l.foldl jS o).Nodup
 | [],_,h=>h
 | _::l,_,h=>MO l _ (WP h)
theorem zR{l:List α}{y:α} : y∈cU l↔y∈l:=by unfold cU;rw[MG];simp
theorem vN(l:List α):(cU l).Nodup:=MO l [] List.nodup_nil
theorem Hq(l:List α)(x:α):cU (l ++ [x])=jS (cU l) x:=by simp[cU]
theorem JF{o:List α}{x:α}(h:x∈o):jS o x=o:=Qb h
theorem wl(l:List α):(cU l).length<=l.length:=by
 have:∀ (l o:List α),(l.foldl jS o).length<=o.length+l.length:=by
  intro l
  induction l with
  | nil=>intro o;simp
  | cons x l ih=>
   intro o;have h:=ih (jS o x);have h2:(jS o x).length<=o.length+1:=by unfold jS;split <;> simp
   rw[List.foldl_cons,List.length_cons];omega
 have h:=this l [];simpa [cU] using h
omit [DecidableEq α] in
theorem Hf{c:α->α->Int}(hc:TO c):∀ (l m:List α),l.Pairwise (λa b=>c a b<0)->m.Pairwise (λa b=>c a b<0)->(∀ x,x∈l↔x∈m)->l=m
 | [],[],_,_,_=>rfl
 | [],b::m,_,_,h=>by have:=(h b).2 (by simp);cases this
 | a::l,[],_,_,h=>by have:=(h a).1 (by simp);cases this
 | a::l,b::m,hl,hm,h=>by
   obtain⟨l1,l2⟩:=List.pairwise_cons.1 hl;obtain⟨m1,m2⟩:=List.pairwise_cons.1 hm;have e:a=b:=by
    rcases List.mem_cons.1 ((h a).1 (by simp)) with e | h1
    ·exact e
    ·rcases List.mem_cons.1 ((h b).2 (by simp)) with e | h2
     ·exact e.symm
     ·have:=hc.anti _ _ (l1 b h2)
      have:=m1 a h1
      omega
   subst e;rw[Hf hc l m l2 m2 (λx=>by
    constructor
    ·intro hx;rcases List.mem_cons.1 ((h x).1 (mQ _ hx)) with e | h1
     ·subst e;have:=l1 x hx;rw[hc.self] at this;omega
     ·exact h1
    ·intro hx;rcases List.mem_cons.1 ((h x).2 (mQ _ hx)) with e | h1
     ·subst e;have:=m1 x hx;rw[hc.self] at this;omega
     ·exact h1)]
def rX(l:List (List UInt8)):List (List UInt8):=l.mergeSort λa b=>!decide (aH b a<0)
theorem De(l:List (List UInt8)):(rX l).Perm l:=List.mergeSort_perm _ _
theorem G9{l:List (List UInt8)}(h:l.Nodup):(rX l).Pairwise λa b=>aH a b<0:=by
 have hs:(rX l).Pairwise λa b=>(!decide (aH b a<0))=true:=List.pairwise_mergeSort (le:=λa b=>!decide (aH b a<0)) (λx y z=>Wm ej x y z) (λx y=>Wl ej x y) l;have hn:(rX l).Nodup:=(De l).nodup_iff.2 h;refine (hs.and hn).imp λ{a b} ⟨h1,h2⟩=>?_;have h3:¬ aH b a<0:=by simpa using h1
 refine Int.lt_of_not_ge λh4=>?_;by_cases h5:0<aH a b
 ·exact h3 (ej.anti' _ _ h5)
 ·exact h2 (ej.zero _ _ (by omega))
def dT:List (List UInt8)->List UInt8->List (List UInt8)
 | [],a=>[a]
 | x::l,a=>if aH x a<0 then x::dT l a else if x=a then x::l else a::x::l
theorem Ng:∀ (l:List (List UInt8)) (a:List UInt8),l.Pairwise (λa b=>aH a b<0)->(dT l a).Pairwise (λa b=>aH a b<0)/\∀ y,y∈dT l a↔y∈l\/y=a
 | [],a,_=>⟨by simp[dT],λy=>by simp[dT]⟩
 | x::l,a,h=>by
   obtain⟨h1,h2⟩:=List.pairwise_cons.1 h;rw[dT];split
   ·rename_i aa;obtain⟨i1,i2⟩:=Ng l a h2;refine⟨List.pairwise_cons.2 ⟨λy hy=>?_,i1⟩,λy=>?_⟩
    ·rcases (i2 y).1 hy with hy | rfl
     ·exact h1 y hy
     ·exact aa
    ·rw[List.mem_cons,i2,List.mem_cons,or_assoc]
   ·rename_i aa;split
    ·rename_i he;subst he;refine⟨h,λy=>?_⟩;constructor
     ·exact .inl
     ·rintro (hy | rfl);exact hy;simp
    ·rename_i hne;have uV:aH a x<0:=by
      by_cases h0:0<aH x a
      ·exact ej.anti' _ _ h0
      ·exact absurd (ej.zero _ _ (by omega)) hne
     refine⟨List.pairwise_cons.2 ⟨λy hy=>?_,h⟩,λy=>?_⟩
     ·rcases List.mem_cons.1 hy with e | hy
      ·subst e;exact uV
      ·exact ej.trans _ _ _ uV (h1 y hy)
     ·rw[List.mem_cons,Or.comm]
end Np
section
open Go.RowKit
def tV(l:List UInt8)(j:Nat):Prop:=∃ c,l[j]?=some c/\(Np.oS c=true\/Np.mo c=true\/(c=45/\0<j/\j+1<l.length))
theorem MN{c:UInt8}(h:Np.oS c=true\/Np.mo c=true):c≠45:=by rintro rfl;revert h;decide
theorem VR{l:List UInt8}(h:∀ j,j<l.length->tV l j):Np.bP l=(decide (1<=l.length)&&decide (l.length<=12)):=by
 have aY:l.all Np.lG=true:=by
  rw[List.all_eq_true];intro c hc;obtain⟨j,hj,rfl⟩:=nQ.1 hc;obtain⟨c,e,ho⟩:=h j hj;rw[aQ hj] at e;simp only[Option.some.injEq] at e;rw[e];unfold Np.lG;rcases ho with ho | ho | ⟨ho,_⟩ <;> simp[ho]
 unfold Np.bP;rw[aY,Bool.and_true];by_cases h1:1<=l.length
 ·have hh:∀ j,j<l.length->j=0\/j+1=l.length->l[j]?≠some 45:=by
   intro j hj he hc;obtain⟨c,e,ho⟩:=h j hj;rw[hc] at e;simp only[Option.some.injEq] at e;subst e;rcases ho with ho | ho | ⟨_,h2,h3⟩
   ·exact MN (.inl ho) rfl
   ·exact MN (.inr ho) rfl
   ·omega
  have h2:(l.head? == some 45)=false:=by rw[List.head?_eq_getElem?];simpa using hh 0 (by omega) (.inl rfl)
  have h3:(l.getLast? == some 45)=false:=by rw[List.getLast?_eq_getElem?];simpa using hh (l.length - 1) (by omega) (.inr (by omega))
  rw[h2,h3];simp
 ·rw[tQ h1];rfl
theorem Mt{l:List UInt8}{j:Nat}(hj:j<l.length)(h:¬ tV l j):Np.bP l=false:=by
 cases hl:Np.bP l with
 | false=>rfl
 | true=>
  exfalso;unfold Np.bP at hl;simp only[Bool.and_eq_true,Qa,Bool.not_eq_true',beq_eq_false_iff_ne] at hl;obtain⟨⟨⟨_,h2⟩,h3⟩,h4⟩:=hl;have hb:=List.all_eq_true.1 h4 l[j] (List.getElem_mem hj);refine h ⟨l[j],aQ hj,?_⟩;simp only[Np.lG,Bool.or_eq_true,beq_iff_eq] at hb;rcases hb with (hb | hb) | hb
  ·exact .inl hb
  ·exact .inr (.inl hb)
  ·refine .inr (.inr ⟨hb,?_,?_⟩)
   ·refine Nat.pos_of_ne_zero λe=>?_;subst e;rw[List.head?_eq_getElem?,aQ hj,hb] at h2;exact h2 rfl
   ·refine Nat.lt_of_not_le λe=>?_
    have:j=l.length - 1:=by omega
    rw[List.getLast?_eq_getElem?,<-this,aQ hj,hb] at h3;exact h3 rfl
theorem WZ(s:ByteArray)(k:Nat)(hk:k<s.size):tV s.data.toList k↔((97<=(s[k].toNat:Int)/\(s[k].toNat:Int)<=122)\/(48<=(s[k].toNat:Int)/\(s[k].toNat:Int)<=57)\/((s[k].toNat:Int)=45/\0<k/\k+1<s.size)):=by
 unfold tV;rw[uN s k hk];simp only[Option.some.injEq,exists_eq_left'];have q9:s[k]=45↔(s[k].toNat:Int)=45:=by
  constructor
  ·intro h;rw[h];rfl
  ·intro h;apply UInt8.toNat_inj.1;have:s[k].toNat=45:=by omega
   rw[this];rfl
 rw[q9,aX];unfold Np.oS Np.mo;simp only[Bool.and_eq_true,Qa,UInt8.le_iff_toNat_le];have e1:(97:UInt8).toNat=97:=rfl;have e2:(122:UInt8).toNat=122:=rfl;have e3:(48:UInt8).toNat=48:=rfl;have e4:(57:UInt8).toNat=57:=rfl;rw[e1,e2,e3,e4];omega
theorem X9(s:ByteArray)(hs:s.size<=140737488355328)(w:World) :
 Calls prog 104 #[.string s] w (aeY w (.bool (Np.bP s.data.toList))):=by
 go_enter func104,ntmps104;go_wp2;go_loop [3] (λi=>∃ k:Nat,k<=s.size/\i = .int .i64 k/\Hid (∀ j,j<k->tV s.data.toList j)) (λi=>s.size - (intOf i).toNat)
 case atStart=>exact⟨0,jQ _,rfl,jq (λj h=>by omega)⟩
 case round=>
  obtain⟨k,hk,rfl,HA⟩:=hrel;by_cases aa:k<s.size
  ·have hb:=wk s[k];have HN:=jq (WZ s k aa);have zh:tV s.data.toList k->∀ j,j<k+1->tV s.data.toList j:=λh j hj=>by
    by_cases e:j=k
    ·subst e;exact h
    ·exact HA.out j (by omega)
   have HX:=jq zh;clear zh;have bL:(0:Int)<=k:=by omega
   by_cases q9:(s[k].toNat:Int)=45
   ·have hE:((s[k].toNat:Int) == 45)=true:=by simp[q9]
    have Dz:=jq q9;have Uv:(s[k].toNat:Int)<48:=by omega
    have amJ:(s[k].toNat:Int)<97:=by omega
    clear q9;by_cases hin:0<k/\k+1<s.size
    ·obtain⟨h1,h2⟩:=hin;have h3:(0:Int)<k:=by omega
     have h4:(k:Int)<(s.size:Int) - 1:=by omega
     go_wp2;go_round
     case rel=>exact⟨k+1,by omega,by go_num,jq (HX.out (HN.out.2 (.inr (.inr ⟨Dz.out,h1,h2⟩))))⟩
     case measure=>simp[intOf] <;> omega
    ·have HI:=jq hin;clear hin;go_wp2
     all_goals first
      | (go_ret
         exact⟨ae (Mt (by rw[aX];exact aa) (λh=>by have:=HN.out.1 h;have:=HI.out;omega)).symm,rfl⟩)
      | (exfalso;have:=HI.out;omega)
   ·have hE:((s[k].toNat:Int) == 45)=false:=by simp[q9]
    have Dz:=jq q9;clear q9;go_wp2
    all_goals first
     | (go_ret
        exact⟨ae (Mt (by rw[aX];exact aa) (λh=>by have:=HN.out.1 h;have:=Dz.out;omega)).symm,rfl⟩)
     | (go_round
        case rel=>exact⟨k+1,by omega,by go_num,jq (HX.out (HN.out.2 (by omega)))⟩
        case measure=>simp[intOf] <;> omega)
  ·have hf:Np.bP s.data.toList=(decide (1<=s.size)&&decide (s.size<=12)):=VR (λj hj=>HA.out j (by rw[aX] at hj;omega));have HF:=jq hf;clear hf;go_wp2
   all_goals
    go_ret;exact⟨ae (by rw[HF.out,Bool.eq_iff_iff];simp;omega),rfl⟩
theorem Yh(s:ByteArray)(hs:s.size<=140737488355328)(w:World) :
 Calls prog 300 #[.string s] w (aeY w (.bool (Np.iV s.data.toList))):=by
 go_enter func300,ntmps300;go_wp2
 all_goals first
  | (go_ret;exact⟨ae (Mm s ‹_›).symm,rfl⟩)
  | (go_ret;exact⟨ae (Mn s ‹_›).symm,rfl⟩)
  | (go_ret;exact⟨ae (Mo s (by omega) ‹_›).symm,rfl⟩)
  | (have h:((s[s.size - 1].toNat:Int) == 32)=true:=by assumption
     go_ret;exact⟨ae (Mp s (by omega) (by simpa using h)).symm,rfl⟩)
  | skip
 ·have h2:(s.size:Int)<=40:=by assumption
  have h3:¬ (s[0].toNat:Int)=32:=by assumption
  have h4:((s[s.size - 1].toNat:Int) == 32)=false:=by assumption
  have H4:=jq h4;clear h4;have H3:=jq h3;go_loop [4] (λi=>∃ k:Nat,k<=s.size/\i = .int .i64 k/\(s.data.toList.take k).all Np.mO=true) (λi=>s.size - (intOf i).toNat)
  case atStart=>exact⟨0,jQ _,rfl,rfl⟩
  case round=>
   obtain⟨k,hk,rfl,ha⟩:=hrel;have HA:=jq ha;clear ha;by_cases aa:k<s.size
   ·have hb:=wk s[k];by_cases hf:(97<=(s[k].toNat:Int)/\(s[k].toNat:Int)<=122)\/(48<=(s[k].toNat:Int)/\(s[k].toNat:Int)<=57)\/(s[k].toNat:Int)=32
    ·have hl:Np.mO s[k]=true:=by rw[BN];exact uQ hf
     have HL:=jq hl;clear hl;go_wp2
     all_goals first
      | (go_round
         case rel=>exact⟨k+1,by omega,by go_num,EW s k aa _ HA.out HL.out⟩
         case measure=>simp[intOf] <;> omega)
      | (exfalso
         have hne:((s[k].toNat:Int) != 32)=true:=by assumption
         have ze:=bne_iff_ne.1 hne;omega)
    ·have hl:Np.mO s[k]=false:=by rw[BN];exact tQ hf
     have HL:=jq hl;clear hl;go_wp2
     all_goals first
      | (go_ret;exact⟨ae (Mr s k aa HL.out).symm,rfl⟩)
      | (exfalso;omega)
      | (exfalso
         have hne:((s[k].toNat:Int) != 32)=false:=by assumption
         have ze:(s[k].toNat:Int)=32:=by simpa using hne
         omega)
   ·go_wp2;go_ret;exact⟨ae (Ms s (by omega) (by omega) H3.out (by simpa using H4.out) (by have:=HA.out;rwa [Dg s k (by omega)] at this)).symm,rfl⟩
theorem C4(s:ByteArray)(hs:s.size<=140737488355328)(w:World) :
 Calls prog 225 #[.string s] w (aeY w (.bool (Np.dO s.data.toList))):=by
 by_cases h0:0<s.size
 ·have he:((s[0].toNat:Int) == 42)=Np.dO s.data.toList:=by
   unfold Np.dO;rw[yI s h0]
   have:=no s[0] 42 (by decide)
   rw[Bool.eq_iff_iff] at this |-;simp only[beq_iff_eq,Qa,Option.some.injEq] at this |-;exact this.symm
  have HE:=jq he;clear he;go_enter func225,ntmps225;go_wp2
  all_goals
   go_ret;exact⟨ae HE.out,rfl⟩
 ·have he:Np.dO s.data.toList=false:=by
   have:s.data.toList = []:=rQ (by rw[aX];omega)
   rw[this];rfl
  have HE:=jq he;clear he;go_enter func225,ntmps225;go_wp2
  all_goals
   go_ret;exact⟨ae HE.out.symm,rfl⟩
theorem Nv(x lo hi:Int)(w:World) :
 Calls prog 223 #[.int .i64 x,.int .i64 lo,.int .i64 hi] w (aeY w (.bool (decide (lo<=x)&&decide (x<=hi)))):=by
 by_cases h1:lo<=x
 all_goals
  go_enter func223,ntmps223;go_wp2;go_ret;exact⟨ae (by simp;omega),rfl⟩
theorem Yg(x:Int)(w:World) :
 Calls prog 224 #[.int .i64 x] w (aeY w (.bool (decide (x=3)||decide (x=4)))):=by
 by_cases h1:x=3
 ·subst h1;go_enter func224,ntmps224;go_wp2;go_ret;exact⟨rfl,rfl⟩
 ·have h2:(x == 3)=false:=by simpa using h1
  go_enter func224,ntmps224;go_wp2;go_ret;refine⟨ae ?_,rfl⟩;rw[tQ h1,Bool.false_or];rfl
theorem Ya(s t:ByteArray)(n1 m1 n2 m2:Int)(w:World) :
 Calls prog 227 #[.agg #[.string s,.int .i64 n1,.int .i64 m1],.agg #[.string t,.int .i64 n2,.int .i64 m2]] w
  λe w'=>e = .returned (.bool (decide (Np.oC ⟨s.data.toList,n1,m1⟩ ⟨t.data.toList,n2,m2⟩<0)))/\Below w.heap.size w w':=by
 rw[<-Np.Wn];have hw:∀ o o',Below w.heap.size w ((w.alloc o).alloc o'):=λo o'=>((vQ _ w).alloc (bQ _) _).alloc (by simp) _;have HW:=jq hw;clear hw;go_enter func227,ntmps227;go_wp2
 all_goals
  go_ret;refine⟨ae ?_,HW.out _ _⟩;go_light;simp_all [Np.GP,dQ]
end
namespace Np
def ci(a:List UInt8)(l:List Signed):List (List UInt8):=(l.filter λx=>decide (x.set.type=2)&&!(x.set.name == a)).map (·.set.name)
theorem R0(a:List UInt8)(l:List Signed)(x:Signed):ci a (l ++ [x])=if x.set.type=2/\x.set.name≠a then ci a l ++ [x.set.name] else ci a l:=by
 unfold ci;rw[List.filter_append];by_cases h1:x.set.type=2 <;> by_cases h2:x.set.name=a <;> simp[h1,h2]
theorem zP{a:List UInt8}{l:List Signed}{c:List UInt8} : c∈ci a l↔cj ⟨a,l⟩ c=true:=by
 unfold ci;rw[E2,List.mem_map];constructor
 ·rintro⟨x,hx,rfl⟩;obtain⟨h1,h2⟩:=List.mem_filter.1 hx;simp only[Bool.and_eq_true,Qa,Bool.not_eq_true',beq_eq_false_iff_ne] at h2;exact⟨x,h1,h2.1,h2.2,rfl⟩
 ·rintro⟨x,hx,h1,h2,rfl⟩;exact⟨x,List.mem_filter.2 ⟨hx,by simpa [h1] using h2⟩,rfl⟩
theorem Kh{z:Zone}(h:InOrder z):(ci z.apex z.sets).Pairwise λa b=>aH a b<0:=by
 unfold ci;rw[List.pairwise_map];have h1:(z.sets.filter λx=>decide (x.set.type=2)&&!(x.set.name == z.apex)).Pairwise λa b=>fM a.set b.set<0:=by
  have:=h.order
  rw[List.pairwise_map] at this;exact this.sublist List.filter_sublist
 refine h1.imp_of_mem λ{a b} ha hb aa=>?_;obtain⟨_,ha⟩:=List.mem_filter.1 ha;obtain⟨_,hb⟩:=List.mem_filter.1 hb;simp only[Bool.and_eq_true,Qa] at ha hb;rcases Int.lt_or_eq_of_le (J5 aa) with h2 | h2
 ·exact h2
 ·have:=J6 aa (ej.zero _ _ h2)
  omega
def mS(out:List (List UInt8))(c:List UInt8):List (List UInt8):=
 match out.getLast? with
 | none=>[c]
 | some h=>if aZ c h=true then out else out ++ [c]
def dG(l:List (List UInt8)):List (List UInt8):=l.foldl mS []
theorem Li(l:List (List UInt8))(c:List UInt8):dG (l ++ [c])=mS (dG l) c:=by simp[dG]
structure xH(l out:List (List UInt8)):Prop where
 sub:out.Sublist l
 above:∀ c∈l,∃ h∈out,aZ c h=true
 top:∀ h∈out,∀ c∈l,aZ h c=true->c=h
theorem Ub{l out:List (List UInt8)}{c:List UInt8}(hne:∀ x∈l ++ [c],x≠[])(hs:(l ++ [c]).Pairwise λa b=>aH a b<0)(h:xH l out):xH (l ++ [c]) (mS out c):=by
 obtain⟨h1,_,h3⟩:=List.pairwise_append.1 hs;have aa:∀ x∈l,aH x c<0:=λx hx=>h3 x hx c (by simp);have hout:∀ x∈out,x∈l:=λx hx=>h.sub.subset hx;have K7:c≠[]:=hne c (by simp);have L9:∀ x∈l,aZ x c=true->False:=λx hx hu=>by
  have a1:=Dl K7 hu;have a2:=ej.anti _ _ (aa x hx);omega
 unfold mS
 cases hg:out.getLast? with
 | none=>
  have ho:out = []:=by simpa using hg
  have hl:l = []:=by
   cases l with
   | nil=>rfl
   | cons y l=>obtain⟨q,hq,_⟩:=h.above y (by simp);rw[ho] at hq;cases hq
  subst ho hl;refine⟨by simp,λx hx=>⟨c,by simp,?_⟩,λx hx y hy _=>?_⟩
  ·simp at hx;subst hx;exact Dm _
  ·simp at hx hy;rw[hx,hy]
 | some q=>
  have hq:q∈out:=List.mem_of_getLast? hg;dsimp only;split
  ·rename_i hu;refine⟨h.sub.trans (List.sublist_append_left _ _),λx hx=>?_,λx hx y hy bF=>?_⟩
   ·rcases List.mem_append.1 hx with hx | hx
    ·exact h.above x hx
    ·simp at hx;subst hx;exact⟨q,hq,hu⟩
   ·rcases List.mem_append.1 hy with hy | hy
    ·exact h.top x hx y hy bF
    ·simp at hy;subst hy;exact (L9 x (hout x hx) bF).elim
  ·rename_i hu;refine⟨List.Sublist.append h.sub (List.Sublist.refl _),λx hx=>?_,λx hx y hy bF=>?_⟩
   ·rcases List.mem_append.1 hx with hx | hx
    ·obtain⟨t,ht,ka⟩:=h.above x hx;exact⟨t,List.mem_append_left _ ht,ka⟩
    ·simp at hx;subst hx;exact⟨x,by simp,Dm _⟩
   ·rcases List.mem_append.1 hx with bA | bA
    ·rcases List.mem_append.1 hy with qv | qv
     ·exact h.top x bA y qv bF
     ·rw[List.mem_singleton] at qv;rw[qv] at bF;exact (L9 x (hout x bA) bF).elim
    ·simp at bA;subst bA;rcases List.mem_append.1 hy with hy | hy
     ·exfalso;obtain⟨t,ht,ka⟩:=h.above y hy;have L5:t≠[]:=hne t (List.mem_append_left _ (hout t ht));have Vp:y≠[]:=hne y (List.mem_append_left _ hy);have Me:=Ho Vp L5 bF ka;by_cases Gs:t=q
      ·subst Gs;exact hu Me
      ·obtain⟨o',ho'⟩:=List.getLast?_eq_some_iff.1 hg;have LX:out.Pairwise λa b=>aH a b<0:=h1.sublist h.sub;rw[ho'] at LX ht;have L6:t∈o':=by
        rcases List.mem_append.1 ht with ht | ht
        ·exact ht
        ·simp at ht;exact absurd ht Gs
       have rL:=(List.pairwise_append.1 LX).2.2 t L6 q (by simp);have UP:=aa q (hout q hq);have UO:=Hn L5 Me (Int.le_of_lt rL) (Int.le_of_lt UP);exact Gs (h.top q hq t (hout t (by rw[ho'];exact List.mem_append_left _ L6)) UO)
     ·simp at hy;exact hy
theorem Lk:∀ (r p:List (List UInt8)),(∀ x∈p++r,x≠[])->(p++r).Pairwise (λa b=>aH a b<0)->xH p (dG p)->xH (p++r) (dG (p++r))
 | [],p,_,_,h=>by rw[List.append_nil];exact h
 | c::r,p,hne,hs,h=>by
   have e:p++c::r=(p ++ [c])++r:=by simp
   rw[e] at hne hs |-;refine Lk r (p ++ [c]) hne hs ?_;rw[Li];exact Ub (λx hx=>hne x (List.mem_append_left _ hx)) (List.pairwise_append.1 hs).1 h
theorem Ua(l:List (List UInt8))(hne:∀ x∈l,x≠[])(hs:l.Pairwise λa b=>aH a b<0):xH l (dG l):=
 Lk l [] hne hs ⟨List.Sublist.refl _,λc hc=>(by cases hc),λh hh=>(by cases hh)⟩
theorem Lj{z:Zone}(h:InOrder z):Jt (cj z) (dG (ci z.apex z.sets))/\∀ c,cj z c=true->(∀ d,cj z d=true->aZ c d=true->d=c)->c∈dG (ci z.apex z.sets):=by
 have hne:∀ x∈ci z.apex z.sets,x≠[]:=λx hx=>xV h x (zP.1 hx);have ho:=Ua _ hne (Kh h);refine⟨⟨λc hc=>⟨zP.1 (ho.sub.subset hc),λd hd hu=>ho.top c hc d (zP.2 hd) hu⟩,(Kh h).sublist ho.sub⟩,λc hc ht=>?_⟩;obtain⟨t,h1,h2⟩:=ho.above c (zP.2 hc);rw[<-ht t (zP.1 (ho.sub.subset h1)) h2];exact h1
def iC(H:List (List UInt8))(k:Nat)(n:List UInt8):List UInt8:=if 0<k/\aZ n (H[k - 1]?.getD [])=true then H[k - 1]?.getD [] else []
theorem XX{z:Zone}(h:InOrder z){n:List UInt8}{k:Nat}(hk:k<=(dG (ci z.apex z.sets)).length)(h1:∀ j x,j<k->(dG (ci z.apex z.sets))[j]?=some x->aH x n<=0)(h2:∀ j x,k<=j->(dG (ci z.apex z.sets))[j]?=some x->0<aH x n):ik (cj z) n (iC (dG (ci z.apex z.sets)) k n):=by
 obtain⟨p1,p2⟩:=Lj h
 have:=Uc (xV h) p1 (n:=n) (λc hc ht _=>p2 c hc ht) hk (λj hj yS=>h1 j _ yS (aQ hj)) (λj hj yS=>h2 j _ yS (aQ hj))
 unfold iC;split
 ·rename_i hc;rw[dif_pos hc] at this;exact this
 ·rename_i hc;rw[dif_neg hc] at this;exact this
def Stop(y:List UInt8):Prop:=y = []\/∃ c r,y=c::r/\qx c=false
def Lx(x:List UInt8)(ts:List Tok)(free:Bool):Prop:=
 ∀ (y:List UInt8) (p k:Nat),(free=true\/Stop y)->k<=2000->
   (k+ts.length<=2000->∃ ts',ts'.map BD=ts.map BD/\mZ (x++y) p k=(ts'++(mZ y (p+x.length) (k+ts.length)).1,(mZ y (p+x.length) (k+ts.length)).2))/\
   (2000<k+ts.length->(mZ (x++y) p k).2.1=2)
theorem Lx.weaken{x:List UInt8}{ts:List Tok}{f:Bool}(h:Lx x ts f):Lx x ts false:=λy p k hy hk=>
 h y p k (.inr (by rcases hy with hy | hy;cases hy;exact hy)) hk
theorem Wu:∀ (s:List UInt8) (c:UInt8),c∈s->c=46\/∃ x∈aT s,c∈x:=by
 intro s
 induction s with
 | nil=>intro c h;cases h
 | cons a r ih=>
  intro c hc;rw[aT];by_cases ha:a=46
  ·rw[Qb ha];rcases List.mem_cons.1 hc with e | e
   ·exact .inl (e.trans ha)
   ·rcases ih c e with h | ⟨x,hx,Cf⟩
    ·exact .inl h
    ·exact .inr ⟨x,mQ _ hx,Cf⟩
  ·rw[Qc ha];have hne:=o8 r
   cases hr:aT r with
   | nil=>exact absurd hr hne
   | cons y ys=>
    rw[hr] at ih;rcases List.mem_cons.1 hc with e | e
    ·exact .inr ⟨a::y,by simp,by simp[e]⟩
    ·rcases ih c e with h | ⟨x,hx,Cf⟩
     ·exact .inl h
     ·rcases List.mem_cons.1 hx with rfl | hx
      ·exact .inr ⟨a::x,by simp,by simp[Cf]⟩
      ·exact .inr ⟨x,by simp[hx],Cf⟩
theorem V4{c:UInt8}(h:lG c=true):qx c=true:=by
 unfold lG at h;have hl:∀ c:UInt8,oS c=true\/mo c=true->cls c=3:=by
  intro c h;have hne:¬ (c=32\/c=9\/c=10)/\c≠35:=by
   constructor
   ·rintro (rfl | rfl | rfl) <;> revert h <;> decide
   ·rintro rfl;revert h;decide
  unfold cls;rw[Qc hne.1,Qc hne.2,Qb (by rcases h with h | h <;> simp[h])]
 simp only[Bool.or_eq_true,beq_iff_eq] at h;unfold qx;rcases h with h | h
 ·rw[hl c h];rfl
 ·subst h;decide
theorem Wp{c:UInt8}(h:oS c=true\/mo c=true):cls c=3:=by
 have hne:¬ (c=32\/c=9\/c=10)/\c≠35:=by
  constructor
  ·rintro (rfl | rfl | rfl) <;> revert h <;> decide
  ·rintro rfl;revert h;decide
 unfold cls;rw[Qc hne.1,Qc hne.2,Qb (by rcases h with h | h <;> simp[h])]
theorem V5{x:List UInt8}(h:bP x=true\/x = [42]):∀ c∈x,qx c=true:=by
 rcases h with h | rfl
 ·unfold bP at h;simp only[Bool.and_eq_true] at h;exact λc hc=>V4 (List.all_eq_true.1 h.2 c hc)
 ·intro c hc;simp at hc;subst hc;decide
theorem V6{x:List UInt8}(h:bP x=true\/x = [42]):∃ c r,x=c::r/\cls c=3:=by
 rcases h with h | rfl
 ·unfold bP at h;simp only[Bool.and_eq_true,Qa,Bool.not_eq_true',beq_eq_false_iff_ne] at h
  cases x with
  | nil=>simp at h
  | cons c r=>
   refine⟨c,r,rfl,Wp ?_⟩;have h1:=List.all_eq_true.1 h.2 c (by simp);have h2:=h.1.1.2;simp only[List.head?_cons,ne_eq,Option.some.injEq] at h2;simp only[lG,Bool.or_eq_true,beq_iff_eq] at h1;rcases h1 with h1 | h1
   ·exact h1
   ·exact absurd h1 h2
 ·exact⟨42,[],rfl,by decide⟩
theorem Hd:∀ (s:List UInt8),∃ h t,aT s=h::t/\(∀ c r,h=c::r->∃ r',s=c::r'):=by
 intro s
 cases s with
 | nil=>exact⟨[],[],rfl,λc r h=>by cases h⟩
 | cons a r=>
  rw[aT];by_cases ha:a=46
  ·rw[Qb ha];exact⟨[],_,rfl,λc r h=>by cases h⟩
  ·rw[Qc ha];have hne:=o8 r
   cases hr:aT r with
   | nil=>exact absurd hr hne
   | cons x xs=>exact⟨a::x,xs,rfl,λc r' h=>by cases h;exact⟨_,rfl⟩⟩
theorem vL{s:List UInt8}(h:aD s=true):s.length<=60/\(s = [46]\/∃ c r,s=c::r/\cls c=3/\s.all qx=true):=by
 unfold aD at h;split at h
 ·rename_i e;subst e;exact⟨by decide,.inl rfl⟩
 ·split at h
  ·cases h
  ·rename_i BR;have hg:=KD _ _ _ h;have hl:∀ x∈aT s,bP x=true\/x = [42]:=λx hx=>(hg x (List.mem_reverse.2 hx)).symm;obtain⟨a,t,e1,e2⟩:=Hd s;obtain⟨c,r,rfl,hc⟩:=V6 (hl a (by rw[e1];simp));obtain⟨r',rfl⟩:=e2 c r rfl;refine⟨by omega,.inr ⟨c,r',rfl,hc,List.all_eq_true.2 λb hb=>?_⟩⟩;rcases Wu _ b hb with rfl | ⟨x,hx,eN⟩
   ·decide
   ·exact V5 (hl x hx) b eN
theorem Kl{k:Nat}(h:k<10):mo (UInt8.ofNat (48+k))=true/\(UInt8.ofNat (48+k)).toNat=48+k:=by
 have:k=0\/k=1\/k=2\/k=3\/k=4\/k=5\/k=6\/k=7\/k=8\/k=9:=by omega
 rcases this with rfl | rfl | rfl | rfl | rfl | rfl | rfl | rfl | rfl | rfl <;> exact⟨by decide,by decide⟩
theorem E4(n:Nat):(lX n).all mo=true/\lX n≠[]/\dec (lX n)=n/\(1<=n->(lX n).head?≠some 48)/\(n<10->(lX n).length=1):=by
 induction n using Nat.strongRecOn with
 | ind n ih=>
  rw[lX];split
  ·rename_i h;have hd:=Kl h;refine⟨by rw[List.all_cons,hd.1];rfl,by simp,by show 10 * 0+((UInt8.ofNat (48+n)).toNat - 48)=n;rw[hd.2];omega,λh1=>?_,λ_=>rfl⟩;simp only[List.head?_cons,ne_eq,Option.some.injEq];intro e
   have:=Qd UInt8.toNat e
   rw[hd.2] at this;simp at this;omega
  ·rename_i h;obtain⟨i1,i2,i3,i4,_⟩:=ih (n / 10) (by omega);have hd:=Kl (k:=n % 10) (by omega);refine⟨by rw[List.all_append,i1,List.all_cons,hd.1];rfl,by simp,?_,λ_=>?_,λh2=>absurd h2 h⟩
   ·rw[R4,i3,hd.2];omega
   ·rw[TP i2];exact i4 (by omega)
def ck(n:Int):List UInt8:=lX n.toNat
def qX(d:Datum):List (List UInt8):=[d.text,ck d.n,ck d.m]
def qA(g:Sig):List (List UInt8):=[g.zone,ck g.key,ck g.alg,ck g.frm,ck g.til,ck g.sum]
def xY(s:Signed):List (List UInt8):=[s.set.name,ck s.set.type,ck s.set.life,ck s.set.data.length]++(s.set.data.flatMap qX++s.sigs.flatMap qA)
def fG(l:List (List UInt8)):List UInt8:=l.flatMap λf=>f ++ [47]
def iz(s:Signed):List UInt8:=fG (xY s)
theorem NW:∀ (x y r q:List UInt8),47∉x->47∉y->x++47::r=y++47::q->x=y/\r=q
 | [],[],r,q,_,_,h=>⟨rfl,by simpa using h⟩
 | [],b::y,r,q,_,hy,h=>by
   simp only[List.nil_append,List.cons_append,List.cons.injEq] at h;exact absurd (h.1 ▸ List.mem_cons_self) hy
 | a::x,[],r,q,hx,_,h=>by
   simp only[List.nil_append,List.cons_append,List.cons.injEq] at h;exact absurd (h.1 ▸ List.mem_cons_self) hx
 | a::x,b::y,r,q,hx,hy,h=>by
   simp only[List.cons_append,List.cons.injEq] at h;obtain⟨h1,h2⟩:=NW x y r q (λhm=>hx (mQ _ hm)) (λhm=>hy (mQ _ hm)) h.2;exact⟨by rw[h.1,h1],h2⟩
theorem xX(f:List UInt8)(l:List (List UInt8)):fG (f::l)=f++47::fG l:=by simp[fG]
theorem Km:∀ (a b:List (List UInt8)),(∀ x∈a,47∉x)->(∀ x∈b,47∉x)->fG a=fG b->a=b
 | [],[],_,_,_=>rfl
 | [],f::b,_,_,h=>by rw[xX] at h;simp[fG] at h
 | f::a,[],_,_,h=>by rw[xX] at h;simp[fG] at h
 | f::a,g::b,ha,hb,h=>by
   rw[xX,xX] at h;obtain⟨h1,h2⟩:=NW f g _ _ (ha f (by simp)) (hb g (by simp)) h;rw[h1,Km a b (λx hx=>ha x (mQ _ hx)) (λx hx=>hb x (mQ _ hx)) h2]
theorem oD{a b:Int}(ha:0<=a)(hb:0<=b)(h:ck a=ck b):a=b:=by
 have h1:=(E4 a.toNat).2.2.1;have h2:=(E4 b.toNat).2.2.1;unfold ck at h;rw[h] at h1;omega
theorem oE(a:Int):47∉ck a:=λhm=>by
 have h1:=(E4 a.toNat).1
 have:=List.all_eq_true.1 h1 47 hm
 revert this;decide
structure Plain47(s:Signed):Prop where
 name:47∉s.set.name
 type:0<=s.set.type
 life:0<=s.set.life
 data:∀ d∈s.set.data,47∉d.text/\0<=d.n/\0<=d.m
 sigs:∀ g∈s.sigs,47∉g.zone/\0<=g.key/\0<=g.alg/\0<=g.frm/\0<=g.til/\0<=g.sum
theorem Plain47.fields{s:Signed}(h:Plain47 s):∀ x∈xY s,47∉x:=λx hx=>by
 unfold xY at hx;rcases List.mem_append.1 hx with hx | hx
 ·simp only[List.mem_cons,Qh,or_false] at hx;rcases hx with rfl | rfl | rfl | rfl
  ·exact h.name
  ·exact oE _
  ·exact oE _
  ·exact oE _
 ·rcases List.mem_append.1 hx with hx | hx
  ·obtain⟨d,hd,hx⟩:=List.mem_flatMap.1 hx;simp only[qX,List.mem_cons,Qh,or_false] at hx;rcases hx with rfl | rfl | rfl
   ·exact (h.data d hd).1
   ·exact oE _
   ·exact oE _
  ·obtain⟨g,hg,hx⟩:=List.mem_flatMap.1 hx;simp only[qA,List.mem_cons,Qh,or_false] at hx;rcases hx with rfl | rfl | rfl | rfl | rfl | rfl
   ·exact (h.sigs g hg).1
   ·exact oE _
   ·exact oE _
   ·exact oE _
   ·exact oE _
   ·exact oE _
theorem Ki:∀ (a b:List Datum) (r q:List (List UInt8)),a.length=b.length->(∀ d∈a,0<=d.n/\0<=d.m)->(∀ d∈b,0<=d.n/\0<=d.m)->a.flatMap qX++r=b.flatMap qX++q->a=b/\r=q
 | [],[],r,q,_,_,_,h=>⟨rfl,by simpa using h⟩
 | [],_::_,_,_,hl,_,_,_=>by simp at hl
 | _::_,[],_,_,hl,_,_,_=>by simp at hl
 | x::a,y::b,r,q,hl,ha,hb,h=>by
   simp only[List.flatMap_cons,qX,List.cons_append,List.nil_append,List.cons.injEq] at h;obtain⟨h1,h2,h3,h4⟩:=h;obtain⟨h5,h6⟩:=Ki a b r q (by simpa using hl) (λd hd=>ha d (mQ _ hd)) (λd hd=>hb d (mQ _ hd)) h4;have hx:=ha x (by simp);have hy:=hb y (by simp);have e:x=y:=by
    obtain⟨_,_,_⟩:=x;obtain⟨_,_,_⟩:=y;simp only at h1 h2 h3 hx hy;rw[h1,oD hx.1 hy.1 h2,oD hx.2 hy.2 h3]
   exact⟨by rw[e,h5],h6⟩
theorem NU:∀ (a b:List Sig),(∀ g∈a,0<=g.key/\0<=g.alg/\0<=g.frm/\0<=g.til/\0<=g.sum)->(∀ g∈b,0<=g.key/\0<=g.alg/\0<=g.frm/\0<=g.til/\0<=g.sum)->a.flatMap qA=b.flatMap qA->a=b
 | [],[],_,_,_=>rfl
 | [],_::_,_,_,h=>by simp[qA] at h
 | _::_,[],_,_,h=>by simp[qA] at h
 | x::a,y::b,ha,hb,h=>by
   simp only[List.flatMap_cons,qA,List.cons_append,List.nil_append,List.cons.injEq] at h;obtain⟨h1,h2,h3,h4,h5,h6,h7⟩:=h;have hx:=ha x (by simp);have hy:=hb y (by simp);have e:x=y:=by
    obtain⟨_,_,_,_,_,_⟩:=x;obtain⟨_,_,_,_,_,_⟩:=y;simp only at h1 h2 h3 h4 h5 h6 hx hy;rw[h1,oD hx.1 hy.1 h2,oD hx.2.1 hy.2.1 h3,oD hx.2.2.1 hy.2.2.1 h4,oD hx.2.2.2.1 hy.2.2.2.1 h5,oD hx.2.2.2.2 hy.2.2.2.2 h6]
   rw[e,NU a b (λg hg=>ha g (mQ _ hg)) (λg hg=>hb g (mQ _ hg)) h7]
theorem Mw{s t:Signed}(hs:Plain47 s)(ht:Plain47 t)(h:iz s=iz t):s=t:=by
 have h:=Km _ _ hs.fields ht.fields h;unfold xY at h;simp only[List.cons_append,List.nil_append,List.cons.injEq] at h;obtain⟨h1,h2,h3,h4,h5⟩:=h;have e4:=oD (by omega) (by omega) h4;obtain⟨h6,h7⟩:=Ki _ _ _ _ (by omega) (λd hd=>(hs.data d hd).2) (λd hd=>(ht.data d hd).2) h5;have h8:=NU _ _ (λg hg=>(hs.sigs g hg).2) (λg hg=>(ht.sigs g hg).2) h7;have e2:=oD hs.type ht.type h2;have e3:=oD hs.life ht.life h3;obtain⟨⟨_,_,_,_⟩,_⟩:=s;obtain⟨⟨_,_,_,_⟩,_⟩:=t;simp only at h1 e2 e3 h6 h8;rw[h1,e2,e3,h6,h8]
end Np
end Go.Proofs.YtfnopgdcaanaiaaGreatDoor
namespace Go.Proofs
open YtfnopgdcaanaiaaGreatDoor
open Go.Shelf
def Tryz.laysM171_ren:Go.Shelf.Ren:=⟨fun | 171=>132 | 243=>211 | 246=>284 | 283=>285 | 284=>286 | 285=>287 | 286=>288 | 129=>260 | 317=>338 | 318=>339 | 319=>340 | 320=>341 | 337=>360 | 338=>361 | n=>n,fun | 3=>3 | 9=>9 | 2=>2 | 4=>4 | 171=>328 | 0=>0 | 53=>48 | 37=>196 | 5=>5 | 173=>330 | 212=>368 | 51=>92 | 20=>20 | 213=>369 | 46=>249 | 232=>384 | 233=>385 | n=>n,fun | 17=>1 | 18=>3 | 19=>4 | n=>n⟩
theorem Tryz.laysM171:Go.Proofs.LaysM.n171 Tryz.prog Tryz.laysM171_ren:={
 mixed:=by kernel_rfl
 f129:=Tryz.func260.trans (adQ)
 f171:=Tryz.func132.trans (adQ)
 f243:=Tryz.func211.trans (adQ)
 f246:=Tryz.func284.trans (adQ)
 f283:=Tryz.func285.trans (adQ)
 f284:=Tryz.func286.trans (adQ)
 f285:=Tryz.func287.trans (adQ)
 f286:=Tryz.func288.trans (adQ)
 f317:=Tryz.func338.trans (adQ)
 f318:=Tryz.func339.trans (adQ)
 f319:=Tryz.func340.trans (adQ)
 f320:=Tryz.func341.trans (adQ)
 f337:=Tryz.func360.trans (adQ)
 f338:=Tryz.func361.trans (adQ)
 t0:=Tryz.underlying0
 a0:=Tryz.isAgg0
 z0:=Tryz.sizeOf0
 v0:=Tryz.zeroValue0
 t2:=Tryz.underlying2
 a2:=Tryz.isAgg2
 z2:=Tryz.sizeOf2
 v2:=Tryz.zeroValue2
 t3:=Tryz.underlying3
 a3:=Tryz.isAgg3
 z3:=Tryz.sizeOf3
 v3:=Tryz.zeroValue3
 t4:=Tryz.underlying4
 a4:=Tryz.isAgg4
 z4:=Tryz.sizeOf4
 v4:=Tryz.zeroValue4
 t5:=Tryz.underlying5
 a5:=Tryz.isAgg5
 z5:=Tryz.sizeOf5
 v5:=Tryz.zeroValue5
 t9:=Tryz.underlying9
 a9:=Tryz.isAgg9
 z9:=Tryz.sizeOf9
 v9:=Tryz.zeroValue9
 t20:=Tryz.underlying20
 a20:=Tryz.isAgg20
 z20:=Tryz.sizeOf20
 v20:=Tryz.zeroValue20
 t37:=Tryz.underlying196
 a37:=Tryz.isAgg196
 z37:=Tryz.sizeOf196
 v37:=Tryz.zeroValue196
 t46:=Tryz.underlying249
 a46:=Tryz.isAgg249
 z46:=Tryz.sizeOf249
 v46:=Tryz.zeroValue249
 t51:=Tryz.underlying92
 a51:=Tryz.isAgg92
 z51:=Tryz.sizeOf92
 v51:=Tryz.zeroValue92
 t53:=Tryz.underlying48
 a53:=Tryz.isAgg48
 z53:=Tryz.sizeOf48
 v53:=Tryz.zeroValue48
 t171:=Tryz.underlying328
 a171:=Tryz.isAgg328
 z171:=Tryz.sizeOf328
 v171:=Tryz.zeroValue328
 t173:=Tryz.underlying330
 a173:=Tryz.isAgg330
 z173:=Tryz.sizeOf330
 v173:=Tryz.zeroValue330
 t212:=Tryz.underlying368
 a212:=Tryz.isAgg368
 z212:=Tryz.sizeOf368
 v212:=Tryz.zeroValue368
 t213:=Tryz.underlying369
 a213:=Tryz.isAgg369
 z213:=Tryz.sizeOf369
 t232:=Tryz.underlying384
 a232:=Tryz.isAgg384
 z232:=Tryz.sizeOf384
 v232:=Tryz.zeroValue384
 t233:=Tryz.underlying385
 a233:=Tryz.isAgg385
 z233:=Tryz.sizeOf385
 v233:=Tryz.zeroValue385
 g17:=by kernel_rfl
 g18:=by kernel_rfl
 g19:=by kernel_rfl
 i0:=by kernel_rfl
 i2:=by kernel_rfl
 i3:=by kernel_rfl
 i4:=by kernel_rfl
 i5:=by kernel_rfl
 i9:=by kernel_rfl
 i20:=by kernel_rfl
 i37:=by kernel_rfl
 i46:=by kernel_rfl
 i51:=by kernel_rfl
 i53:=by kernel_rfl
 i171:=by kernel_rfl
 i173:=by kernel_rfl
 i212:=by kernel_rfl
 i232:=by kernel_rfl
 i233:=by kernel_rfl
 m17:=by kernel_rfl
 m18:=by kernel_rfl
 m19:=by kernel_rfl }
open Go.RowKit Go.Sort Go.Lib in
theorem Tryz.strconv_Itoa(n:Int)(h0 : -9223372036854775808<=n)(h1:n<=9223372036854775807)(w:World)(zB:Lib.TabIs Tryz.prog w "internal/strconv.uint64pow10" .u64 Lib.pow10Tab) :
 Calls Tryz.prog 132 #[.int .i64 n] w λe w'=>e = .returned (.string ⟨(Lib.itoa n).toArray⟩)/\∃ k os,w'=grow (w.drewN k) os:=Any.strconv_Itoa Tryz.laysM171 n h0 h1 w zB
end Go.Proofs
namespace Go.Proofs.YtfnopgdcaanaiaaGreatDoor
open Go.Proofs.Tryz
section
open Go.RowKit Go.Sort Go.Lib
theorem Su(u:Nat)(zC:u<18446744073709551616)(w:World)(zB:Lib.TabIs prog w "internal/strconv.uint64pow10" .u64 Lib.pow10Tab) :
 Calls prog 212 #[.int .u64 u,.int .i64 10] w λe w'=>e = .returned (.string ⟨(Lib.decDigits u).toArray⟩)/\∃ k os,w'=grow (w.drewN k) os:=by
 have tK:∀ w,1<=u->Lib.TabIs prog w "internal/strconv.uint64pow10" .u64 Lib.pow10Tab->Calls prog 286 #[.int .u64 u] w λe w'=>e = .returned (.int .i64 (Lib.nDigits u))/\w'=w:=λw h1 h=>Any.internal_strconv_numDigits { Tryz.laysM171 with } u h1 zC w h;by_cases hs:u<100
 ·have UY:∀ w,Calls prog 285 #[.int .i64 u] w λe w'=>e = .returned (.string ⟨(Lib.decDigits u).toArray⟩)/\w'=w:=λw=>Any.internal_strconv_small { Tryz.laysM171 with } u hs w;go_enter func212,ntmps212;go_wp2_with fail;refine (UY _).mono ?_;rintro e w' ⟨rfl,rfl⟩;go_wp2_with fail;go_ret;exact⟨rfl,0,#[],by simp[World.drewN_zero]⟩
 ·have rM:1<=u:=by omega
  have aoK:Lib.nDigits u<=20:=by have:=Lib.numDigits_eq u rM zC;split at this <;> omega
  have ah:Lib.nDigits u<=24:=by omega
  have jW:prog.arrayLen 328=24:=by simp[Program.arrayLen,underlying328]
  have dY:∀ W,(Instr.sliceAt 328 (.pointer (some ⟨w.heap.size,0,none⟩)) none (some (.int .i64 (Lib.nDigits u:Int))) none).run prog W = .ok (.slice (some ⟨w.heap.size,0,none⟩) (Lib.nDigits u) 24) W:=λW=>by
   rw[run_sliceAt_array_h W 328 ⟨w.heap.size,0,none⟩ (by simp[Program.arrayLen,Program.elem,underlying328]) .i64 (Lib.nDigits u:Int) (by omega) (by rw[jW];omega)];go_simp
  have Fq:=Lib.holds_zero0 w 328 (Lib.nDigits u) (by omega);have Lf:Calls prog 287 #[.slice (some ⟨w.heap.size,0,none⟩) (Array.replicate (Lib.nDigits u) (0:UInt8)).size 24,.int .u64 u] (w.alloc (.cells Lib.zeros24 328)) λe w'=>e = .returned (.tuple #[])/\∃ (n v':Nat) (dk:Array UInt8),w'=(putRow (λ(b:UInt8)=>Value.int .u8 (b.toNat:Int)) (w.alloc (.cells Lib.zeros24 328)) w.heap.size 0 dk).drewN n/\FmtInv (Array.replicate (Lib.nDigits u) (0:UInt8)).size u 0 v' dk:=Any.internal_strconv_formatBase10 { Tryz.laysM171 with } w.heap.size 0 24 u (Array.replicate (Lib.nDigits u) 0) (w.alloc (.cells Lib.zeros24 328)) Fq (by rw[Array.size_replicate];exact Lib.lt_pow_nDigits u) zC (by rw[Array.size_replicate];omega);rw[Array.size_replicate] at Lf;have PH:=jq Fq;clear Fq jW;go_enter func212,ntmps212;go_wp2_with fail;refine (tK _ rM (Lib.tabIs_alloc zB _)).mono ?_;rintro e w' ⟨rfl,rfl⟩;go_wp2_with fail;refine Lf.mono ?_;rintro e w' ⟨rfl,k,v',dk,rfl,hF⟩;have hcv:(convert 196 9 (.slice (some ⟨w.heap.size,0,none⟩) (Lib.nDigits u) 24)).run prog ((putRow (λ(b:UInt8)=>Value.int .u8 (b.toNat:Int)) (w.alloc (.cells Lib.zeros24 328)) w.heap.size 0 dk).drewN k) = .ok (.string ⟨(Lib.decDigits u).toArray⟩) ((putRow (λ(b:UInt8)=>Value.int .u8 (b.toNat:Int)) (w.alloc (.cells Lib.zeros24 328)) w.heap.size 0 dk).drewN k):=by
   have h:=run_convert_bytes_back (P:=prog) ((putRow (λ(b:UInt8)=>Value.int .u8 (b.toNat:Int)) (w.alloc (.cells Lib.zeros24 328)) w.heap.size 0 dk).drewN k) 196 9 5 ⟨w.heap.size,0,none⟩ 24 (Lib.decDigits u) underlying196 underlying5 underlying9 (λj hj=>by
    rw[Lib.row_is_numeral hF j hj,Lib.add_plain,World.cell?_drewN];exact cell?_putRow (λ(b:UInt8)=>Value.int .u8 (b.toNat:Int)) _ w.heap.size 0 _ dk PH.out (by rw[hF.size,Array.size_replicate]) j (by rw[hF.size];rw[Lib.decDigits_length] at hj;exact hj))
   rw[Lib.decDigits_length] at h;exact h
  go_wp2;go_ret;obtain⟨os,eo⟩:=Lib.fin_at w (.cells Lib.zeros24 328) dk k 0;exact⟨rfl,k,os,eo⟩
theorem Sv(u:Nat)(zC:u<18446744073709551616)(w:World)(zB:Lib.TabIs prog w "internal/strconv.uint64pow10" .u64 Lib.pow10Tab) :
 Calls prog 133 #[.int .u64 u,.int .i64 10] w λe w'=>e = .returned (.string ⟨(Lib.decDigits u).toArray⟩)/\∃ k os,w'=grow (w.drewN k) os:=by
 go_enter func133,ntmps133;go_wp2_with fail;refine (Su u zC w zB).mono ?_;rintro e w' ⟨rfl,k,os,rfl⟩;go_wp2_with fail;go_ret;exact⟨rfl,k,os,rfl⟩
end
namespace Np
theorem R5:∀ (k n:Nat),n<10 ^ (k+1)->(lX n).length<=k+1:=by
 intro k
 induction k with
 | zero=>intro n h;rw[lX,Qb (by simpa using h)];simp
 | succ k ih=>
  intro n h;rw[lX];split
  ·simp
  ·have:=ih (n / 10) (by rw[Nat.pow_succ] at h;omega)
   simp only[List.length_append,List.length_singleton];omega
end Np
section
section
variable {P:Program} {ops:Array Oper} {Q:Exit->Act->World->Prop} {n l:Nat}
theorem Yr{row:String}{args:Array Value}{w:World}{R:Value->World->Prop}(h:Rows P row args w R):RowsIn (Fence.wide.inRound l) n P row args w R:=by
 intro c cs _;obtain⟨v,w',r,s⟩:=h c cs;exact⟨v,w',r,stepsIn_wide.2 s⟩
theorem ZS{o:Oper}{a:Act}{K:Act->World->Prop}{w:World}(hd:∀ c,o.op≠.defer c)(yf:¬ LetsOut Q)(h:o.wp P a w K Q\/(o.asks P a w/\LetsOut Q)):o.wpIn (Fence.wide.inRound l) n P a w K Q:=by
 have h:=h.resolve_right (λe=>yf e.2);refine⟨λf _=>trivial,?_⟩;rw[Oper.semAt_eq _ _ _ hd];unfold Oper.wp at h;generalize (execOp a.eval o).run P w=r at *
 cases r with
 | ok x w'=>
  cases x <;> simp only[Oper.upon,Oper.uponIn] at h |- <;> first | exact h | exact h.elim | skip
  ·exact⟨λe=>by simp[Fence.wide] at e,CallsIn.inRound l (callsIn_wide.2 h)⟩
  ·exact⟨λe=>by simp[Fence.wide] at e,Yr h⟩
 | halt x w'=>cases x <;> simp only[Oper.upon,Oper.uponIn] at h |- <;> first | exact h | exact h.elim
theorem ZP{md:Region.Mode}(hd:∀ (i:Nat) (o:Oper),ops[i]?=some o->∀ c,o.op≠.defer c)(yf:¬ LetsOut Q):∀ (f:Nat) {listed:Array Bool} {a:Act} {w:World},wpAny P md ops Q f listed a w->wpAnyIn (Fence.wide.inRound l) n P md ops Q f listed a w:=by
 intro f
 induction f with
 | zero=>exact λh=>h
 | succ f ih=>
  intro listed a w h;refine⟨h.1,λi hi=>?_⟩;have h2:=h.2 i hi;unfold wpOp at h2;unfold wpOpIn
  cases ho:ops[i]? with
  | none=>rw[ho] at h2;exact ih h2
  | some o=>
   rw[ho] at h2;dsimp only at h2 |-;split at h2
   ·rename_i hw;rw[Qb hw];refine Oper.wpIn_mono (λa w h=>ih h) (ZS (hd i o ho) yf h2)
   ·rename_i hw;rw[Qc hw];exact⟨λ_ _=>trivial,ih h2⟩
end
def GT(ops:Array Oper):Bool:=ops.all λo=>match o.op with | .defer _=>false | _=>true
theorem WO{ops:Array Oper}(h:GT ops=true):∀ (i:Nat) (o:Oper),ops[i]?=some o->∀ c,o.op≠.defer c:=λi o ho c e=>by
 unfold GT at h;rw[Array.all_eq_true] at h;obtain⟨hi,hg⟩:=eQ.1 ho
 have:=h i hi
 rw[hg,e] at this
 cases this
section
variable {P:Program} {ops:Array Oper} {Q:Exit->Act->World->Prop} {n l id:Nat} {a:Act} {w:World}
theorem Hz(hd:GT ops=true)(hm:P.follows .mixedOrders=true)(yf:¬ LetsOut Q)(h:wpAny P .any ops Q ops.size (Array.replicate ops.size false) a w.drew):(Code.region id ops true).wpIn (Fence.wide.inRound l) n P Q a w:=
 wpIn_region_any hm (ZP (WO hd) yf _ h)
end
theorem Dq{F:Fence}{n:Nat}{P:Program}{c:Code}{Q:Exit->Act->World->Prop}{a:Act}{w:World}(h:∀ a0,a0=a->c.wpIn F n P Q a0 w):c.wpIn F n P Q a w:=h a rfl
section
variable {P:Program} {ops:Array Oper} {Q:Exit->Act->World->Prop} {n l:Nat}
end
end
end Go.Proofs.YtfnopgdcaanaiaaGreatDoor
