/- No condition. -/
import Derived.Test.YtadhigmjilijcaaGreatDoorH01
set_option linter.all false
set_option maxRecDepth 100000
set_option maxHeartbeats 8000000
namespace Go.Proofs.YtadhigmjilijcaaGreatDoor
open Go.Proofs.Tryz
namespace Np
def dz(z:Zone)(n:List UInt8):Bool:=z.sets.any λx=>decide (x.set.type=2)&&!(x.set.name == z.apex)&&x.set.name == n
theorem JF{z:Zone}{n:List UInt8} : dz z n=true↔∃ x∈z.sets,x.set.type=2/\x.set.name≠z.apex/\x.set.name=n:=by
 unfold dz;rw[List.any_eq_true];constructor
 ·rintro⟨x,hx,h⟩;simp only[Bool.and_eq_true,Qa,Bool.not_eq_true',beq_eq_false_iff_ne,beq_iff_eq] at h;exact⟨x,hx,h.1.1,h.1.2,h.2⟩
 ·rintro⟨x,hx,h1,h2,h3⟩;refine⟨x,hx,?_⟩;rw[h3] at h2 |-;simp[h1,h2]
def oZ(C:List UInt8->Bool):List UInt8->List Signed->List (List UInt8)
 | _,[]=>[]
 | cut,x::r=>ew C cut x.set.name::oZ C (ew C cut x.set.name) r
def eT(z:Zone):List (List UInt8):=oZ (dz z) [] z.sets
theorem PW(C:List UInt8->Bool):∀ (cut:List UInt8) (l:List Signed),(oZ C cut l).length=l.length
 | _,[]=>rfl
 | cut,x::r=>by rw[oZ,List.length_cons,PW,List.length_cons]
theorem uH(z:Zone):(eT z).length=z.sets.length:=PW _ _ _
structure InOrder(z:Zone):Prop where
 order:(z.sets.map (·.set)).Pairwise λa b=>ic a b<0
 name:∀ x∈z.sets,x.set.name≠[]
 type:∀ x∈z.sets,x.set.type<=8
theorem P8{a b:DSet}(h:ic a b<0):br a.name b.name<=0:=by
 rw[Fa] at h;split at h
 ·omega
 ·rename_i h0;have:=Decidable.not_not.1 h0;omega
theorem P9{a b:DSet}(h:ic a b<0)(he:a.name=b.name):a.type<b.type:=by
 rw[Fa,he,B7,Qc (by simp)] at h;unfold eD at h;split at h
 ·assumption
 ·split at h<;>omega
theorem InOrder.names{z:Zone}(h:InOrder z){i j:Nat}(jD:i<j)(hj:j<z.sets.length):br (z.sets[i]'(by omega)).set.name (z.sets[j]).set.name<=0:=by
 have:=List.pairwise_iff_getElem.1 h.order i j (by simp;omega) (by simpa using hj) jD
 rw[List.getElem_map,List.getElem_map] at this;exact P8 this
theorem InOrder.types{z:Zone}(h:InOrder z){i j:Nat}(jD:i<j)(hj:j<z.sets.length)(he:(z.sets[i]'(by omega)).set.name=(z.sets[j]).set.name):(z.sets[i]'(by omega)).set.type<(z.sets[j]).set.type:=by
 have:=List.pairwise_iff_getElem.1 h.order i j (by simp;omega) (by simpa using hj) jD
 rw[List.getElem_map,List.getElem_map] at this;exact P9 this he
theorem beX{a b c:List UInt8}(h1:br a b<=0)(h2:br b c<=0)(he:a=c):b=a:=by
 subst he;by_cases h:br a b<0
 ·have:=oN.anti _ _ h;omega
 ·exact (oN.zero _ _ (by omega)).symm
theorem B8{z:Zone}(h:InOrder z):∀ c,dz z c=true->c≠[]:=λc hc=>by
 obtain⟨x,hx,_,_,rfl⟩:=JF.1 hc;exact h.name x hx
theorem Qp{z:Zone}(h:InOrder z){c:List UInt8}(hc:dz z c=true){i:Nat}(hi:i<z.sets.length)(ag:br c (z.sets[i]).set.name<0):∃ j,∃ hj:j<i,(z.sets[j]'(by omega)).set.name=c:=by
 obtain⟨x,hx,_,_,rfl⟩:=JF.1 hc;obtain⟨j,hj,rfl⟩:=nQ.1 hx;refine⟨j,?_,rfl⟩;refine Nat.lt_of_not_le λjD=>?_;rcases Nat.lt_or_eq_of_le jD with hl | rfl
 ·have h1:=h.names hl hj;have h2:=oN.anti _ _ ag;omega
 ·rw[B7] at ag;omega
theorem PY{z:Zone}(h:InOrder z):∀ (l:List Signed) (i:Nat) (cut:List UInt8),z.sets.drop i=l->i<=z.sets.length->(i=0/\cut = []\/∃ hi:i - 1<z.sets.length,0<i/\jv (dz z) (z.sets[i - 1]).set.name cut)->∀ (k:Nat) (x:Signed) (b:List UInt8),l[k]?=some x->(oZ (dz z) cut l)[k]?=some b->jv (dz z) x.set.name b
 | [],_,_,_,_,_,k,x,b,hx,_=>by simp at hx
 | y::l,i,cut,hd,hi,hc,k,x,b,hx,hb=>by
   have gH:i<z.sets.length:=by
    have:=Qd List.length hd
    simp at this;omega
   have hy:z.sets[i]=y:=by
    have:=List.getElem?_drop (xs:=z.sets) (i:=i) (j:=0)
    rw[hd,Nat.add_zero,aQ gH] at this;simpa using this.symm
   have hd':z.sets.drop (i+1)=l:=by
    have:=Qd (List.drop 1) hd
    rw[List.drop_drop] at this;simpa using this
   have S6:jv (dz z) y.set.name (ew (dz z) cut y.set.name):=by
    rcases hc with ⟨rfl,rfl⟩ | ⟨h1,h0,hc⟩
    ·refine bDZ (B8 h) (λc uP ag=>?_);rw[<-hy] at ag;obtain⟨j,hj,_⟩:=Qp h uP gH ag;omega
    ·refine bDJ (B8 h) hc ?_ (λc uP ag=>?_)
     ·rw[<-hy];exact h.names (by omega) gH
     ·rw[<-hy] at ag;obtain⟨j,hj,hjc⟩:=Qp h uP gH ag;rw[<-hjc];rcases Nat.lt_or_eq_of_le (show j<=i - 1 by omega) with hl | he
      ·exact h.names hl h1
      ·subst he;rw[B7];exact Int.le_refl 0
   cases k with
   | zero=>
    simp only[oZ,List.getElem?_cons_zero,Option.some.injEq] at hx hb;rw[<-hx,<-hb];exact S6
   | succ k=>
    simp only[oZ,List.getElem?_cons_succ] at hx hb;exact PY h l (i+1) _ hd' gH (.inr ⟨by simpa using gH,by omega,by simpa [hy] using S6⟩) k x b hx hb
theorem akZ{z:Zone}(h:InOrder z){i:Nat}{x:Signed}{b:List UInt8}(hx:z.sets[i]?=some x)(hb:(eT z)[i]?=some b):jv (dz z) x.set.name b:=
 PY h z.sets 0 [] rfl (jQ _) (.inl ⟨rfl,rfl⟩) i x b hx hb
theorem akJ{z:Zone}(h:InOrder z){B:List (List UInt8)}(hl:B.length=z.sets.length)(hB:∀ (i:Nat) (x:Signed) (b:List UInt8),z.sets[i]?=some x->B[i]?=some b->jv (dz z) x.set.name b):B=eT z:=by
 refine List.ext_getElem (hl.trans (uH z).symm) λi h1 h2=>?_;have hi:i<z.sets.length:=by omega
 exact jv.unique (B8 h) (hB i _ _ (aQ hi) (aQ h1)) (akZ h (aQ hi) (aQ h2))
def jZ(t:Int)(at':Bool):Bool:=if t=3\/t=6 then !at' else if t=4\/t=7 then at' else true
structure SigOk(apex:List UInt8)(l:List Sig)(i:Nat)(g:Sig):Prop where
 zone:g.zone=apex
 key:1<=g.key/\g.key<=1000000
 alg:1<=g.alg/\g.alg<=3
 win:0<=g.frm/\g.frm<=g.til/\g.til<=20000000
 same:∀ a,l[0]?=some a->g.frm=a.frm/\g.til=a.til
 up:∀ p,l[i - 1]?=some p->0<i->p.key<g.key
def gB(apex:List UInt8)(l:List Sig):Prop:=l.length<=6/\∀ i g,l[i]?=some g->SigOk apex l i g
def nc(x:DSet)(b:List UInt8):Prop:=(b = []->x.type≠6)/\(b≠[]->b=x.name->x.type=2\/x.type=6\/x.type=8\/x.type=1)/\(b≠[]->b≠x.name->x.type=1)
structure VZone(z:Zone):Prop where
 right:gh z=true
 few:z.sets.length<=20000
 start:∃ x∈z.sets,x.set.name=z.apex/\x.set.type=4
 server:∃ x∈z.sets,x.set.name=z.apex/\x.set.type=2
 fits:∀ x∈z.sets,jZ x.set.type (x.set.name == z.apex)=true
 aliasBefore:∀ i (hi:i+1<z.sets.length),(z.sets[i+1]).set.type=3->(z.sets[i]).set.name≠(z.sets[i+1]).set.name
 aliasBehind:∀ i (hi:i+1<z.sets.length),(z.sets[i]).set.type=3->(z.sets[i+1]).set.name=(z.sets[i]).set.name->(z.sets[i+1]).set.type=8
 cuts:∀ (i:Nat) (x:Signed) (b:List UInt8),z.sets[i]?=some x->(eT z)[i]?=some b->nc x.set b
 sigs:∀ (i:Nat) (x:Signed) (b:List UInt8),z.sets[i]?=some x->(eT z)[i]?=some b->b≠[]->x.set.type=2\/x.set.type=1->x.sigs = []
 form:∀ x∈z.sets,gB z.apex x.sigs
theorem VZone.inOrder{z:Zone}(h:gh z=true):InOrder z:=by
 unfold gh at h;simp only[Bool.and_eq_true] at h;have aH:∀ (l:List Signed) (p:Option DSet),jg z.apex p l=true->(p.toList++l.map (·.set)).Pairwise (λa b=>ic a b<0)/\∀ x∈l,bi x.set=true:=by
  intro l
  induction l with
  | nil=>intro p _;cases p<;>simp
  | cons x l ih=>
   intro p h;unfold jg at h;rw[Bool.and_eq_true,Bool.and_eq_true,Bool.and_eq_true,Bool.and_eq_true] at h;obtain⟨i1,i2⟩:=ih (some x.set) h.2;have i1:(x.set::l.map (·.set)).Pairwise (λa b=>ic a b<0):=i1;refine⟨?_,λy hy=>?_⟩
   ·cases p with
    | none=>exact i1
    | some q=>
     have h2:ic q x.set<0:=by simpa using h.1.2
     refine List.pairwise_cons.2 ⟨λy hy=>?_,i1⟩;rcases List.mem_cons.1 hy with e | hy
     ·rw[e];exact h2
     ·have h3:=(List.pairwise_cons.1 i1).1 y hy;rw[JC] at h2 h3 |-;exact yn.trans _ _ _ h2 h3
   ·rcases List.mem_cons.1 hy with e | hy
    ·subst e;exact h.1.1.2
    ·exact i2 y hy
 obtain⟨h1,h2⟩:=aH _ none h.2;refine⟨h1,λx hx=>?_,λx hx=>?_⟩
 ·have hv:=(yu (h2 x hx)).1;intro e;rw[e] at hv;exact absurd hv (by decide)
 ·exact (yu (h2 x hx)).2.2.1
def oG(l:List Signed):List UInt8:=l.foldl (λa x=>if x.set.type=3 then x.set.name else a) []
structure RZoneOk(z:Zone):Prop where
 right:gh z=true
 few:z.sets.length<=20000
 start:∃ x∈z.sets,x.set.name=z.apex/\x.set.type=4
 server:∃ x∈z.sets,x.set.name=z.apex/\x.set.type=2
 fits:∀ x∈z.sets,jZ x.set.type (x.set.name == z.apex)=true
 three:∀ i (hi:i+1<z.sets.length),(z.sets[i]).set.name=(z.sets[i+1]).set.name->(z.sets[i+1]).set.type≠3/\(oG (z.sets.take (i+2))=(z.sets[i+1]).set.name->(z.sets[i+1]).set.type=8)
 cuts:∀ (i:Nat) (x:Signed) (b:List UInt8),z.sets[i]?=some x->(eT z)[i]?=some b->nc x.set b
 sigs:∀ (i:Nat) (x:Signed) (b:List UInt8),z.sets[i]?=some x->(eT z)[i]?=some b->b≠[]->x.set.type=2\/x.set.type=1->x.sigs = []
 form:∀ x∈z.sets,gB z.apex x.sigs
theorem LI(l:List Signed)(x:Signed):oG (l ++ [x])=if x.set.type=3 then x.set.name else oG l:=by simp[oG]
theorem TQ:∀ (l:List Signed) (a:List UInt8),l.foldl (λa x=>if x.set.type=3 then x.set.name else a) a=a\/∃ (j:Nat) (hj:j<l.length),(l[j]).set.type=3/\(l[j]).set.name=l.foldl (λa x=>if x.set.type=3 then x.set.name else a) a
 | [],_=>.inl rfl
 | x::l,a=>by
   rw[List.foldl_cons];rcases TQ l (if x.set.type=3 then x.set.name else a) with h | ⟨j,hj,h1,h2⟩
   ·rw[h];split
    ·rename_i ht;exact .inr ⟨0,by simp,ht,rfl⟩
    ·exact .inl rfl
   ·exact .inr ⟨j+1,by simpa using hj,h1,h2⟩
theorem baQ(l:List Signed):oG l = []\/∃ (j:Nat) (hj:j<l.length),(l[j]).set.type=3/\(l[j]).set.name=oG l:=TQ l []
theorem bLQ(z:Zone):VZone z↔RZoneOk z:=by
 constructor
 ·intro h;have ho:=VZone.inOrder h.right;refine⟨h.right,h.few,h.start,h.server,h.fits,λi hi he=>?_,h.cuts,h.sigs,h.form⟩;have h3:(z.sets[i+1]).set.type≠3:=λht=>h.aliasBefore i hi ht he;refine⟨h3,λhl=>?_⟩;rcases baQ (z.sets.take (i+2)) with e | ⟨j,hj,j1,j2⟩
  ·rw[e] at hl;exact absurd hl.symm (ho.name _ (List.getElem_mem hi))
  ·rw[List.getElem_take] at j1 j2;rw[hl] at j2;have F0:j<i+2:=by have:=hj;rw[List.length_take] at this;omega
   have uX:j≠i+1:=λe=>by subst e;exact h3 j1
   have rT:j+1<z.sets.length:=by omega
   have fJ:(z.sets[j+1]).set.name=(z.sets[j]).set.name:=by
    rcases Nat.lt_or_eq_of_le (show j+1<=i+1 by omega) with hl | CP
    ·exact beX (ho.names (by omega) rT) (ho.names hl hi) j2
    ·have:j=i:=by omega
     subst this;exact he.symm
   have h8:=h.aliasBehind j rT j1 fJ;rcases Nat.lt_or_eq_of_le (show j+1<=i+1 by omega) with hl | CP
   ·have h9:=ho.types hl hi (fJ.trans j2);have h10:=ho.type _ (List.getElem_mem hi);omega
   ·have:j=i:=by omega
    subst this;exact h8
 ·intro h;have ho:=VZone.inOrder h.right;refine⟨h.right,h.few,h.start,h.server,h.fits,λi hi ht he=>?_,λi hi ht he=>?_,h.cuts,h.sigs,h.form⟩
  ·exact (h.three i hi he).1 ht
  ·obtain⟨h1,h2⟩:=h.three i hi he.symm;refine h2 ?_;have e1:z.sets.take (i+2)=z.sets.take (i+1) ++ [z.sets[i+1]]:=fQ hi;have e2:z.sets.take (i+1)=z.sets.take i ++ [z.sets[i]]:=fQ (by omega);rw[e1,LI,Qc h1,e2,LI,QbQ ht];exact he.symm
end Np
section
open Go.RowKit
def en(_:World)(_:Nat)(e:List Value)(g:Np.Sig):Prop:=∃ s:ByteArray,s.data.toList=g.zone/\s.size<=140737488355328/\e = [.string s,.int .i64 g.key,.int .i64 g.alg,.int .i64 g.frm,.int .i64 g.til,.int .u64 g.sum]
theorem dG:dR en:=λ_ _ _ _ _ h _=>h
theorem el:ef en:=λ_ _ _ _ _ h _=>h
def az(W:World)(B:Nat)(e:List Value)(x:Np.Signed):Prop:=∃ (s:ByteArray) (v u:Value),s.data.toList=x.set.name/\s.size<=140737488355328/\SlR cm 3 W B v x.set.data/\SlR en 6 W B u x.sigs/\e = [.string s,.int .i64 x.set.type,.int .i64 x.set.life,v,u]
theorem ax:dR az:=λ_ _ _ _ _ ⟨s,v,u,h1,h2,h3,h4,h5⟩ hb=>⟨s,v,u,h1,h2,h3.keep bM hb,h4.keep dG hb,h5⟩
theorem aK:ef az:=λ_ _ _ _ _ ⟨s,v,u,h1,h2,h3,h4,h5⟩ hb=>⟨s,v,u,h1,h2,h3.more bY hb,h4.more el hb,h5⟩
def afK(W:World)(B:Nat)(e:List Value)(z:Np.Zone):Prop:=∃ (s:ByteArray) (v:Value),s.data.toList=z.apex/\s.size<=140737488355328/\SlR az 5 W B v z.sets/\e = [.string s,v]
theorem SlR.later{α:Type}{R:aDQ α}{sz:Nat}{w w':World}{v:Value}{xs:List α}(hk:dR R)(hm:ef R)(h:SlR R sz w w.heap.size v xs)(hb:Below w.heap.size w w'):SlR R sz w' w'.heap.size v xs:=(h.keep hk hb).more hm hb.size
theorem B9{w:World}{B:Nat}{v:Value}{xs:List Np.Datum}(h:SlR cm 3 w B v xs){k:Nat}{x:Np.Datum}(hx:xs[k]?=some x):∃ (b o c:Nat) (s:ByteArray),v = .slice (some ⟨b,o,none⟩) xs.length c/\b<B/\xs.length<=c/\s.data.toList=x.text/\s.size<=140737488355328/\
 w.cell? ⟨b,o+k * 3,none⟩=some (.string s)/\w.cell? ⟨b,o+k * 3+1,none⟩=some (.int .i64 x.n)/\w.cell? ⟨b,o+k * 3+2,none⟩=some (.int .i64 x.m):=by
 obtain⟨A,c,rfl,hc,_,he⟩:=h;obtain⟨b,o,e,rfl,hb,_,hce,s,h1,h2,rfl⟩:=he k x hx;exact⟨b,o,c,s,rfl,hb,hc,h1,h2,by have:=hce 0 _ rfl;simpa using this,hce 1 _ rfl,hce 2 _ rfl⟩
theorem dN{w:World}{B:Nat}{v:Value}{xs:List Np.Signed}(h:SlR az 5 w B v xs){k:Nat}{x:Np.Signed}(hx:xs[k]?=some x):∃ (b o c:Nat) (s:ByteArray) (dv sv:Value),v = .slice (some ⟨b,o,none⟩) xs.length c/\b<B/\xs.length<=c/\s.data.toList=x.set.name/\s.size<=140737488355328/\SlR cm 3 w B dv x.set.data/\SlR en 6 w B sv x.sigs/\
 w.cell? ⟨b,o+k * 5,none⟩=some (.string s)/\w.cell? ⟨b,o+k * 5+1,none⟩=some (.int .i64 x.set.type)/\w.cell? ⟨b,o+k * 5+2,none⟩=some (.int .i64 x.set.life)/\w.cell? ⟨b,o+k * 5+3,none⟩=some dv/\w.cell? ⟨b,o+k * 5+4,none⟩=some sv:=by
 obtain⟨A,c,rfl,hc,_,he⟩:=h;obtain⟨b,o,e,rfl,hb,_,hce,s,dv,sv,h1,h2,h3,h4,rfl⟩:=he k x hx;exact⟨b,o,c,s,dv,sv,rfl,hb,hc,h1,h2,h3,h4,by have:=hce 0 _ rfl;simpa using this,hce 1 _ rfl,hce 2 _ rfl,hce 3 _ rfl,hce 4 _ rfl⟩
theorem ba{α:Type}{R:aDQ α}{sz:Nat}{w:World}{B:Nat}{v:Value}{xs:List α}(h:SlR R sz w B v xs):∃ A c,v = .slice A xs.length c/\xs.length<=c/\xs.length<=140737488355328:=by
 obtain⟨A,c,h1,h2,h3,_⟩:=h;exact⟨A,c,h1,h2,h3⟩
end
section
open Go.RowKit Go.Shelf
section
variable {α:Type}
def nu(p:α->Bool):List α->Int
 | []=>-1
 | x::xs=>if p x then 0 else if nu p xs = -1 then -1 else nu p xs+1
theorem QD(p:α->Bool)(xs:List α)(h:∀ x∈xs,p x=false):nu p xs = -1:=by
 induction xs with
 | nil=>rfl
 | cons x r ih=>rw[nu,Qc (by simp[h x (by simp)]),QbQ (ih (λy hy=>h y (by simp[hy])))]
theorem QB(p:α->Bool)(xs:List α)(k:Nat)(hk:k<xs.length)(h:∀ x∈xs.take k,p x=false)(hx:p xs[k]=true):nu p xs=k:=by
 induction xs generalizing k with
 | nil=>simp at hk
 | cons x r ih=>
  cases k with
  | zero=>simp at hx;simp[nu,hx]
  | succ k=>
   have h0:p x=false:=h x (by simp)
   have:=ih k (by simpa using hk) (λy hy=>h y (by simp[hy])) (by simpa using hx)
   rw[nu,Qc (by simp[h0]),Qc (by omega),this];simp
theorem QC(p:α->Bool)(xs:List α):decide (0<=nu p xs)=xs.any p:=by
 induction xs with
 | nil=>rfl
 | cons x r ih=>
  rw[nu];by_cases h:p x=true
  ·simp[h]
  ·rw[Qc h];have h':p x=false:=by simpa using h
   rw[List.any_cons,h',Bool.false_or,<-ih];split
   ·rename_i e;rw[e]
   ·rename_i e;have : -1<=nu p r:=by
     clear ih h h' e
     induction r with
     | nil=>simp[nu]
     | cons y r ih2=>rw[nu];split;omega;split<;>omega
    rw[Bool.eq_iff_iff];simp;omega
end
end
namespace Np
def dy(a:List UInt8)(l:List Signed):List (List UInt8):=(l.filter λx=>decide (x.set.type=2)&&!(x.set.name == a)).map (·.set.name)
theorem arQ(a:List UInt8)(l:List Signed)(x:Signed):dy a (l ++ [x])=if x.set.type=2/\x.set.name≠a then dy a l ++ [x.set.name] else dy a l:=by
 unfold dy;rw[List.filter_append];by_cases h1:x.set.type=2<;>by_cases h2:x.set.name=a<;>simp[h1,h2]
theorem DA{a:List UInt8}{l:List Signed}{c:List UInt8} : c∈dy a l↔dz ⟨a,l⟩ c=true:=by
 unfold dy;rw[JF,List.mem_map];constructor
 ·rintro⟨x,hx,rfl⟩;obtain⟨h1,h2⟩:=List.mem_filter.1 hx;simp only[Bool.and_eq_true,Qa,Bool.not_eq_true',beq_eq_false_iff_ne] at h2;exact⟨x,h1,h2.1,h2.2,rfl⟩
 ·rintro⟨x,hx,h1,h2,rfl⟩;exact⟨x,List.mem_filter.2 ⟨hx,by simpa [h1] using h2⟩,rfl⟩
theorem Qs{z:Zone}(h:InOrder z):(dy z.apex z.sets).Pairwise λa b=>br a b<0:=by
 unfold dy;rw[List.pairwise_map];have h1:(z.sets.filter λx=>decide (x.set.type=2)&&!(x.set.name == z.apex)).Pairwise λa b=>ic a.set b.set<0:=by
  have:=h.order
  rw[List.pairwise_map] at this;exact this.sublist List.filter_sublist
 refine h1.imp_of_mem λ{a b} ha hb ag=>?_;obtain⟨_,ha⟩:=List.mem_filter.1 ha;obtain⟨_,hb⟩:=List.mem_filter.1 hb;simp only[Bool.and_eq_true,Qa] at ha hb;rcases Int.lt_or_eq_of_le (P8 ag) with h2 | h2
 ·exact h2
 ·have:=P9 ag (oN.zero _ _ h2)
  omega
def pi(out:List (List UInt8))(c:List UInt8):List (List UInt8):=
 match out.getLast? with
 | none=>[c]
 | some h=>if aW c h=true then out else out ++ [c]
def eV(l:List (List UInt8)):List (List UInt8):=l.foldl pi []
theorem R5(l:List (List UInt8))(c:List UInt8):eV (l ++ [c])=pi (eV l) c:=by simp[eV]
structure BT(l out:List (List UInt8)):Prop where
 sub:out.Sublist l
 above:∀ c∈l,∃ h∈out,aW c h=true
 top:∀ h∈out,∀ c∈l,aW h c=true->c=h
theorem aPQ{l out:List (List UInt8)}{c:List UInt8}(hne:∀ x∈l ++ [c],x≠[])(hs:(l ++ [c]).Pairwise λa b=>br a b<0)(h:BT l out):BT (l ++ [c]) (pi out c):=by
 obtain⟨h1,_,h3⟩:=List.pairwise_append.1 hs;have ag:∀ x∈l,br x c<0:=λx hx=>h3 x hx c (by simp);have hout:∀ x∈out,x∈l:=λx hx=>h.sub.subset hx;have gP:c≠[]:=hne c (by simp);have mW:∀ x∈l,aW x c=true->False:=λx hx hu=>by
  have a1:=DT gP hu;have a2:=oN.anti _ _ (ag x hx);omega
 unfold pi
 cases hg:out.getLast? with
 | none=>
  have ho:out = []:=by simpa using hg
  have hl:l = []:=by
   cases l with
   | nil=>rfl
   | cons y l=>obtain⟨q,hq,_⟩:=h.above y (by simp);rw[ho] at hq;cases hq
  subst ho hl;refine⟨by simp,λx hx=>⟨c,by simp,?_⟩,λx hx y hy _=>?_⟩
  ·simp at hx;subst hx;exact Az _
  ·simp at hx hy;rw[hx,hy]
 | some q=>
  have hq:q∈out:=List.mem_of_getLast? hg;dsimp only;split
  ·rename_i hu;refine⟨h.sub.trans (List.sublist_append_left _ _),λx hx=>?_,λx hx y hy dY=>?_⟩
   ·rcases List.mem_append.1 hx with hx | hx
    ·exact h.above x hx
    ·simp at hx;subst hx;exact⟨q,hq,hu⟩
   ·rcases List.mem_append.1 hy with hy | hy
    ·exact h.top x hx y hy dY
    ·simp at hy;subst hy;exact (mW x (hout x hx) dY).elim
  ·rename_i hu;refine⟨List.Sublist.append h.sub (List.Sublist.refl _),λx hx=>?_,λx hx y hy dY=>?_⟩
   ·rcases List.mem_append.1 hx with hx | hx
    ·obtain⟨t,ht,Ld⟩:=h.above x hx;exact⟨t,List.mem_append_left _ ht,Ld⟩
    ·simp at hx;subst hx;exact⟨x,by simp,Az _⟩
   ·rcases List.mem_append.1 hx with fM | fM
    ·rcases List.mem_append.1 hy with Aa | Aa
     ·exact h.top x fM y Aa dY
     ·rw[List.mem_singleton] at Aa;rw[Aa] at dY;exact (mW x (hout x fM) dY).elim
    ·simp at fM;subst fM;rcases List.mem_append.1 hy with hy | hy
     ·exfalso;obtain⟨t,ht,Ld⟩:=h.above y hy;have S5:t≠[]:=hne t (List.mem_append_left _ (hout t ht));have Gs:y≠[]:=hne y (List.mem_append_left _ hy);have Dv:=DU Gs S5 dY Ld;by_cases Lc:t=q
      ·subst Lc;exact hu Dv
      ·obtain⟨o',ho'⟩:=List.getLast?_eq_some_iff.1 hg;have SW:out.Pairwise λa b=>br a b<0:=h1.sublist h.sub;rw[ho'] at SW ht;have Dk:t∈o':=by
        rcases List.mem_append.1 ht with ht | ht
        ·exact ht
        ·simp at ht;exact absurd ht Lc
       have htl:=(List.pairwise_append.1 SW).2.2 t Dk q (by simp);have hqx:=ag q (hout q hq);have hqt:=Mo S5 Dv (Int.le_of_lt htl) (Int.le_of_lt hqx);exact Lc (h.top q hq t (hout t (by rw[ho'];exact List.mem_append_left _ Dk)) hqt)
     ·simp at hy;exact hy
theorem R7:∀ (r p:List (List UInt8)),(∀ x∈p++r,x≠[])->(p++r).Pairwise (λa b=>br a b<0)->BT p (eV p)->BT (p++r) (eV (p++r))
 | [],p,_,_,h=>by rw[List.append_nil];exact h
 | c::r,p,hne,hs,h=>by
   have e:p++c::r=(p ++ [c])++r:=by simp
   rw[e] at hne hs |-;refine R7 r (p ++ [c]) hne hs ?_;rw[R5];exact aPQ (λx hx=>hne x (List.mem_append_left _ hx)) (List.pairwise_append.1 hs).1 h
theorem aOY(l:List (List UInt8))(hne:∀ x∈l,x≠[])(hs:l.Pairwise λa b=>br a b<0):BT l (eV l):=
 R7 l [] hne hs ⟨List.Sublist.refl _,λc hc=>(by cases hc),λh hh=>(by cases hh)⟩
theorem R6{z:Zone}(h:InOrder z):PG (dz z) (eV (dy z.apex z.sets))/\∀ c,dz z c=true->(∀ d,dz z d=true->aW c d=true->d=c)->c∈eV (dy z.apex z.sets):=by
 have hne:∀ x∈dy z.apex z.sets,x≠[]:=λx hx=>B8 h x (DA.1 hx);have ho:=aOY _ hne (Qs h);refine⟨⟨λc hc=>⟨DA.1 (ho.sub.subset hc),λd hd hu=>ho.top c hc d (DA.2 hd) hu⟩,(Qs h).sublist ho.sub⟩,λc hc ht=>?_⟩;obtain⟨t,h1,h2⟩:=ho.above c (DA.2 hc);rw[<-ht t (DA.1 (ho.sub.subset h1)) h2];exact h1
def jL(H:List (List UInt8))(k:Nat)(n:List UInt8):List UInt8:=if 0<k/\aW n (H[k - 1]?.getD [])=true then H[k - 1]?.getD [] else []
theorem bnK{z:Zone}(h:InOrder z){n:List UInt8}{k:Nat}(hk:k<=(eV (dy z.apex z.sets)).length)(h1:∀ j x,j<k->(eV (dy z.apex z.sets))[j]?=some x->br x n<=0)(h2:∀ j x,k<=j->(eV (dy z.apex z.sets))[j]?=some x->0<br x n):jv (dz z) n (jL (eV (dy z.apex z.sets)) k n):=by
 obtain⟨p1,p2⟩:=R6 h
 have:=aPZ (B8 h) p1 (n:=n) (λc hc ht _=>p2 c hc ht) hk (λj hj uY=>h1 j _ uY (aQ hj)) (λj hj uY=>h2 j _ uY (aQ hj))
 unfold jL;split
 ·rename_i hc;rw[dif_pos hc] at this;exact this
 ·rename_i hc;rw[dif_neg hc] at this;exact this
end Np
section
open Go.RowKit
theorem cE{α:Type}{R:aDQ α}{sz:Nat}{w:World}{B:Nat}{v:Value}{xs:List α}(h:SlR R sz w B v xs):∃ A n c,v = .slice A n c/\xs.length=n/\n<=c/\n<=140737488355328:=by
 obtain⟨A,c,h1,h2,h3⟩:=ba h;exact⟨A,_,c,h1,rfl,h2,h3⟩
def iw(W:World)(B:Nat)(e:List Value)(x:Np.DSet):Prop:=∃ (s:ByteArray) (v:Value),s.data.toList=x.name/\s.size<=140737488355328/\SlR cm 3 W B v x.data/\e = [.string s,.int .i64 x.type,.int .i64 x.life,v]
theorem UC:dR iw:=λ_ _ _ _ _ ⟨s,v,h1,h2,h3,h5⟩ hb=>⟨s,v,h1,h2,h3.keep bM hb,h5⟩
theorem bsY:ef iw:=λ_ _ _ _ _ ⟨s,v,h1,h2,h3,h5⟩ hb=>⟨s,v,h1,h2,h3.more bY hb,h5⟩
theorem de{w w':World}{r:List Value}{T:TypeId}{Q:Nat}(hQ:w.heap.size=Q)(h:w.alloc (.cells r.toArray T)=w'):∀ (j:Nat) u,r[j]?=some u->w'.cell? ⟨Q,j,none⟩=some u:=λj u hj=>by
 subst hQ;rw[<-h]
 have:=heap_alloc_new w (.cells r.toArray T)
 unfold World.cell?;dsimp only;rw[this];simpa using hj
end
section
open Go.RowKit
variable {α:Type}
def PL(R:aDQ α)(B:Nat)(w:World)(f:FuncId)(cap:Array Value)(p:α->Bool)(xs:List α):Prop:=
 ∀ (W:World) (x:α) (e0 e1 e2 e3 e4 e5:Value),x∈xs->Below B w W->B<=W.heap.size->R W B [e0,e1,e2,e3,e4,e5] x->Calls prog f (#[.agg #[e0,e1,e2,e3,e4,e5]]++cap) W λe w'=>e = .returned (.bool (p x))/\Below W.heap.size W w'
theorem a3K{R:aDQ α}(hK:dR R)(f:FuncId)(eg:∀ args w,(callFunc f args).run prog w = .ok (.enter f args) w)(cap:Array Value)(p:α->Bool)(v:Value)(xs:List α)(w:World)(B:Nat)(hB:B<=w.heap.size)(h:SlR R 6 w B v xs)
 (hp:PL R B w f cap p xs) :
 Calls prog 303 #[v,.func (.func f) #[] cap] w (aCX w.heap.size w (.int .i64 (nu p xs))):=by
 have H:=jq h;have HP:=jq hp;obtain⟨A,c,rfl,aR,cP,cZ⟩:=h;clear cZ hp;go_enter func303,ntmps303;go_wp2_with fail;go_loopw [8] (λi wr=>∃ k:Nat,k<=xs.length/\i = .int .i64 k/\Below w.heap.size w wr/\Hid (∀ x∈xs.take k,p x=false)) (λi _=>xs.length - (intOf i).toNat)
 case atStart=>exact⟨0,jQ _,rfl,vQ _ _,jq (by simp)⟩
 case round=>
  obtain⟨k,hk,rfl,hb,HA⟩:=hrel;by_cases ag:k<xs.length
  ·have cX:=hb.mono hB;obtain⟨A',c',hA',_,_,dS⟩:=H.out.keep hK cX
   cases hA'
   obtain⟨b,o,e,rfl,cO,hlen,hce,hR⟩:=dS k _ (aQ ag)
   match e,hlen with
   | [e0,e1,e2,e3,e4,e5],_=>
   have h0:wr.cell? ⟨b,o+k * 6,none⟩=some e0:=hce 0 _ rfl;have h1:wr.cell? ⟨b,o+k * 6+1,none⟩=some e1:=hce 1 _ rfl;have h2:wr.cell? ⟨b,o+k * 6+2,none⟩=some e2:=hce 2 _ rfl;have h3:wr.cell? ⟨b,o+k * 6+3,none⟩=some e3:=hce 3 _ rfl;have h4:wr.cell? ⟨b,o+k * 6+4,none⟩=some e4:=hce 4 _ rfl;have h5:wr.cell? ⟨b,o+k * 6+5,none⟩=some e5:=hce 5 _ rfl;have bw:=HP.out wr xs[k] e0 e1 e2 e3 e4 e5 (List.getElem_mem ag) cX (by have:=hb.size;omega) hR;have HC:=jq bw;have ed:=jq hb;clear dS hce hR bw cX hb;go_wp2_with (fail);refine HC.out.mono ?_;rintro e w2 ⟨rfl,ae⟩;have am:=jq ae;clear ae;by_cases bW:p xs[k]=true
   ·have HX:=jq bW;go_wp2_with (fail);go_ret;exact⟨jM (QB p xs k ag HA.out HX.out).symm,ed.out.trans (am.out.mono ed.out.size)⟩
   ·have rZ:p xs[k]=false:=by simpa using bW
    have HX:=jq rZ;clear bW;go_wp2_with (fail);go_roundw
    case rel=>
     refine⟨k+1,by omega,by go_num,ed.out.trans (am.out.mono ed.out.size),jq ?_⟩;rw[fQ ag];intro x hx;rcases List.mem_append.1 hx with h | h
     ·exact HA.out x h
     ·simp at h;subst h;exact HX.out
    case measure=>simp[intOf]<;>omega
  ·go_wp2_with fail;go_ret;exact⟨jM (QD p xs (by have:=HA.out;rwa [kQ (by omega)] at this)).symm,hb⟩
theorem aoK{R:aDQ α}(hK:dR R)(f:FuncId)(eg:∀ args w,(callFunc f args).run prog w = .ok (.enter f args) w)(cap:Array Value)(p:α->Bool)(v:Value)(xs:List α)(w:World)(B:Nat)(hB:B<=w.heap.size)(h:SlR R 6 w B v xs)
 (hp:PL R B w f cap p xs) :
 Calls prog 281 #[v,.func (.func f) #[] cap] w (aCX w.heap.size w (.bool (xs.any p))):=by
 have H:=jq h;have HP:=jq hp;have HE:=jq eg;clear h hp eg;go_enter func281,ntmps281;go_wp2_with (go_at_call 303;refine (a3K hK f HE.out cap p v xs w B hB H.out HP.out).mono ?_;rintro e w' ⟨rfl,hb⟩);go_ret;exact⟨aj (QC p xs),hb⟩
end
section
open Go.RowKit
def dI(D:Nat->Prop)(w W:World):Prop:=w.heap.size<=W.heap.size/\∀ k,D k->k<w.heap.size/\W.heap[k]?=w.heap[k]?
theorem dI.refl{D:Nat->Prop}{w:World}(h:∀ k,D k->k<w.heap.size):dI D w w:=⟨bQ _,λk e=>⟨h k e,rfl⟩⟩
theorem dI.trans{D:Nat->Prop}{a b c:World}(h:dI D a b)(k:dI D b c):dI D a c:=⟨yQ h.1 k.1,λi e=>⟨(h.2 i e).1,((k.2 i e).2).trans (h.2 i e).2⟩⟩
theorem dI.of_below{D:Nat->Prop}{a b c:World}(h:dI D a b)(k:Below b.heap.size b c):dI D a c:=⟨yQ h.1 k.size,λi e=>⟨(h.2 i e).1,(k.block i (lqQ (h.2 i e).1 h.1)).trans (h.2 i e).2⟩⟩
theorem dI.cell{D:Nat->Prop}{w W:World}(h:dI D w W){p:Addr}(hp:D p.block):W.cell? p=w.cell? p:=iQ (h.2 _ hp).2
theorem dI.round{D S:Nat->Prop}{a b c:World}(h:dI D a b)(k:RdStep S b c)(hS:∀ i,S i->¬ D i):dI D a c:=⟨yQ h.1 k.size,λi e=>⟨(h.2 i e).1,(k.keep i (lqQ (h.2 i e).1 h.1) (λhs=>hS i hs e)).trans (h.2 i e).2⟩⟩
def Jn{α:Type}(P:Program)(gf:FuncId)(mk:Value->Array Value)(encs:α->Array Value)(xs:List α)(Dr:Nat->Prop)(w:World):Prop:=
 ∀ (l:Nat) (J Jx:List α->(Nat->Prop)->World->Prop) (S:Nat->Prop) (W:World),dI Dr w W->
   iy W.heap.size J->iy W.heap.size Jx->
   (∀ pre x S1 W1,pre ++ [x] <+: xs->J pre S1 W1->(∀ k,S1 k->k<W1.heap.size)->W.heap.size<=W1.heap.size->
     YieldAt Fence.wide 0 P l (encs x) W1 (ze J Jx pre x S1 W1))->
   (∀ k,S k->¬ Dr k)->(∀ k,S k->k<W.heap.size)->J [] S W->
   CallsIn Fence.wide 0 P gf (mk (.func (.yield l) #[] #[])) W λe W'=>(∃ v,e = .returned v)/\
    ((∃ S',J xs S' W'/\(∀ k,S' k->S k\/W.heap.size<=k))\/(∃ pre S',pre <+: xs/\Jx pre S' W'/\(∀ k,S' k->S k\/W.heap.size<=k)))
theorem bQQ{α:Type}{P:Program}{g:Operand}{ps:Array Tmp}{assign body:Code}{Q:Exit->Act->World->Prop}{a:Act}{w:World}
 {gf:FuncId} {first captured:Array Value} (hg:a.eval g = .func (.func gf) first captured) (eg:∀ args w,(callFunc gf args).run P w = .ok (.enter gf args) w)
 {mk:Value->Array Value} {encs:α->Array Value} {xs:List α} {Dr:Nat->Prop} {w0:World} (fd:∀ y,mk y=first ++ #[y]++captured)
 (hit:Jn P gf mk encs xs Dr w0) (cL:dI Dr w0 w) (ej:∀ x,(encs x).size=ps.size)
 (I:List α->(Nat->Prop)->World->Prop) (Ix:Code->List α->(Nat->Prop)->World->Prop) (A:List α->α->(Nat->Prop)->Act->World->Prop)
 (hI:iy w.heap.size I) (gm:∀ c,iy w.heap.size (Ix c)) (hA:∀ pre x S a' W W',A pre x S a' W->ItStep w.heap.size S W W'->A pre x S a' W')
 (S0:Nat->Prop) (mH:∀ k,S0 k->¬ Dr k) (ie:∀ k,S0 k->k<w.heap.size) (h0:I [] S0 w)
 (xl:∀ (l:Nat) (pre:List α) (x:α) (S:Nat->Prop) (W:World),pre ++ [x] <+: xs->I pre S W->(∀ k,S k->k<W.heap.size)->
   assign.wpIn (Fence.wide.inRound l) 0 P (Exit.then (λa₁ W₁=>∃ S',RdStep S W W₁/\(∀ k,S' k->S k\/W.heap.size<=k)/\(∀ k,S' k->k<W₁.heap.size)/\A pre x S' a₁ W₁) (λ_ _ _=>False))
    { tmps:=(ps.zip (encs x)).foldl (λt (p,v)=>t.setIfInBounds p v) a.tmps,defers:=[] } W)
 (xp:∀ (l:Nat) (pre:List α) (x:α) (S:Nat->Prop) (a₁:Act) (W:World),pre ++ [x] <+: xs->A pre x S a₁ W->(∀ k,S k->k<W.heap.size)->
   body.wpIn (Fence.wide.inRound l) 0 P (lR I Ix (pre ++ [x]) S W) a₁ W)
 (mN:∀ (D:Nat) (S:Nat->Prop) (W:World),w.heap.size<=D->¬ S D->(∀ k,S k->S0 k\/w.heap.size<=k)->I xs S W->W.heap[D]?=some (.deferred (some []))->
   Q .normal { a with defers:={ target:=.collected D,args:=#[] } :: a.defers } W)
 (mV:∀ (D:Nat) (c:Code) (pre:List α) (S:Nat->Prop) (W:World),w.heap.size<=D->¬ S D->(∀ k,S k->S0 k\/w.heap.size<=k)->pre <+: xs->Ix c pre S W->W.heap[D]?=some (.deferred (some []))->
   c.wpIn Fence.wide 0 P Q { a with defers:={ target:=.collected D,args:=#[] } :: a.defers } W) :
 (Code.rangeFunc g ps assign body).wpIn Fence.wide 0 P Q a w:=by
 refine wpIn_rangeFunc ?_;intro fn tB;show ∃ (l:Nat) (mark:List Deferred) (w₁:World) (d:Deferred) (w₁':World) (f:FuncId) (args:Array Value) (w₂:World),(Instr.enterLoop fn a.tmps ps assign body none).run P w = .ok (l,mark) w₁/\_;obtain⟨rec,dW⟩:∃ rec:LoopState->Option Code->Loop,rec=λst pe=>{ state:=st,pending:=pe,fn,tmps:=a.tmps,params:=ps,assign,body,defers:=w.heap.size }:=⟨_,rfl⟩;obtain⟨W1,dD⟩:=aaK ((w.alloc (.deferred (some []))).alloc (.loop (rec .ready none)));have aB:W1.heap.size=w.heap.size+2:=by rw[<-dD];simp
 have om:W1.heap[w.heap.size+1]?=some (.loop (rec .ready none)):=by
  rw[<-dD];have:=World.alloc_heap_new (w.alloc (.deferred (some []))) (.loop (rec .ready none));rwa [World.size_alloc] at this
 have xg:W1.heap[w.heap.size]?=some (.deferred (some [])):=by
  rw[<-dD];exact (Below.heap_alloc _ _ _ (by simp)).trans (World.alloc_heap_new w _)
 have ol:I [] S0 W1:=by rw[<-dD];exact hI _ _ _ _ (hI _ _ _ _ h0 (x7 _)) (x7 _)
 have av:dI Dr w0 W1:=by
  rw[<-dD];exact cL.of_below (((vQ _ w).alloc (bQ _) _).alloc (by simp) _)
 refine⟨w.heap.size+1,[{ target:=.collected w.heap.size,args:=#[] }],W1,{ target:=.fn (.func gf) captured,args:=first ++ #[.func (.yield (w.heap.size+1)) #[] #[]] },W1,gf,
  first ++ #[.func (.yield (w.heap.size+1)) #[] #[]]++captured,W1,?_,?_,?_,?_,λh=>by simp[Fence.wide] at h,?_⟩
 ·rw[<-dD,dW];exact run_enterLoop_outer _ _ _ _ _
 ·simp only[resolve,hg];simp[go_sem]
 ·intro f' _;trivial
 ·simp[invoke,go_sem,eg]
 ·rw[<-fd];have key:=hit (w.heap.size+1)
   (λpre Si W=>∃ S:Nat->Prop,(∀ k,Si k↔S k\/k=w.heap.size+1)/\(¬ S w.heap.size)/\(¬ S (w.heap.size+1))/\(∀ k,S k->S0 k\/w.heap.size<=k)/\I pre S W/\W.heap[w.heap.size+1]?=some (.loop (rec .ready none))/\W.heap[w.heap.size]?=some (.deferred (some [])))
   (λpre Si W=>∃ (S:Nat->Prop) (c:Code),(∀ k,Si k↔S k\/k=w.heap.size+1)/\(¬ S w.heap.size)/\(¬ S (w.heap.size+1))/\(∀ k,S k->S0 k\/w.heap.size<=k)/\Ix c pre S W/\W.heap[w.heap.size+1]?=some (.loop (rec .done (some c)))/\W.heap[w.heap.size]?=some (.deferred (some [])))
   (λk=>S0 k\/k=w.heap.size+1) W1 av ?_ ?_ ?_ ?_ ?_ ?_
  ·refine key.mono ?_;rintro e W2 ⟨⟨v,rfl⟩,(⟨S',⟨S,cy,hD,hL,bJ,hi,hl,hk⟩,_⟩ | ⟨pre,S',mf,⟨S,c,cy,hD,hL,bJ,hi,hl,hk⟩,_⟩)⟩
   ·refine⟨none,_,by have:=run_endLoop (P:=P) hl (by rw[dW];simp);rw[dW] at this;exact this,?_⟩;exact mN _ S _ (bQ _) hD bJ (hI _ _ _ _ hi (nO _ (by omega) hL)) ((zQ (by omega)).trans hk)
   ·refine⟨some c,_,by have:=run_endLoop (P:=P) hl (by rw[dW];simp);rw[dW] at this;exact this,?_⟩;exact mV _ c pre S _ (bQ _) hD bJ mf ((gm c) _ _ _ _ hi (nO _ (by omega) hL)) ((zQ (by omega)).trans hk)
  ·rintro pre Si A1 B1 ⟨S,cy,hD,hL,bJ,hi,hl,hk⟩ aH;have ag:w.heap.size+1<A1.heap.size:=(eQ.1 hl).1;exact⟨S,cy,hD,hL,bJ,hI _ _ _ _ hi (aH.weaken (by omega) (λk e=>(cy k).2 (.inl e))),(aH.keep _ ag (.inl (by omega))).trans hl,(aH.keep _ (by omega) (.inl (by omega))).trans hk⟩
  ·rintro pre Si A1 B1 ⟨S,c,cy,hD,hL,bJ,hi,hl,hk⟩ aH;have ag:w.heap.size+1<A1.heap.size:=(eQ.1 hl).1;exact⟨S,c,cy,hD,hL,bJ,gm c _ _ _ _ hi (aH.weaken (by omega) (λk e=>(cy k).2 (.inl e))),(aH.keep _ ag (.inl (by omega))).trans hl,(aH.keep _ (by omega) (.inl (by omega))).trans hk⟩
  ·
   rintro pre x Si W bW ⟨S,cy,hD,hL,bJ,hi,hl,hk⟩ fG xk;have ag:w.heap.size+1<W.heap.size:=(eQ.1 hl).1;have xj:∀ k,S k->k<W.heap.size:=λk e=>fG k ((cy k).2 (.inl e));have hy:=run_yield (P:=P) (args:=encs x) hl (by rw[dW];exact ej x);rw[dW] at hy;refine⟨fn,_,assign,body,hy,roundIn_of_wpIn tB (wpIn_mono (xl _ pre x S W bW hi xj) ?_)⟩;intro e a1 Wa hq
   cases e with
   | normal=>
    obtain⟨S1,dl,cJ,tR,xc⟩:=hq;have qG:¬ S1 w.heap.size:=λe=>by rcases cJ _ e with e | e;exact hD e;omega
    have mS:¬ S1 (w.heap.size+1):=λe=>by rcases cJ _ e with e | e;exact hL e;omega
    have l4:Wa.heap[w.heap.size+1]?=some (.loop (rec .ready none)):=(dl.keep _ ag hL).trans hl;have xH:Wa.heap[w.heap.size]?=some (.deferred (some [])):=(dl.keep _ (by omega) hD).trans hk;have qF:w.heap.size+1<Wa.heap.size:=(eQ.1 l4).1;refine⟨_,run_beginRound l4 (by rw[dW]),?_⟩;have hb:=xp (w.heap.size+1) pre x S1 a1 (Wa.putObj (w.heap.size+1) (.loop { rec .ready none with state:=.busy })) bW (hA _ _ _ _ _ _ xc (nO _ (by omega) mS)) (λk e=>by simpa using tR k e);refine wpIn_mono hb ?_;have fin:∀ (jump:Option Code) (W3:World) (S3:Nat->Prop),RdStep S1 (Wa.putObj (w.heap.size+1) (.loop { rec .ready none with state:=.busy })) W3->(∀ k,S3 k->S1 k\/(Wa.putObj (w.heap.size+1) (.loop { rec .ready none with state:=.busy })).heap.size<=k)->(∀ k,S3 k->k<W3.heap.size)->
     (Instr.endRound (w.heap.size+1) jump).run P W3 = .ok (.bool jump.isNone) (W3.putObj (w.heap.size+1) (.loop (rec (if jump.isNone then .ready else .done) jump)))/\
     (W3.putObj (w.heap.size+1) (.loop (rec (if jump.isNone then .ready else .done) jump))).heap[w.heap.size+1]?=some (.loop (rec (if jump.isNone then .ready else .done) jump))/\
     (W3.putObj (w.heap.size+1) (.loop (rec (if jump.isNone then .ready else .done) jump))).heap[w.heap.size]?=some (.deferred (some []))/\
     ¬ S3 w.heap.size/\¬ S3 (w.heap.size+1)/\(∀ k,S3 k->S k\/W.heap.size<=k)/\
     RdStep Si W (W3.putObj (w.heap.size+1) (.loop (rec (if jump.isNone then .ready else .done) jump))):=λjump W3 S3 bX bR cB=>by
     have ei:(Wa.putObj (w.heap.size+1) (.loop { rec .ready none with state:=.busy })).heap[w.heap.size+1]?=some (.loop { rec .ready none with state:=.busy }):=World.putObj_heap_same qF;have qD:(Wa.putObj (w.heap.size+1) (.loop { rec .ready none with state:=.busy })).heap[w.heap.size]?=some (.deferred (some [])):=(zQ (by omega)).trans xH;have kh:=(bX.keep _ (by simpa using qF) mS).trans ei;have jE:=(bX.keep _ (by simp;omega) qG).trans qD;have ma:=(eQ.1 kh).1
     have:=run_endRound (P:=P) jump kh
     rw[dW] at this |-;have ll:=bX.size;have qQ:=dl.size;simp only[World.putObj_size] at ll bR;refine⟨this,World.putObj_heap_same ma,(zQ (by omega)).trans jE,λe=>?_,λe=>?_,λk e=>?_,?_⟩
     ·rcases bR _ e with e | e;exact qG e;omega
     ·rcases bR _ e with e | e;exact mS e;omega
     ·rcases bR _ e with e | e
      ·exact cJ _ e
      ·right;omega
     ·refine⟨bX.os.trans dl.os,bX.tape.trans dl.tape,bX.output.trans dl.output,by simp;omega,λk hk' qH=>?_⟩;have fZ:k≠w.heap.size+1:=λe=>qH ((cy k).2 (.inr e));have qI:¬ S k:=λe=>qH ((cy k).2 (.inl e));have xJ:¬ S1 k:=λe=>by rcases cJ _ e with e | e;exact qI e;omega
      exact (zQ fZ).trans ((bX.keep k (by simp;omega) xJ).trans ((zQ fZ).trans (dl.keep k hk' qI)))
    have fin2:∀ (S3:Nat->Prop) (W3:World) (o:Obj),(∀ k,S3 k->k<W3.heap.size)->W.heap.size<=W3.heap.size->(∀ k,S3 k->S k\/W.heap.size<=k)->
     (∀ k,(S3 k\/k=w.heap.size+1)->Si k\/W.heap.size<=k)/\(∀ k,(S3 k\/k=w.heap.size+1)->k<(W3.putObj (w.heap.size+1) o).heap.size):=λS3 W3 o h1 h2 h3=>
     ⟨λk e=>by rcases e with e | e;exact (h3 k e).imp (λe'=>(cy k).2 (.inl e')) id;exact .inl ((cy k).2 (.inr e)),λk e=>by
      simp only[World.putObj_size];rcases e with e | e
      ·exact h1 k e
      ·omega⟩
    have sub3:∀ (S3:Nat->Prop),(∀ k,S3 k->S k\/W.heap.size<=k)->∀ k,S3 k->S0 k\/w.heap.size<=k:=λS3 h k e=>by
     rcases h k e with e | e
     ·exact bJ k e
     ·right;omega
    rintro e a3 W3 hp
    cases e with
    | normal=>
     obtain⟨S3,bX,bR,cB,ij⟩:=hp;obtain⟨hr,gS,ft,fI,eI,dh,cp⟩:=fin none W3 S3 bX bR cB;have aB:W.heap.size<=W3.heap.size:=by simpa using cp.size
     refine⟨_,_,hr,λk=>S3 k\/k=w.heap.size+1,cp,(fin2 S3 W3 (.deferred none) cB aB dh).1,(fin2 S3 W3 _ cB aB dh).2,.inl ⟨rfl,S3,λ_=>Iff.rfl,fI,eI,sub3 S3 dh,hI _ _ _ _ ij (nO _ (by omega) eI),gS,ft⟩⟩
    | ret=>
     obtain⟨S3,bX,bR,cB,ij⟩:=hp;obtain⟨hr,gS,ft,fI,eI,dh,cp⟩:=fin (some .ret) W3 S3 bX bR cB;have aB:W.heap.size<=W3.heap.size:=by simpa using cp.size
     refine⟨_,_,hr,λk=>S3 k\/k=w.heap.size+1,cp,(fin2 S3 W3 (.deferred none) cB aB dh).1,(fin2 S3 W3 _ cB aB dh).2,.inr ⟨rfl,S3,.ret,λ_=>Iff.rfl,fI,eI,sub3 S3 dh,gm _ _ _ _ _ ij (nO _ (by omega) eI),gS,ft⟩⟩
    | exit id=>
     obtain⟨S3,bX,bR,cB,ij⟩:=hp;obtain⟨hr,gS,ft,fI,eI,dh,cp⟩:=fin (some (.exit id)) W3 S3 bX bR cB;have aB:W.heap.size<=W3.heap.size:=by simpa using cp.size
     refine⟨_,_,hr,λk=>S3 k\/k=w.heap.size+1,cp,(fin2 S3 W3 (.deferred none) cB aB dh).1,(fin2 S3 W3 _ cB aB dh).2,.inr ⟨rfl,S3,.exit id,λ_=>Iff.rfl,fI,eI,sub3 S3 dh,gm _ _ _ _ _ ij (nO _ (by omega) eI),gS,ft⟩⟩
    | goto t=>exact hp.elim
    | panic ch=>exact hp.elim
    | outgrown=>exact hp.elim
   | ret=>exact hq.elim
   | exit id=>exact hq.elim
   | goto t=>exact hq.elim
   | panic ch=>exact hq.elim
   | outgrown=>exact hq.elim
  ·rintro k (e | rfl)
   ·exact mH k e
   ·exact λh=>by have h1:=(cL.2 _ h).1;have h2:=cL.1;omega
  ·rintro k (e | rfl)
   ·have:=ie k e;omega
   ·omega
  ·exact⟨S0,λ_=>Iff.rfl,λe=>by have:=ie _ e;omega,λe=>by have:=ie _ e;omega,λ_ e=>.inl e,ol,om,xg⟩
theorem bQZ{α:Type}{P:Program}{g:Operand}{ps:Array Tmp}{assign body:Code}{Q:Exit->Act->World->Prop}{a:Act}{w:World}
 {gf:FuncId} {first captured:Array Value} (hg:a.eval g = .func (.func gf) first captured) (eg:∀ args w,(callFunc gf args).run P w = .ok (.enter gf args) w)
 {mk:Value->Array Value} {encs:α->Array Value} {xs:List α} {Dr:Nat->Prop} {w0:World} (fd:∀ y,mk y=first ++ #[y]++captured)
 (hit:Jn P gf mk encs xs Dr w0) (cL:dI Dr w0 w) (ej:∀ x,(encs x).size=ps.size)
 (I:List α->(Nat->Prop)->World->Prop) (Ix:Code->List α->(Nat->Prop)->World->Prop)
 (hI:iy w.heap.size I) (gm:∀ c,iy w.heap.size (Ix c))
 (S0:Nat->Prop) (mH:∀ k,S0 k->¬ Dr k) (ie:∀ k,S0 k->k<w.heap.size) (h0:I [] S0 w)
 (xT:∀ (l0:Nat) (pre:List α) (x:α) (S:Nat->Prop) (W:World),pre ++ [x] <+: xs->I pre S W->(∀ k,S k->k<W.heap.size)->
   assign.wpIn (Fence.wide.inRound l0) 0 P (Exit.then (λa₁ W₁=>∃ S',RdStep S W W₁/\(∀ k,S' k->S k\/W.heap.size<=k)/\(∀ k,S' k->k<W₁.heap.size)/\
    ∀ l W₂,ItStep w.heap.size S' W₁ W₂->body.wpIn (Fence.wide.inRound l) 0 P (lR I Ix (pre ++ [x]) S' W₂) a₁ W₂) (λ_ _ _=>False))
    { tmps:=(ps.zip (encs x)).foldl (λt (p,v)=>t.setIfInBounds p v) a.tmps,defers:=[] } W)
 (mN:∀ (D:Nat) (S:Nat->Prop) (W:World),w.heap.size<=D->¬ S D->(∀ k,S k->S0 k\/w.heap.size<=k)->I xs S W->W.heap[D]?=some (.deferred (some []))->
   Q .normal { a with defers:={ target:=.collected D,args:=#[] } :: a.defers } W)
 (mV:∀ (D:Nat) (c:Code) (pre:List α) (S:Nat->Prop) (W:World),w.heap.size<=D->¬ S D->(∀ k,S k->S0 k\/w.heap.size<=k)->pre <+: xs->Ix c pre S W->W.heap[D]?=some (.deferred (some []))->
   c.wpIn Fence.wide 0 P Q { a with defers:={ target:=.collected D,args:=#[] } :: a.defers } W) :
 (Code.rangeFunc g ps assign body).wpIn Fence.wide 0 P Q a w:=
 bQQ hg eg fd hit cL ej I Ix (λpre x S a₁ W=>∀ l W₂,ItStep w.heap.size S W W₂->body.wpIn (Fence.wide.inRound l) 0 P (lR I Ix (pre ++ [x]) S W₂) a₁ W₂)
  hI gm (λ_ _ _ _ _ _ h hs l W₂ h2=>h l W₂ (hs.trans h2)) S0 mH ie h0 xT (λl _ _ _ _ W _ h _=>h l W (ItStep.refl _ _ _)) mN mV
def ItO(B:Nat)(O S:Nat->Prop)(W W':World):Prop:=ItStep 0 (λk=>(k<B/\¬ O k)\/S k) W W'
theorem ItO.keep{B:Nat}{O S:Nat->Prop}{W W':World}(h:ItO B O S W W'):∀ k,k<W.heap.size->((k<B/\¬ O k)\/S k)->W'.heap[k]?=W.heap[k]?:=λk hk hs=>ItStep.keep h k hk (.inr hs)
theorem ItO.trans{B:Nat}{O S:Nat->Prop}{A W C:World}(h:ItO B O S A W)(k:ItO B O S W C):ItO B O S A C:=ItStep.trans h k
theorem ItO.size{B:Nat}{O S:Nat->Prop}{W W':World}(h:ItO B O S W W'):W.heap.size<=W'.heap.size:=ItStep.size h
theorem ItO.of_below{B:Nat}{O S:Nat->Prop}{A W:World}(h:Below A.heap.size A W):ItO B O S A W:=ItStep.of_below h
theorem pz{B:Nat}{O S:Nat->Prop}{W:World}{l:Nat}(o:Obj)(hl:B<=l)(hS:¬ S l):ItO B O S W (W.putObj l o):=
 nO o (jQ _) (λh=>by rcases h with h | h;exact absurd h.1 (by omega);exact hS h)
theorem Gv{B:Nat}{O S:Nat->Prop}{W:World}(o:Obj):ItO B O S W (W.alloc o):=x7 o
theorem a6Q{B:Nat}{O S:Nat->Prop}{W:World}{p:Addr}(u:Value)(hO:O p.block)(hS:¬ S p.block):ItO B O S W (W.setCell p u):=
 ⟨rfl,rfl,rfl,by simp[World.setCell],λk _ hk=>wQ _ _ _ _ (by rintro rfl;rcases hk with hk | hk | hk;omega;exact hk.2 hO;exact hS hk)⟩
theorem Gw{B B':Nat}{O S S':Nat->Prop}{W W':World}(h:ItO B O S W W')(hB:B'<=B)(hS:∀ k,S' k->S k):ItO B' O S' W W':=
 ItStep.weaken (B:=0) h (bQ _) (λk hk=>hk.imp (λe=>⟨by omega,e.2⟩) (hS k))
def mF{β:Type}(B:Nat)(O:Nat->Prop)(J:β->(Nat->Prop)->World->Prop):Prop:=∀ s S W W',J s S W->ItO B O S W W'->J s S W'
def Jl{α:Type}(P:Program)(gf:FuncId)(mk:Value->Array Value)(encs:α->Array Value)(xs:List α)(Dr O:Nat->Prop)(w:World):Prop:=
 ∀ (l:Nat) (J Jx:List α->(Nat->Prop)->World->Prop) (S:Nat->Prop) (W:World),dI Dr w W->dI O w W->
   mF W.heap.size O J->mF W.heap.size O Jx->
   (∀ pre x S1 W1,pre ++ [x] <+: xs->J pre S1 W1->(∀ k,S1 k->k<W1.heap.size)->W.heap.size<=W1.heap.size->
     YieldAt Fence.wide 0 P l (encs x) W1 (ze J Jx pre x S1 W1))->
   (∀ k,S k->¬ Dr k)->(∀ k,S k->¬ O k)->(∀ k,S k->k<W.heap.size)->J [] S W->
   CallsIn Fence.wide 0 P gf (mk (.func (.yield l) #[] #[])) W λe W'=>(∃ v,e = .returned v)/\
    ((∃ S',J xs S' W'/\(∀ k,S' k->S k\/W.heap.size<=k))\/(∃ pre S',pre <+: xs/\Jx pre S' W'/\(∀ k,S' k->S k\/W.heap.size<=k)))
theorem bPJ{α:Type}{P:Program}{g:Operand}{ps:Array Tmp}{assign body:Code}{Q:Exit->Act->World->Prop}{a:Act}{w:World}
 {gf:FuncId} {first captured:Array Value} (hg:a.eval g = .func (.func gf) first captured) (eg:∀ args w,(callFunc gf args).run P w = .ok (.enter gf args) w)
 {mk:Value->Array Value} {encs:α->Array Value} {xs:List α} {Dr O:Nat->Prop} {w0:World} (fd:∀ y,mk y=first ++ #[y]++captured)
 (hit:Jl P gf mk encs xs Dr O w0) (cL:dI Dr w0 w) (qA:dI O w0 w) (ej:∀ x,(encs x).size=ps.size)
 (I:List α->(Nat->Prop)->World->Prop) (Ix:Code->List α->(Nat->Prop)->World->Prop) (A:List α->α->(Nat->Prop)->Act->World->Prop)
 (hI:mF w.heap.size O I) (gm:∀ c,mF w.heap.size O (Ix c)) (hA:∀ pre x S a' W W',A pre x S a' W->ItO w.heap.size O S W W'->A pre x S a' W')
 (S0:Nat->Prop) (mH:∀ k,S0 k->¬ Dr k) (xi:∀ k,S0 k->¬ O k) (ie:∀ k,S0 k->k<w.heap.size) (h0:I [] S0 w)
 (xl:∀ (l:Nat) (pre:List α) (x:α) (S:Nat->Prop) (W:World),pre ++ [x] <+: xs->I pre S W->(∀ k,S k->k<W.heap.size)->
   assign.wpIn (Fence.wide.inRound l) 0 P (Exit.then (λa₁ W₁=>∃ S',RdStep S W W₁/\(∀ k,S' k->S k\/W.heap.size<=k)/\(∀ k,S' k->k<W₁.heap.size)/\A pre x S' a₁ W₁) (λ_ _ _=>False))
    { tmps:=(ps.zip (encs x)).foldl (λt (p,v)=>t.setIfInBounds p v) a.tmps,defers:=[] } W)
 (xp:∀ (l:Nat) (pre:List α) (x:α) (S:Nat->Prop) (a₁:Act) (W:World),pre ++ [x] <+: xs->A pre x S a₁ W->(∀ k,S k->k<W.heap.size)->
   body.wpIn (Fence.wide.inRound l) 0 P (lR I Ix (pre ++ [x]) S W) a₁ W)
 (mN:∀ (D:Nat) (S:Nat->Prop) (W:World),w.heap.size<=D->¬ S D->(∀ k,S k->S0 k\/w.heap.size<=k)->I xs S W->W.heap[D]?=some (.deferred (some []))->
   Q .normal { a with defers:={ target:=.collected D,args:=#[] } :: a.defers } W)
 (mV:∀ (D:Nat) (c:Code) (pre:List α) (S:Nat->Prop) (W:World),w.heap.size<=D->¬ S D->(∀ k,S k->S0 k\/w.heap.size<=k)->pre <+: xs->Ix c pre S W->W.heap[D]?=some (.deferred (some []))->
   c.wpIn Fence.wide 0 P Q { a with defers:={ target:=.collected D,args:=#[] } :: a.defers } W) :
 (Code.rangeFunc g ps assign body).wpIn Fence.wide 0 P Q a w:=by
 refine wpIn_rangeFunc ?_;intro fn tB;show ∃ (l:Nat) (mark:List Deferred) (w₁:World) (d:Deferred) (w₁':World) (f:FuncId) (args:Array Value) (w₂:World),(Instr.enterLoop fn a.tmps ps assign body none).run P w = .ok (l,mark) w₁/\_;obtain⟨rec,dW⟩:∃ rec:LoopState->Option Code->Loop,rec=λst pe=>{ state:=st,pending:=pe,fn,tmps:=a.tmps,params:=ps,assign,body,defers:=w.heap.size }:=⟨_,rfl⟩;obtain⟨W1,dD⟩:=aaK ((w.alloc (.deferred (some []))).alloc (.loop (rec .ready none)));have aB:W1.heap.size=w.heap.size+2:=by rw[<-dD];simp
 have om:W1.heap[w.heap.size+1]?=some (.loop (rec .ready none)):=by
  rw[<-dD];have:=World.alloc_heap_new (w.alloc (.deferred (some []))) (.loop (rec .ready none));rwa [World.size_alloc] at this
 have xg:W1.heap[w.heap.size]?=some (.deferred (some [])):=by
  rw[<-dD];exact (Below.heap_alloc _ _ _ (by simp)).trans (World.alloc_heap_new w _)
 have ol:I [] S0 W1:=by rw[<-dD];exact hI _ _ _ _ (hI _ _ _ _ h0 (Gv _)) (Gv _)
 have av:dI Dr w0 W1:=by
  rw[<-dD];exact cL.of_below (((vQ _ w).alloc (bQ _) _).alloc (by simp) _)
 have Ki:dI O w0 W1:=by
  rw[<-dD];exact qA.of_below (((vQ _ w).alloc (bQ _) _).alloc (by simp) _)
 have qs:∀ k,O k->k<w.heap.size:=λk h=>by have h1:=(qA.2 k h).1;have h2:=qA.1;omega
 refine⟨w.heap.size+1,[{ target:=.collected w.heap.size,args:=#[] }],W1,{ target:=.fn (.func gf) captured,args:=first ++ #[.func (.yield (w.heap.size+1)) #[] #[]] },W1,gf,
  first ++ #[.func (.yield (w.heap.size+1)) #[] #[]]++captured,W1,?_,?_,?_,?_,λh=>by simp[Fence.wide] at h,?_⟩
 ·rw[<-dD,dW];exact run_enterLoop_outer _ _ _ _ _
 ·simp only[resolve,hg];simp[go_sem]
 ·intro f' _;trivial
 ·simp[invoke,go_sem,eg]
 ·rw[<-fd];have key:=hit (w.heap.size+1)
   (λpre Si W=>∃ S:Nat->Prop,(∀ k,Si k↔S k\/k=w.heap.size+1)/\(¬ S w.heap.size)/\(¬ S (w.heap.size+1))/\(∀ k,S k->S0 k\/w.heap.size<=k)/\I pre S W/\W.heap[w.heap.size+1]?=some (.loop (rec .ready none))/\W.heap[w.heap.size]?=some (.deferred (some [])))
   (λpre Si W=>∃ (S:Nat->Prop) (c:Code),(∀ k,Si k↔S k\/k=w.heap.size+1)/\(¬ S w.heap.size)/\(¬ S (w.heap.size+1))/\(∀ k,S k->S0 k\/w.heap.size<=k)/\Ix c pre S W/\W.heap[w.heap.size+1]?=some (.loop (rec .done (some c)))/\W.heap[w.heap.size]?=some (.deferred (some [])))
   (λk=>S0 k\/k=w.heap.size+1) W1 av Ki ?_ ?_ ?_ ?_ ?_ ?_ ?_
  ·refine key.mono ?_;rintro e W2 ⟨⟨v,rfl⟩,(⟨S',⟨S,cy,hD,hL,bJ,hi,hl,hk⟩,_⟩ | ⟨pre,S',mf,⟨S,c,cy,hD,hL,bJ,hi,hl,hk⟩,_⟩)⟩
   ·refine⟨none,_,by have:=run_endLoop (P:=P) hl (by rw[dW];simp);rw[dW] at this;exact this,?_⟩;exact mN _ S _ (bQ _) hD bJ (hI _ _ _ _ hi (pz _ (by omega) hL)) ((zQ (by omega)).trans hk)
   ·refine⟨some c,_,by have:=run_endLoop (P:=P) hl (by rw[dW];simp);rw[dW] at this;exact this,?_⟩;exact mV _ c pre S _ (bQ _) hD bJ mf ((gm c) _ _ _ _ hi (pz _ (by omega) hL)) ((zQ (by omega)).trans hk)
  ·rintro pre Si A1 B1 ⟨S,cy,hD,hL,bJ,hi,hl,hk⟩ aH;have ag:w.heap.size+1<A1.heap.size:=(eQ.1 hl).1;exact⟨S,cy,hD,hL,bJ,hI _ _ _ _ hi (Gw aH (by omega) (λk e=>(cy k).2 (.inl e))),(aH.keep _ ag (.inl ⟨by omega,λe=>by have:=qs _ e;omega⟩)).trans hl,(aH.keep _ (by omega) (.inl ⟨by omega,λe=>by have:=qs _ e;omega⟩)).trans hk⟩
  ·rintro pre Si A1 B1 ⟨S,c,cy,hD,hL,bJ,hi,hl,hk⟩ aH;have ag:w.heap.size+1<A1.heap.size:=(eQ.1 hl).1;exact⟨S,c,cy,hD,hL,bJ,gm c _ _ _ _ hi (Gw aH (by omega) (λk e=>(cy k).2 (.inl e))),(aH.keep _ ag (.inl ⟨by omega,λe=>by have:=qs _ e;omega⟩)).trans hl,(aH.keep _ (by omega) (.inl ⟨by omega,λe=>by have:=qs _ e;omega⟩)).trans hk⟩
  ·
   rintro pre x Si W bW ⟨S,cy,hD,hL,bJ,hi,hl,hk⟩ fG xk;have ag:w.heap.size+1<W.heap.size:=(eQ.1 hl).1;have xj:∀ k,S k->k<W.heap.size:=λk e=>fG k ((cy k).2 (.inl e));have hy:=run_yield (P:=P) (args:=encs x) hl (by rw[dW];exact ej x);rw[dW] at hy;refine⟨fn,_,assign,body,hy,roundIn_of_wpIn tB (wpIn_mono (xl _ pre x S W bW hi xj) ?_)⟩;intro e a1 Wa hq
   cases e with
   | normal=>
    obtain⟨S1,dl,cJ,tR,xc⟩:=hq;have qG:¬ S1 w.heap.size:=λe=>by rcases cJ _ e with e | e;exact hD e;omega
    have mS:¬ S1 (w.heap.size+1):=λe=>by rcases cJ _ e with e | e;exact hL e;omega
    have l4:Wa.heap[w.heap.size+1]?=some (.loop (rec .ready none)):=(dl.keep _ ag hL).trans hl;have xH:Wa.heap[w.heap.size]?=some (.deferred (some [])):=(dl.keep _ (by omega) hD).trans hk;have qF:w.heap.size+1<Wa.heap.size:=(eQ.1 l4).1;refine⟨_,run_beginRound l4 (by rw[dW]),?_⟩;have hb:=xp (w.heap.size+1) pre x S1 a1 (Wa.putObj (w.heap.size+1) (.loop { rec .ready none with state:=.busy })) bW (hA _ _ _ _ _ _ xc (pz _ (by omega) mS)) (λk e=>by simpa using tR k e);refine wpIn_mono hb ?_;have fin:∀ (jump:Option Code) (W3:World) (S3:Nat->Prop),RdStep S1 (Wa.putObj (w.heap.size+1) (.loop { rec .ready none with state:=.busy })) W3->(∀ k,S3 k->S1 k\/(Wa.putObj (w.heap.size+1) (.loop { rec .ready none with state:=.busy })).heap.size<=k)->(∀ k,S3 k->k<W3.heap.size)->
     (Instr.endRound (w.heap.size+1) jump).run P W3 = .ok (.bool jump.isNone) (W3.putObj (w.heap.size+1) (.loop (rec (if jump.isNone then .ready else .done) jump)))/\
     (W3.putObj (w.heap.size+1) (.loop (rec (if jump.isNone then .ready else .done) jump))).heap[w.heap.size+1]?=some (.loop (rec (if jump.isNone then .ready else .done) jump))/\
     (W3.putObj (w.heap.size+1) (.loop (rec (if jump.isNone then .ready else .done) jump))).heap[w.heap.size]?=some (.deferred (some []))/\
     ¬ S3 w.heap.size/\¬ S3 (w.heap.size+1)/\(∀ k,S3 k->S k\/W.heap.size<=k)/\
     RdStep Si W (W3.putObj (w.heap.size+1) (.loop (rec (if jump.isNone then .ready else .done) jump))):=λjump W3 S3 bX bR cB=>by
     have ei:(Wa.putObj (w.heap.size+1) (.loop { rec .ready none with state:=.busy })).heap[w.heap.size+1]?=some (.loop { rec .ready none with state:=.busy }):=World.putObj_heap_same qF;have qD:(Wa.putObj (w.heap.size+1) (.loop { rec .ready none with state:=.busy })).heap[w.heap.size]?=some (.deferred (some [])):=(zQ (by omega)).trans xH;have kh:=(bX.keep _ (by simpa using qF) mS).trans ei;have jE:=(bX.keep _ (by simp;omega) qG).trans qD;have ma:=(eQ.1 kh).1
     have:=run_endRound (P:=P) jump kh
     rw[dW] at this |-;have ll:=bX.size;have qQ:=dl.size;simp only[World.putObj_size] at ll bR;refine⟨this,World.putObj_heap_same ma,(zQ (by omega)).trans jE,λe=>?_,λe=>?_,λk e=>?_,?_⟩
     ·rcases bR _ e with e | e;exact qG e;omega
     ·rcases bR _ e with e | e;exact mS e;omega
     ·rcases bR _ e with e | e
      ·exact cJ _ e
      ·right;omega
     ·refine⟨bX.os.trans dl.os,bX.tape.trans dl.tape,bX.output.trans dl.output,by simp;omega,λk hk' qH=>?_⟩;have fZ:k≠w.heap.size+1:=λe=>qH ((cy k).2 (.inr e));have qI:¬ S k:=λe=>qH ((cy k).2 (.inl e));have xJ:¬ S1 k:=λe=>by rcases cJ _ e with e | e;exact qI e;omega
      exact (zQ fZ).trans ((bX.keep k (by simp;omega) xJ).trans ((zQ fZ).trans (dl.keep k hk' qI)))
    have fin2:∀ (S3:Nat->Prop) (W3:World) (o:Obj),(∀ k,S3 k->k<W3.heap.size)->W.heap.size<=W3.heap.size->(∀ k,S3 k->S k\/W.heap.size<=k)->
     (∀ k,(S3 k\/k=w.heap.size+1)->Si k\/W.heap.size<=k)/\(∀ k,(S3 k\/k=w.heap.size+1)->k<(W3.putObj (w.heap.size+1) o).heap.size):=λS3 W3 o h1 h2 h3=>
     ⟨λk e=>by rcases e with e | e;exact (h3 k e).imp (λe'=>(cy k).2 (.inl e')) id;exact .inl ((cy k).2 (.inr e)),λk e=>by
      simp only[World.putObj_size];rcases e with e | e
      ·exact h1 k e
      ·omega⟩
    have sub3:∀ (S3:Nat->Prop),(∀ k,S3 k->S k\/W.heap.size<=k)->∀ k,S3 k->S0 k\/w.heap.size<=k:=λS3 h k e=>by
     rcases h k e with e | e
     ·exact bJ k e
     ·right;omega
    rintro e a3 W3 hp
    cases e with
    | normal=>
     obtain⟨S3,bX,bR,cB,ij⟩:=hp;obtain⟨hr,gS,ft,fI,eI,dh,cp⟩:=fin none W3 S3 bX bR cB;have aB:W.heap.size<=W3.heap.size:=by simpa using cp.size
     refine⟨_,_,hr,λk=>S3 k\/k=w.heap.size+1,cp,(fin2 S3 W3 (.deferred none) cB aB dh).1,(fin2 S3 W3 _ cB aB dh).2,.inl ⟨rfl,S3,λ_=>Iff.rfl,fI,eI,sub3 S3 dh,hI _ _ _ _ ij (pz _ (by omega) eI),gS,ft⟩⟩
    | ret=>
     obtain⟨S3,bX,bR,cB,ij⟩:=hp;obtain⟨hr,gS,ft,fI,eI,dh,cp⟩:=fin (some .ret) W3 S3 bX bR cB;have aB:W.heap.size<=W3.heap.size:=by simpa using cp.size
     refine⟨_,_,hr,λk=>S3 k\/k=w.heap.size+1,cp,(fin2 S3 W3 (.deferred none) cB aB dh).1,(fin2 S3 W3 _ cB aB dh).2,.inr ⟨rfl,S3,.ret,λ_=>Iff.rfl,fI,eI,sub3 S3 dh,gm _ _ _ _ _ ij (pz _ (by omega) eI),gS,ft⟩⟩
    | exit id=>
     obtain⟨S3,bX,bR,cB,ij⟩:=hp;obtain⟨hr,gS,ft,fI,eI,dh,cp⟩:=fin (some (.exit id)) W3 S3 bX bR cB;have aB:W.heap.size<=W3.heap.size:=by simpa using cp.size
     refine⟨_,_,hr,λk=>S3 k\/k=w.heap.size+1,cp,(fin2 S3 W3 (.deferred none) cB aB dh).1,(fin2 S3 W3 _ cB aB dh).2,.inr ⟨rfl,S3,.exit id,λ_=>Iff.rfl,fI,eI,sub3 S3 dh,gm _ _ _ _ _ ij (pz _ (by omega) eI),gS,ft⟩⟩
    | goto t=>exact hp.elim
    | panic ch=>exact hp.elim
    | outgrown=>exact hp.elim
   | ret=>exact hq.elim
   | exit id=>exact hq.elim
   | goto t=>exact hq.elim
   | panic ch=>exact hq.elim
   | outgrown=>exact hq.elim
  ·rintro k (e | rfl)
   ·exact mH k e
   ·exact λh=>by have h1:=(cL.2 _ h).1;have h2:=cL.1;omega
  ·rintro k (e | rfl)
   ·exact xi k e
   ·exact λh=>by have:=qs _ h;omega
  ·rintro k (e | rfl)
   ·have:=ie k e;omega
   ·omega
  ·exact⟨S0,λ_=>Iff.rfl,λe=>by have:=ie _ e;omega,λe=>by have:=ie _ e;omega,λ_ e=>.inl e,ol,om,xg⟩
theorem bPK{α:Type}{P:Program}{g:Operand}{ps:Array Tmp}{assign body:Code}{Q:Exit->Act->World->Prop}{a:Act}{w:World}
 {gf:FuncId} {first captured:Array Value} (hg:a.eval g = .func (.func gf) first captured) (eg:∀ args w,(callFunc gf args).run P w = .ok (.enter gf args) w)
 {mk:Value->Array Value} {encs:α->Array Value} {xs:List α} {Dr O:Nat->Prop} {w0:World} (fd:∀ y,mk y=first ++ #[y]++captured)
 (hit:Jl P gf mk encs xs Dr O w0) (cL:dI Dr w0 w) (qA:dI O w0 w) (ej:∀ x,(encs x).size=ps.size)
 (I:List α->(Nat->Prop)->World->Prop) (Ix:Code->List α->(Nat->Prop)->World->Prop)
 (hI:mF w.heap.size O I) (gm:∀ c,mF w.heap.size O (Ix c))
 (S0:Nat->Prop) (mH:∀ k,S0 k->¬ Dr k) (xi:∀ k,S0 k->¬ O k) (ie:∀ k,S0 k->k<w.heap.size) (h0:I [] S0 w)
 (xT:∀ (l0:Nat) (pre:List α) (x:α) (S:Nat->Prop) (W:World),pre ++ [x] <+: xs->I pre S W->(∀ k,S k->k<W.heap.size)->
   assign.wpIn (Fence.wide.inRound l0) 0 P (Exit.then (λa₁ W₁=>∃ S',RdStep S W W₁/\(∀ k,S' k->S k\/W.heap.size<=k)/\(∀ k,S' k->k<W₁.heap.size)/\
    ∀ l W₂,ItO w.heap.size O S' W₁ W₂->body.wpIn (Fence.wide.inRound l) 0 P (lR I Ix (pre ++ [x]) S' W₂) a₁ W₂) (λ_ _ _=>False))
    { tmps:=(ps.zip (encs x)).foldl (λt (p,v)=>t.setIfInBounds p v) a.tmps,defers:=[] } W)
 (mN:∀ (D:Nat) (S:Nat->Prop) (W:World),w.heap.size<=D->¬ S D->(∀ k,S k->S0 k\/w.heap.size<=k)->I xs S W->W.heap[D]?=some (.deferred (some []))->
   Q .normal { a with defers:={ target:=.collected D,args:=#[] } :: a.defers } W)
 (mV:∀ (D:Nat) (c:Code) (pre:List α) (S:Nat->Prop) (W:World),w.heap.size<=D->¬ S D->(∀ k,S k->S0 k\/w.heap.size<=k)->pre <+: xs->Ix c pre S W->W.heap[D]?=some (.deferred (some []))->
   c.wpIn Fence.wide 0 P Q { a with defers:={ target:=.collected D,args:=#[] } :: a.defers } W) :
 (Code.rangeFunc g ps assign body).wpIn Fence.wide 0 P Q a w:=
 bPJ hg eg fd hit cL qA ej I Ix (λpre x S a₁ W=>∀ l W₂,ItO w.heap.size O S W W₂->body.wpIn (Fence.wide.inRound l) 0 P (lR I Ix (pre ++ [x]) S W₂) a₁ W₂)
  hI gm (λ_ _ _ _ _ _ h hs l W₂ h2=>h l W₂ (hs.trans h2)) S0 mH xi ie h0 xT (λl _ _ _ _ W _ h _=>h l W (ItStep.refl _ _ _)) mN mV
def Jm{α:Type}(P:Program)(gf:FuncId)(mk:Value->Array Value)(encs:α->Array Value)(Ok Fin:List α->Prop)(Dr O:Nat->Prop)(w:World):Prop:=
 ∀ (l:Nat) (J Jx:List α->(Nat->Prop)->World->Prop) (S:Nat->Prop) (W:World),dI Dr w W->dI O w W->
   mF W.heap.size O J->mF W.heap.size O Jx->
   (∀ pre x S1 W1,Ok (pre ++ [x])->J pre S1 W1->(∀ k,S1 k->k<W1.heap.size)->W.heap.size<=W1.heap.size->
     YieldAt Fence.wide 0 P l (encs x) W1 (ze J Jx pre x S1 W1))->
   (∀ k,S k->¬ Dr k)->(∀ k,S k->¬ O k)->(∀ k,S k->k<W.heap.size)->J [] S W->
   CallsIn Fence.wide 0 P gf (mk (.func (.yield l) #[] #[])) W λe W'=>(∃ v,e = .returned v)/\
    ((∃ xs S',Fin xs/\J xs S' W'/\(∀ k,S' k->S k\/W.heap.size<=k))\/(∃ pre S',Ok pre/\Jx pre S' W'/\(∀ k,S' k->S k\/W.heap.size<=k)))
theorem bPX{α:Type}{P:Program}{g:Operand}{ps:Array Tmp}{assign body:Code}{Q:Exit->Act->World->Prop}{a:Act}{w:World}
 {gf:FuncId} {first captured:Array Value} (hg:a.eval g = .func (.func gf) first captured) (eg:∀ args w,(callFunc gf args).run P w = .ok (.enter gf args) w)
 {mk:Value->Array Value} {encs:α->Array Value} {Ok Fin:List α->Prop} {Dr O:Nat->Prop} {w0:World} (fd:∀ y,mk y=first ++ #[y]++captured)
 (hit:Jm P gf mk encs Ok Fin Dr O w0) (cL:dI Dr w0 w) (qA:dI O w0 w) (ej:∀ x,(encs x).size=ps.size)
 (I:List α->(Nat->Prop)->World->Prop) (Ix:Code->List α->(Nat->Prop)->World->Prop) (A:List α->α->(Nat->Prop)->Act->World->Prop)
 (hI:mF w.heap.size O I) (gm:∀ c,mF w.heap.size O (Ix c)) (hA:∀ pre x S a' W W',A pre x S a' W->ItO w.heap.size O S W W'->A pre x S a' W')
 (S0:Nat->Prop) (mH:∀ k,S0 k->¬ Dr k) (xi:∀ k,S0 k->¬ O k) (ie:∀ k,S0 k->k<w.heap.size) (h0:I [] S0 w)
 (xl:∀ (l:Nat) (pre:List α) (x:α) (S:Nat->Prop) (W:World),Ok (pre ++ [x])->I pre S W->(∀ k,S k->k<W.heap.size)->
   assign.wpIn (Fence.wide.inRound l) 0 P (Exit.then (λa₁ W₁=>∃ S',RdStep S W W₁/\(∀ k,S' k->S k\/W.heap.size<=k)/\(∀ k,S' k->k<W₁.heap.size)/\A pre x S' a₁ W₁) (λ_ _ _=>False))
    { tmps:=(ps.zip (encs x)).foldl (λt (p,v)=>t.setIfInBounds p v) a.tmps,defers:=[] } W)
 (xp:∀ (l:Nat) (pre:List α) (x:α) (S:Nat->Prop) (a₁:Act) (W:World),Ok (pre ++ [x])->A pre x S a₁ W->(∀ k,S k->k<W.heap.size)->
   body.wpIn (Fence.wide.inRound l) 0 P (lR I Ix (pre ++ [x]) S W) a₁ W)
 (mN:∀ (xs:List α) (D:Nat) (S:Nat->Prop) (W:World),Fin xs->w.heap.size<=D->¬ S D->(∀ k,S k->S0 k\/w.heap.size<=k)->I xs S W->W.heap[D]?=some (.deferred (some []))->
   Q .normal { a with defers:={ target:=.collected D,args:=#[] } :: a.defers } W)
 (mV:∀ (D:Nat) (c:Code) (pre:List α) (S:Nat->Prop) (W:World),w.heap.size<=D->¬ S D->(∀ k,S k->S0 k\/w.heap.size<=k)->Ok pre->Ix c pre S W->W.heap[D]?=some (.deferred (some []))->
   c.wpIn Fence.wide 0 P Q { a with defers:={ target:=.collected D,args:=#[] } :: a.defers } W) :
 (Code.rangeFunc g ps assign body).wpIn Fence.wide 0 P Q a w:=by
 refine wpIn_rangeFunc ?_;intro fn tB;show ∃ (l:Nat) (mark:List Deferred) (w₁:World) (d:Deferred) (w₁':World) (f:FuncId) (args:Array Value) (w₂:World),(Instr.enterLoop fn a.tmps ps assign body none).run P w = .ok (l,mark) w₁/\_;obtain⟨rec,dW⟩:∃ rec:LoopState->Option Code->Loop,rec=λst pe=>{ state:=st,pending:=pe,fn,tmps:=a.tmps,params:=ps,assign,body,defers:=w.heap.size }:=⟨_,rfl⟩;obtain⟨W1,dD⟩:=aaK ((w.alloc (.deferred (some []))).alloc (.loop (rec .ready none)));have aB:W1.heap.size=w.heap.size+2:=by rw[<-dD];simp
 have om:W1.heap[w.heap.size+1]?=some (.loop (rec .ready none)):=by
  rw[<-dD];have:=World.alloc_heap_new (w.alloc (.deferred (some []))) (.loop (rec .ready none));rwa [World.size_alloc] at this
 have xg:W1.heap[w.heap.size]?=some (.deferred (some [])):=by
  rw[<-dD];exact (Below.heap_alloc _ _ _ (by simp)).trans (World.alloc_heap_new w _)
 have ol:I [] S0 W1:=by rw[<-dD];exact hI _ _ _ _ (hI _ _ _ _ h0 (Gv _)) (Gv _)
 have av:dI Dr w0 W1:=by
  rw[<-dD];exact cL.of_below (((vQ _ w).alloc (bQ _) _).alloc (by simp) _)
 have Ki:dI O w0 W1:=by
  rw[<-dD];exact qA.of_below (((vQ _ w).alloc (bQ _) _).alloc (by simp) _)
 have qs:∀ k,O k->k<w.heap.size:=λk h=>by have h1:=(qA.2 k h).1;have h2:=qA.1;omega
 refine⟨w.heap.size+1,[{ target:=.collected w.heap.size,args:=#[] }],W1,{ target:=.fn (.func gf) captured,args:=first ++ #[.func (.yield (w.heap.size+1)) #[] #[]] },W1,gf,
  first ++ #[.func (.yield (w.heap.size+1)) #[] #[]]++captured,W1,?_,?_,?_,?_,λh=>by simp[Fence.wide] at h,?_⟩
 ·rw[<-dD,dW];exact run_enterLoop_outer _ _ _ _ _
 ·simp only[resolve,hg];simp[go_sem]
 ·intro f' _;trivial
 ·simp[invoke,go_sem,eg]
 ·rw[<-fd];have key:=hit (w.heap.size+1)
   (λpre Si W=>∃ S:Nat->Prop,(∀ k,Si k↔S k\/k=w.heap.size+1)/\(¬ S w.heap.size)/\(¬ S (w.heap.size+1))/\(∀ k,S k->S0 k\/w.heap.size<=k)/\I pre S W/\W.heap[w.heap.size+1]?=some (.loop (rec .ready none))/\W.heap[w.heap.size]?=some (.deferred (some [])))
   (λpre Si W=>∃ (S:Nat->Prop) (c:Code),(∀ k,Si k↔S k\/k=w.heap.size+1)/\(¬ S w.heap.size)/\(¬ S (w.heap.size+1))/\(∀ k,S k->S0 k\/w.heap.size<=k)/\Ix c pre S W/\W.heap[w.heap.size+1]?=some (.loop (rec .done (some c)))/\W.heap[w.heap.size]?=some (.deferred (some [])))
   (λk=>S0 k\/k=w.heap.size+1) W1 av Ki ?_ ?_ ?_ ?_ ?_ ?_ ?_
  ·refine key.mono ?_;rintro e W2 ⟨⟨v,rfl⟩,(⟨xs,S',uU,⟨S,cy,hD,hL,bJ,hi,hl,hk⟩,_⟩ | ⟨pre,S',mf,⟨S,c,cy,hD,hL,bJ,hi,hl,hk⟩,_⟩)⟩
   ·refine⟨none,_,by have:=run_endLoop (P:=P) hl (by rw[dW];simp);rw[dW] at this;exact this,?_⟩;exact mN xs _ S _ uU (bQ _) hD bJ (hI _ _ _ _ hi (pz _ (by omega) hL)) ((zQ (by omega)).trans hk)
   ·refine⟨some c,_,by have:=run_endLoop (P:=P) hl (by rw[dW];simp);rw[dW] at this;exact this,?_⟩;exact mV _ c pre S _ (bQ _) hD bJ mf ((gm c) _ _ _ _ hi (pz _ (by omega) hL)) ((zQ (by omega)).trans hk)
  ·rintro pre Si A1 B1 ⟨S,cy,hD,hL,bJ,hi,hl,hk⟩ aH;have ag:w.heap.size+1<A1.heap.size:=(eQ.1 hl).1;exact⟨S,cy,hD,hL,bJ,hI _ _ _ _ hi (Gw aH (by omega) (λk e=>(cy k).2 (.inl e))),(aH.keep _ ag (.inl ⟨by omega,λe=>by have:=qs _ e;omega⟩)).trans hl,(aH.keep _ (by omega) (.inl ⟨by omega,λe=>by have:=qs _ e;omega⟩)).trans hk⟩
  ·rintro pre Si A1 B1 ⟨S,c,cy,hD,hL,bJ,hi,hl,hk⟩ aH;have ag:w.heap.size+1<A1.heap.size:=(eQ.1 hl).1;exact⟨S,c,cy,hD,hL,bJ,gm c _ _ _ _ hi (Gw aH (by omega) (λk e=>(cy k).2 (.inl e))),(aH.keep _ ag (.inl ⟨by omega,λe=>by have:=qs _ e;omega⟩)).trans hl,(aH.keep _ (by omega) (.inl ⟨by omega,λe=>by have:=qs _ e;omega⟩)).trans hk⟩
  ·
   rintro pre x Si W bW ⟨S,cy,hD,hL,bJ,hi,hl,hk⟩ fG xk;have ag:w.heap.size+1<W.heap.size:=(eQ.1 hl).1;have xj:∀ k,S k->k<W.heap.size:=λk e=>fG k ((cy k).2 (.inl e));have hy:=run_yield (P:=P) (args:=encs x) hl (by rw[dW];exact ej x);rw[dW] at hy;refine⟨fn,_,assign,body,hy,roundIn_of_wpIn tB (wpIn_mono (xl _ pre x S W bW hi xj) ?_)⟩;intro e a1 Wa hq
   cases e with
   | normal=>
    obtain⟨S1,dl,cJ,tR,xc⟩:=hq;have qG:¬ S1 w.heap.size:=λe=>by rcases cJ _ e with e | e;exact hD e;omega
    have mS:¬ S1 (w.heap.size+1):=λe=>by rcases cJ _ e with e | e;exact hL e;omega
    have l4:Wa.heap[w.heap.size+1]?=some (.loop (rec .ready none)):=(dl.keep _ ag hL).trans hl;have xH:Wa.heap[w.heap.size]?=some (.deferred (some [])):=(dl.keep _ (by omega) hD).trans hk;have qF:w.heap.size+1<Wa.heap.size:=(eQ.1 l4).1;refine⟨_,run_beginRound l4 (by rw[dW]),?_⟩;have hb:=xp (w.heap.size+1) pre x S1 a1 (Wa.putObj (w.heap.size+1) (.loop { rec .ready none with state:=.busy })) bW (hA _ _ _ _ _ _ xc (pz _ (by omega) mS)) (λk e=>by simpa using tR k e);refine wpIn_mono hb ?_;have fin:∀ (jump:Option Code) (W3:World) (S3:Nat->Prop),RdStep S1 (Wa.putObj (w.heap.size+1) (.loop { rec .ready none with state:=.busy })) W3->(∀ k,S3 k->S1 k\/(Wa.putObj (w.heap.size+1) (.loop { rec .ready none with state:=.busy })).heap.size<=k)->(∀ k,S3 k->k<W3.heap.size)->
     (Instr.endRound (w.heap.size+1) jump).run P W3 = .ok (.bool jump.isNone) (W3.putObj (w.heap.size+1) (.loop (rec (if jump.isNone then .ready else .done) jump)))/\
     (W3.putObj (w.heap.size+1) (.loop (rec (if jump.isNone then .ready else .done) jump))).heap[w.heap.size+1]?=some (.loop (rec (if jump.isNone then .ready else .done) jump))/\
     (W3.putObj (w.heap.size+1) (.loop (rec (if jump.isNone then .ready else .done) jump))).heap[w.heap.size]?=some (.deferred (some []))/\
     ¬ S3 w.heap.size/\¬ S3 (w.heap.size+1)/\(∀ k,S3 k->S k\/W.heap.size<=k)/\
     RdStep Si W (W3.putObj (w.heap.size+1) (.loop (rec (if jump.isNone then .ready else .done) jump))):=λjump W3 S3 bX bR cB=>by
     have ei:(Wa.putObj (w.heap.size+1) (.loop { rec .ready none with state:=.busy })).heap[w.heap.size+1]?=some (.loop { rec .ready none with state:=.busy }):=World.putObj_heap_same qF;have qD:(Wa.putObj (w.heap.size+1) (.loop { rec .ready none with state:=.busy })).heap[w.heap.size]?=some (.deferred (some [])):=(zQ (by omega)).trans xH;have kh:=(bX.keep _ (by simpa using qF) mS).trans ei;have jE:=(bX.keep _ (by simp;omega) qG).trans qD;have ma:=(eQ.1 kh).1
     have:=run_endRound (P:=P) jump kh
     rw[dW] at this |-;have ll:=bX.size;have qQ:=dl.size;simp only[World.putObj_size] at ll bR;refine⟨this,World.putObj_heap_same ma,(zQ (by omega)).trans jE,λe=>?_,λe=>?_,λk e=>?_,?_⟩
     ·rcases bR _ e with e | e;exact qG e;omega
     ·rcases bR _ e with e | e;exact mS e;omega
     ·rcases bR _ e with e | e
      ·exact cJ _ e
      ·right;omega
     ·refine⟨bX.os.trans dl.os,bX.tape.trans dl.tape,bX.output.trans dl.output,by simp;omega,λk hk' qH=>?_⟩;have fZ:k≠w.heap.size+1:=λe=>qH ((cy k).2 (.inr e));have qI:¬ S k:=λe=>qH ((cy k).2 (.inl e));have xJ:¬ S1 k:=λe=>by rcases cJ _ e with e | e;exact qI e;omega
      exact (zQ fZ).trans ((bX.keep k (by simp;omega) xJ).trans ((zQ fZ).trans (dl.keep k hk' qI)))
    have fin2:∀ (S3:Nat->Prop) (W3:World) (o:Obj),(∀ k,S3 k->k<W3.heap.size)->W.heap.size<=W3.heap.size->(∀ k,S3 k->S k\/W.heap.size<=k)->
     (∀ k,(S3 k\/k=w.heap.size+1)->Si k\/W.heap.size<=k)/\(∀ k,(S3 k\/k=w.heap.size+1)->k<(W3.putObj (w.heap.size+1) o).heap.size):=λS3 W3 o h1 h2 h3=>
     ⟨λk e=>by rcases e with e | e;exact (h3 k e).imp (λe'=>(cy k).2 (.inl e')) id;exact .inl ((cy k).2 (.inr e)),λk e=>by
      simp only[World.putObj_size];rcases e with e | e
      ·exact h1 k e
      ·omega⟩
    have sub3:∀ (S3:Nat->Prop),(∀ k,S3 k->S k\/W.heap.size<=k)->∀ k,S3 k->S0 k\/w.heap.size<=k:=λS3 h k e=>by
     rcases h k e with e | e
     ·exact bJ k e
     ·right;omega
    rintro e a3 W3 hp
    cases e with
    | normal=>
     obtain⟨S3,bX,bR,cB,ij⟩:=hp;obtain⟨hr,gS,ft,fI,eI,dh,cp⟩:=fin none W3 S3 bX bR cB;have aB:W.heap.size<=W3.heap.size:=by simpa using cp.size
     refine⟨_,_,hr,λk=>S3 k\/k=w.heap.size+1,cp,(fin2 S3 W3 (.deferred none) cB aB dh).1,(fin2 S3 W3 _ cB aB dh).2,.inl ⟨rfl,S3,λ_=>Iff.rfl,fI,eI,sub3 S3 dh,hI _ _ _ _ ij (pz _ (by omega) eI),gS,ft⟩⟩
    | ret=>
     obtain⟨S3,bX,bR,cB,ij⟩:=hp;obtain⟨hr,gS,ft,fI,eI,dh,cp⟩:=fin (some .ret) W3 S3 bX bR cB;have aB:W.heap.size<=W3.heap.size:=by simpa using cp.size
     refine⟨_,_,hr,λk=>S3 k\/k=w.heap.size+1,cp,(fin2 S3 W3 (.deferred none) cB aB dh).1,(fin2 S3 W3 _ cB aB dh).2,.inr ⟨rfl,S3,.ret,λ_=>Iff.rfl,fI,eI,sub3 S3 dh,gm _ _ _ _ _ ij (pz _ (by omega) eI),gS,ft⟩⟩
    | exit id=>
     obtain⟨S3,bX,bR,cB,ij⟩:=hp;obtain⟨hr,gS,ft,fI,eI,dh,cp⟩:=fin (some (.exit id)) W3 S3 bX bR cB;have aB:W.heap.size<=W3.heap.size:=by simpa using cp.size
     refine⟨_,_,hr,λk=>S3 k\/k=w.heap.size+1,cp,(fin2 S3 W3 (.deferred none) cB aB dh).1,(fin2 S3 W3 _ cB aB dh).2,.inr ⟨rfl,S3,.exit id,λ_=>Iff.rfl,fI,eI,sub3 S3 dh,gm _ _ _ _ _ ij (pz _ (by omega) eI),gS,ft⟩⟩
    | goto t=>exact hp.elim
    | panic ch=>exact hp.elim
    | outgrown=>exact hp.elim
   | ret=>exact hq.elim
   | exit id=>exact hq.elim
   | goto t=>exact hq.elim
   | panic ch=>exact hq.elim
   | outgrown=>exact hq.elim
  ·rintro k (e | rfl)
   ·exact mH k e
   ·exact λh=>by have h1:=(cL.2 _ h).1;have h2:=cL.1;omega
  ·rintro k (e | rfl)
   ·exact xi k e
   ·exact λh=>by have:=qs _ h;omega
  ·rintro k (e | rfl)
   ·have:=ie k e;omega
   ·omega
  ·exact⟨S0,λ_=>Iff.rfl,λe=>by have:=ie _ e;omega,λe=>by have:=ie _ e;omega,λ_ e=>.inl e,ol,om,xg⟩
theorem bPY{α:Type}{P:Program}{g:Operand}{ps:Array Tmp}{assign body:Code}{Q:Exit->Act->World->Prop}{a:Act}{w:World}
 {gf:FuncId} {first captured:Array Value} (hg:a.eval g = .func (.func gf) first captured) (eg:∀ args w,(callFunc gf args).run P w = .ok (.enter gf args) w)
 {mk:Value->Array Value} {encs:α->Array Value} {Ok Fin:List α->Prop} {Dr O:Nat->Prop} {w0:World} (fd:∀ y,mk y=first ++ #[y]++captured)
 (hit:Jm P gf mk encs Ok Fin Dr O w0) (cL:dI Dr w0 w) (qA:dI O w0 w) (ej:∀ x,(encs x).size=ps.size)
 (I:List α->(Nat->Prop)->World->Prop) (Ix:Code->List α->(Nat->Prop)->World->Prop)
 (hI:mF w.heap.size O I) (gm:∀ c,mF w.heap.size O (Ix c))
 (S0:Nat->Prop) (mH:∀ k,S0 k->¬ Dr k) (xi:∀ k,S0 k->¬ O k) (ie:∀ k,S0 k->k<w.heap.size) (h0:I [] S0 w)
 (xT:∀ (l0:Nat) (pre:List α) (x:α) (S:Nat->Prop) (W:World),Ok (pre ++ [x])->I pre S W->(∀ k,S k->k<W.heap.size)->
   assign.wpIn (Fence.wide.inRound l0) 0 P (Exit.then (λa₁ W₁=>∃ S',RdStep S W W₁/\(∀ k,S' k->S k\/W.heap.size<=k)/\(∀ k,S' k->k<W₁.heap.size)/\
    ∀ l W₂,ItO w.heap.size O S' W₁ W₂->body.wpIn (Fence.wide.inRound l) 0 P (lR I Ix (pre ++ [x]) S' W₂) a₁ W₂) (λ_ _ _=>False))
    { tmps:=(ps.zip (encs x)).foldl (λt (p,v)=>t.setIfInBounds p v) a.tmps,defers:=[] } W)
 (mN:∀ (xs:List α) (D:Nat) (S:Nat->Prop) (W:World),Fin xs->w.heap.size<=D->¬ S D->(∀ k,S k->S0 k\/w.heap.size<=k)->I xs S W->W.heap[D]?=some (.deferred (some []))->
   Q .normal { a with defers:={ target:=.collected D,args:=#[] } :: a.defers } W)
 (mV:∀ (D:Nat) (c:Code) (pre:List α) (S:Nat->Prop) (W:World),w.heap.size<=D->¬ S D->(∀ k,S k->S0 k\/w.heap.size<=k)->Ok pre->Ix c pre S W->W.heap[D]?=some (.deferred (some []))->
   c.wpIn Fence.wide 0 P Q { a with defers:={ target:=.collected D,args:=#[] } :: a.defers } W) :
 (Code.rangeFunc g ps assign body).wpIn Fence.wide 0 P Q a w:=
 bPX hg eg fd hit cL qA ej I Ix (λpre x S a₁ W=>∀ l W₂,ItO w.heap.size O S W W₂->body.wpIn (Fence.wide.inRound l) 0 P (lR I Ix (pre ++ [x]) S W₂) a₁ W₂)
  hI gm (λ_ _ _ _ _ _ h hs l W₂ h2=>h l W₂ (hs.trans h2)) S0 mH xi ie h0 xT (λl _ _ _ _ W _ h _=>h l W (ItStep.refl _ _ _)) mN mV
end
section
open Go.RowKit Go.Shelf


end
end Go.Proofs.YtadhigmjilijcaaGreatDoor
