/- Parts of the proof. No condition. -/
import Derived.RangeFuncCalls
import Derived.OrdersIn
import Derived.TacticsIn
import Derived.Test.YtbfbobfbgabjiaaGreatDoorP01
set_option linter.all false
set_option maxRecDepth 100000
set_option maxHeartbeats 8000000
namespace Go.Proofs.YtbfbobfbgabjiaaGreatDoor
namespace Np
structure IsGap(g:List UInt8):Prop where
 skip:∀ x p k,oM (g++x) p k=oM x (p+g.length) k
 stop:∃ c r,g=c::r/\sF c=false
 rest:∀ p k,oM (g.drop (g.takeWhile QB).length) p k=([],0,0)
def nk(n:Nat):List UInt8:=if n<10 then [UInt8.ofNat (48+n)] else nk (n / 10) ++ [UInt8.ofNat (48+n % 10)]
theorem Wj(t:List UInt8)(c:UInt8):dec (t ++ [c])=10 * dec t+(c.toNat - 48):=by simp[dec]
theorem Ys{t u:List UInt8}(h:t≠[]):(t++u).head?=t.head?:=by
 cases t with
 | nil=>exact absurd rfl h
 | cons a t=>rfl
def Sf(y:List UInt8):Prop:=y = []\/y.head?=some 32
def DH(t:Tok):Tok:={ t with pos:=0 }
def kU(x:List UInt8)(t:Tok):Prop:=∃ c r,x=c::r/\¬ (cls c=1\/cls c=2)/\(∀ y,Sf y->RW (x++y)=x.length)/\(CM (cls c) x).1=0/\DH (CM (cls c) x).2=DH t
end Np
section
open Go.RowKit
section
variable {P:Program} {ops:Array Oper} {md:Region.Mode} {C:World->Prop}
end
section
variable {P:Program} {ops:Array Oper} {md:Region.Mode} {C:World->Prop} {Q:Exit->Act->World->Prop}
theorem Fk(a:Act)(d:Nat)(v:Value)(h:d<a.tmps.size):(a.put (some d) v).eval (.tmp d)=v:=by
 simp[Act.put,Act.eval,h]
theorem xk(a:Act)(d j:Nat)(v:Value)(h:d≠j):(a.put (some d) v).eval (.tmp j)=a.eval (.tmp j):=by
 simp[Act.put,Act.eval,h,Array.getD_eq_getD_getElem?]
structure kU(ops:Array Oper)(D:List Nat)(dst:Nat->Nat)(val:Nat->Value)(base:List (Nat×Value))(m:Nat)(ds:List Deferred)(f:Nat)(listed:Array Bool)(a:Act):Prop where
 defs:a.defers=ds
 size:listed.size=ops.size
 left:listed.toList.count false=f
 not:∀ i,i<ops.size->i∉D->listed.getD i true=false
 val:∀ i∈D,listed.getD i false=true->a.eval (.tmp (dst i))=val i
 base:∀ q∈base,a.eval (.tmp q.1)=q.2
 tmps:a.tmps.size=m
theorem kU.step{ds:List Deferred}{D:List Nat}{dst:Nat->Nat}{val:Nat->Value}{base:List (Nat×Value)}{m f:Nat}{listed:Array Bool}{a:Act}{i:Nat}{o:Oper}(hg:kU ops D dst val base m ds (f+1) listed a)(hi:i∈D)(hr:listed.getD i true=false)(ho:ops[i]?=some o)(hd:o.dst=some (dst i))(aa:dst i<m)
 (mG:∀ j∈D,j≠i->dst i≠dst j) (hb:∀ q∈base,dst i≠q.1) (hy:YieldsIn P ops C o (val i) a):qOp P ops C i (kU ops D dst val base m ds f (listed.setIfInBounds i true)) a:=by
 refine hy.qOp ho ?_;rw[hd];have YN:i<ops.size:=(eQ.1 ho).1;have dV:i<listed.size:=by rw[hg.size]; exact YN
 have ac:listed[i]=false:=by simpa [Array.getD,dV] using hr
 refine⟨by simp[Act.put,hg.defs],by simp[hg.size],?_,?_,?_,?_,?_⟩
 ·have h1:=hg.left;rw[Array.toList_setIfInBounds,List.count_set (by simpa using dV)];simp[ac,h1]
 ·intro j hj qF;have hne:i≠j:=λe=>qF (e ▸ hi)
  have:=hg.not j hj qF
  simpa [Array.getD,hg.size,hj,Array.getElem_setIfInBounds,hne] using this
 ·intro j hj hl;by_cases hne:i=j
  ·subst hne;exact Fk a _ _ (by rw[hg.tmps]; exact aa)
  ·rw[xk _ _ _ _ (mG j hj (λe=>hne e.symm))];refine hg.val j hj ?_;by_cases nE:j<listed.size
   ·simpa [Array.getD,nE,Array.getElem_setIfInBounds,hne] using hl
   ·simp[Array.getD,nE] at hl
 ·intro q hq;rw[xk _ _ _ _ (hb q hq)];exact hg.base q hq
 ·simp[Act.put,hg.tmps]
theorem kU.none{ds:List Deferred}{D:List Nat}{dst:Nat->Nat}{val:Nat->Value}{base:List (Nat×Value)}{m:Nat}{listed:Array Bool}{a:Act}{p:Nat}(hp:p<ops.size)(nH:p∉D):¬ kU ops D dst val base m ds 0 listed a:=λhg=>by
 have h1:=hg.not p hp nH;have dV:p<listed.size:=by rw[hg.size]; exact hp
 have ac:listed[p]=false:=by simpa [Array.getD,dV] using h1
 have h2:=hg.left;rw[List.count_eq_zero] at h2;exact h2 (by rw[<-ac]; simp)
theorem kU.start{D:List Nat}{dst:Nat->Nat}{val:Nat->Value}{base:List (Nat×Value)}{m:Nat}{a:Act}(hb:∀ q∈base,a.eval (.tmp q.1)=q.2)(hm:a.tmps.size=m):kU ops D dst val base m a.defers ops.size (Array.replicate ops.size false) a:=
 ⟨rfl,by simp,by simp,λi hi _=>by simp[Array.getD,hi],λi _ h=>by simp[Array.getD] at h,hb,hm⟩
theorem QW{listed:Array Bool}(hw:∀ (i:Nat) (o:Oper),ops[i]?=some o->∀ e∈o.after,e.on<i)(am:listed.size=ops.size):∀ p,p<ops.size->listed.getD p true=false->Region.ready md ops listed≠[]:=by
 intro p
 induction p using Nat.strongRecOn with
 | _ p ih=>
  intro hp hl;by_cases az:∀ e∈(ops[p]).after,Region.binds md e=true->listed.getD e.on false=true
  ·intro h0
   have:p∈Region.ready md ops listed:=mem_ready.2 ⟨hl,ops[p],pQ hp,az⟩
   rw[h0] at this
   cases this
  ·simp only[Classical.not_forall] at az;obtain⟨e,he,hb,hne⟩:=az;have aa:=hw p _ (pQ hp) e he;refine ih e.on aa (by omega) ?_;have h1:e.on<listed.size:=by omega
   simpa [Array.getD,h1] using hne
def Ld(ops:Array Oper):Bool:=(List.range ops.size).all λi=>match ops[i]? with
 | some o=>o.after.all λe=>decide (e.on<i)
 | none=>true
def RT(ops:Array Oper)(D:List Nat)(p:Nat):Bool:=(List.range ops.size).all λi=>D.contains i||i == p||match ops[i]? with
 | some o=>o.after.any λe=>Region.binds .any e&&!D.contains e.on&&decide (e.on<ops.size)
 | none=>true
theorem jf(h:Ld ops=true):∀ (i:Nat) (o:Oper),ops[i]?=some o->∀ e∈o.after,e.on<i:=by
 intro i o ho e he;unfold Ld at h;rw[List.all_eq_true] at h;have h1:=h i (by rw[List.mem_range]; exact (eQ.1 ho).1);rw[ho] at h1;simp only[Array.all_eq_true_iff_forall_mem,Qa] at h1;exact h1 e he
theorem iN{D:List Nat}{p:Nat}(h:RT ops D p=true):∀ (i:Nat) (o:Oper),ops[i]?=some o->i∉D->i≠p->∃ e∈o.after,Region.binds .any e=true/\e.on∉D/\e.on<ops.size:=by
 intro i o ho hD hp;unfold RT at h;rw[List.all_eq_true] at h;have h1:=h i (by rw[List.mem_range]; exact (eQ.1 ho).1);rw[ho] at h1;simp only[Bool.or_eq_true,List.contains_iff_mem,hD,beq_iff_eq,hp,false_or] at h1;rw[Array.any_eq_true'] at h1;obtain⟨e,he,h2⟩:=h1;simp only[Bool.and_eq_true,Bool.not_eq_true',Qa] at h2;have h3:e.on∉D:=λhm=>by
  have:=h2.1.2
  rw[List.contains_iff_mem.2 hm] at this
  cases this
 exact⟨e,he,h2.1.1,h3,h2.2⟩
end
section
variable {P:Program} {ops:Array Oper} {Q:Exit->Act->World->Prop}
structure Held(ops:Array Oper)(D A:List Nat)(dst:Nat->Nat)(val:Nat->Value)(base:List (Nat×Value))(m:Nat)(ds:List Deferred)(f:Nat)(listed:Array Bool)(a:Act):Prop where
 good:kU ops D dst val base m ds f listed a
 done:∀ i∈A,listed.getD i false=true
 clo:∀ j o,ops[j]?=some o->listed.getD j false=true->∀ e∈o.after,Region.binds .any e=true->listed.getD e.on false=true
theorem E2{listed:Array Bool}{i j:Nat}(h:(listed.setIfInBounds i true).getD j false=true):j=i\/listed.getD j false=true:=by
 by_cases dU:i=j
 ·exact .inl dU.symm
 ·rw[getD_set_ne false dU] at h; exact .inr h
theorem mO{listed:Array Bool}{i j:Nat}(h:listed.getD j false=true):(listed.setIfInBounds i true).getD j false=true:=by
 by_cases dU:i=j
 ·subst dU;have hl:i<listed.size:=by
   by_cases hl:i<listed.size
   ·exact hl
   ·simp[Array.getD,hl] at h
  simp[Array.getD,hl]
 ·rw[getD_set_ne false dU]; exact h
theorem DE{listed:Array Bool}{i:Nat}(hr:i∈Region.ready .any ops listed)(h:∀ j o,ops[j]?=some o->listed.getD j false=true->∀ e∈o.after,Region.binds .any e=true->listed.getD e.on false=true) :
 ∀ j o,ops[j]?=some o->(listed.setIfInBounds i true).getD j false=true->∀ e∈o.after,Region.binds .any e=true->(listed.setIfInBounds i true).getD e.on false=true:=λj o ho hj e he hb=>by
 refine mO ?_;rcases E2 hj with rfl | hj
 ·obtain⟨_,o',ho',az⟩:=mem_ready.1 hr;rw[ho] at ho'; cases ho';exact az e he hb
 ·exact h j o ho hj e he hb
theorem jg{w:World}{D A:List Nat}{dst:Nat->Nat}{val:Nat->Value}{base:List (Nat×Value)}{m p:Nat}{ds:List Deferred}
 (hw:∀ (i:Nat) (o:Oper),ops[i]?=some o->∀ e∈o.after,e.on<i) (hp:p<ops.size) (nH:p∉D)
 (Co:∀ (i:Nat) (o:Oper),ops[i]?=some o->i∉D->i≠p->∃ e∈o.after,Region.binds .any e=true/\e.on∉D/\e.on<ops.size)
 (vZ:∀ i∈D,i∉A->∃ o:Oper,ops[i]?=some o/\o.dst=some (dst i)) (aa:∀ i∈D,dst i<m) (mG:∀ i∈D,∀ j∈D,j≠i->dst i≠dst j) (dF:∀ i∈D,∀ q∈base,dst i≠q.1)
 (hy:∀ i∈D,i∉A->∀ o:Oper,ops[i]?=some o->∀ a:Act,(∀ q∈base,a.eval (.tmp q.1)=q.2)->(∀ e∈o.after,Region.binds .any e=true->e.on∈D->a.eval (.tmp (dst e.on))=val e.on)->YieldsIn P ops (λw'=>w'=w) o (val i) a)
 (vN:∀ f listed a,Held ops D A dst val base m ds (f+1) listed a->p∈Region.ready .any ops listed->wpOp P ops Q p (wpAny P .any ops Q f (listed.setIfInBounds p true)) a w) :
 ∀ f listed a,Held ops D A dst val base m ds f listed a->wpAny P .any ops Q f listed a w:=by
 intro f
 induction f with
 | zero=>intro listed a h; exact absurd h.good (kU.none hp nH)
 | succ f ih=>
  intro listed a h;have hg:=h.good;refine⟨λh0=>absurd h0 (QW hw hg.size p hp (hg.not p hp nH)),λi hi=>?_⟩;obtain⟨hr,o,ho,az⟩:=mem_ready.1 hi;by_cases hip:i=p
  ·subst hip; exact vN f listed a h hi
  ·have fO:i∈D:=Decidable.byContradiction λfO=>by
    obtain⟨e,he,py,gO,hes⟩:=Co i o ho fO hip;have h1:=az e he py;have h2:=hg.not e.on hes gO;have h3:e.on<listed.size:=by rw[hg.size]; exact hes
    simp[Array.getD,h3] at h1 h2;rw[h1] at h2
    cases h2
   have aC:i∉A:=λhA=>by
    have h1:=h.done i hA;have h3:i<listed.size:=by rw[hg.size]; exact (eQ.1 ho).1
    simp[Array.getD,h3] at h1 hr;rw[h1] at hr; cases hr
   obtain⟨o',ho',hd⟩:=vZ i fO aC;rw[ho] at ho'; cases ho';have BB:∀ e∈o.after,Region.binds .any e=true->e.on∈D->a.eval (.tmp (dst e.on))=val e.on:=λe he py hD=>hg.val _ hD (az e he py);have hq:=kU.step (P:=P) hg fO hr ho hd (aa i fO) (mG i fO) (dF i fO) (hy i fO aC o ho a hg.base BB);exact wpOp_of_qOp (C:=λw'=>w'=w) rfl (λa' w' hw' h'=>by subst hw'; exact ih _ a' ⟨h',λj hj=>mO (h.done j hj),DE hi h.clo⟩) hq
theorem Held.act{D A D':List Nat}{dst:Nat->Nat}{val val':Nat->Value}{base:List (Nat×Value)}{m p f:Nat}{ds:List Deferred}{listed:Array Bool}{a:Act}{v:Value}(h:Held ops D A dst val base m ds (f+1) listed a)(hp:p∈Region.ready .any ops listed)
 (nH:p∉D) (hD:∀ i,i∉D'->i∉D/\i≠p) (hval:∀ i∈D,val' i=val i) (ZQ:val' p=v) (aa:dst p<m) (mG:∀ j∈D,dst p≠dst j) (hb:∀ q∈base,dst p≠q.1) (gi:p<ops.size) :
 Held ops D' (p::A) dst val' base m ds f (listed.setIfInBounds p true) (a.put (some (dst p)) v):=by
 have hg:=h.good;have fH:=(mem_ready.1 hp).1;have dV:p<listed.size:=by rw[hg.size]; exact gi
 have ac:listed[p]=false:=by simpa [Array.getD,dV] using fH
 refine⟨⟨by simp[Act.put,hg.defs],by simp[hg.size],?_,?_,?_,?_,by simp[Act.put,hg.tmps]⟩,?_,DE hp h.clo⟩
 ·have h1:=hg.left;rw[Array.toList_setIfInBounds,List.count_set (by simpa using dV)];simp[ac,h1]
 ·intro j hj qF;obtain⟨h1,h2⟩:=hD j qF
  have:=hg.not j hj h1
  rw[getD_set_ne true (λe=>h2 e.symm)];exact this
 ·intro j hj hl;rcases E2 hl with rfl | hl
  ·rw[ZQ]; exact Fk a _ _ (by rw[hg.tmps]; exact aa)
  ·have qF:j∈D:=Decidable.byContradiction λqF=>by
    by_cases BP:j<ops.size
    ·have h1:=hg.not j BP qF;have h3:j<listed.size:=by rw[hg.size]; exact BP
     simp[Array.getD,h3] at h1 hl;rw[h1] at hl; cases hl
    ·have h3:¬ j<listed.size:=by rw[hg.size]; exact BP
     simp[Array.getD,h3] at hl
   rw[xk _ _ _ _ (mG j qF),hval j qF];exact hg.val j qF hl
 ·intro q hq;rw[xk _ _ _ _ (hb q hq)];exact hg.base q hq
 ·intro i hi;rcases List.mem_cons.1 hi with rfl | hi
  ·simp[Array.getD,dV]
  ·exact mO (h.done i hi)
def EY(ops:Array Oper)(p:Nat):Bool:=(List.range ops.size).all λi=>i == p||(List.range ops.size).any λj=>decide (i<j)&&match ops[j]? with
 | some o=>o.after.any λe=>Region.binds .any e&&e.on == i
 | none=>false
theorem Held.all{D A:List Nat}{dst:Nat->Nat}{val:Nat->Value}{base:List (Nat×Value)}{m p f:Nat}{ds:List Deferred}{listed:Array Bool}{a:Act}(h:Held ops D A dst val base m ds (f+1) listed a)(hp:p∈Region.ready .any ops listed)(hl:EY ops p=true) :
 f=0/\∀ i,i<ops.size->i≠p->listed.getD i false=true:=by
 unfold EY at hl;rw[List.all_eq_true] at hl;have key:∀ k i,ops.size - i=k->i<ops.size->i≠p->listed.getD i false=true:=by
  intro k
  induction k using Nat.strongRecOn with
  | ind k ih=>
   intro i hk his hip;have h1:=hl i (by rw[List.mem_range]; exact his);simp only[Bool.or_eq_true,beq_iff_eq,hip,false_or,List.any_eq_true,List.mem_range,Bool.and_eq_true,Qa] at h1;obtain⟨j,hj,dU,h2⟩:=h1;rw[pQ hj] at h2;simp only[Array.any_eq_true',Bool.and_eq_true,beq_iff_eq] at h2;obtain⟨e,he,hb,rfl⟩:=h2;by_cases wz:j=p
   ·subst wz;obtain⟨_,o,ho,az⟩:=mem_ready.1 hp;rw[pQ hj] at ho
    cases ho
    exact az e he hb
   ·exact h.clo j _ (pQ hj) (ih (ops.size - j) (by omega) j rfl hj wz) e he hb
 have gi:p<ops.size:=by
  obtain⟨_,o,ho,_⟩:=mem_ready.1 hp;exact (eQ.1 ho).1
 refine⟨?_,λi hi hne=>key _ i rfl hi hne⟩;have am:=h.good.size;have a1K:=h.good.left;have hc:listed.toList.count false<=1:=by
  have kF:p<listed.toList.length:=by simp[am,gi]
  have az:∀ j (hj:j<listed.toList.length),j≠p->listed.toList[j]=true:=λj hj hne=>by
   have hj':j<listed.size:=by simpa using hj
   have:=key _ j rfl (by rw[<-am]; exact hj') hne
   simpa [Array.getD,hj'] using this
  have e:listed.toList=listed.toList.take p++listed.toList[p]::listed.toList.drop (p+1):=by
   rw[<-sQ kF,List.take_append_drop]
  rw[e,List.count_append,List.count_cons];have c1:(listed.toList.take p).count false=0:=List.count_eq_zero.2 λhm=>by
   obtain⟨j,hj,rV⟩:=nQ.1 hm;rw[List.getElem_take] at rV;rw[List.length_take] at hj;rw[az j (by omega) (by omega)] at rV
   cases rV
  have c2:(listed.toList.drop (p+1)).count false=0:=List.count_eq_zero.2 λhm=>by
   obtain⟨j,hj,rV⟩:=nQ.1 hm;rw[List.getElem_drop] at rV;rw[List.length_drop] at hj;rw[az _ (by omega) (by omega)] at rV
   cases rV
  rw[c1,c2];split <;> omega
 omega
theorem Held.start{D:List Nat}{dst:Nat->Nat}{val:Nat->Value}{base:List (Nat×Value)}{m:Nat}{a:Act}(hb:∀ q∈base,a.eval (.tmp q.1)=q.2)(hm:a.tmps.size=m):Held ops D [] dst val base m a.defers ops.size (Array.replicate ops.size false) a:=
 ⟨kU.start hb hm,(λ_ h=>by cases h),λj o ho hj=>by simp[Array.getD] at hj⟩
end
end
section
open Go.RowKit
theorem ut{md:Region.Mode}{ops:Array Oper}{listed:Array Bool}(h:∀ i,i<ops.size->listed.getD i false=true)(hs:listed.size=ops.size):Region.ready md ops listed = []:=by
 apply List.eq_nil_iff_forall_not_mem.2;intro i hi;obtain⟨h1,o,ho,_⟩:=mem_ready.1 hi;have aa:=(eQ.1 ho).1;have h2:=h i aa;have h3:i<listed.size:=by rw[hs]; exact aa
 simp[Array.getD,h3] at h1 h2;rw[h1] at h2; cases h2
def lE(a:Act):List (Nat×Value)->Act
 | []=>a
 | q::l=>lE (a.put (some q.1) q.2) l
theorem U9{a b:Act}(hs:a.tmps.size=b.tmps.size)(hd:a.defers=b.defers)(h:∀ j,a.eval (.tmp j)=b.eval (.tmp j)):a=b:=by
 obtain⟨t,d⟩:=a;obtain⟨t',d'⟩:=b;simp only at hs hd;subst hd;congr 1;apply Array.ext hs;intro i h1 h2
 have:=h i
 simpa [Act.eval,Array.getD_eq_getD_getElem?,h1,h2] using this
theorem QP{a a0:Act}(hs:a.tmps.size=a0.tmps.size)(hd:a.defers=a0.defers):∀ (l:List (Nat×Value)),(∀ q∈l,q.1<a0.tmps.size)->(∀ q∈l,a.eval (.tmp q.1)=q.2)->(∀ j,(∀ q∈l,q.1≠j)->a.eval (.tmp j)=a0.eval (.tmp j))->a=lE a0 l:=by
 intro l
 induction l generalizing a0 with
 | nil=>intro _ _ h; exact U9 hs hd (λj=>h j (λq hq=>by cases hq))
 | cons q l ih=>
  intro aa h1 h2;rw[lE];refine ih (by simpa [Act.put] using hs) (by simpa [Act.put] using hd) (λp hp=>by have:=aa p (mQ _ hp); simpa [Act.put] using this) (λp hp=>h1 p (mQ _ hp)) (λj hj=>?_);by_cases hq:q.1=j
  ·subst hq;rw[Fk _ _ _ (aa q (by simp))];exact h1 q (by simp)
  ·rw[xk _ _ _ _ hq];refine h2 j (λp hp=>?_);rcases List.mem_cons.1 hp with rfl | hp
   ·exact hq
   ·exact hj p hp
def ea(a0:Act)(m:Nat)(ds:List Nat):List (Nat×Value):=((List.range m).filter λj=>!ds.contains j).map λj=>(j,a0.eval (.tmp j))
theorem uu{a0:Act}{m:Nat}{ds:List Nat} : ∀ q∈ea a0 m ds,a0.eval (.tmp q.1)=q.2:=λq hq=>by
 obtain⟨j,_,rfl⟩:=List.mem_map.1 hq;rfl
theorem dH{a0:Act}{m:Nat}{ds:List Nat}{d:Nat}(hd:d∈ds):∀ q∈ea a0 m ds,d≠q.1:=λq hq e=>by
 obtain⟨j,hj,rfl⟩:=List.mem_map.1 hq
 have:=(List.mem_filter.1 hj).2
 simp only at e;subst e;simp[hd] at this
theorem bn{a0 a:Act}{m:Nat}{ds:List Nat}(h:∀ q∈ea a0 m ds,a.eval (.tmp q.1)=q.2){j:Nat}(hj:j<m)(hd:j∉ds):a.eval (.tmp j)=a0.eval (.tmp j):=
 h (j,a0.eval (.tmp j)) (List.mem_map.2 ⟨j,List.mem_filter.2 ⟨List.mem_range.2 hj,by simpa using hd⟩,rfl⟩)
theorem R5{P:Program}{c:Code}{Q:Exit->Act->World->Prop}{a:Act}{w:World}(h:∀ a0,a0=a->c.wp P Q a0 w):c.wp P Q a w:=h a rfl
variable {ops:Array Oper}
theorem Held.frame{D A:List Nat}{dst:Nat->Nat}{val:Nat->Value}{m f:Nat}{listed:Array Bool}{a a0:Act}(h:Held ops D A dst val (ea a0 m (D.map dst)) m a0.defers f listed a)(hm:a0.tmps.size=m)(az:∀ i∈D,listed.getD i false=true)(aa:∀ i∈D,dst i<m) :
 a=lE a0 (D.map λi=>(dst i,val i)):=by
 refine QP (by rw[h.good.tmps,hm]) h.good.defs _ (λq hq=>?_) (λq hq=>?_) (λj hj=>?_)
 ·obtain⟨i,hi,rfl⟩:=List.mem_map.1 hq;rw[hm]; exact aa i hi
 ·obtain⟨i,hi,rfl⟩:=List.mem_map.1 hq;exact h.good.val i hi (az i hi)
 ·by_cases BO:j<m
  ·refine bn h.good.base BO (λhd=>?_);obtain⟨i,hi,rfl⟩:=List.mem_map.1 hd;exact hj _ (List.mem_map.2 ⟨i,hi,rfl⟩) rfl
  ·have h1:=h.good.tmps;simp[Act.eval,Array.getD_eq_getD_getElem?,h1,hm,BO]
end
section
section
variable {P:Program} {ops:Array Oper} {Q:Exit->Act->World->Prop} {n l:Nat}
theorem azY{row:String}{args:Array Value}{w:World}{R:Value->World->Prop}(h:Rows P row args w R):RowsIn (Fence.wide.inRound l) n P row args w R:=by
 intro c cs _;obtain⟨v,w',r,s⟩:=h c cs;exact⟨v,w',r,stepsIn_wide.2 s⟩
theorem RZ{o:Oper}{a:Act}{K:Act->World->Prop}{w:World}(hd:∀ c,o.op≠.defer c)(rL:¬ LetsOut Q)(h:o.wp P a w K Q\/(o.asks P a w/\LetsOut Q)):o.wpIn (Fence.wide.inRound l) n P a w K Q:=by
 have h:=h.resolve_right (λe=>rL e.2);refine⟨λf _=>trivial,?_⟩;rw[Oper.semAt_eq _ _ _ hd];unfold Oper.wp at h;generalize (execOp a.eval o).run P w=r at *
 cases r with
 | ok x w'=>
  cases x <;> simp only[Oper.upon,Oper.uponIn] at h |- <;> first | exact h | exact h.elim | skip
  ·exact⟨λe=>by simp[Fence.wide] at e,CallsIn.inRound l (callsIn_wide.2 h)⟩
  ·exact⟨λe=>by simp[Fence.wide] at e,azY h⟩
 | halt x w'=>cases x <;> simp only[Oper.upon,Oper.uponIn] at h |- <;> first | exact h | exact h.elim
theorem aPJ{lst:List Oper}(hd:∀ o∈lst,∀ c,o.op≠.defer c)(rL:¬ LetsOut Q):∀ {a:Act} {w:World},wpList P ops Q lst a w->wpListIn (Fence.wide.inRound l) n P ops Q lst a w:=by
 induction lst with
 | nil=>exact λh=>h
 | cons o rest ih=>
  intro a w h;have ih':∀ {a:Act} {w:World},wpList P ops Q rest a w->wpListIn (Fence.wide.inRound l) n P ops Q rest a w:=ih (λo ho=>hd o (mQ _ ho));unfold wpList at h;unfold wpListIn;split at h
  ·rename_i hw;rw[Qb hw];refine Oper.wpIn_mono (λa w h=>ih' h) (RZ (hd o (by simp)) rL h)
  ·rename_i hw;rw[Qc hw];exact⟨λ_ _=>trivial,ih' h⟩
theorem aOJ{md:Region.Mode}(hd:∀ (i:Nat) (o:Oper),ops[i]?=some o->∀ c,o.op≠.defer c)(rL:¬ LetsOut Q):∀ (f:Nat) {listed:Array Bool} {a:Act} {w:World},wpAny P md ops Q f listed a w->wpAnyIn (Fence.wide.inRound l) n P md ops Q f listed a w:=by
 intro f
 induction f with
 | zero=>exact λh=>h
 | succ f ih=>
  intro listed a w h;refine⟨h.1,λi hi=>?_⟩;have h2:=h.2 i hi;unfold wpOp at h2;unfold wpOpIn
  cases ho:ops[i]? with
  | none=>rw[ho] at h2; exact ih h2
  | some o=>
   rw[ho] at h2;dsimp only at h2 |-;split at h2
   ·rename_i hw;rw[Qb hw];refine Oper.wpIn_mono (λa w h=>ih h) (RZ (hd i o ho) rL h2)
   ·rename_i hw;rw[Qc hw];exact⟨λ_ _=>trivial,ih h2⟩
end
def Kt(ops:Array Oper):Bool:=ops.all λo=>match o.op with | .defer _=>false | _=>true
theorem akK{ops:Array Oper}(h:Kt ops=true):∀ (i:Nat) (o:Oper),ops[i]?=some o->∀ c,o.op≠.defer c:=λi o ho c e=>by
 unfold Kt at h;rw[Array.all_eq_true] at h;obtain⟨hi,hg⟩:=eQ.1 ho
 have:=h i hi
 rw[hg,e] at this
 cases this
section
variable {P:Program} {ops:Array Oper} {Q:Exit->Act->World->Prop} {n l id:Nat} {a:Act} {w:World}
theorem FN(hd:Kt ops=true)(hm:P.follows .mixedOrders=true)(rL:¬ LetsOut Q)(h:wpAny P .any ops Q ops.size (Array.replicate ops.size false) a w.drew):(Code.region id ops true).wpIn (Fence.wide.inRound l) n P Q a w:=
 wpIn_region_any hm (aOJ (akK hd) rL _ h)
end
theorem zr{F:Fence}{n:Nat}{P:Program}{c:Code}{Q:Exit->Act->World->Prop}{a:Act}{w:World}(h:∀ a0,a0=a->c.wpIn F n P Q a0 w):c.wpIn F n P Q a w:=h a rfl
section
variable {P:Program} {ops:Array Oper} {Q:Exit->Act->World->Prop} {n l:Nat}
theorem aPQ{F:Fence}{o:Oper}{a:Act}{K K':Act->World->Prop}{w:World}(h:o.wpIn F n P a w K (Exit.then K' Q)):o.wpIn F n P a w K Q:=by
 refine⟨h.1,?_⟩;have h:=h.2;generalize (o.semAt F.round a.eval).run P w=r at *
 cases r with
 | ok x w'=>
  cases x <;> simp only[Oper.uponIn] at h |- <;> first | exact h | (refine⟨h.1,h.2.mono λe w'' he=>?_⟩; cases e <;> exact he)
 | halt x w'=>cases x <;> simp only[Oper.uponIn] at h |- <;> first | exact h | exact h.elim
theorem R0{o:Oper}{rest:List Oper}{a:Act}{w:World}(hg:o.guard=none)(hd:∀ c,o.op≠.defer c)(rL:¬ LetsOut Q)
 (h:wpList P ops (Exit.then (wpListIn (Fence.wide.inRound l) n P ops Q rest) Q) [o] a w):wpListIn (Fence.wide.inRound l) n P ops Q (o::rest) a w:=by
 have hw:Region.wanted o (yielded ops a.tmps)=true:=by simp[Region.wanted,hg]
 have h1:=aPJ (Q:=Exit.then (wpListIn (Fence.wide.inRound l) n P ops Q rest) Q) (l:=l) (n:=n) (lst:=[o]) (λx hx=>by rw[List.mem_singleton] at hx; subst hx; exact hd) (λe=>rL e) h;unfold wpListIn at h1 |-;rw[Qb hw] at h1 |-;exact aPQ h1
theorem R2{K:Act->World->Prop}{a:Act}{w:World}(h:K a w):wpList P ops (Exit.then K Q) [] a w:=h
end
end
section
open Go.RowKit
section
variable {P:Program} {ops:Array Oper} {Q:Exit->Act->World->Prop}
theorem QX{listed:Array Bool}(hw:∀ (i:Nat) (o:Oper),ops[i]?=some o->∀ e∈o.after,Region.binds .any e=true->e.on<i)(am:listed.size=ops.size):∀ p,p<ops.size->listed.getD p true=false->Region.ready .any ops listed≠[]:=by
 intro p
 induction p using Nat.strongRecOn with
 | _ p ih=>
  intro hp hl;by_cases az:∀ e∈(ops[p]).after,Region.binds .any e=true->listed.getD e.on false=true
  ·intro h0
   have:p∈Region.ready .any ops listed:=mem_ready.2 ⟨hl,ops[p],pQ hp,az⟩
   rw[h0] at this
   cases this
  ·simp only[Classical.not_forall] at az;obtain⟨e,he,hb,hne⟩:=az;have aa:=hw p _ (pQ hp) e he hb;refine ih e.on aa (by omega) ?_;have h1:e.on<listed.size:=by omega
   simpa [Array.getD,h1] using hne
def RV(ops:Array Oper):Bool:=(List.range ops.size).all λi=>match ops[i]? with
 | some o=>o.after.all λe=>!Region.binds .any e||decide (e.on<i)
 | none=>true
theorem Le(h:RV ops=true):∀ (i:Nat) (o:Oper),ops[i]?=some o->∀ e∈o.after,Region.binds .any e=true->e.on<i:=by
 intro i o ho e he hb;unfold RV at h;rw[List.all_eq_true] at h;have h1:=h i (by rw[List.mem_range]; exact (eQ.1 ho).1);rw[ho] at h1;simp only[Array.all_eq_true_iff_forall_mem,Bool.or_eq_true,Qa,Bool.not_eq_true'] at h1;exact (h1 e he).resolve_left (by rw[hb]; simp)
theorem RY{w:World}{D A:List Nat}{dst:Nat->Nat}{val:Nat->Value}{base:List (Nat×Value)}{m p:Nat}{ds:List Deferred}
 (hw:∀ (i:Nat) (o:Oper),ops[i]?=some o->∀ e∈o.after,Region.binds .any e=true->e.on<i) (hp:p<ops.size) (nH:p∉D)
 (Co:∀ (i:Nat) (o:Oper),ops[i]?=some o->i∉D->i≠p->∃ e∈o.after,Region.binds .any e=true/\e.on∉D/\e.on<ops.size)
 (vZ:∀ i∈D,i∉A->∃ o:Oper,ops[i]?=some o/\o.dst=some (dst i)) (aa:∀ i∈D,dst i<m) (mG:∀ i∈D,∀ j∈D,j≠i->dst i≠dst j) (dF:∀ i∈D,∀ q∈base,dst i≠q.1)
 (hy:∀ i∈D,i∉A->∀ o:Oper,ops[i]?=some o->∀ a:Act,(∀ q∈base,a.eval (.tmp q.1)=q.2)->(∀ e∈o.after,Region.binds .any e=true->e.on∈D->a.eval (.tmp (dst e.on))=val e.on)->YieldsIn P ops (λw'=>w'=w) o (val i) a)
 (vN:∀ f listed a,Held ops D A dst val base m ds (f+1) listed a->p∈Region.ready .any ops listed->wpOp P ops Q p (wpAny P .any ops Q f (listed.setIfInBounds p true)) a w) :
 ∀ f listed a,Held ops D A dst val base m ds f listed a->wpAny P .any ops Q f listed a w:=by
 intro f
 induction f with
 | zero=>intro listed a h; exact absurd h.good (kU.none hp nH)
 | succ f ih=>
  intro listed a h;have hg:=h.good;refine⟨λh0=>absurd h0 (QX hw hg.size p hp (hg.not p hp nH)),λi hi=>?_⟩;obtain⟨hr,o,ho,az⟩:=mem_ready.1 hi;by_cases hip:i=p
  ·subst hip; exact vN f listed a h hi
  ·have fO:i∈D:=Decidable.byContradiction λfO=>by
    obtain⟨e,he,py,gO,hes⟩:=Co i o ho fO hip;have h1:=az e he py;have h2:=hg.not e.on hes gO;have h3:e.on<listed.size:=by rw[hg.size]; exact hes
    simp[Array.getD,h3] at h1 h2;rw[h1] at h2
    cases h2
   have aC:i∉A:=λhA=>by
    have h1:=h.done i hA;have h3:i<listed.size:=by rw[hg.size]; exact (eQ.1 ho).1
    simp[Array.getD,h3] at h1 hr;rw[h1] at hr; cases hr
   obtain⟨o',ho',hd⟩:=vZ i fO aC;rw[ho] at ho'; cases ho';have BB:∀ e∈o.after,Region.binds .any e=true->e.on∈D->a.eval (.tmp (dst e.on))=val e.on:=λe he py hD=>hg.val _ hD (az e he py);have hq:=kU.step (P:=P) hg fO hr ho hd (aa i fO) (mG i fO) (dF i fO) (hy i fO aC o ho a hg.base BB);exact wpOp_of_qOp (C:=λw'=>w'=w) rfl (λa' w' hw' h'=>by subst hw'; exact ih _ a' ⟨h',λj hj=>mO (h.done j hj),DE hi h.clo⟩) hq
def KE(ops:Array Oper)(R:List Nat)(p:Nat):Bool:=(List.range ops.size).all λi=>i == p||R.contains i||(List.range ops.size).any λj=>decide (i<j)&&!R.contains j&&match ops[j]? with
 | some o=>o.after.any λe=>Region.binds .any e&&e.on == i
 | none=>false
theorem Held.most{D A R:List Nat}{dst:Nat->Nat}{val:Nat->Value}{base:List (Nat×Value)}{m p f:Nat}{ds:List Deferred}{listed:Array Bool}{a:Act}(h:Held ops D A dst val base m ds (f+1) listed a)(hp:p∈Region.ready .any ops listed)(hl:KE ops R p=true) :
 ∀ i,i<ops.size->i≠p->i∉R->listed.getD i false=true:=by
 unfold KE at hl;rw[List.all_eq_true] at hl;have key:∀ k i,ops.size - i=k->i<ops.size->i≠p->i∉R->listed.getD i false=true:=by
  intro k
  induction k using Nat.strongRecOn with
  | ind k ih=>
   intro i hk his hip tL;have h1:=hl i (by rw[List.mem_range]; exact his);simp only[Bool.or_eq_true,beq_iff_eq,hip,List.contains_iff_mem,tL,false_or,List.any_eq_true,List.mem_range,Bool.and_eq_true,Qa,Bool.not_eq_true'] at h1;obtain⟨j,hj,⟨dU,Et⟩,h2⟩:=h1;have Et:j∉R:=λe=>by rw[List.contains_iff_mem.2 e] at Et; cases Et
   rw[pQ hj] at h2;simp only[Array.any_eq_true',Bool.and_eq_true,beq_iff_eq] at h2;obtain⟨e,he,hb,rfl⟩:=h2;by_cases wz:j=p
   ·subst wz;obtain⟨_,o,ho,az⟩:=mem_ready.1 hp;rw[pQ hj] at ho
    cases ho
    exact az e he hb
   ·exact h.clo j _ (pQ hj) (ih (ops.size - j) (by omega) j rfl hj wz Et) e he hb
 exact λi hi hne hR=>key _ i rfl hi hne hR
structure Rest(ops:Array Oper)(R D:List Nat)(dst:Nat->Nat)(val:Nat->Value)(base:List (Nat×Value))(m:Nat)(ds:List Deferred)(f:Nat)(listed:Array Bool)(a:Act):Prop where
 defs:a.defers=ds
 size:listed.size=ops.size
 left:listed.toList.count false=f
 val:∀ i∈D,listed.getD i false=true->a.eval (.tmp (dst i))=val i
 base:∀ q∈base,a.eval (.tmp q.1)=q.2
 tmps:a.tmps.size=m
 out:∀ i,i<ops.size->i∉R->listed.getD i false=true
theorem Held.rest{D A R:List Nat}{dst:Nat->Nat}{val:Nat->Value}{base:List (Nat×Value)}{m p f:Nat}{ds:List Deferred}{listed:Array Bool}{a:Act}(h:Held ops D A dst val base m ds (f+1) listed a)(hp:p∈Region.ready .any ops listed)(nH:p∉D)(hl:KE ops R p=true) :
 Rest ops R D dst val base m ds f (listed.setIfInBounds p true) a:=by
 have hg:=h.good;obtain⟨fH,o,ho,_⟩:=mem_ready.1 hp;have gi:p<ops.size:=(eQ.1 ho).1;have dV:p<listed.size:=by rw[hg.size]; exact gi
 have ac:listed[p]=false:=by simpa [Array.getD,dV] using fH
 refine⟨hg.defs,by simp[hg.size],?_,λi hi hl=>?_,hg.base,hg.tmps,λi hi hR=>?_⟩
 ·have h1:=hg.left;rw[Array.toList_setIfInBounds,List.count_set (by simpa using dV)];simp[ac,h1]
 ·rcases E2 hl with rfl | hl
  ·exact absurd hi nH
  ·exact hg.val i hi hl
 ·by_cases hip:i=p
  ·subst hip;simp[Array.getD,dV]
  ·exact mO (h.most hp hl i hi hip hR)
theorem aOY{w:World}{R D:List Nat}{dst:Nat->Nat}{val:Nat->Value}{a0:Act}{m:Nat}(hm:a0.tmps.size=m)
 (hw:∀ (i:Nat) (o:Oper),ops[i]?=some o->∀ e∈o.after,Region.binds .any e=true->e.on<i) (IU:∀ i∈R,i∈D) (N3:∀ i∈D,i<ops.size)
 (vZ:∀ i∈R,∃ o:Oper,ops[i]?=some o/\o.dst=some (dst i)) (aa:∀ i∈D,dst i<m) (mG:∀ i∈D,∀ j∈D,j≠i->dst i≠dst j) (hrel:∀ i∈R,∀ o:Oper,ops[i]?=some o->∀ e∈o.after,Region.binds .any e=true->e.on∈D)
 (hy:∀ i∈R,∀ o:Oper,ops[i]?=some o->∀ a:Act,(∀ e∈o.after,Region.binds .any e=true->a.eval (.tmp (dst e.on))=val e.on)->YieldsIn P ops (λw'=>w'=w) o (val i) a)
 (wn:Q .normal (lE a0 (D.map λi=>(dst i,val i))) w) :
 ∀ f listed a,Rest ops R D dst val (ea a0 m (D.map dst)) m a0.defers f listed a->wpAny P .any ops Q f listed a w:=by
 intro f
 induction f with
 | zero=>
  intro listed a h;have az:∀ i,i<ops.size->listed.getD i false=true:=λi hi=>by
   have h1:=h.left;have dV:i<listed.size:=by rw[h.size]; exact hi
   rw[List.count_eq_zero] at h1
   cases hb:listed[i] with
   | true=>simp[Array.getD,dV,hb]
   | false=>exact absurd (by rw[<-hb]; simp) h1
  refine⟨ut az h.size,?_⟩;have e:a=lE a0 (D.map λi=>(dst i,val i)):=by
   refine QP (by rw[h.tmps,hm]) h.defs _ (λq hq=>?_) (λq hq=>?_) (λj hj=>?_)
   ·obtain⟨i,hi,rfl⟩:=List.mem_map.1 hq;rw[hm]; exact aa i hi
   ·obtain⟨i,hi,rfl⟩:=List.mem_map.1 hq;exact h.val i hi (az i (N3 i hi))
   ·by_cases BO:j<m
    ·refine bn h.base BO (λhd=>?_);obtain⟨i,hi,rfl⟩:=List.mem_map.1 hd;exact hj _ (List.mem_map.2 ⟨i,hi,rfl⟩) rfl
    ·have h1:=h.tmps;simp[Act.eval,Array.getD_eq_getD_getElem?,h1,hm,BO]
  rw[e];exact wn
 | succ f ih=>
  intro listed a h;refine⟨λh0=>?_,λi hi=>?_⟩
  ·have h1:=h.left;have h2:false∈listed.toList:=by rw[<-List.count_pos_iff]; omega
   obtain⟨i,hi,he⟩:=nQ.1 h2;have dV:i<listed.size:=by simpa using hi
   exact absurd h0 (QX hw h.size i (by rw[<-h.size]; exact dV) (by simpa [Array.getD,dV] using he))
  ·obtain⟨hr,o,ho,az⟩:=mem_ready.1 hi;have BL:=(eQ.1 ho).1;have dV:i<listed.size:=by rw[h.size]; exact BL
   have tL:i∈R:=Decidable.byContradiction λhR=>by
    have h1:=h.out i BL hR;simp[Array.getD,dV] at h1 hr;rw[h1] at hr; cases hr
   have ac:listed[i]=false:=by simpa [Array.getD,dV] using hr
   obtain⟨o',ho',hd⟩:=vZ i tL;rw[ho] at ho'; cases ho';have hq:qOp P ops (λw'=>w'=w) i (Rest ops R D dst val (ea a0 m (D.map dst)) m a0.defers f (listed.setIfInBounds i true)) a:=by
    refine (hy i tL o ho a (λe he hb=>h.val _ (hrel i tL o ho e he hb) (az e he hb))).qOp ho ?_;rw[hd];refine⟨by simp[Act.put,h.defs],by simp[h.size],?_,λj hj hl=>?_,λq hq=>?_,by simp[Act.put,h.tmps],λj hj hR=>mO (h.out j hj hR)⟩
    ·have h1:=h.left;rw[Array.toList_setIfInBounds,List.count_set (by simpa using dV)];simp[ac,h1]
    ·by_cases hne:i=j
     ·subst hne;exact Fk a _ _ (by rw[h.tmps]; exact aa i (IU i tL))
     ·rw[xk _ _ _ _ (mG i (IU i tL) j hj (λe=>hne e.symm))];refine h.val j hj ?_;rcases E2 hl with rfl | hl
      ·exact absurd rfl hne
      ·exact hl
    ·rw[xk _ _ _ _ (dH (List.mem_map.2 ⟨i,IU i tL,rfl⟩) q hq)];exact h.base q hq
   exact wpOp_of_qOp (C:=λw'=>w'=w) rfl (λa' w' hw' h'=>by subst hw'; exact ih _ a' h') hq
end
section
variable {P:Program} {ops:Array Oper} {Q:Exit->Act->World->Prop}
theorem aOK{w:World}{D A T:List Nat}{dst:Nat->Nat}{val:Nat->Value}{base:List (Nat×Value)}{m p0:Nat}{ds:List Deferred}
 (hw:∀ (i:Nat) (o:Oper),ops[i]?=some o->∀ e∈o.after,e.on<i) (yI:p0<ops.size) (Pi:p0∉D)
 (Co:∀ (i:Nat) (o:Oper),ops[i]?=some o->i∉D->i∉T->∃ e∈o.after,Region.binds .any e=true/\e.on∉D/\e.on<ops.size)
 (vZ:∀ i∈D,i∉A->∃ o:Oper,ops[i]?=some o/\o.dst=some (dst i)) (aa:∀ i∈D,dst i<m) (mG:∀ i∈D,∀ j∈D,j≠i->dst i≠dst j) (dF:∀ i∈D,∀ q∈base,dst i≠q.1)
 (hy:∀ i∈D,i∉A->∀ o:Oper,ops[i]?=some o->∀ a:Act,(∀ q∈base,a.eval (.tmp q.1)=q.2)->(∀ e∈o.after,Region.binds .any e=true->e.on∈D->a.eval (.tmp (dst e.on))=val e.on)->YieldsIn P ops (λw'=>w'=w) o (val i) a)
 (vN:∀ p∈T,∀ f listed a,Held ops D A dst val base m ds (f+1) listed a->p∈Region.ready .any ops listed->wpOp P ops Q p (wpAny P .any ops Q f (listed.setIfInBounds p true)) a w) :
 ∀ f listed a,Held ops D A dst val base m ds f listed a->wpAny P .any ops Q f listed a w:=by
 intro f
 induction f with
 | zero=>intro listed a h; exact absurd h.good (kU.none yI Pi)
 | succ f ih=>
  intro listed a h;have hg:=h.good;refine⟨λh0=>absurd h0 (QW hw hg.size p0 yI (hg.not p0 yI Pi)),λi hi=>?_⟩;obtain⟨hr,o,ho,az⟩:=mem_ready.1 hi;by_cases hip:i∈T
  ·exact vN i hip f listed a h hi
  ·have fO:i∈D:=Decidable.byContradiction λfO=>by
    obtain⟨e,he,py,gO,hes⟩:=Co i o ho fO hip;have h1:=az e he py;have h2:=hg.not e.on hes gO;have h3:e.on<listed.size:=by rw[hg.size]; exact hes
    simp[Array.getD,h3] at h1 h2;rw[h1] at h2
    cases h2
   have aC:i∉A:=λhA=>by
    have h1:=h.done i hA;have h3:i<listed.size:=by rw[hg.size]; exact (eQ.1 ho).1
    simp[Array.getD,h3] at h1 hr;rw[h1] at hr; cases hr
   obtain⟨o',ho',hd⟩:=vZ i fO aC;rw[ho] at ho'; cases ho';have BB:∀ e∈o.after,Region.binds .any e=true->e.on∈D->a.eval (.tmp (dst e.on))=val e.on:=λe he py hD=>hg.val _ hD (az e he py);have hq:=kU.step (P:=P) hg fO hr ho hd (aa i fO) (mG i fO) (dF i fO) (hy i fO aC o ho a hg.base BB);exact wpOp_of_qOp (C:=λw'=>w'=w) rfl (λa' w' hw' h'=>by subst hw'; exact ih _ a' ⟨h',λj hj=>mO (h.done j hj),DE hi h.clo⟩) hq
end
def uy(e:Nat->Value)(p:Nat)(v:Value)(i:Nat):Value:=if i=p then v else e i
def onB(o:Oper)(f:Nat->Bool):Bool:=o.after.any λx=>Region.binds .any x&&f x.on
def Dz(o:Oper)(f:Nat->Bool):Bool:=o.after.all λx=>!Region.binds .any x||f x.on
def P5(ops:Array Oper)(ord T:List Nat)(p0 m:Nat)(dep:Nat->List Nat)(dst:Nat->Nat):Bool:=
 Ld ops&&decide (p0<ops.size)&&!ord.contains p0&&EY ops p0&&((List.range ops.size).all λi=>i == p0||ord.contains i) &&
 (T.all λp=>ord.contains p&&dep p == [p])&&(ord.all λi=>(dep i).all (T.contains ·))&&(ord.all λi=>decide (i<ops.size)) &&
 (ord.all λi=>T.contains i||match ops[i]? with
   | some o=>o.dst == some (dst i)&&(dep i).all (λj=>onB o λk=>(dep k).contains j&&decide (k<ops.size))&&Dz o (λk=>ord.contains k&&(dep k).all ((dep i).contains ·))
   | none=>false) &&
 (match ops[p0]? with
   | some o=>T.all λj=>onB o λk=>(dep k).contains j&&decide (k<ops.size)
   | none=>false) &&
 (ord.all λi=>decide (dst i<m)&&ord.all λj=>j == i||!(dst i == dst j))
section
variable {P:Program} {ops:Array Oper} {Q:Exit->Act->World->Prop}
structure InvS(ops:Array Oper)(ord T:List Nat)(p0 m:Nat)(dep:Nat->List Nat)(dst:Nat->Nat):Prop where
 well:∀ (i:Nat) (o:Oper),ops[i]?=some o->∀ e∈o.after,e.on<i
 p0s:p0<ops.size
 p0o:p0∉ord
 last:EY ops p0=true
 all:∀ i,i<ops.size->i=p0\/i∈ord
 tord:∀ p∈T,p∈ord/\dep p = [p]
 depT:∀ i∈ord,∀ j∈dep i,j∈T
 size:∀ i∈ord,i<ops.size
 qdst:∀ i∈ord,i∉T->∃ o,ops[i]?=some o/\o.dst=some (dst i)
 qon:∀ i∈ord,i∉T->∀ o,ops[i]?=some o->∀ j∈dep i,∃ e∈o.after,Region.binds .any e=true/\j∈dep e.on/\e.on<ops.size
 qall:∀ i∈ord,i∉T->∀ o,ops[i]?=some o->∀ e∈o.after,Region.binds .any e=true->e.on∈ord/\∀ j∈dep e.on,j∈dep i
 p0on:∀ o,ops[p0]?=some o->∀ j∈T,∃ e∈o.after,Region.binds .any e=true/\j∈dep e.on/\e.on<ops.size
 lt:∀ i∈ord,dst i<m
 inj:∀ i∈ord,∀ j∈ord,j≠i->dst i≠dst j
theorem QE{o:Oper}{f:Nat->Bool}(h:onB o f=true):∃ e∈o.after,Region.binds .any e=true/\f e.on=true:=by
 unfold onB at h;rw[Array.any_eq_true'] at h;obtain⟨e,he,h2⟩:=h;simp only[Bool.and_eq_true] at h2;exact⟨e,he,h2⟩
theorem Vc{o:Oper}{f:Nat->Bool}(h:Dz o f=true):∀ e∈o.after,Region.binds .any e=true->f e.on=true:=by
 intro e he hb;unfold Dz at h;rw[Array.all_eq_true'] at h
 have:=h e he
 rw[hb] at this;simpa using this
theorem abQ{ord T:List Nat}{p0 m:Nat}{dep:Nat->List Nat}{dst:Nat->Nat}(h:P5 ops ord T p0 m dep dst=true):InvS ops ord T p0 m dep dst:=by
 unfold P5 at h;simp only[Bool.and_eq_true,Bool.not_eq_true',Qa,List.all_eq_true,Bool.or_eq_true,beq_iff_eq,List.contains_iff_mem,List.mem_range] at h;obtain⟨⟨⟨⟨⟨⟨⟨⟨⟨⟨h1,h2⟩,h3⟩,h4⟩,h5⟩,h6⟩,h7⟩,h8⟩,h9⟩,ou⟩,tv⟩:=h;have key:∀ i∈ord,i∉T->∃ o,ops[i]?=some o/\o.dst=some (dst i)/\(∀ j∈dep i,onB o (λk=>(dep k).contains j&&decide (k<ops.size))=true)/\Dz o (λk=>ord.contains k&&(dep k).all ((dep i).contains ·))=true:=λi hi hT=>by
  have h:=(h9 i hi).resolve_left hT;split at h
  ·rename_i o ho;simp only[Bool.and_eq_true,beq_iff_eq,List.all_eq_true] at h;exact⟨o,ho,h.1.1,h.1.2,h.2⟩
  ·cases h
 refine⟨jf h1,h2,(λe=>by rw[List.contains_iff_mem.2 e] at h3; cases h3),h4,h5,h6,h7,h8,λi hi hT=>?_,λi hi hT o ho j hj=>?_,λi hi hT o ho e he hb=>?_,λo ho j hj=>?_,λi hi=>(tv i hi).1,λi hi j hj hne=>?_⟩
 ·obtain⟨o,ho,hd,_⟩:=key i hi hT;exact⟨o,ho,hd⟩
 ·obtain⟨o',ho',_,hk,_⟩:=key i hi hT;rw[ho] at ho'; cases ho';obtain⟨e,he,hb,hf⟩:=QE (hk j hj);simp only[Bool.and_eq_true,Qa,List.contains_iff_mem] at hf;exact⟨e,he,hb,hf⟩
 ·obtain⟨o',ho',_,_,hk⟩:=key i hi hT;rw[ho] at ho'; cases ho';have hf:=Vc hk e he hb;simp only[Bool.and_eq_true,List.contains_iff_mem,List.all_eq_true] at hf;exact hf
 ·rw[ho] at ou;simp only[List.all_eq_true] at ou;obtain⟨e,he,hb,hf⟩:=QE (ou j hj);simp only[Bool.and_eq_true,Qa,List.contains_iff_mem] at hf;exact⟨e,he,hb,hf⟩
 ·have:=((tv i hi).2 j hj).resolve_left hne
  simpa using this
def kq(ord:List Nat)(dep:Nat->List Nat)(A:List Nat):List Nat:=ord.filter λi=>(dep i).all (A.contains ·)
theorem lD{ord:List Nat}{dep:Nat->List Nat}{A:List Nat}{i:Nat} : i∈kq ord dep A↔i∈ord/\∀ j∈dep i,j∈A:=by
 unfold kq;rw[List.mem_filter,List.all_eq_true];simp only[List.contains_iff_mem]
theorem NG(p:Nat)(A:List Nat):∀ l:List Nat,(l.filter λq=>!(p::A).contains q).length<=(l.filter λq=>!A.contains q).length
 | []=>bQ _
 | y::l=>by
   have ih:=NG p A l;by_cases hy:y∈A
   ·rw[List.filter_cons_of_neg (by simp[hy]),List.filter_cons_of_neg (by simp[hy])]; exact ih
   ·by_cases sB:y=p
    ·rw[List.filter_cons_of_neg (by simp[sB]),List.filter_cons_of_pos (by simpa using hy),List.length_cons]; omega
    ·rw[List.filter_cons_of_pos (by simp[hy,sB]),List.filter_cons_of_pos (by simpa using hy),List.length_cons,List.length_cons]; omega
theorem NH{p:Nat}{A:List Nat}(hA:p∉A):∀ {l:List Nat},p∈l->(l.filter λq=>!(p::A).contains q).length<(l.filter λq=>!A.contains q).length
 | [],h=>by cases h
 | y::l,h=>by
   by_cases sB:y=p
   ·subst sB;have ih:=NG y A l;rw[List.filter_cons_of_neg (by simp),List.filter_cons_of_pos (by simpa using hA),List.length_cons]; omega
   ·have ih:=NH hA (List.mem_of_ne_of_mem (λe=>sB e.symm) h);by_cases hy:y∈A
    ·rw[List.filter_cons_of_neg (by simp[hy]),List.filter_cons_of_neg (by simp[hy])]; exact ih
    ·rw[List.filter_cons_of_pos (by simp[hy,sB]),List.filter_cons_of_pos (by simpa using hy),List.length_cons,List.length_cons]; omega
theorem aOX{Inv:List Nat->(Nat->Value)->World->Prop}{ord T:List Nat}{p0 m:Nat}{dep:Nat->List Nat}{dst:Nat->Nat}{val:(Nat->Value)->Nat->Value}{a0:Act}
 (hS:InvS ops ord T p0 m dep dst) (hm:a0.tmps.size=m) (ZN:∀ e,∀ p∈T,val e p=e p) (pO:∀ (i:Nat) (e e':Nat->Value),(∀ j∈dep i,e j=e' j)->val e i=val e' i)
 (hq:∀ A e w,Inv A e w->∀ i∈ord,i∉T->(∀ j∈dep i,j∈A)->∀ o,ops[i]?=some o->∀ a:Act,(∀ q∈ea a0 m (ord.map dst),a.eval (.tmp q.1)=q.2)->(∀ x∈o.after,Region.binds .any x=true->a.eval (.tmp (dst x.on))=val e x.on)->YieldsIn P ops (λw'=>w'=w) o (val e i) a)
 (vN:∀ A e w,Inv A e w->∀ p∈T,p∉A->∀ o,ops[p]?=some o->∀ a:Act,(∀ q∈ea a0 m (ord.map dst),a.eval (.tmp q.1)=q.2)->(∀ x∈o.after,Region.binds .any x=true->a.eval (.tmp (dst x.on))=val e x.on/\∀ j∈dep x.on,j∈A)->∀ K:Act->World->Prop,(∀ v w',Inv (p::A) (uy e p v) w'->K (a.put (some (dst p)) v) w')->wpOp P ops Q p K a w)
 (dB:∀ A e w,Inv A e w->(∀ p∈T,p∈A)->∀ o,ops[p0]?=some o->∀ a:Act,(∀ i∈ord,a.eval (.tmp (dst i))=val e i)->(∀ q∈ea a0 m (ord.map dst),a.eval (.tmp q.1)=q.2)->a=lE a0 (ord.map λi=>(dst i,val e i))->∀ K:Act->World->Prop,(∀ a' w',Q .normal a' w'->K a' w')->wpOp P ops Q p0 K a w)
 {e0:Nat->Value} {w:World} (h0:Inv [] e0 w):wpAny P .any ops Q ops.size (Array.replicate ops.size false) a0 w:=by
 have main:∀ (n:Nat) (A:List Nat) (e:Nat->Value) (w:World) (f:Nat) (listed:Array Bool) (a:Act),(T.filter λp=>!A.contains p).length=n->(∀ p∈A,p∈T)->Inv A e w->Held ops (kq ord dep A) A dst (val e) (ea a0 m (ord.map dst)) m a0.defers f listed a->wpAny P .any ops Q f listed a w:=by
  intro n
  induction n using Nat.strongRecOn with
  | ind n ih=>
   intro A e w f listed a hn hA hI hH;have tB:∀ {i},i∈kq ord dep A->i∈ord:=λh=>(lD.1 h).1;have B6:∀ i∈kq ord dep A,i∉A->i∉T:=λi hi aC hT=>by
    obtain⟨h1,h2⟩:=lD.1 hi;exact aC (h2 i (by rw[(hS.tord i hT).2]; simp))
   have aa:∀ i∈kq ord dep A,dst i<m:=λi hi=>hS.lt i (tB hi);have mG:∀ i∈kq ord dep A,∀ j∈kq ord dep A,j≠i->dst i≠dst j:=λi hi j hj=>hS.inj i (tB hi) j (tB hj);have dF:∀ i∈ord,∀ q∈ea a0 m (ord.map dst),dst i≠q.1:=λi hi=>dH (List.mem_map.2 ⟨i,hi,rfl⟩);have OH:∀ i∈kq ord dep A,i∉A->∃ o:Oper,ops[i]?=some o/\o.dst=some (dst i):=λi hi aC=>hS.qdst i (tB hi) (B6 i hi aC);have hy:∀ i∈kq ord dep A,i∉A->∀ o:Oper,ops[i]?=some o->∀ a:Act,(∀ q∈ea a0 m (ord.map dst),a.eval (.tmp q.1)=q.2)->(∀ x∈o.after,Region.binds .any x=true->x.on∈kq ord dep A->a.eval (.tmp (dst x.on))=val e x.on)->YieldsIn P ops (λw'=>w'=w) o (val e i) a:=λi hi aC o ho a hb hx=>by
    obtain⟨h1,h2⟩:=lD.1 hi;refine hq A e w hI i h1 (B6 i hi aC) h2 o ho a hb (λx yO jz=>hx x yO jz ?_);obtain⟨h3,h4⟩:=hS.qall i h1 (B6 i hi aC) o ho x yO jz;exact lD.2 ⟨h3,λj hj=>h2 j (h4 j hj)⟩
   by_cases az:∀ p∈T,p∈A
   ·have hD:∀ i∈ord,i∈kq ord dep A:=λi hi=>lD.2 ⟨hi,λj hj=>az j (hS.depT i hi j hj)⟩;refine jg (p:=p0) hS.well hS.p0s (λh=>hS.p0o (tB h)) (λi o ho hi hne=>absurd (hD i ((hS.all i (eQ.1 ho).1).resolve_left hne)) hi) OH aa mG (λi hi=>dF i (tB hi)) hy ?_ f listed a hH;intro f listed a hH hr;obtain⟨rfl,hl⟩:=hH.all hr hS.last;have Ex:∀ i∈ord,listed.getD i false=true:=λi hi=>hl i (hS.size i hi) (λe=>hS.p0o (e ▸ hi));obtain⟨_,o,ho,_⟩:=mem_ready.1 hr;have Xs:kq ord dep A=ord:=List.filter_eq_self.2 λi hi=>List.all_eq_true.2 λj hj=>List.contains_iff_mem.2 ((lD.1 (hD i hi)).2 j hj);have hH':=hH;rw[Xs] at hH';have Jr:=Held.frame (D:=ord) hH' hm Ex hS.lt;refine dB A e w hI az o ho a (λi hi=>hH.good.val i (hD i hi) (Ex i hi)) hH.good.base Jr _ (λa' w' hQ=>⟨ut (λi hi=>?_) (by rw[Array.size_setIfInBounds]; exact hH.good.size),hQ⟩);by_cases hip:i=p0
    ·subst hip;have hs:i<listed.size:=by rw[hH.good.size]; exact hi
     simp[Array.getD,hs]
    ·exact mO (hl i hi hip)
   ·obtain⟨r,hr⟩:=Classical.not_forall.1 az;obtain⟨JO,Zr⟩:=Classical.not_imp.1 hr;have Pp:∀ k,r∈dep k->k∉kq ord dep A:=λk hk hm=>Zr ((lD.1 hm).2 r hk);refine aOK (T:=T.filter λp=>!A.contains p) (p0:=r) hS.well (hS.size r (hS.tord r JO).1) (Pp r (by rw[(hS.tord r JO).2]; simp)) (λi o ho hi Jy=>?_) OH aa mG (λi hi=>dF i (tB hi)) hy ?_ f listed a hH
    ·rcases hS.all i (eQ.1 ho).1 with rfl | BL
     ·obtain⟨x,hx,hb,hj,hs⟩:=hS.p0on o ho r JO;exact⟨x,hx,hb,Pp _ hj,hs⟩
     ·have hj:∃ j∈dep i,j∉A:=Classical.byContradiction λh=>hi (lD.2 ⟨BL,λj hj=>Classical.byContradiction λh2=>h ⟨j,hj,h2⟩⟩);obtain⟨j,hj,OU⟩:=hj;by_cases hT:i∈T
      ·rw[(hS.tord i hT).2,List.mem_singleton] at hj;subst hj;exact absurd (List.mem_filter.2 ⟨hT,by simpa using OU⟩) Jy
      ·obtain⟨x,hx,hb,tM,hs⟩:=hS.qon i BL hT o ho j hj;exact⟨x,hx,hb,λhm=>OU ((lD.1 hm).2 j tM),hs⟩
    ·intro p hp f listed a hH hr;obtain⟨wR,r9⟩:=List.mem_filter.1 hp;have r9:p∉A:=by simpa using r9
     obtain⟨_,o,ho,bd⟩:=mem_ready.1 hr;have nH:p∉kq ord dep A:=λhm=>r9 ((lD.1 hm).2 p (by rw[(hS.tord p wR).2]; simp));have qH:=(hS.tord p wR).1;refine vN A e w hI p wR r9 o ho a hH.good.base (λx hx hb=>?_) _ (λv w' hI'=>?_)
     ·have h1:=bd x hx hb;have lC:x.on<ops.size:=by have:=hS.well p o ho x hx; have:=hS.size p qH; omega
      have PK:x.on∈kq ord dep A:=Classical.byContradiction λhn=>by
       have h2:=hH.good.not x.on lC hn;have h3:x.on<listed.size:=by rw[hH.good.size]; exact lC
       simp[Array.getD,h3] at h1 h2;rw[h1] at h2; cases h2
      exact⟨hH.good.val _ PK h1,(lD.1 PK).2⟩
     ·refine ih _ ?_ (p::A) (uy e p v) w' f _ _ rfl (λq hq=>by rcases List.mem_cons.1 hq with rfl | hq; exact wR; exact hA q hq) hI' (hH.act (D':=kq ord dep (p::A)) (val':=val (uy e p v)) hr nH (λi hi=>?_) (λi hi=>pO i _ _ λj hj=>?_) ((ZN _ p wR).trans (by simp[uy])) (hS.lt p qH) (λj hj=>hS.inj p qH j (tB hj) (λe=>nH (e ▸ hj))) (dF p qH) (hS.size p qH))
      ·rw[<-hn];exact NH r9 wR
      ·refine⟨λhm=>hi (lD.2 ⟨(lD.1 hm).1,λj hj=>mQ _ ((lD.1 hm).2 j hj)⟩),λe=>hi ?_⟩;subst e;exact lD.2 ⟨qH,λj hj=>by rw[(hS.tord i wR).2] at hj; simpa using Or.inl hj⟩
      ·have:=(lD.1 hi).2 j hj
       have wz:j≠p:=λe=>r9 (e ▸ this);simp[uy,wz]
 exact main _ [] e0 w ops.size _ a0 rfl (λp hp=>by cases hp) h0 (Held.start (λq hq=>uu q hq) hm)
end
end
end Go.Proofs.YtbfbobfbgabjiaaGreatDoor
