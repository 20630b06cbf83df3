/- Parts of the proof. No condition. -/
import Derived.Test.YtbfbobfbgabjiaaGreatDoorM19
set_option linter.all false
set_option maxRecDepth 100000
set_option maxHeartbeats 8000000
namespace Go.Proofs.YtbfbobfbgabjiaaGreatDoor
section
open Go.RowKit
def tO(e:Nat->Value)(p:Nat)(v:Value)(i:Nat):Value:=if i=p then v else e i
def onB(o:Oper)(f:Nat->Bool):Bool:=o.after.any λx=>Region.binds .any x&&f x.on
def Ei(o:Oper)(f:Nat->Bool):Bool:=o.after.all λx=>!Region.binds .any x||f x.on
def PA(ops:Array Oper)(ord T:List Nat)(p0 m:Nat)(dep:Nat->List Nat)(dst:Nat->Nat):Bool:=
 Il ops&&decide (p0<ops.size)&&!ord.contains p0&&Ec ops p0&&((List.range ops.size).all λi=>i == p0||ord.contains i) &&
 (T.all λp=>ord.contains p&&dep p == [p])&&(ord.all λi=>(dep i).all (T.contains ·))&&(ord.all λi=>decide (i<ops.size)) &&
 (ord.all λi=>T.contains i||match ops[i]? with
   | some o=>o.dst == some (dst i)&&(dep i).all (λj=>onB o λk=>(dep k).contains j&&decide (k<ops.size))&&Ei o (λk=>ord.contains k&&(dep k).all ((dep i).contains ·))
   | none=>false) &&
 (match ops[p0]? with
   | some o=>T.all λj=>onB o λk=>(dep k).contains j&&decide (k<ops.size)
   | none=>false) &&
 (ord.all λi=>decide (dst i<m)&&ord.all λj=>j == i||!(dst i == dst j))
section
variable {P:Program} {ops:Array Oper} {Q:Exit->Act->World->Prop}
structure InvS(ops:Array Oper)(ord T:List Nat)(p0 m:Nat)(dep:Nat->List Nat)(dst:Nat->Nat):Prop where
 well:∀ (i:Nat) (o:Oper),ops[i]?=some o->∀ e∈o.after,e.on<i
 p0s:p0<ops.size
 p0o:p0∉ord
 last:Ec ops p0=true
 all:∀ i,i<ops.size->i=p0\/i∈ord
 tord:∀ p∈T,p∈ord/\dep p = [p]
 depT:∀ i∈ord,∀ j∈dep i,j∈T
 size:∀ i∈ord,i<ops.size
 qdst:∀ i∈ord,i∉T->∃ o,ops[i]?=some o/\o.dst=some (dst i)
 qon:∀ i∈ord,i∉T->∀ o,ops[i]?=some o->∀ j∈dep i,∃ e∈o.after,Region.binds .any e=true/\j∈dep e.on/\e.on<ops.size
 qall:∀ i∈ord,i∉T->∀ o,ops[i]?=some o->∀ e∈o.after,Region.binds .any e=true->e.on∈ord/\∀ j∈dep e.on,j∈dep i
 p0on:∀ o,ops[p0]?=some o->∀ j∈T,∃ e∈o.after,Region.binds .any e=true/\j∈dep e.on/\e.on<ops.size
 lt:∀ i∈ord,dst i<m
 inj:∀ i∈ord,∀ j∈ord,j≠i->dst i≠dst j
theorem OE{o:Oper}{f:Nat->Bool}(h:onB o f=true):∃ e∈o.after,Region.binds .any e=true/\f e.on=true:=by
 unfold onB at h;rw[Array.any_eq_true'] at h;obtain⟨e,he,h2⟩:=h;simp only[Bool.and_eq_true] at h2;exact⟨e,he,h2⟩
theorem Yn{o:Oper}{f:Nat->Bool}(h:Ei o f=true):∀ e∈o.after,Region.binds .any e=true->f e.on=true:=by
 intro e he hb;unfold Ei at h;rw[Array.all_eq_true'] at h
 have:=h e he
 rw[hb] at this;simpa using this
theorem XY{ord T:List Nat}{p0 m:Nat}{dep:Nat->List Nat}{dst:Nat->Nat}(h:PA ops ord T p0 m dep dst=true):InvS ops ord T p0 m dep dst:=by
 unfold PA at h;simp only[Bool.and_eq_true,Bool.not_eq_true',Qa,List.all_eq_true,Bool.or_eq_true,beq_iff_eq,List.contains_iff_mem,List.mem_range] at h;obtain⟨⟨⟨⟨⟨⟨⟨⟨⟨⟨h1,h2⟩,h3⟩,h4⟩,h5⟩,h6⟩,h7⟩,h8⟩,h9⟩,mS⟩,uL⟩:=h;have key:∀ i∈ord,i∉T->∃ o,ops[i]?=some o/\o.dst=some (dst i)/\(∀ j∈dep i,onB o (λk=>(dep k).contains j&&decide (k<ops.size))=true)/\Ei o (λk=>ord.contains k&&(dep k).all ((dep i).contains ·))=true:=λi hi hT=>by
  have h:=(h9 i hi).resolve_left hT;split at h
  ·rename_i o ho;simp only[Bool.and_eq_true,beq_iff_eq,List.all_eq_true] at h;exact⟨o,ho,h.1.1,h.1.2,h.2⟩
  ·cases h
 refine⟨fM h1,h2,(λe=>by rw[List.contains_iff_mem.2 e] at h3; cases h3),h4,h5,h6,h7,h8,λi hi hT=>?_,λi hi hT o ho j hj=>?_,λi hi hT o ho e he hb=>?_,λo ho j hj=>?_,λi hi=>(uL i hi).1,λi hi j hj hne=>?_⟩
 ·obtain⟨o,ho,hd,_⟩:=key i hi hT;exact⟨o,ho,hd⟩
 ·obtain⟨o',ho',_,hk,_⟩:=key i hi hT;rw[ho] at ho'; cases ho';obtain⟨e,he,hb,hf⟩:=OE (hk j hj);simp only[Bool.and_eq_true,Qa,List.contains_iff_mem] at hf;exact⟨e,he,hb,hf⟩
 ·obtain⟨o',ho',_,_,hk⟩:=key i hi hT;rw[ho] at ho'; cases ho';have hf:=Yn hk e he hb;simp only[Bool.and_eq_true,List.contains_iff_mem,List.all_eq_true] at hf;exact hf
 ·rw[ho] at mS;simp only[List.all_eq_true] at mS;obtain⟨e,he,hb,hf⟩:=OE (mS j hj);simp only[Bool.and_eq_true,Qa,List.contains_iff_mem] at hf;exact⟨e,he,hb,hf⟩
 ·have:=((uL i hi).2 j hj).resolve_left hne
  simpa using this
def kS(ord:List Nat)(dep:Nat->List Nat)(A:List Nat):List Nat:=ord.filter λi=>(dep i).all (A.contains ·)
theorem lv{ord:List Nat}{dep:Nat->List Nat}{A:List Nat}{i:Nat} : i∈kS ord dep A↔i∈ord/\∀ j∈dep i,j∈A:=by
 unfold kS;rw[List.mem_filter,List.all_eq_true];simp only[List.contains_iff_mem]
theorem O9(p:Nat)(A:List Nat):∀ l:List Nat,(l.filter λq=>!(p::A).contains q).length<=(l.filter λq=>!A.contains q).length
 | []=>bQ _
 | y::l=>by
   have ih:=O9 p A l;by_cases hy:y∈A
   ·rw[List.filter_cons_of_neg (by simp[hy]),List.filter_cons_of_neg (by simp[hy])]; exact ih
   ·by_cases sN:y=p
    ·rw[List.filter_cons_of_neg (by simp[sN]),List.filter_cons_of_pos (by simpa using hy),List.length_cons]; omega
    ·rw[List.filter_cons_of_pos (by simp[hy,sN]),List.filter_cons_of_pos (by simpa using hy),List.length_cons,List.length_cons]; omega
theorem O8{p:Nat}{A:List Nat}(hA:p∉A):∀ {l:List Nat},p∈l->(l.filter λq=>!(p::A).contains q).length<(l.filter λq=>!A.contains q).length
 | [],h=>by cases h
 | y::l,h=>by
   by_cases sN:y=p
   ·subst sN;have ih:=O9 y A l;rw[List.filter_cons_of_neg (by simp),List.filter_cons_of_pos (by simpa using hA),List.length_cons]; omega
   ·have ih:=O8 hA (List.mem_of_ne_of_mem (λe=>sN e.symm) h);by_cases hy:y∈A
    ·rw[List.filter_cons_of_neg (by simp[hy]),List.filter_cons_of_neg (by simp[hy])]; exact ih
    ·rw[List.filter_cons_of_pos (by simp[hy,sN]),List.filter_cons_of_pos (by simpa using hy),List.length_cons,List.length_cons]; omega
theorem Xe{Inv:List Nat->(Nat->Value)->World->Prop}{ord T:List Nat}{p0 m:Nat}{dep:Nat->List Nat}{dst:Nat->Nat}{val:(Nat->Value)->Nat->Value}{a0:Act}
 (hS:InvS ops ord T p0 m dep dst) (hm:a0.tmps.size=m) (hvT:∀ e,∀ p∈T,val e p=e p) (pR:∀ (i:Nat) (e e':Nat->Value),(∀ j∈dep i,e j=e' j)->val e i=val e' i)
 (hq:∀ A e w,Inv A e w->∀ i∈ord,i∉T->(∀ j∈dep i,j∈A)->∀ o,ops[i]?=some o->∀ a:Act,(∀ q∈dt a0 m (ord.map dst),a.eval (.tmp q.1)=q.2)->(∀ x∈o.after,Region.binds .any x=true->a.eval (.tmp (dst x.on))=val e x.on)->YieldsIn P ops (λw'=>w'=w) o (val e i) a)
 (xG:∀ A e w,Inv A e w->∀ p∈T,p∉A->∀ o,ops[p]?=some o->∀ a:Act,(∀ q∈dt a0 m (ord.map dst),a.eval (.tmp q.1)=q.2)->(∀ x∈o.after,Region.binds .any x=true->a.eval (.tmp (dst x.on))=val e x.on/\∀ j∈dep x.on,j∈A)->∀ K:Act->World->Prop,(∀ v w',Inv (p::A) (tO e p v) w'->K (a.put (some (dst p)) v) w')->wpOp P ops Q p K a w)
 (bY:∀ A e w,Inv A e w->(∀ p∈T,p∈A)->∀ o,ops[p0]?=some o->∀ a:Act,(∀ i∈ord,a.eval (.tmp (dst i))=val e i)->(∀ q∈dt a0 m (ord.map dst),a.eval (.tmp q.1)=q.2)->a=jJ a0 (ord.map λi=>(dst i,val e i))->∀ K:Act->World->Prop,(∀ a' w',Q .normal a' w'->K a' w')->wpOp P ops Q p0 K a w)
 {e0:Nat->Value} {w:World} (h0:Inv [] e0 w):wpAny P .any ops Q ops.size (Array.replicate ops.size false) a0 w:=by
 have main:∀ (n:Nat) (A:List Nat) (e:Nat->Value) (w:World) (f:Nat) (listed:Array Bool) (a:Act),(T.filter λp=>!A.contains p).length=n->(∀ p∈A,p∈T)->Inv A e w->Held ops (kS ord dep A) A dst (val e) (dt a0 m (ord.map dst)) m a0.defers f listed a->wpAny P .any ops Q f listed a w:=by
  intro n
  induction n using Nat.strongRecOn with
  | ind n ih=>
   intro A e w f listed a hn hA hI hH;have uw:∀ {i},i∈kS ord dep A->i∈ord:=λh=>(lv.1 h).1;have BF:∀ i∈kS ord dep A,i∉A->i∉T:=λi hi ar hT=>by
    obtain⟨h1,h2⟩:=lv.1 hi;exact ar (h2 i (by rw[(hS.tord i hT).2]; simp))
   have ab:∀ i∈kS ord dep A,dst i<m:=λi hi=>hS.lt i (uw hi);have mT:∀ i∈kS ord dep A,∀ j∈kS ord dep A,j≠i->dst i≠dst j:=λi hi j hj=>hS.inj i (uw hi) j (uw hj);have jc:∀ i∈ord,∀ q∈dt a0 m (ord.map dst),dst i≠q.1:=λi hi=>cx (List.mem_map.2 ⟨i,hi,rfl⟩);have qZ:∀ i∈kS ord dep A,i∉A->∃ o:Oper,ops[i]?=some o/\o.dst=some (dst i):=λi hi ar=>hS.qdst i (uw hi) (BF i hi ar);have hy:∀ i∈kS ord dep A,i∉A->∀ o:Oper,ops[i]?=some o->∀ a:Act,(∀ q∈dt a0 m (ord.map dst),a.eval (.tmp q.1)=q.2)->(∀ x∈o.after,Region.binds .any x=true->x.on∈kS ord dep A->a.eval (.tmp (dst x.on))=val e x.on)->YieldsIn P ops (λw'=>w'=w) o (val e i) a:=λi hi ar o ho a hb hx=>by
    obtain⟨h1,h2⟩:=lv.1 hi;refine hq A e w hI i h1 (BF i hi ar) h2 o ho a hb (λx zq mD=>hx x zq mD ?_);obtain⟨h3,h4⟩:=hS.qall i h1 (BF i hi ar) o ho x zq mD;exact lv.2 ⟨h3,λj hj=>h2 j (h4 j hj)⟩
   by_cases ax:∀ p∈T,p∈A
   ·have hD:∀ i∈ord,i∈kS ord dep A:=λi hi=>lv.2 ⟨hi,λj hj=>ax j (hS.depT i hi j hj)⟩;refine fN (p:=p0) hS.well hS.p0s (λh=>hS.p0o (uw h)) (λi o ho hi hne=>absurd (hD i ((hS.all i (eQ.1 ho).1).resolve_left hne)) hi) qZ ab mT (λi hi=>jc i (uw hi)) hy ?_ f listed a hH;intro f listed a hH hr;obtain⟨rfl,hl⟩:=hH.all hr hS.last;have nP:∀ i∈ord,listed.getD i false=true:=λi hi=>hl i (hS.size i hi) (λe=>hS.p0o (e ▸ hi));obtain⟨_,o,ho,_⟩:=mem_ready.1 hr;have hDe:kS ord dep A=ord:=List.filter_eq_self.2 λi hi=>List.all_eq_true.2 λj hj=>List.contains_iff_mem.2 ((lv.1 (hD i hi)).2 j hj);have hH':=hH;rw[hDe] at hH';have oX:=Held.frame (D:=ord) hH' hm nP hS.lt;refine bY A e w hI ax o ho a (λi hi=>hH.good.val i (hD i hi) (nP i hi)) hH.good.base oX _ (λa' w' hQ=>⟨pz (λi hi=>?_) (by rw[Array.size_setIfInBounds]; exact hH.good.size),hQ⟩);by_cases hip:i=p0
    ·subst hip;have hs:i<listed.size:=by rw[hH.good.size]; exact hi
     simp[Array.getD,hs]
    ·exact kL (hl i hi hip)
   ·obtain⟨r,hr⟩:=Classical.not_forall.1 ax;obtain⟨Jn,hrA⟩:=Classical.not_imp.1 hr;have QQ:∀ k,r∈dep k->k∉kS ord dep A:=λk hk hm=>hrA ((lv.1 hm).2 r hk);refine VT (T:=T.filter λp=>!A.contains p) (p0:=r) hS.well (hS.size r (hS.tord r Jn).1) (QQ r (by rw[(hS.tord r Jn).2]; simp)) (λi o ho hi Ln=>?_) qZ ab mT (λi hi=>jc i (uw hi)) hy ?_ f listed a hH
    ·rcases hS.all i (eQ.1 ho).1 with rfl | Bt
     ·obtain⟨x,hx,hb,hj,hs⟩:=hS.p0on o ho r Jn;exact⟨x,hx,hb,QQ _ hj,hs⟩
     ·have hj:∃ j∈dep i,j∉A:=Classical.byContradiction λh=>hi (lv.2 ⟨Bt,λj hj=>Classical.byContradiction λh2=>h ⟨j,hj,h2⟩⟩);obtain⟨j,hj,R3⟩:=hj;by_cases hT:i∈T
      ·rw[(hS.tord i hT).2,List.mem_singleton] at hj;subst hj;exact absurd (List.mem_filter.2 ⟨hT,by simpa using R3⟩) Ln
      ·obtain⟨x,hx,hb,rn,hs⟩:=hS.qon i Bt hT o ho j hj;exact⟨x,hx,hb,λhm=>R3 ((lv.1 hm).2 j rn),hs⟩
    ·intro p hp f listed a hH hr;obtain⟨xe,r9⟩:=List.mem_filter.1 hp;have r9:p∉A:=by simpa using r9
     obtain⟨_,o,ho,bA⟩:=mem_ready.1 hr;have oj:p∉kS ord dep A:=λhm=>r9 ((lv.1 hm).2 p (by rw[(hS.tord p xe).2]; simp));have ro:=(hS.tord p xe).1;refine xG A e w hI p xe r9 o ho a hH.good.base (λx hx hb=>?_) _ (λv w' hI'=>?_)
     ·have h1:=bA x hx hb;have lO:x.on<ops.size:=by have:=hS.well p o ho x hx; have:=hS.size p ro; omega
      have Ss:x.on∈kS ord dep A:=Classical.byContradiction λhn=>by
       have h2:=hH.good.not x.on lO hn;have h3:x.on<listed.size:=by rw[hH.good.size]; exact lO
       simp[Array.getD,h3] at h1 h2;rw[h1] at h2; cases h2
      exact⟨hH.good.val _ Ss h1,(lv.1 Ss).2⟩
     ·refine ih _ ?_ (p::A) (tO e p v) w' f _ _ rfl (λq hq=>by rcases List.mem_cons.1 hq with rfl | hq; exact xe; exact hA q hq) hI' (hH.act (D':=kS ord dep (p::A)) (val':=val (tO e p v)) hr oj (λi hi=>?_) (λi hi=>pR i _ _ λj hj=>?_) ((hvT _ p xe).trans (by simp[tO])) (hS.lt p ro) (λj hj=>hS.inj p ro j (uw hj) (λe=>oj (e ▸ hj))) (jc p ro) (hS.size p ro))
      ·rw[<-hn];exact O8 r9 xe
      ·refine⟨λhm=>hi (lv.2 ⟨(lv.1 hm).1,λj hj=>mQ _ ((lv.1 hm).2 j hj)⟩),λe=>hi ?_⟩;subst e;exact lv.2 ⟨ro,λj hj=>by rw[(hS.tord i xe).2] at hj; simpa using Or.inl hj⟩
      ·have:=(lv.1 hi).2 j hj
       have xy:j≠p:=λe=>r9 (e ▸ this);simp[tO,xy]
 exact main _ [] e0 w ops.size _ a0 rfl (λp hp=>by cases hp) h0 (Held.start (λq hq=>pw q hq) hm)
end
end
end Go.Proofs.YtbfbobfbgabjiaaGreatDoor
