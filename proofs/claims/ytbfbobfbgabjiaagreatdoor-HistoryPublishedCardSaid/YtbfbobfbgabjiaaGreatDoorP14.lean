/- Parts of the proof. No condition. -/
import Derived.Maps.RangeWalk
import Derived.Test.YtbfbobfbgabjiaaGreatDoorP07
import Derived.Test.YtbfbobfbgabjiaaGreatDoorP08
import Derived.Test.YtbfbobfbgabjiaaGreatDoorP09
import Derived.Test.YtbfbobfbgabjiaaGreatDoorP10
set_option linter.all false
set_option maxRecDepth 100000
set_option maxHeartbeats 8000000
namespace Go.Proofs.YtbfbobfbgabjiaaGreatDoor
open Go.Proofs.Tryz
section
open Go.RowKit Go.Sort Go.Shelf
structure SpBox(W:World)(b:Nat)(f u:Int):Prop where
 c0:W.cell? ⟨b,0,none⟩=some (.int .i64 f)
 c1:W.cell? ⟨b,1,none⟩=some (.int .i64 u)
 f0:W.frozen? ⟨b,0,none⟩=false
 f1:W.frozen? ⟨b,1,none⟩=false
 lt:b<W.heap.size
theorem SpBox.keep{W W':World}{b:Nat}{f u:Int}(h:SpBox W b f u){B:Nat}(hb:Below B W W')(hB:b<B):SpBox W' b f u:=
 ⟨(hb.cell hB).trans h.c0,(hb.cell hB).trans h.c1,(hb.frozen hB).trans h.f0,(hb.frozen hB).trans h.f1,lQ h.lt hb.size⟩
theorem aK.other{base:Nat}{W:World}{v:Value}{ps:List Np.Span}(h:aK base W v ps){p:Addr}(hp:p.block<base)(u:Value):aK base (W.setCell p u) v ps:=ownsRow_setCell_below h hp u
structure SpAt(W:World)(b j:Nat)(f u:Int):Prop where
 c0:W.cell? ⟨b,j,none⟩=some (.int .i64 f)
 c1:W.cell? ⟨b,j+1,none⟩=some (.int .i64 u)
theorem SpAt.keep{W W':World}{b j:Nat}{f u:Int}(h:SpAt W b j f u){B:Nat}(hb:Below B W W')(hB:b<B):SpAt W' b j f u:=⟨(hb.cell hB).trans h.c0,(hb.cell hB).trans h.c1⟩
theorem FD{W:World}{B b o n c k:Nat}{l:List Np.Span}{x:Np.Span}(h:SlR fk 2 W B (.slice (some ⟨b,o,none⟩) n c) l)(hx:l[k]?=some x):b<B/\SpAt W b (o+k * 2) x.frm x.til:=by
 obtain⟨A',c',hA',_,_,br⟩:=h
 cases hA'
 obtain⟨b',o',e,hA,bZ,hlen,hce,hR⟩:=br k _ hx
 cases hA
 obtain rfl:=hR;exact⟨bZ,hce 0 _ rfl,hce 1 _ rfl⟩
theorem KK{α:Type}{R:World->Nat->List Value->α->Prop}{sz:Nat}{W:World}{B:Nat}{A:Option Addr}{n c k:Nat}{l:List α}(h:SlR R sz W B (.slice A n c) l)(hk:k<l.length):∃ b o,A=some ⟨b,o,none⟩:=by
 obtain⟨A',c',hA',_,_,br⟩:=h
 cases hA'
 obtain⟨b',o',e,hA,_⟩:=br k _ (aQ hk);exact⟨b',o',hA⟩
structure WithK(X:Nat)(w W:World)(v:Value)(oo:List Np.Span)(fr ti:Int)(b j:Nat)(xf xu:Int):Prop where
 below:Below X w W
 own:aK (X+1) W v oo
 box:SpBox W X fr ti
 at_:SpAt W b j xf xu
theorem WithK.keep{X:Nat}{w W W':World}{v:Value}{oo:List Np.Span}{fr ti:Int}{b j:Nat}{xf xu:Int}(h:WithK X w W v oo fr ti b j xf xu)(hb:Below W.heap.size W W')(dP:b<X):WithK X w W' v oo fr ti b j xf xu:=
 ⟨h.below.trans (hb.mono (Nat.le_of_lt h.box.lt)),h.own.keep hb,h.box.keep hb h.box.lt,h.at_.keep hb (Nat.lt_trans dP h.box.lt)⟩
end
section
open Go.RowKit Go.MapKept Go.Shelf
theorem ahQ{α β:Type}[BEq α][LawfulBEq α](l:List (α×β))(p:α)(h:l.lookup p=none):p∉l.map (·.1):=by
 induction l with
 | nil=>simp
 | cons z zs ih=>
  rw[List.lookup_cons] at h
  cases hb:(p == z.1) with
  | true=>rw[hb] at h; simp at h
  | false=>
   rw[hb] at h;have hne:p≠z.1:=by simpa using hb
   simp only[List.map_cons,List.mem_cons,not_or];exact⟨hne,ih h⟩
abbrev fi:=(Int×List UInt8)×List Np.Span×Value
structure MapX(base r:Nat)(xs:List fi)(w:World):Prop where
 map:oe r (xs.map λx=>(x.1,x.2.2)) w
 row:∀ x∈xs,aK base w x.2.2 x.2.1
 apart:∀ (i j:Nat) (x y:fi) (g:Nat),xs[i]?=some x->xs[j]?=some y->x.2.2.ownBlock=some g->y.2.2.ownBlock=some g->i=j
theorem MapX.keep{base r:Nat}{xs:List fi}{w w':World}(h:MapX base r xs w)(hb:Below w.heap.size w w'):MapX base r xs w':=⟨h.map.keep hb h.map.lt,λx hx=>(h.row x hx).keep hb,h.apart⟩
theorem MapX.made(base:Nat)(w:World):MapX base w.heap.size [] (w.alloc (.map #[] 0)):=⟨oe.made w,λx hx=>(by cases hx),λi j x y g h=>by simp at h⟩
theorem aK.turned{base r:Nat}{w w':World}{v:Value}{ps:List Np.Span}(h:aK base w v ps)(ht:Turned r w w')(hr:r<base):aK base w' v ps:=fU h (λg hg=>ht.block g (by have:=(h.lt g hg).1; omega))
theorem MapX.turned{base r I:Nat}{xs:List fi}{w w':World}(h:MapX base r xs w)(ht:Turned I w w')(hI:I≠r)(hrow:∀ x∈xs,x.2.2.ownBlock≠some I):MapX base r xs w':=
 ⟨h.map.keep' (ht.block r (Ne.symm hI)),λx hx=>fU (h.row x hx) (λg hg=>ht.block g (λe=>hrow x hx (by rw[hg,e]))),h.apart⟩
theorem MapX.changed{base r:Nat}{xs:List fi}{w w':World}(h:MapX base r xs w)(hr:r<base){j:Nat}{p:Int×List UInt8}{g g':List Np.Span}{v:Value}(hj:xs[j]?=some (p,g,v))(hg:w.grownBy w' v.ownBlock)(ho:aK base w' v g'):MapX base r (xs.set j (p,g',v)) w':=by
 have hv:=h.row _ (gQ hj);refine⟨?_,λx hx=>?_,λi i' x y b hx hy=>?_⟩
 ·have e:(xs.set j (p,g',v)).map (λx:fi=>(x.1,x.2.2))=xs.map λx=>(x.1,x.2.2):=by
   rw[List.map_set];apply List.ext_getElem?;intro i;rw[List.getElem?_set];split
   ·rename_i e; subst e;rw[List.length_map,Qb (cQ.1 hj).1,List.getElem?_map,hj]; rfl
   ·rfl
  rw[e];refine h.map.keep' (hg.block r h.map.lt λe2=>?_)
  have:=(World.ownsRow.lt hv r e2.symm).1
  omega
 ·obtain⟨i,hi,rfl⟩:=nQ.1 hx;rw[List.length_set] at hi;rw[List.getElem_set];split
  ·exact ho
  ·rename_i hne;refine fU (h.row _ (List.getElem_mem hi)) λb hb=>hg.block b (World.ownsRow.lt (h.row _ (List.getElem_mem hi)) b hb).2 λe2=>hne ?_;exact h.apart j i _ _ b hj (aQ hi) e2.symm hb
 ·intro hb hb';have get:∀ (k:Nat) (z:fi),(xs.set j (p,g',v))[k]?=some z->∃ z',xs[k]?=some z'/\z'.2.2=z.2.2:=λk z hz=>by
   rw[List.getElem?_set] at hz;split at hz
   ·rename_i e; subst e;rw[Qb (cQ.1 hj).1] at hz
    cases hz
    exact⟨_,hj,rfl⟩
   ·exact⟨z,hz,rfl⟩
  obtain⟨x',hx',ex⟩:=get i x hx;obtain⟨y',hy',ey⟩:=get i' y hy;exact h.apart i i' x' y' b hx' hy' (by rw[ex]; exact hb) (by rw[ey]; exact hb')
theorem adJ(p:Int×List UInt8)(P:Program)(w:World):(Instr.keyThatStays (pH p) (pH p)).run P w = .ok (pH p) w:=by
 have h1:∀ a:ByteArray,(a == a)=true:=λa=>by
  show (a.data == a.data)=true;simp
 have:Instr.sameBits 10000 (pH p) (pH p)=true:=by
  rw[show (10000:Nat)=9998+1+1 from rfl];simp[Instr.sameBits,pH,aA,h1]
 simp[Instr.keyThatStays,this]
section
variable {ops:Array Oper} {rest:List Oper} {o:Oper} {a:Act} {Q:Exit->Act->World->Prop}
theorem aPY(w:World)(hg:o.guard=none)(m x:Operand)(kb:o.op=Op.mapEntry 110 m x)(base r:Nat)(xs:List fi)(hm:a.eval m = .map (some r))(hr:MapX base r xs w)(B7:r<base)(p:Int×List UInt8)(hx:a.eval x=pH p)
 (hK:∀ (w':World) (j:Nat) (g:List Np.Span) (v:Value) (xs':List fi),((xs'=xs/\xs[j]?=some (p,g,v))\/(p∉xs.map (·.1)/\xs'=xs ++ [(p,[],.slice none 0 0)]/\j=xs.length/\g = []/\v = .slice none 0 0))->xs'[j]?=some (p,g,v)->MapX base r xs' w'->Turned r w w'->wpList prog ops Q rest (a.put o.dst (.tuple #[v,.int .i64 (j:Int)])) w'):wpList prog ops Q (o::rest) a w:=by
 obtain⟨es,hes,he,lp⟩:=hr.map;have ht:=underlying110;have hl:r<w.heap.size:=(eQ.1 hes).1;have hf:=WS p w es.toList _ he;have hc:(Instr.checkKey false 10000 112 (pH p)).run prog w = .ok () w:=VI false p w;refine wpList_plain hg λK' hK'=>?_
 cases iI:(xs.map λx:fi=>(x.1,x.2.2)).lookup p with
 | some v=>
  obtain⟨j,j1,j2,hj⟩:=hf.1 v iI;obtain⟨e,iF,lu⟩:=Option.map_eq_some_iff.1 j1;rw[Array.getElem?_toList] at iF;simp only[Prod.mk.injEq] at lu;rw[List.getElem?_map] at j2;obtain⟨y,sA,pS⟩:=Option.map_eq_some_iff.1 j2;obtain⟨p',g,v'⟩:=y;simp only[Prod.mk.injEq] at pS;obtain⟨rfl,rfl⟩:=pS;have tN:(Instr.keyThatStays (((es[j]?).map (·.key)).getD (pH p')) (pH p')).run prog w = .ok (pH p') w:=by
   rw[iF];simp only[Option.map_some,Option.getD_some];rw[lu.1];exact adJ _ _ w
  have ap:((es[j]?).map (λx=>(x.born:Int))).getD 0=(j:Int):=by
   rw[iF]; simp[lp j e iF]
  have EA:(es.modify j λe=>{ e with key:=pH p' })=es:=by
   apply Array.ext_getElem?;intro i;rw[Array.getElem?_modify];split
   ·rename_i dU; subst dU;rw[iF];simp[<-lu.1]
   ·rfl
  have dp:(Instr.mapEntry 110 (.map (some r)) (pH p')).run prog w = .ok (.tuple #[v',.int .i64 (j:Int)]) { w with heap:=w.heap.setIfInBounds r (.map es es.size) }:=by
   simp[Instr.mapEntry,run_underlying ht,MapKept.run_getObj_map hes,hc,hj,tN,MapKept.run_setObj_map _ hes,Result.andThen,EA,ap,goInt]
  unfold Oper.wp;simp[execOp,kb,hm,hx,dp,Result.andThen];have lw:Turned r w { w with heap:=w.heap.setIfInBounds r (.map es es.size) }:=⟨rfl,rfl,rfl,by simp,λi hi=>by simp[Ne.symm hi]⟩;refine hK' _ _ (hK _ j g v' xs (.inl ⟨rfl,sA⟩) sA ⟨⟨es,by simp[hl],he,lp⟩,λx hx=>(hr.row x hx).turned lw B7,hr.apart⟩ lw)
 | none=>
  have hn:=hf.2 iI;have dp:(Instr.mapEntry 110 (.map (some r)) (pH p)).run prog w = .ok (.tuple #[.slice none 0 0,.int .i64 (es.size:Int)]) { w with heap:=w.heap.setIfInBounds r (.map (es.push { key:=pH p,val:=.slice none 0 0,born:=es.size }) (es.size+1)) }:=by
   simp[Instr.mapEntry,run_underlying ht,MapKept.run_getObj_map hes,hc,hn,MapKept.run_setObj_map _ hes,Result.andThen,goInt]
  have am:es.size=xs.length:=by
   have:=Qd List.length he
   simpa using this
  have Y9:p∉xs.map (·.1):=by
   have:=ahQ _ _ iI
   rw[List.map_map] at this;exact this
  unfold Oper.wp;simp[execOp,kb,hm,hx,dp,Result.andThen];have lw:Turned r w { w with heap:=w.heap.setIfInBounds r (.map (es.push { key:=pH p,val:=.slice none 0 0,born:=es.size }) (es.size+1)) }:=⟨rfl,rfl,rfl,by simp,λi hi=>by simp[Ne.symm hi]⟩;refine hK' _ _ (hK _ es.size [] (.slice none 0 0) (xs ++ [(p,[],.slice none 0 0)]) (.inr ⟨Y9,rfl,am,rfl,rfl⟩) (by rw[am]; simp) ⟨⟨es.push { key:=pH p,val:=.slice none 0 0,born:=es.size },by simp[hl],by simp[he],λi e hi=>?_⟩,λx hx=>?_,λi j x y b hx hy ek iE=>?_⟩ lw)
  ·rw[Array.getElem?_push] at hi;split at hi
   ·rename_i h1; cases hi; exact h1.symm
   ·exact lp i e hi
  ·rcases List.mem_append.1 hx with hx | hx
   ·exact (hr.row x hx).turned lw B7
   ·rw[List.mem_singleton] at hx; subst hx;exact aK.nil _ _
  ·have get:∀ (k:Nat) (z:fi),(xs ++ [(p,[],Value.slice none 0 0)])[k]?=some z->z.2.2.ownBlock=some b->xs[k]?=some z:=λk z hz kK=>by
    rw[List.getElem?_append] at hz;split at hz
    ·exact hz
    ·have:=gQ hz
     rw[List.mem_singleton] at this; subst this;simp[Value.ownBlock] at kK
   exact hr.apart i j x y b (get i x hx ek) (get j y hy iE) ek iE
end
section
variable {ops:Array Oper} {rest:List Oper} {o:Oper} {a:Act} {Q:Exit->Act->World->Prop}
theorem R1(w:World)(iX:o.guard=none)(s x:Operand)(ho:o.op = .call { callee:=.builtin .append,args:=#[s,x],argTypes:=#[46,46] })
 (base:Nat) (v:Value) (ps:List Np.Span) (hs:a.eval s=v) (hown:aK base w v ps) (blk:Nat) (f u:Int) (hx:a.eval x = .slice (some ⟨blk,0,none⟩) 1 1) (hc:w.cell? ⟨blk,0,none⟩=some (.int .i64 f)) (aV:w.cell? ⟨blk,1,none⟩=some (.int .i64 u)) (hlen:ps.length<=100000) (ej:base<=w.heap.size)
 (h:∀ v' w',aK base w' v' (ps ++ [⟨f,u⟩])->w.grownBy w' v.ownBlock->(v'.ownBlock=v.ownBlock\/v'.ownBlock=some w.heap.size)->wpList prog ops Q rest (a.put o.dst v') w'):wpList prog ops Q (o::rest) a w:=by
 obtain⟨i0,hi,fS,bL,aM⟩:=info_parts Tryz.infoSpan;refine wpList_append_own_at w iX s x 46 ho base 114 i0 (.agg #[.int .i64 0,.int .i64 0]) 2 16 underlying46 hi fS bL aM rfl (by decide) v ps.length (ps.map fM).flatten hs hown ⟨blk,0,none⟩ 1 1 [.int .i64 f,.int .i64 u] hx rfl ?_ (by simp[Value.oneCell']) (by unfold maxLen; omega) (by omega) ej ?_
 ·intro j y hj
  match j,hj with
  | 0,hj=>simp at hj; subst hj; simpa [Addr.add] using hc
  | 1,hj=>simp at hj; subst hj; simpa [Addr.add] using aV
  | j+2,hj=>simp at hj
 ·intro v' w' ho' hg _ hat;refine h v' w' ?_ hg hat;have e:(ps ++ [(⟨f,u⟩:Np.Span)]).length=ps.length+1:=by simp
  unfold aK;rw[e,List.map_append,List.flatten_append];exact ho'
theorem aPX(w w0:World)(iX:o.guard=none)(m s x:Operand)(kb:o.op=Op.entryStore 110 m s x)(base r:Nat)(xs:List fi)(hX:MapX base r xs w0)(B7:r<base)(j:Nat)(p:Int×List UInt8)(g g':List Np.Span)(v v':Value)
 (hj:xs[j]?=some (p,g,v)) (hg:w0.grownBy w v.ownBlock) (ho:aK base w v' g') (hat:v'.ownBlock=v.ownBlock\/v'.ownBlock=some w0.heap.size) (hm:a.eval m = .map (some r)) (hs:a.eval s = .int .i64 (j:Int)) (hx:a.eval x=v')
 (hK:∀ w',MapX base r (xs.set j (p,g',v')) w'->Turned r w w'->wpList prog ops Q rest (a.put o.dst undef) w'):wpList prog ops Q (o::rest) a w:=by
 obtain⟨es,OJ,he,lp⟩:=hX.map;have tO:r<w0.heap.size:=(eQ.1 OJ).1;have hv:=hX.row _ (gQ hj);have hes:w.heap[r]?=some (.map es es.size):=(hg.block r tO (λe2=>by have:=(World.ownsRow.lt hv r e2.symm).1; omega)).trans OJ;have hl:r<w.heap.size:=(eQ.1 hes).1;have am:es.size=xs.length:=by
  have:=Qd List.length he
  simpa using this
 have nE:j<xs.length:=(cQ.1 hj).1;have Yz:es.findIdx? (λe=>(e.born:Int) == (j:Int))=some j:=by
  rw[Array.findIdx?_eq_some_iff_getElem];refine⟨by omega,?_,λi hi=>?_⟩
  ·have:=lp j _ (pQ (by omega))
   simp[this]
  ·have:=lp i _ (pQ (by omega))
   simp[this]; omega
 refine wpList_plain iX λK' hK'=>?_;have dp:(Instr.entryStore 110 (.map (some r)) (.int .i64 (j:Int)) v').run prog w = .ok () { w with heap:=w.heap.setIfInBounds r (.map (es.modify j λe=>{ e with val:=v' }) es.size) }:=by
  simp[Instr.entryStore,MapKept.run_getObj_map hes,Yz,asInt,asIntOf,MapKept.run_setObj_map _ hes,Result.andThen]
 unfold Oper.wp;simp[execOp,kb,hm,hs,hx,dp,Result.andThen];have lw:Turned r w { w with heap:=w.heap.setIfInBounds r (.map (es.modify j λe=>{ e with val:=v' }) es.size) }:=⟨rfl,rfl,rfl,by simp,λi hi=>by simp[Ne.symm hi]⟩;refine hK' _ _ (hK _ ⟨⟨es.modify j λe=>{ e with val:=v' },by simp[hl],?_,λi e hi=>?_⟩,λy hy=>?_,λi i' y y' b hy hy' hb hb'=>?_⟩ lw)
 ·apply List.ext_getElem?;intro i;have hi:=Qd (λl=>l[i]?) he;simp only[List.getElem?_map,Array.getElem?_toList] at hi |-;rw[Array.getElem?_modify,List.getElem?_set];by_cases dU:j=i
  ·subst dU;rw[hj] at hi;rw[Qb rfl,Qb rfl,Qb nE];obtain⟨e,iF⟩:∃ e,es[j]?=some e:=⟨_,pQ (by omega)⟩;rw[iF] at hi |-;simp at hi |-;exact hi.1
  ·rw[Qc dU,Qc dU];simpa using hi
 ·rw[Array.getElem?_modify] at hi;split at hi
  ·rename_i dU; subst dU;obtain⟨e',he',rfl⟩:=Option.map_eq_some_iff.1 hi;exact lp j e' he'
  ·exact lp i e hi
 ·obtain⟨i,hi,rfl⟩:=nQ.1 hy;rw[List.length_set] at hi;rw[List.getElem_set];split
  ·exact ho.turned lw B7
  ·rename_i hne;have h1:=hX.row _ (List.getElem_mem hi);have h2:aK base w xs[i].2.2 xs[i].2.1:=fU h1 λb hb=>hg.block b (World.ownsRow.lt h1 b hb).2 λe2=>hne (hX.apart j i _ _ b hj (aQ hi) e2.symm hb);exact h2.turned lw B7
 ·have get:∀ (k:Nat) (z:fi),(xs.set j (p,g',v'))[k]?=some z->(k=j/\z=(p,g',v'))\/(k≠j/\xs[k]?=some z):=λk z hz=>by
   rw[List.getElem?_set] at hz;split at hz
   ·rename_i e; subst e
    first
     | (rw[Qb nE] at hz; cases hz; exact .inl ⟨rfl,rfl⟩)
     | (cases hz; exact .inl ⟨rfl,rfl⟩)
   ·rename_i e; exact .inr ⟨λe2=>e e2.symm,hz⟩
  have clash:∀ (k:Nat) (z:fi),k≠j->xs[k]?=some z->z.2.2.ownBlock=some b->v'.ownBlock=some b->False:=λk z hk hz kK qN=>by
   rcases hat with h1 | h1
   ·rw[qN] at h1;exact hk (hX.apart k j _ _ b hz hj kK h1.symm)
   ·rw[qN] at h1
    have:=(World.ownsRow.lt (hX.row _ (gQ hz)) b kK).2
    simp at h1; omega
  rcases get i y hy with ⟨e1,rfl⟩ | ⟨e1,h1⟩
  ·rcases get i' y' hy' with ⟨e2,rfl⟩ | ⟨e2,h2⟩
   ·rw[e1,e2]
   ·exact (clash i' y' e2 h2 hb' hb).elim
  ·rcases get i' y' hy' with ⟨e2,rfl⟩ | ⟨e2,h2⟩
   ·exact (clash i y e1 h1 hb hb').elim
   ·exact hX.apart i i' y y' b h1 h2 hb hb'
structure RangeX(base r I:Nat)(xs:List fi)(seen:Array Nat)(w:World):Prop where
 mapX:MapX base r xs w
 iter:w.heap[I]?=some (.mapIter (some r) xs.length seen xs.length)
 row:∀ x∈xs,x.2.2.ownBlock≠some I
theorem RangeX.ne{base r I:Nat}{xs:List fi}{seen:Array Nat}{w:World}(h:RangeX base r I xs seen w):I≠r:=by
 obtain⟨es,h1,_⟩:=h.mapX.map;intro e
 have:=h.iter
 rw[e,h1] at this
 cases this
theorem RangeX.lt{base r I:Nat}{xs:List fi}{seen:Array Nat}{w:World}(h:RangeX base r I xs seen w):I<w.heap.size:=(eQ.1 h.iter).1
theorem RangeX.keep{base r I:Nat}{xs:List fi}{seen:Array Nat}{w w':World}(h:RangeX base r I xs seen w)(hb:Below w.heap.size w w'):RangeX base r I xs seen w':=⟨h.mapX.keep hb,(hb.block I h.lt).trans h.iter,h.row⟩
theorem RangeX.changed{base r I:Nat}{xs:List fi}{seen:Array Nat}{w w':World}(h:RangeX base r I xs seen w)(hr:r<base){j:Nat}{p:Int×List UInt8}{g g':List Np.Span}{v:Value}(hj:xs[j]?=some (p,g,v))(hg:w.grownBy w' v.ownBlock)(ho:aK base w' v g'):RangeX base r I (xs.set j (p,g',v)) seen w':=by
 have hv:=h.row _ (gQ hj);refine⟨h.mapX.changed hr hj hg ho,?_,λx hx=>?_⟩
 ·rw[List.length_set];exact (hg.block I h.lt (λe=>hv e.symm)).trans h.iter
 ·obtain⟨i,hi,rfl⟩:=nQ.1 hx;rw[List.length_set] at hi;rw[List.getElem_set];split
  ·exact hv
  ·exact h.row _ (List.getElem_mem hi)
theorem MapX.size{base r:Nat}{xs:List fi}{w:World}(h:MapX base r xs w):∃ es,w.heap[r]?=some (.map es xs.length)/\es.size=xs.length/\es.toList.map (λe=>(e.key,e.val))=(xs.map λx=>(x.1,x.2.2)).map (λp=>(pH p.1,p.2))/\∀ (i:Nat) (e:MapEntry),es[i]?=some e->e.born=i:=by
 obtain⟨es,h1,h2,h3⟩:=h.map;have am:es.size=xs.length:=by
  have:=Qd List.length h2
  simpa using this
 exact⟨es,by rw[<-am]; exact h1,am,h2,h3⟩
theorem aQZ(w:World)(hg:o.guard=none)(m:Operand)(kb:o.op=Op.range 110 m)(base r:Nat)(xs:List fi)(hm:a.eval m = .map (some r))(hX:MapX base r xs w)
 (hK:∀ w',RangeX base r w.heap.size xs #[] w'->Below w.heap.size w w'->w'.heap.size=w.heap.size+1->wpList prog ops Q rest (a.put o.dst (.pointer (some ⟨w.heap.size,0,none⟩))) w'):wpList prog ops Q (o::rest) a w:=by
 obtain⟨es,hes,am,_⟩:=hX.size;have dp:=run_range_map (P:=prog) w 110 _ _ r es xs.length underlying110 hes;refine wpList_plain hg λK' hK'=>?_;unfold Oper.wp;simp[execOp,kb,hm,dp,Result.andThen];have hb:Below w.heap.size w (w.alloc (.mapIter (some r) xs.length #[] xs.length)):=(vQ _ _).alloc (bQ _) _;refine hK' _ _ (hK _ ⟨hX.keep hb,heap_alloc_new _ _,λx hx e=>?_⟩ hb (by simp))
 have:=(World.ownsRow.lt (hX.row x hx) _ e).2
 omega
theorem QU{w w':World}{r I:Nat}(h1:w'.heap[r]?=w.heap[r]?)(h2:w'.heap[I]?=w.heap[I]?):w'.rangeLeft r I=w.rangeLeft r I:=by
 unfold World.rangeLeft;rw[h1,h2]
theorem aQQ(w:World)(hg:o.guard=none)(it:Operand)(kb:o.op=Op.next it false)(base r I:Nat)(xs:List fi)(seen:Array Nat)(hit:a.eval it = .pointer (some ⟨I,0,none⟩))(h:RangeX base r I xs seen w)
 (Xt:(∀ j,j<xs.length->seen.contains j=true)->wpList prog ops Q rest (a.put o.dst (.tuple #[.bool false])) w)
 (Xy:∀ (j:Nat) (p:Int×List UInt8) (g:List Np.Span) (v:Value) (w':World),xs[j]?=some (p,g,v)->RangeX base r I xs (seen.push j) w'->Turned I w w'->w'.rangeLeft r I<w.rangeLeft r I->(Instr.entry (.pointer (some ⟨I,0,none⟩))).run prog w' = .ok (.tuple #[pH p,v]) w'->wpList prog ops Q rest (a.put o.dst (.tuple #[.bool true,pH p,v])) w') :
 wpList prog ops Q (o::rest) a w:=by
 have hne:=h.ne;obtain⟨es,hes,am,he,lp⟩:=h.mapX.size;have hold:∀ x∈es.toList,x.born<xs.length:=λx hx=>by
  obtain⟨i,hi,rfl⟩:=nQ.1 hx;have hi':i<es.size:=by simpa using hi
  have:=lp i es[i] (pQ hi')
  simp only[Array.getElem_toList];omega
 refine wpList_plain hg λK' hK'=>?_;unfold Oper.wp;rcases run_next_at (P:=prog) w o.type I r xs.length xs.length seen es xs.length h.iter hes hold (bQ _) with ⟨h0,dp⟩ | ⟨e,wK,w1,ia,dp⟩
 ·simp[execOp,kb,hit,dp,Result.andThen];refine hK' _ _ (Xt λj hj=>?_);have h1:=all_seen es seen h0 es[j] (by simp);rwa [lp j es[j] (pQ (by omega))] at h1
 ·obtain⟨hem,aYK⟩:=mem_left wK;obtain⟨j,hj,rV⟩:=nQ.1 hem;have hj':j<es.size:=by simpa using hj
  have OV:es[j]?=some e:=by rw[pQ hj',<-rV]; simp
  have I8:=lp j e OV;obtain⟨⟨p,g,v⟩,hx⟩:∃ x,xs[j]?=some x:=⟨_,aQ (by omega)⟩;have YY:e.key=pH p/\e.val=v:=by
   have hi:=Qd (λl=>l[j]?) he;simp only[List.getElem?_map,Array.getElem?_toList] at hi;rw[OV,hx] at hi;simpa using hi
  obtain⟨bG,kA⟩:=YY;rw[I8] at dp;have fR:w1.heap[I]?=some (.mapIter (some r) xs.length seen xs.length):=by rcases ia with rfl | rfl <;> exact h.iter
  have Ioo:I<w1.heap.size:=(eQ.1 fR).1;have ap:w1.heap[r]?=some (.map es xs.length):=by rcases ia with rfl | rfl <;> exact hes
  have aG:Below w.heap.size w w1:=by rcases ia with rfl | rfl; exact vQ _ _; exact (vQ _ _).drew
  have so:w1.heap.size=w.heap.size:=by rcases ia with rfl | rfl <;> rfl
  obtain⟨w2,aj⟩:∃ w2,Go.ChangeMaps.setBlock w1 I (.mapIter (some r) xs.length (seen.push j) xs.length)=w2:=⟨_,rfl⟩;have ww:w2.heap[I]?=some (.mapIter (some r) xs.length (seen.push j) xs.length):=by rw[<-aj]; simp[Go.ChangeMaps.setBlock,Ioo]
  have Pg:∀ i,i≠I->w2.heap[i]?=w1.heap[i]?:=λi hi=>by rw[<-aj]; simp[Go.ChangeMaps.setBlock,Ne.symm hi]
  have az:w1.heap=w.heap:=by rcases ia with rfl | rfl <;> rfl
  have lw:Turned I w w2:=⟨by rw[<-aj]; exact aG.os,by rw[<-aj]; exact aG.tape,by rw[<-aj]; exact aG.output,by rw[<-aj]; simp[Go.ChangeMaps.setBlock,so],λi hi=>by rw[Pg i hi,az]⟩;have ab:w2.heap[r]?=some (.map es xs.length):=(Pg r (Ne.symm hne)).trans ap;rw[aj] at dp;simp[execOp,kb,hit,dp,Result.andThen];rw[bG,kA];refine hK' _ _ (Xy j p g v w2 hx ⟨h.mapX.turned lw hne h.row,ww,h.row⟩ lw ?_ ?_)
  ·have:=left_shrinks es seen e wK
   rw[I8] at this;unfold World.rangeLeft;rw[ab,ww,hes,h.iter];exact this
  ·have pJ:(es.toList.map (·.born)).Nodup:=by
    rw[List.nodup_iff_pairwise_ne,List.pairwise_iff_getElem];intro i k hi hk JA;have hi':i<es.size:=by simpa using hi
    have hk':k<es.size:=by simpa using hk
    have h1:=lp i es[i] (pQ hi');have h2:=lp k es[k] (pQ hk');simp only[List.getElem_map,Array.getElem_toList];omega
   have:=run_entry_at (P:=prog) w2 I r xs.length seen es xs.length e (by rw[I8]; exact ww) ab hem pJ
   rw[bG,kA] at this;exact this
end
end
section
open Go.RowKit
theorem akQ(a b:ByteArray)(n1 n2 n3 n4 m1 m2 m3 m4:Int)(s1 s2:Int)(w:World):(binOp .neq 133 (.agg #[.string a,.int .i64 n1,.int .i64 n2,.int .i64 n3,.int .i64 n4,.int .u64 s1]) (.agg #[.string b,.int .i64 m1,.int .i64 m2,.int .i64 m3,.int .i64 m4,.int .u64 s2])).run prog w = .ok (.bool (!(a.toList == b.toList&&(n1 == m1&&(n2 == m2&&(n3 == m3&&(n4 == m4&&s1 == s2))))))) w:=by
 have u3:=underlying3;have a3:=isAgg3;have z3:=sizeOf3;have u9:=underlying9;have a9:=isAgg9;have z9:=sizeOf9;have u8:=underlying131;have a8:=isAgg131;have z8:=sizeOf131;have hS:prog.underlying 133=some (.struct (prog.fieldsOf 133)):=by kernel_rfl
 have hp:prog.stoodInHeld 133=false:=by kernel_rfl
 rw[run_neq_struct,show (10000:Nat)=9999+1 from rfl,run_equalIn_agg w 9999 133 _ _ hS hp];simp only[Program.fieldsOf,underlying133];go_simp;by_cases h0:a.toList=b.toList <;> by_cases h1:n1=m1 <;> by_cases h2:n2=m2 <;> by_cases h3:n3=m3 <;> by_cases h4:n4=m4 <;> by_cases h5:s1=s2 <;> simp[h0,h1,h2,h3,h4,h5]
theorem aFZ{x y:Np.Sig}{a b:ByteArray}(ha:a.data.toList=x.zone)(hb:b.data.toList=y.zone):(!(a.toList == b.toList&&(x.key == y.key&&(x.alg == y.alg&&(x.frm == y.frm&&(x.til == y.til&&x.sum == y.sum))))))=decide (x≠y):=by
 rw[dQ,dQ,ha,hb];obtain⟨z,k,g,f,t,m⟩:=x;obtain⟨z',k',g',f',t',m'⟩:=y;simp only[ne_eq,Np.Sig.mk.injEq];by_cases h0:z=z' <;> by_cases h1:k=k' <;> by_cases h2:g=g' <;> by_cases h3:f=f' <;> by_cases h4:t=t' <;> by_cases h5:m=m' <;> simp[h0,h1,h2,h3,h4,h5]
theorem KH(s1 s2:ByteArray)(t1 l1 t2 l2:Int)(v1 v2 u1 u2:Value)(d1 d2:List Np.Datum)(g1 g2:List Np.Sig)(w:World)(eU:SlR cr 3 w w.heap.size v1 d1)(ls:SlR cr 3 w w.heap.size v2 d2)(tK:SlR fj 6 w w.heap.size u1 g1)(BH:SlR fj 6 w w.heap.size u2 g2) :
 Calls prog 30 #[.agg #[.string s1,.int .i64 t1,.int .i64 l1,v1,u1],.agg #[.string s2,.int .i64 t2,.int .i64 l2,v2,u2]] w
  λe w'=>e = .returned (.bool (decide ((s1=s2/\t1=t2/\l1=l2/\d1=d2)/\g1=g2)))/\Below w.heap.size w w':=by
 obtain⟨r,hr⟩:∃ r,decide ((s1=s2/\t1=t2/\l1=l2/\d1=d2)/\g1=g2)=r:=⟨_,rfl⟩;rw[hr];have HR:=jq hr;have uI:=jq eU;have jI:=jq ls;have xG:=jq tK;have xH:=jq BH;obtain⟨A1,c1,rfl,_,_⟩:=ah eU;obtain⟨A2,c2,rfl,_,_⟩:=ah ls;obtain⟨A3,c3,rfl,_,_⟩:=ah tK;obtain⟨A4,c4,rfl,_,_⟩:=ah BH;clear eU ls tK BH hr;obtain⟨d1n,h1⟩:∃ n,d1.length=n:=⟨_,rfl⟩;obtain⟨d2n,h2⟩:∃ n,d2.length=n:=⟨_,rfl⟩;obtain⟨n,h3⟩:∃ n,g1.length=n:=⟨_,rfl⟩;obtain⟨m,h4⟩:∃ n,g2.length=n:=⟨_,rfl⟩;rw[h1,h2,h3,h4];rw[h1] at uI;rw[h2] at jI;rw[h3] at xG;rw[h4] at xH;have H3:=jq h3;have H4:=jq h4;clear h1 h2 h3 h4;obtain⟨X,hX⟩:∃ X,w.heap.size=X:=⟨_,rfl⟩;obtain⟨Y,hY⟩:∃ Y,X+1=Y:=⟨_,rfl⟩;obtain⟨W1,ai⟩:∃ W1,(w.alloc (.cells #[.string s1,.int .i64 t1,.int .i64 l1,.slice A1 d1n c1,.slice A3 n c3] 68)).alloc (.cells #[.string s2,.int .i64 t2,.int .i64 l2,.slice A2 d2n c2,.slice A4 m c4] 68)=W1:=⟨_,rfl⟩;have aG:Below w.heap.size w W1:=by rw[<-ai]; exact ((vQ _ _).alloc (bQ _) _).alloc (by simp) _
 have jA:W1.heap.size=w.heap.size+2:=by rw[<-ai]; simp
 have k0:W1.cell? ⟨X,0,none⟩=some (.string s1):=by rw[<-ai,<-hX]; simp[go_sem]
 have k1:W1.cell? ⟨X,1,none⟩=some (.int .i64 t1):=by rw[<-ai,<-hX]; simp[go_sem]
 have k2:W1.cell? ⟨X,2,none⟩=some (.int .i64 l1):=by rw[<-ai,<-hX]; simp[go_sem]
 have k3:W1.cell? ⟨X,3,none⟩=some (.slice A1 d1n c1):=by rw[<-ai,<-hX]; simp[go_sem]
 have k4:W1.cell? ⟨X,4,none⟩=some (.slice A3 n c3):=by rw[<-ai,<-hX]; simp[go_sem]
 have j0:W1.cell? ⟨Y,0,none⟩=some (.string s2):=by rw[<-ai,<-hY,<-hX]; simp[go_sem]
 have j1:W1.cell? ⟨Y,1,none⟩=some (.int .i64 t2):=by rw[<-ai,<-hY,<-hX]; simp[go_sem]
 have j2:W1.cell? ⟨Y,2,none⟩=some (.int .i64 l2):=by rw[<-ai,<-hY,<-hX]; simp[go_sem]
 have j3:W1.cell? ⟨Y,3,none⟩=some (.slice A2 d2n c2):=by rw[<-ai,<-hY,<-hX]; simp[go_sem]
 have j4:W1.cell? ⟨Y,4,none⟩=some (.slice A4 m c4):=by rw[<-ai,<-hY,<-hX]; simp[go_sem]
 rw[hX] at aG jA uI jI xG xH |-;have aB:=jq aG;clear aG;go_enter func30,ntmps30;go_wp2_with fail;refine (Rl s1 s2 t1 l1 t2 l2 _ _ d1 d2 _ ((uI.out.keep cB aB.out).more cZ (by omega)) ((jI.out.keep cB aB.out).more cZ (by omega))).mono ?_;rintro e w2 ⟨rfl,ab⟩;have aM:=ab.size;replace k0:=(cl ab (by omega)).trans k0;replace k1:=(cl ab (by omega)).trans k1;replace k2:=(cl ab (by omega)).trans k2;replace k3:=(cl ab (by omega)).trans k3;replace k4:=(cl ab (by omega)).trans k4;replace j0:=(cl ab (by omega)).trans j0;replace j1:=(cl ab (by omega)).trans j1;replace j2:=(cl ab (by omega)).trans j2;replace j3:=(cl ab (by omega)).trans j3;replace j4:=(cl ab (by omega)).trans j4;have al:=jq (aB.out.trans (ab.mono (by omega)));clear ab ai hX;obtain⟨q,hq⟩:∃ q,decide (s1=s2/\t1=t2/\l1=l2/\d1=d2)=q:=⟨_,rfl⟩;rw[hq];have ob:=jq hq;clear hq
 cases q with
 | false=>
  have HX:Hid (r=false):=jq (by rw[<-HR.out]; exact tQ λh=>(of_decide_eq_false ob.out) h.1);go_wp2_with fail;go_ret;exact⟨ae HX.out.symm,al.out⟩
 | true=>
  by_cases BZ:n=m
  ·subst BZ;go_wp2_with fail;go_loopw [5] (λi wr=>∃ (k:Nat),k<=n/\i = .int .i64 k/\Hid (Below w2.heap.size w2 wr)/\Hid (g1.take k=g2.take k)) (λi _=>n - (intOf i).toNat)
   case atStart=>exact⟨0,jQ _,rfl,jq (vQ _ _),jq rfl⟩
   case round=>
    obtain⟨k,hk,rfl,bO,HT⟩:=hrel;have am:=bO.out.size;have HB:=jq (al.out.trans (bO.out.mono (by omega)));have a4:=(cl bO.out (by omega)).trans k4;have b4:=(cl bO.out (by omega)).trans j4;by_cases aa:k<n
    ·obtain⟨x,hx⟩:∃ x,g1[k]?=some x:=⟨_,aQ (by rw[H3.out]; exact aa)⟩;obtain⟨y,hy⟩:∃ y,g2[k]?=some y:=⟨_,aQ (by rw[H4.out]; exact aa)⟩;obtain⟨b,o,c,sx,hv,bS,qL,_,f0,f1,f2,f3,f4,f5⟩:=sK (xG.out.keep el HB.out) hx;obtain⟨b',o',c',sy,hv',vR,iZ,_,e0,e1,e2,e3,e4,e5⟩:=sK (xH.out.keep el HB.out) hy;simp only[Value.slice.injEq] at hv hv';obtain⟨rfl,_,_⟩:=hv;obtain⟨rfl,_,_⟩:=hv';have mZ:Hid (x=y->g1.take (k+1)=g2.take (k+1)):=jq (λe=>by
      obtain⟨q1,q2⟩:=cQ.1 hx;obtain⟨q3,q4⟩:=cQ.1 hy;rw[fQ q1,fQ q3,q2,q4,HT.out,e])
     have jK:Hid (x≠y->r=false):=jq (λe=>by
      rw[<-HR.out];refine tQ λh=>e ?_;have h2:=h.2;subst h2;rw[hx] at hy; simpa using hy)
     have bH:(0:Int)<=(k:Int):=by omega
     have bG:(k:Int)<(n:Int):=by omega
     have heq:=akQ sx sy x.key x.alg x.frm x.til y.key y.alg y.frm y.til x.sum y.sum;rw[aFZ qL iZ] at heq;clear hx hy qL iZ;by_cases bB:x=y
     ·have HX:=jq (mZ.out bB);have kJ:decide (x≠y)=false:=by simpa using bB
      rw[kJ] at heq;clear kJ bB;go_wp2_with fail;go_quiet (fail);go_wp2_with fail;go_roundw
      case rel=>exact⟨k+1,by omega,by go_num,jq (below_drewN bO.out _),HX⟩
      case measure=>simp[intOf] <;> omega
     ·have HX:=jq (jK.out bB);have kJ:decide (x≠y)=true:=uQ bB;rw[kJ] at heq;clear kJ bB;go_wp2_with fail;go_quiet (fail);go_wp2_with fail;go_ret;exact⟨ae HX.out.symm,below_drewN HB.out _⟩
    ·have HX:Hid (r=true):=jq (by
      rw[<-HR.out];refine uQ ⟨of_decide_eq_true ob.out,?_⟩
      have:=HT.out
      rwa [kQ (by rw[H3.out]; omega),kQ (by rw[H4.out]; omega)] at this)
     go_wp2_with fail;go_ret;exact⟨ae HX.out.symm,HB.out⟩
  ·have hne:(n:Int)≠(m:Int):=by omega
   have hd:decide ((n:Int)=(m:Int))=false:=tQ hne;have hb:((n:Int) == (m:Int))=false:=by simpa using hne
   have HX:Hid (r=false):=jq (by rw[<-HR.out]; exact tQ λh=>BZ (by rw[<-H3.out,<-H4.out,h.2]));go_wp2_with fail;go_ret;exact⟨ae HX.out.symm,al.out⟩
end
section
open Go.RowKit Go.Sort Go.Shelf
def Np.Sh(l:List Np.Span):Prop:=∀ s∈l,s.frm<s.til
theorem akZ(f u f' u':Int)(w:World):(binOp .neq 114 (.agg #[.int .i64 f,.int .i64 u]) (.agg #[.int .i64 f',.int .i64 u'])).run prog w = .ok (.bool (decide ((⟨f,u⟩:Np.Span)≠⟨f',u'⟩))) w:=by
 have u3:=underlying3;have a3:=isAgg3;have z3:=sizeOf3;have hS:prog.underlying 114=some (.struct (prog.fieldsOf 114)):=by kernel_rfl
 have hp:prog.stoodInHeld 114=false:=by kernel_rfl
 rw[run_neq_struct,show (10000:Nat)=9999+1 from rfl,run_equalIn_agg w 9999 114 _ _ hS hp];simp only[Program.fieldsOf,underlying114];go_simp;by_cases h1:f=f' <;> by_cases h2:u=u' <;> simp[h1,h2]
theorem zi(v v':Value)(l m:List Np.Span)(w:World)(h:SlR fk 2 w w.heap.size v l)(h':SlR fk 2 w w.heap.size v' m) :
 Calls prog 25 #[v,v'] w (λe w'=>e = .returned (.bool (decide (l=m)))/\Below w.heap.size w w'):=by
 have HL:=jq h;have HM:=jq h';obtain⟨A,c,rfl,aV,bi⟩:=ah h;obtain⟨A',c',rfl,Ye,Ev⟩:=ah h';clear h h';by_cases hlen:l.length=m.length
 ·have xN:=jq hlen;obtain⟨n,hn⟩:∃ n,m.length=n:=⟨_,rfl⟩;rw[hn] at Ye Ev hlen;have HN:=jq hn;rw[hlen] at aV bi;rw[hn,hlen];have Da:=jq hlen;clear hlen hn;go_enter func25,ntmps25;go_wp2_with fail;go_loopw [5] (λi wr=>∃ (k:Nat),k<=n/\i = .int .i64 k/\Hid (Below w.heap.size w wr)/\Hid (l.take k=m.take k)) (λi _=>n - (intOf i).toNat)
  case atStart=>exact⟨0,jQ _,rfl,jq (vQ _ _),jq rfl⟩
  case round=>
   obtain⟨k,hk,rfl,HB,HT⟩:=hrel;have am:=HB.out.size;by_cases aa:k<n
   ·have O0:=Da.out;have O7:=HN.out;obtain⟨x,hx⟩:∃ x,l[k]?=some x:=⟨_,aQ (by omega)⟩;obtain⟨y,hy⟩:∃ y,m[k]?=some y:=⟨_,aQ (by omega)⟩;have jI:=HL.out.keep eZ HB.out;have CY:=HM.out.keep eZ HB.out;rw[O0] at jI;rw[O7] at CY;obtain⟨b,o,rfl⟩:=KK (k:=k) jI (by omega);obtain⟨b',o',rfl⟩:=KK (k:=k) CY (by omega);obtain⟨bZ,hat⟩:=FD jI hx;obtain⟨vS,yn⟩:=FD CY hy;have h0:=hat.c0;have h1:=hat.c1;have h0':=yn.c0;have h1':=yn.c1;have mZ:Hid (x=y->l.take (k+1)=m.take (k+1)):=jq (λe=>by
     obtain⟨q1,q2⟩:=cQ.1 hx;obtain⟨q3,q4⟩:=cQ.1 hy;rw[fQ q1,fQ q3,q2,q4,HT.out,e])
    have jK:Hid (x≠y->decide (l=m)=false):=jq (λe=>tQ (by rintro rfl; rw[hx] at hy; exact e (by simpa using hy)));have bH:(0:Int)<=(k:Int):=by omega
    have bG:(k:Int)<(n:Int):=by omega
    have heq:=akZ x.frm x.til y.frm y.til;clear jI CY hat yn hx hy O0 O7;by_cases bB:x=y
    ·have HX:=jq (mZ.out bB);have kJ:decide ((⟨x.frm,x.til⟩:Np.Span)≠⟨y.frm,y.til⟩)=false:=by rw[bB]; simp
     rw[kJ] at heq;clear kJ bB;go_wp2_with fail;go_quiet (fail);go_wp2_with fail;go_roundw
     case rel=>exact⟨k+1,by omega,by go_num,jq (below_drewN HB.out _),HX⟩
     case measure=>simp[intOf] <;> omega
    ·have HX:=jq (jK.out bB);have kJ:decide ((⟨x.frm,x.til⟩:Np.Span)≠⟨y.frm,y.til⟩)=true:=uQ bB;rw[kJ] at heq;clear kJ bB;go_wp2_with fail;go_quiet (fail);go_wp2_with fail;go_ret;exact⟨ae HX.out.symm,below_drewN HB.out _⟩
   ·have HE:Hid (decide (l=m)=true):=jq (uQ (by
     have:=HT.out
     rwa [kQ (by have:=Da.out; omega),kQ (by have:=HN.out; omega)] at this))
    go_wp2_with fail;go_ret;exact⟨ae HE.out.symm,HB.out⟩
 ·have hne:(l.length:Int)≠(m.length:Int):=by omega
  have hd:decide ((l.length:Int)=(m.length:Int))=false:=tQ hne;have HE:Hid (decide (l=m)=false):=jq (tQ (by rintro rfl; exact hlen rfl));have hb:((l.length:Int) == (m.length:Int))=false:=by simpa using hne
  go_enter func25,ntmps25;go_wp2_with fail;go_ret;exact⟨ae HE.out.symm,vQ _ _⟩
end
section
open Go.RowKit
def iC(w:World):Prop:=Lib.TabIs prog w "internal/strconv.uint64pow10" .u64 Lib.pow10Tab
theorem IG:prog.globalNamed "internal/strconv.uint64pow10" = some 2:=by kernel_rfl
theorem iC.lt{w:World}(h:iC w):2<w.heap.size:=by
 unfold iC Lib.TabIs World.var? at h;rw[IG] at h;simp only[Option.bind_some] at h
 cases hh:w.heap[2]? with
 | none=>rw[hh] at h; cases h
 | some o=>exact (eQ.1 hh).1
theorem iC.keepAt{w w':World}{n:Nat}(h:iC w)(hb:Below n w w')(hn:2<n):iC w':=by
 unfold iC Lib.TabIs World.var? at h |-;rw[IG] at h |-;simp only[Option.bind_some] at h |-;rw[hb.block _ hn]; exact h
theorem iC.keep{w w':World}(h:iC w)(hb:Below w.heap.size w w'):iC w':=h.keepAt hb h.lt
theorem Nz:∀ n:Nat,Lib.decDigits n=Np.nk n:=by
 intro n
 induction n using Nat.strongRecOn with
 | ind n ih=>
  rw[Lib.decDigits,Np.nk];split
  ·rfl
  ·rw[ih (n / 10) (by omega)]
theorem acX(n:Int)(h0:0<=n)(h1:n<=9223372036854775807)(w:World)(hP:iC w) :
 Calls prog 120 #[.int .i64 n] w λe w'=>e = .returned (aA (Np.cM n))/\Below w.heap.size w w':=
 (Tryz.strconv_Itoa n (by omega) (by omega) w hP).mono λe w' ⟨he,k,os,hw⟩=>by
   refine⟨?_,?_⟩
   ·rw[he,Lib.itoa,Qc (by omega),Nz]; rfl
   ·rw[hw]; exact Lib.below_grow _ w (bQ _) k os
theorem W6(n:Int)(h0:0<=n)(h1:n<18446744073709551616)(w:World)(hP:iC w) :
 Calls prog 121 #[.int .u64 n,.int .i64 10] w λe w'=>e = .returned (aA (Np.cM n))/\Below w.heap.size w w':=by
 obtain⟨u,rfl⟩:∃ u:Nat,n=u:=⟨n.toNat,by omega⟩;refine (W8 u (by omega) w hP).mono λe w' ⟨he,k,os,hw⟩=>⟨?_,?_⟩
 ·rw[he,Nz]; rfl
 ·rw[hw]; exact Lib.below_grow _ w (bQ _) k os
theorem AX{n:Int}(h1:n<18446744073709551616):(Np.cM n).length<=20:=Np.Wk 19 n.toNat (by omega)
theorem Wn(a b:List (List UInt8)):Np.gt (a++b)=Np.gt a++Np.gt b:=by simp[Np.gt]
theorem KB:∀ (ns:List Int) (s:List UInt8),s++(ns.flatMap λn=>47::Np.cM n) ++ [47]=Np.gt (s::ns.map Np.cM)
 | [],s=>by simp[Np.gt]
 | n::ns,s=>by
   rw[Np.AY,List.map_cons,<-KB ns (Np.cM n)];simp
theorem QT:∀ (ns:List Int) (s:List UInt8),(∀ n∈ns,n<18446744073709551616)->(s++(ns.flatMap λn=>47::Np.cM n) ++ [47]).length<=s.length+1+21 * ns.length
 | [],s,_=>by simp
 | n::ns,s,h=>by
   have:=QT ns s (λm hm=>h m (mQ _ hm))
   have h2:=AX (h n (by simp));simp at this |-;omega
theorem DD:BldT 171:=⟨by kernel_rfl,by decide⟩
def li(b:Nat)(r:Option Nat)(w:World)(v:Value)(ns:List Int):Prop:=
 ∃ A c,v = .slice A ns.length c/\ns.length<=c/\∀ i x,ns[i]?=some x->∃ g o,A=some ⟨g,o,none⟩/\g<w.heap.size/\g≠b/\r≠some g/\w.cell? ⟨g,o+i,none⟩=some (.int .i64 x)
theorem li.step{b:Nat}{r r':Option Nat}{w w':World}{v:Value}{ns:List Int}(h:li b r w v ns)(hs:BS b r w r' w'):li b r' w' v ns:=by
 obtain⟨A,c,h1,h2,h4⟩:=h;refine⟨A,c,h1,h2,λi x hx=>?_⟩;obtain⟨g,o,h5,h6,h7,h8,h9⟩:=h4 i x hx;exact⟨g,o,h5,lQ h6 hs.size,h7,hs.free h6 h8,(hs.cell h6 h7 h8 _).trans h9⟩
theorem li.nil(b:Nat)(r:Option Nat)(w:World):li b r w (.slice none 0 0) []:=⟨none,0,rfl,bQ _,λi x h=>by simp at h⟩
def qU(ns:List Int):List UInt8:=ns.flatMap λn=>47::Np.cM n
theorem alY{ns:List Int}{k:Nat}{x:Int}(hx:ns[k]?=some x):qU (ns.take (k+1))=qU (ns.take k) ++ [47]++Np.cM x:=by
 obtain⟨hl,he⟩:=cQ.1 hx;rw[fQ hl,he];simp[qU]
theorem QD:∀ (ns:List Int),(∀ n∈ns,n<18446744073709551616)->(qU ns).length<=21 * ns.length
 | [],_=>by simp[qU]
 | n::ns,h=>by
   have:=QD ns (λm hm=>h m (mQ _ hm))
   have h2:=AX (h n (by simp));simp[qU] at this |-;omega
theorem Fj(B b:Nat)(r:Option Nat)(l:List UInt8)(s:ByteArray)(v:Value)(ns:List Int)(w:World)(h:Bld 171 B b r l w)(hv:li b r w v ns)(hn:∀ n∈ns,0<=n/\n<=9223372036854775807)(hl:l.length<=10000000)(hs:s.size<=100000)(wN:ns.length<=100)(iV:B<=w.heap.size)(hP:iC w)(XE:2<B) :
 Calls prog 117 #[.string s,v,.pointer (some ⟨b,0,none⟩)] w (CP 171 B b r (l++Np.gt (s.data.toList::ns.map Np.cM)) (.tuple #[]) w):=by
 have H:=jq h;have HV:=jq hv;have HP:=jq hP;have HN:=jq hn;have jJ:=jq h.row.1;have mY:=jq h.row.2.2;obtain⟨A,c,rfl,hc,-⟩:=hv;obtain⟨m,hm⟩:∃ m,ns.length=m:=⟨_,rfl⟩;rw[hm] at wN;have HM:=jq hm;have G6:Hid (∀ k,(qU (ns.take k)).length<=2100):=jq (λk=>by
  have h1:=QD (ns.take k) (λn hn'=>by have:=HN.out n (List.mem_of_mem_take hn'); omega);rw[List.length_take] at h1;have h2:=HM.out;omega)
 have eX:s.data.toList.length=s.size:=aT s;have vj:=jq eX;clear h hn hP eX;rw[hm] at HV |-;clear hm hc;go_enter func117,ntmps117;go_wp2_with fail;refine (R8 DD B b r _ s _ H.out (by omega) (by omega) iV).mono ?_;rintro e w1 ⟨rfl,r1,ap,aX⟩;have ay:=jq ap;have gp:=jq aX;have so:=aX.size;clear ap aX;go_wp2_with fail;go_loopw [11] (λi wr=>∃ (k:Nat) (r':Option Nat),k<=m/\i = .int .i64 k/\Hid (Bld 171 B b r' (l++s.data.toList++qU (ns.take k)) wr)/\Hid (BS b r w r' wr)/\Hid (li b r' wr (.slice A m c) ns)) (λi _=>m - (intOf i).toNat)
 case atStart=>exact⟨0,r1,jQ _,rfl,jq (by simpa [qU] using ay.out),gp,jq (HV.out.step gp.out)⟩
 case round=>
  obtain⟨k,r',hk,rfl,HB,HS,HX⟩:=hrel;have am:=HS.out.size;have ed:Hid (Below B w wr):=jq (HS.out.below jJ.out (λk hk=>(mY.out k hk).1) iV);by_cases aa:k<m
  ·obtain⟨x,ac⟩:∃ x,ns[k]?=some x:=⟨_,aQ (by rw[HM.out]; exact aa)⟩;obtain⟨A',c',hA,_,br⟩:=HX.out;simp only[Value.slice.injEq] at hA;obtain⟨rfl,-,rfl⟩:=hA;obtain⟨g,o,rfl,hg,eI,Eo,hcell⟩:=br k _ ac;have HJ:=jq (alY ac);have PL:=HN.out x (gQ ac);have Hz:=jq PL;have Zb:=G6.out k;have a4Q:=G6.out (k+1);clear br ac PL;go_wp2_with fail;refine (R7 DD B b r' _ 47 47 rfl _ HB.out (by simp; omega) (by omega)).mono ?_;rintro e w2 ⟨rfl,r2,ab,eW⟩;have al:=jq ab;have ld:=jq eW;have kH:=eW.size;clear ab eW;go_wp2_with fail;refine (acX x Hz.out.1 Hz.out.2 w2 (HP.out.keepAt (ed.out.trans (ld.out.below jJ.out (λk hk=>(HB.out.row.2.2 k hk).1) (by omega))) XE)).mono ?_;rintro e w3 ⟨rfl,ag⟩;have ar:=jq (al.out.keep ag);have Aw:=jq (ld.out.after ag);have lv:=ag.size;clear ag;go_wp2_with fail;refine (R8 DD B b r2 _ ⟨(Np.cM x).toArray⟩ _ ar.out (by simp; omega) (by rw[<-aT]; have:=AX (n:=x) (by have:=Hz.out; omega); simp; omega) (by omega)).mono ?_;rintro e w4 ⟨rfl,r4,an,Pq⟩;have bq:=jq an;have Mt:=jq (Aw.out.trans Pq);clear an Pq;go_wp2_with fail;go_roundw
   case rel=>exact⟨k+1,r4,by omega,by go_num,jq (by have:=bq.out; rw[HJ.out]; simpa using this),jq (HS.out.trans Mt.out),jq (HX.out.step Mt.out)⟩
   case measure=>simp[intOf] <;> omega
  ·have Zb:=G6.out k;have gY:Hid (ns.take k=ns):=jq (kQ (by rw[HM.out]; omega));go_wp2_with fail;refine (R7 DD B b r' _ 47 47 rfl _ HB.out (by simp; omega) (by omega)).mono ?_;rintro e w2 ⟨rfl,r2,ab,eW⟩;have al:=jq ab;have ld:=jq (HS.out.trans eW);clear ab eW;go_wp2_with fail;go_end0;refine⟨rfl,r2,?_,ld.out⟩
   have:=al.out
   rw[gY.out] at this;rw[<-KB];simpa [qU] using this
end
end Go.Proofs.YtbfbobfbgabjiaaGreatDoor
