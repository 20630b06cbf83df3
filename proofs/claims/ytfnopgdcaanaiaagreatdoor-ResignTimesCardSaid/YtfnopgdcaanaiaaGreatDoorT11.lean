/- Parts of the proof. No condition. -/
import Derived.Test.YtfnopgdcaanaiaaGreatDoorT07
import Derived.Test.YtfnopgdcaanaiaaGreatDoorT08
set_option linter.all false
set_option maxRecDepth 100000
set_option maxHeartbeats 8000000
namespace Go.Proofs.YtfnopgdcaanaiaaGreatDoor
open Go.Proofs.Tryz
section
open Go.RowKit Go.MapKept Go.Shelf
theorem U3{α β:Type}[BEq α][LawfulBEq α](l:List (α×β))(p:α)(h:l.lookup p=none):p∉l.map (·.1):=by
 induction l with
 | nil=>simp
 | cons z zs ih=>
  rw[List.lookup_cons] at h
  cases hb:(p == z.1) with
  | true=>rw[hb] at h;simp at h
  | false=>
   rw[hb] at h;have hne:p≠z.1:=by simpa using hb
   simp only[List.map_cons,List.mem_cons,not_or];exact⟨hne,ih h⟩
abbrev dD:=(Int×List UInt8)×List Np.Span×Value
structure MapX(base r:Nat)(xs:List dD)(w:World):Prop where
 map:kA r (xs.map λx=>(x.1,x.2.2)) w
 row:∀ x∈xs,av base w x.2.2 x.2.1
 apart:∀ (i j:Nat) (x y:dD) (g:Nat),xs[i]?=some x->xs[j]?=some y->x.2.2.ownBlock=some g->y.2.2.ownBlock=some g->i=j
theorem MapX.keep{base r:Nat}{xs:List dD}{w w':World}(h:MapX base r xs w)(hb:Below w.heap.size w w'):MapX base r xs w':=⟨h.map.keep hb h.map.lt,λx hx=>(h.row x hx).keep hb,h.apart⟩
theorem MapX.made(base:Nat)(w:World):MapX base w.heap.size [] (w.alloc (.map #[] 0)):=⟨kA.made w,λx hx=>(by cases hx),λi j x y g h=>by simp at h⟩
theorem av.turned{base r:Nat}{w w':World}{v:Value}{ps:List Np.Span}(h:av base w v ps)(ht:Turned r w w')(hr:r<base):av base w' v ps:=bY h (λg hg=>ht.block g (by have:=(h.lt g hg).1;omega))
theorem MapX.turned{base r I:Nat}{xs:List dD}{w w':World}(h:MapX base r xs w)(ht:Turned I w w')(hI:I≠r)(hrow:∀ x∈xs,x.2.2.ownBlock≠some I):MapX base r xs w':=
 ⟨h.map.keep' (ht.block r (Ne.symm hI)),λx hx=>bY (h.row x hx) (λg hg=>ht.block g (λe=>hrow x hx (by rw[hg,e]))),h.apart⟩
theorem MapX.changed{base r:Nat}{xs:List dD}{w w':World}(h:MapX base r xs w)(hr:r<base){j:Nat}{p:Int×List UInt8}{g g':List Np.Span}{v:Value}(hj:xs[j]?=some (p,g,v))(hg:w.grownBy w' v.ownBlock)(ho:av base w' v g'):MapX base r (xs.set j (p,g',v)) w':=by
 have hv:=h.row _ (gQ hj);refine⟨?_,λx hx=>?_,λi i' x y b hx hy=>?_⟩
 ·have e:(xs.set j (p,g',v)).map (λx:dD=>(x.1,x.2.2))=xs.map λx=>(x.1,x.2.2):=by
   rw[List.map_set];apply List.ext_getElem?;intro i;rw[List.getElem?_set];split
   ·rename_i e;subst e;rw[List.length_map,Qb (cQ.1 hj).1,List.getElem?_map,hj];rfl
   ·rfl
  rw[e];refine h.map.keep' (hg.block r h.map.lt λe2=>?_)
  have:=(World.ownsRow.lt hv r e2.symm).1
  omega
 ·obtain⟨i,hi,rfl⟩:=nQ.1 hx;rw[List.length_set] at hi;rw[List.getElem_set];split
  ·exact ho
  ·rename_i hne;refine bY (h.row _ (List.getElem_mem hi)) λb hb=>hg.block b (World.ownsRow.lt (h.row _ (List.getElem_mem hi)) b hb).2 λe2=>hne ?_;exact h.apart j i _ _ b hj (aQ hi) e2.symm hb
 ·intro hb hb';have get:∀ (k:Nat) (z:dD),(xs.set j (p,g',v))[k]?=some z->∃ z',xs[k]?=some z'/\z'.2.2=z.2.2:=λk z hz=>by
   rw[List.getElem?_set] at hz;split at hz
   ·rename_i e;subst e;rw[Qb (cQ.1 hj).1] at hz
    cases hz
    exact⟨_,hj,rfl⟩
   ·exact⟨z,hz,rfl⟩
  obtain⟨x',hx',ex⟩:=get i x hx;obtain⟨y',hy',ey⟩:=get i' y hy;exact h.apart i i' x' y' b hx' hy' (by rw[ex];exact hb) (by rw[ey];exact hb')
theorem UE(p:Int×List UInt8)(P:Program)(w:World):(Instr.keyThatStays (pH p) (pH p)).run P w = .ok (pH p) w:=by
 have h1:∀ a:ByteArray,(a == a)=true:=λa=>by
  show (a.data == a.data)=true;simp
 have:Instr.sameBits 10000 (pH p) (pH p)=true:=by
  rw[show (10000:Nat)=9998+1+1 from rfl];simp[Instr.sameBits,pH,aM,h1]
 simp[Instr.keyThatStays,this]
section
variable {ops:Array Oper} {rest:List Oper} {o:Oper} {a:Act} {Q:Exit->Act->World->Prop}
theorem YF(w:World)(hg:o.guard=none)(m x:Operand)(fz:o.op=Op.mapEntry 184 m x)(base r:Nat)(xs:List dD)(hm:a.eval m = .map (some r))(hr:MapX base r xs w)(vX:r<base)(p:Int×List UInt8)(hx:a.eval x=pH p)
 (hK:∀ (w':World) (j:Nat) (g:List Np.Span) (v:Value) (xs':List dD),((xs'=xs/\xs[j]?=some (p,g,v))\/(p∉xs.map (·.1)/\xs'=xs ++ [(p,[],.slice none 0 0)]/\j=xs.length/\g = []/\v = .slice none 0 0))->xs'[j]?=some (p,g,v)->MapX base r xs' w'->Turned r w w'->wpList prog ops Q rest (a.put o.dst (.tuple #[v,.int .i64 (j:Int)])) w'):wpList prog ops Q (o::rest) a w:=by
 obtain⟨es,hes,he,iN⟩:=hr.map;have ht:=underlying184;have hl:r<w.heap.size:=(eQ.1 hes).1;have hf:=QS p w es.toList _ he;have hc:(Instr.checkKey false 10000 186 (pH p)).run prog w = .ok () w:=P5 false p w;refine wpList_plain hg λK' hK'=>?_
 cases fK:(xs.map λx:dD=>(x.1,x.2.2)).lookup p with
 | some v=>
  obtain⟨j,j1,j2,hj⟩:=hf.1 v fK;obtain⟨e,ej,fg⟩:=Option.map_eq_some_iff.1 j1;rw[Array.getElem?_toList] at ej;simp only[Prod.mk.injEq] at fg;rw[List.getElem?_map] at j2;obtain⟨y,AQ,lV⟩:=Option.map_eq_some_iff.1 j2;obtain⟨p',g,v'⟩:=y;simp only[Prod.mk.injEq] at lV;obtain⟨rfl,rfl⟩:=lV;have nS:(Instr.keyThatStays (((es[j]?).map (·.key)).getD (pH p')) (pH p')).run prog w = .ok (pH p') w:=by
   rw[ej];simp only[Option.map_some,Option.getD_some];rw[fg.1];exact UE _ _ w
  have aq:((es[j]?).map (λx=>(x.born:Int))).getD 0=(j:Int):=by
   rw[ej];simp[iN j e ej]
  have At:(es.modify j λe=>{ e with key:=pH p' })=es:=by
   apply Array.ext_getElem?;intro i;rw[Array.getElem?_modify];split
   ·rename_i ct;subst ct;rw[ej];simp[<-fg.1]
   ·rfl
  have bj:(Instr.mapEntry 184 (.map (some r)) (pH p')).run prog w = .ok (.tuple #[v',.int .i64 (j:Int)]) { w with heap:=w.heap.setIfInBounds r (.map es es.size) }:=by
   simp[Instr.mapEntry,run_underlying ht,MapKept.run_getObj_map hes,hc,hj,nS,MapKept.run_setObj_map _ hes,Result.andThen,At,aq,goInt]
  unfold Oper.wp;simp[execOp,fz,hm,hx,bj,Result.andThen];have kV:Turned r w { w with heap:=w.heap.setIfInBounds r (.map es es.size) }:=⟨rfl,rfl,rfl,by simp,λi hi=>by simp[Ne.symm hi]⟩;refine hK' _ _ (hK _ j g v' xs (.inl ⟨rfl,AQ⟩) AQ ⟨⟨es,by simp[hl],he,iN⟩,λx hx=>(hr.row x hx).turned kV vX,hr.apart⟩ kV)
 | none=>
  have hn:=hf.2 fK;have bj:(Instr.mapEntry 184 (.map (some r)) (pH p)).run prog w = .ok (.tuple #[.slice none 0 0,.int .i64 (es.size:Int)]) { w with heap:=w.heap.setIfInBounds r (.map (es.push { key:=pH p,val:=.slice none 0 0,born:=es.size }) (es.size+1)) }:=by
   simp[Instr.mapEntry,run_underlying ht,MapKept.run_getObj_map hes,hc,hn,MapKept.run_setObj_map _ hes,Result.andThen,goInt]
  have ag:es.size=xs.length:=by
   have:=Qd List.length he
   simpa using this
  have Tf:p∉xs.map (·.1):=by
   have:=U3 _ _ fK
   rw[List.map_map] at this;exact this
  unfold Oper.wp;simp[execOp,fz,hm,hx,bj,Result.andThen];have kV:Turned r w { w with heap:=w.heap.setIfInBounds r (.map (es.push { key:=pH p,val:=.slice none 0 0,born:=es.size }) (es.size+1)) }:=⟨rfl,rfl,rfl,by simp,λi hi=>by simp[Ne.symm hi]⟩;refine hK' _ _ (hK _ es.size [] (.slice none 0 0) (xs ++ [(p,[],.slice none 0 0)]) (.inr ⟨Tf,rfl,ag,rfl,rfl⟩) (by rw[ag];simp) ⟨⟨es.push { key:=pH p,val:=.slice none 0 0,born:=es.size },by simp[hl],by simp[he],λi e hi=>?_⟩,λx hx=>?_,λi j x y b hx hy dX dY=>?_⟩ kV)
  ·rw[Array.getElem?_push] at hi;split at hi
   ·rename_i h1;cases hi;exact h1.symm
   ·exact iN i e hi
  ·rcases List.mem_append.1 hx with hx | hx
   ·exact (hr.row x hx).turned kV vX
   ·rw[List.mem_singleton] at hx;subst hx;exact av.nil _ _
  ·have get:∀ (k:Nat) (z:dD),(xs ++ [(p,[],Value.slice none 0 0)])[k]?=some z->z.2.2.ownBlock=some b->xs[k]?=some z:=λk z hz lW=>by
    rw[List.getElem?_append] at hz;split at hz
    ·exact hz
    ·have:=gQ hz
     rw[List.mem_singleton] at this;subst this;simp[Value.ownBlock] at lW
   exact hr.apart i j x y b (get i x hx dX) (get j y hy dY) dX dY
end
section
variable {ops:Array Oper} {rest:List Oper} {o:Oper} {a:Act} {Q:Exit->Act->World->Prop}
theorem YB(w:World)(fh:o.guard=none)(s x:Operand)(ho:o.op = .call { callee:=.builtin .append,args:=#[s,x],argTypes:=#[55,55] })
 (base:Nat) (v:Value) (ps:List Np.Span) (hs:a.eval s=v) (hown:av base w v ps) (blk:Nat) (f u:Int) (hx:a.eval x = .slice (some ⟨blk,0,none⟩) 1 1) (hc:w.cell? ⟨blk,0,none⟩=some (.int .i64 f)) (aT:w.cell? ⟨blk,1,none⟩=some (.int .i64 u)) (hlen:ps.length<=100000) (bL:base<=w.heap.size)
 (h:∀ v' w',av base w' v' (ps ++ [⟨f,u⟩])->w.grownBy w' v.ownBlock->(v'.ownBlock=v.ownBlock\/v'.ownBlock=some w.heap.size)->wpList prog ops Q rest (a.put o.dst v') w'):wpList prog ops Q (o::rest) a w:=by
 obtain⟨i0,hi,bd,aK,aC⟩:=info_parts Tryz.infoSpan;refine wpList_append_own_at w fh s x 55 ho base 110 i0 (.agg #[.int .i64 0,.int .i64 0]) 2 16 underlying55 hi bd aK aC rfl (by decide) v ps.length (ps.map dU).flatten hs hown ⟨blk,0,none⟩ 1 1 [.int .i64 f,.int .i64 u] hx rfl ?_ (by simp[Value.oneCell']) (by unfold maxLen;omega) (by omega) bL ?_
 ·intro j y hj
  match j,hj with
  | 0,hj=>simp at hj;subst hj;simpa [Addr.add] using hc
  | 1,hj=>simp at hj;subst hj;simpa [Addr.add] using aT
  | j+2,hj=>simp at hj
 ·intro v' w' ho' hg _ hat;refine h v' w' ?_ hg hat;have e:(ps ++ [(⟨f,u⟩:Np.Span)]).length=ps.length+1:=by simp
  unfold av;rw[e,List.map_append,List.flatten_append];exact ho'
theorem YE(w w0:World)(fh:o.guard=none)(m s x:Operand)(fz:o.op=Op.entryStore 184 m s x)(base r:Nat)(xs:List dD)(hX:MapX base r xs w0)(vX:r<base)(j:Nat)(p:Int×List UInt8)(g g':List Np.Span)(v v':Value)
 (hj:xs[j]?=some (p,g,v)) (hg:w0.grownBy w v.ownBlock) (ho:av base w v' g') (hat:v'.ownBlock=v.ownBlock\/v'.ownBlock=some w0.heap.size) (hm:a.eval m = .map (some r)) (hs:a.eval s = .int .i64 (j:Int)) (hx:a.eval x=v')
 (hK:∀ w',MapX base r (xs.set j (p,g',v')) w'->Turned r w w'->wpList prog ops Q rest (a.put o.dst undef) w'):wpList prog ops Q (o::rest) a w:=by
 obtain⟨es,Jp,he,iN⟩:=hX.map;have nT:r<w0.heap.size:=(eQ.1 Jp).1;have hv:=hX.row _ (gQ hj);have hes:w.heap[r]?=some (.map es es.size):=(hg.block r nT (λe2=>by have:=(World.ownsRow.lt hv r e2.symm).1;omega)).trans Jp;have hl:r<w.heap.size:=(eQ.1 hes).1;have ag:es.size=xs.length:=by
  have:=Qd List.length he
  simpa using this
 have lN:j<xs.length:=(cQ.1 hj).1;have Sx:es.findIdx? (λe=>(e.born:Int) == (j:Int))=some j:=by
  rw[Array.findIdx?_eq_some_iff_getElem];refine⟨by omega,?_,λi hi=>?_⟩
  ·have:=iN j _ (pQ (by omega))
   simp[this]
  ·have:=iN i _ (pQ (by omega))
   simp[this];omega
 refine wpList_plain fh λK' hK'=>?_;have bj:(Instr.entryStore 184 (.map (some r)) (.int .i64 (j:Int)) v').run prog w = .ok () { w with heap:=w.heap.setIfInBounds r (.map (es.modify j λe=>{ e with val:=v' }) es.size) }:=by
  simp[Instr.entryStore,MapKept.run_getObj_map hes,Sx,asInt,asIntOf,MapKept.run_setObj_map _ hes,Result.andThen]
 unfold Oper.wp;simp[execOp,fz,hm,hs,hx,bj,Result.andThen];have kV:Turned r w { w with heap:=w.heap.setIfInBounds r (.map (es.modify j λe=>{ e with val:=v' }) es.size) }:=⟨rfl,rfl,rfl,by simp,λi hi=>by simp[Ne.symm hi]⟩;refine hK' _ _ (hK _ ⟨⟨es.modify j λe=>{ e with val:=v' },by simp[hl],?_,λi e hi=>?_⟩,λy hy=>?_,λi i' y y' b hy hy' hb hb'=>?_⟩ kV)
 ·apply List.ext_getElem?;intro i;have hi:=Qd (λl=>l[i]?) he;simp only[List.getElem?_map,Array.getElem?_toList] at hi |-;rw[Array.getElem?_modify,List.getElem?_set];by_cases ct:j=i
  ·subst ct;rw[hj] at hi;rw[Qb rfl,Qb rfl,Qb lN];obtain⟨e,ej⟩:∃ e,es[j]?=some e:=⟨_,pQ (by omega)⟩;rw[ej] at hi |-;simp at hi |-;exact hi.1
  ·rw[Qc ct,Qc ct];simpa using hi
 ·rw[Array.getElem?_modify] at hi;split at hi
  ·rename_i ct;subst ct;obtain⟨e',he',rfl⟩:=Option.map_eq_some_iff.1 hi;exact iN j e' he'
  ·exact iN i e hi
 ·obtain⟨i,hi,rfl⟩:=nQ.1 hy;rw[List.length_set] at hi;rw[List.getElem_set];split
  ·exact ho.turned kV vX
  ·rename_i hne;have h1:=hX.row _ (List.getElem_mem hi);have h2:av base w xs[i].2.2 xs[i].2.1:=bY h1 λb hb=>hg.block b (World.ownsRow.lt h1 b hb).2 λe2=>hne (hX.apart j i _ _ b hj (aQ hi) e2.symm hb);exact h2.turned kV vX
 ·have get:∀ (k:Nat) (z:dD),(xs.set j (p,g',v'))[k]?=some z->(k=j/\z=(p,g',v'))\/(k≠j/\xs[k]?=some z):=λk z hz=>by
   rw[List.getElem?_set] at hz;split at hz
   ·rename_i e;subst e
    first
     | (rw[Qb lN] at hz;cases hz;exact .inl ⟨rfl,rfl⟩)
     | (cases hz;exact .inl ⟨rfl,rfl⟩)
   ·rename_i e;exact .inr ⟨λe2=>e e2.symm,hz⟩
  have clash:∀ (k:Nat) (z:dD),k≠j->xs[k]?=some z->z.2.2.ownBlock=some b->v'.ownBlock=some b->False:=λk z hk hz lW fl=>by
   rcases hat with h1 | h1
   ·rw[fl] at h1;exact hk (hX.apart k j _ _ b hz hj lW h1.symm)
   ·rw[fl] at h1
    have:=(World.ownsRow.lt (hX.row _ (gQ hz)) b lW).2
    simp at h1;omega
  rcases get i y hy with ⟨e1,rfl⟩ | ⟨e1,h1⟩
  ·rcases get i' y' hy' with ⟨e2,rfl⟩ | ⟨e2,h2⟩
   ·rw[e1,e2]
   ·exact (clash i' y' e2 h2 hb' hb).elim
  ·rcases get i' y' hy' with ⟨e2,rfl⟩ | ⟨e2,h2⟩
   ·exact (clash i y e1 h1 hb hb').elim
   ·exact hX.apart i i' y y' b h1 h2 hb hb'
structure RangeX(base r I:Nat)(xs:List dD)(seen:Array Nat)(w:World):Prop where
 mapX:MapX base r xs w
 iter:w.heap[I]?=some (.mapIter (some r) xs.length seen xs.length)
 row:∀ x∈xs,x.2.2.ownBlock≠some I
theorem RangeX.ne{base r I:Nat}{xs:List dD}{seen:Array Nat}{w:World}(h:RangeX base r I xs seen w):I≠r:=by
 obtain⟨es,h1,_⟩:=h.mapX.map;intro e
 have:=h.iter
 rw[e,h1] at this
 cases this
theorem RangeX.lt{base r I:Nat}{xs:List dD}{seen:Array Nat}{w:World}(h:RangeX base r I xs seen w):I<w.heap.size:=(eQ.1 h.iter).1
theorem RangeX.keep{base r I:Nat}{xs:List dD}{seen:Array Nat}{w w':World}(h:RangeX base r I xs seen w)(hb:Below w.heap.size w w'):RangeX base r I xs seen w':=⟨h.mapX.keep hb,(hb.block I h.lt).trans h.iter,h.row⟩
theorem RangeX.changed{base r I:Nat}{xs:List dD}{seen:Array Nat}{w w':World}(h:RangeX base r I xs seen w)(hr:r<base){j:Nat}{p:Int×List UInt8}{g g':List Np.Span}{v:Value}(hj:xs[j]?=some (p,g,v))(hg:w.grownBy w' v.ownBlock)(ho:av base w' v g'):RangeX base r I (xs.set j (p,g',v)) seen w':=by
 have hv:=h.row _ (gQ hj);refine⟨h.mapX.changed hr hj hg ho,?_,λx hx=>?_⟩
 ·rw[List.length_set];exact (hg.block I h.lt (λe=>hv e.symm)).trans h.iter
 ·obtain⟨i,hi,rfl⟩:=nQ.1 hx;rw[List.length_set] at hi;rw[List.getElem_set];split
  ·exact hv
  ·exact h.row _ (List.getElem_mem hi)
theorem MapX.size{base r:Nat}{xs:List dD}{w:World}(h:MapX base r xs w):∃ es,w.heap[r]?=some (.map es xs.length)/\es.size=xs.length/\es.toList.map (λe=>(e.key,e.val))=(xs.map λx=>(x.1,x.2.2)).map (λp=>(pH p.1,p.2))/\∀ (i:Nat) (e:MapEntry),es[i]?=some e->e.born=i:=by
 obtain⟨es,h1,h2,h3⟩:=h.map;have ag:es.size=xs.length:=by
  have:=Qd List.length h2
  simpa using this
 exact⟨es,by rw[<-ag];exact h1,ag,h2,h3⟩
theorem YH(w:World)(hg:o.guard=none)(m:Operand)(fz:o.op=Op.range 184 m)(base r:Nat)(xs:List dD)(hm:a.eval m = .map (some r))(hX:MapX base r xs w)
 (hK:∀ w',RangeX base r w.heap.size xs #[] w'->Below w.heap.size w w'->w'.heap.size=w.heap.size+1->wpList prog ops Q rest (a.put o.dst (.pointer (some ⟨w.heap.size,0,none⟩))) w'):wpList prog ops Q (o::rest) a w:=by
 obtain⟨es,hes,ag,_⟩:=hX.size;have bj:=run_range_map (P:=prog) w 184 _ _ r es xs.length underlying184 hes;refine wpList_plain hg λK' hK'=>?_;unfold Oper.wp;simp[execOp,fz,hm,bj,Result.andThen];have hb:Below w.heap.size w (w.alloc (.mapIter (some r) xs.length #[] xs.length)):=(vQ _ _).alloc (bQ _) _;refine hK' _ _ (hK _ ⟨hX.keep hb,heap_alloc_new _ _,λx hx e=>?_⟩ hb (by simp))
 have:=(World.ownsRow.lt (hX.row x hx) _ e).2
 omega
theorem Lh{w w':World}{r I:Nat}(h1:w'.heap[r]?=w.heap[r]?)(h2:w'.heap[I]?=w.heap[I]?):w'.rangeLeft r I=w.rangeLeft r I:=by
 unfold World.rangeLeft;rw[h1,h2]
theorem YG(w:World)(hg:o.guard=none)(it:Operand)(fz:o.op=Op.next it false)(base r I:Nat)(xs:List dD)(seen:Array Nat)(hit:a.eval it = .pointer (some ⟨I,0,none⟩))(h:RangeX base r I xs seen w)
 (RC:(∀ j,j<xs.length->seen.contains j=true)->wpList prog ops Q rest (a.put o.dst (.tuple #[.bool false])) w)
 (RJ:∀ (j:Nat) (p:Int×List UInt8) (g:List Np.Span) (v:Value) (w':World),xs[j]?=some (p,g,v)->RangeX base r I xs (seen.push j) w'->Turned I w w'->w'.rangeLeft r I<w.rangeLeft r I->(Instr.entry (.pointer (some ⟨I,0,none⟩))).run prog w' = .ok (.tuple #[pH p,v]) w'->wpList prog ops Q rest (a.put o.dst (.tuple #[.bool true,pH p,v])) w') :
 wpList prog ops Q (o::rest) a w:=by
 have hne:=h.ne;obtain⟨es,hes,ag,he,iN⟩:=h.mapX.size;have hold:∀ x∈es.toList,x.born<xs.length:=λx hx=>by
  obtain⟨i,hi,rfl⟩:=nQ.1 hx;have hi':i<es.size:=by simpa using hi
  have:=iN i es[i] (pQ hi')
  simp only[Array.getElem_toList];omega
 refine wpList_plain hg λK' hK'=>?_;unfold Oper.wp;rcases run_next_at (P:=prog) w o.type I r xs.length xs.length seen es xs.length h.iter hes hold (bQ _) with ⟨h0,bj⟩ | ⟨e,Ar,w1,j9,bj⟩
 ·simp[execOp,fz,hit,bj,Result.andThen];refine hK' _ _ (RC λj hj=>?_);have h1:=all_seen es seen h0 es[j] (by simp);rwa [iN j es[j] (pQ (by omega))] at h1
 ·obtain⟨hem,ZO⟩:=mem_left Ar;obtain⟨j,hj,nN⟩:=nQ.1 hem;have hj':j<es.size:=by simpa using hj
  have JF:es[j]?=some e:=by rw[pQ hj',<-nN];simp
  have ka:=iN j e JF;obtain⟨⟨p,g,v⟩,hx⟩:∃ x,xs[j]?=some x:=⟨_,aQ (by omega)⟩;have SW:e.key=pH p/\e.val=v:=by
   have hi:=Qd (λl=>l[j]?) he;simp only[List.getElem?_map,Array.getElem?_toList] at hi;rw[JF,hx] at hi;simpa using hi
  obtain⟨cO,fi⟩:=SW;rw[ka] at bj;have dL:w1.heap[I]?=some (.mapIter (some r) xs.length seen xs.length):=by rcases j9 with rfl | rfl <;> exact h.iter
  have DC:I<w1.heap.size:=(eQ.1 dL).1;have aq:w1.heap[r]?=some (.map es xs.length):=by rcases j9 with rfl | rfl <;> exact hes
  have aV:Below w.heap.size w w1:=by rcases j9 with rfl | rfl;exact vQ _ _;exact (vQ _ _).drew
  have q9:w1.heap.size=w.heap.size:=by rcases j9 with rfl | rfl <;> rfl
  obtain⟨w2,az⟩:=abY (Go.ChangeMaps.setBlock w1 I (.mapIter (some r) xs.length (seen.push j) xs.length));have sI:w2.heap[I]?=some (.mapIter (some r) xs.length (seen.push j) xs.length):=by rw[<-az];simp[Go.ChangeMaps.setBlock,DC]
  have JY:∀ i,i≠I->w2.heap[i]?=w1.heap[i]?:=λi hi=>by rw[<-az];simp[Go.ChangeMaps.setBlock,Ne.symm hi]
  have ba:w1.heap=w.heap:=by rcases j9 with rfl | rfl <;> rfl
  have kV:Turned I w w2:=⟨by rw[<-az];exact aV.os,by rw[<-az];exact aV.tape,by rw[<-az];exact aV.output,by rw[<-az];simp[Go.ChangeMaps.setBlock,q9],λi hi=>by rw[JY i hi,ba]⟩;have ab:w2.heap[r]?=some (.map es xs.length):=(JY r (Ne.symm hne)).trans aq;rw[az] at bj;simp[execOp,fz,hit,bj,Result.andThen];rw[cO,fi];refine hK' _ _ (RJ j p g v w2 hx ⟨h.mapX.turned kV hne h.row,sI,h.row⟩ kV ?_ ?_)
  ·have:=left_shrinks es seen e Ar
   rw[ka] at this;unfold World.rangeLeft;rw[ab,sI,hes,h.iter];exact this
  ·have Au:(es.toList.map (·.born)).Nodup:=by
    rw[List.nodup_iff_pairwise_ne,List.pairwise_iff_getElem];intro i k hi hk ZS;have hi':i<es.size:=by simpa using hi
    have hk':k<es.size:=by simpa using hk
    have h1:=iN i es[i] (pQ hi');have h2:=iN k es[k] (pQ hk');simp only[List.getElem_map,Array.getElem_toList];omega
   have:=run_entry_at (P:=prog) w2 I r xs.length seen es xs.length e (by rw[ka];exact sI) ab hem Au
   rw[cO,fi] at this;exact this
end
end
end Go.Proofs.YtfnopgdcaanaiaaGreatDoor
