/- Parts of the proof. No condition. -/
import Derived.Test.YtfnopgdcaanaiaaGreatDoorM12
import Derived.Test.YtfnopgdcaanaiaaGreatDoorM13
set_option linter.all false
set_option maxRecDepth 100000
set_option maxHeartbeats 8000000
namespace Go.Proofs.YtfnopgdcaanaiaaGreatDoor
open Go.Proofs.Tryz
section
open Go.RowKit Go.MapKept Go.Shelf
theorem akX{α β:Type}[BEq α][LawfulBEq α](l:List (α×β))(p:α)(h:l.lookup p=none):p∉l.map (·.1):=by
 induction l with
 | nil=>simp
 | cons z zs ih=>
  rw[List.lookup_cons] at h
  cases hb:(p == z.1) with
  | true=>rw[hb] at h;simp at h
  | false=>
   rw[hb] at h;have hne:p≠z.1:=by simpa using hb
   simp only[List.map_cons,List.mem_cons,not_or];exact⟨hne,ih h⟩
abbrev ga:=(Int×List UInt8)×List Np.Span×Value
structure MapX(base r:Nat)(xs:List ga)(w:World):Prop where
 map:oP r (xs.map λx=>(x.1,x.2.2)) w
 row:∀ x∈xs,aJ base w x.2.2 x.2.1
 apart:∀ (i j:Nat) (x y:ga) (g:Nat),xs[i]?=some x->xs[j]?=some y->x.2.2.ownBlock=some g->y.2.2.ownBlock=some g->i=j
theorem MapX.keep{base r:Nat}{xs:List ga}{w w':World}(h:MapX base r xs w)(hb:Below w.heap.size w w'):MapX base r xs w':=⟨h.map.keep hb h.map.lt,λx hx=>(h.row x hx).keep hb,h.apart⟩
theorem MapX.made(base:Nat)(w:World):MapX base w.heap.size [] (w.alloc (.map #[] 0)):=⟨oP.made w,λx hx=>(by cases hx),λi j x y g h=>by simp at h⟩
theorem aJ.turned{base r:Nat}{w w':World}{v:Value}{ps:List Np.Span}(h:aJ base w v ps)(ht:Turned r w w')(hr:r<base):aJ base w' v ps:=gN h (λg hg=>ht.block g (by have:=(h.lt g hg).1;omega))
theorem MapX.turned{base r I:Nat}{xs:List ga}{w w':World}(h:MapX base r xs w)(ht:Turned I w w')(hI:I≠r)(hrow:∀ x∈xs,x.2.2.ownBlock≠some I):MapX base r xs w':=
 ⟨h.map.keep' (ht.block r (Ne.symm hI)),λx hx=>gN (h.row x hx) (λg hg=>ht.block g (λe=>hrow x hx (by rw[hg,e]))),h.apart⟩
theorem MapX.changed{base r:Nat}{xs:List ga}{w w':World}(h:MapX base r xs w)(hr:r<base){j:Nat}{p:Int×List UInt8}{g g':List Np.Span}{v:Value}(hj:xs[j]?=some (p,g,v))(hg:w.grownBy w' v.ownBlock)(ho:aJ base w' v g'):MapX base r (xs.set j (p,g',v)) w':=by
 have hv:=h.row _ (gQ hj);refine⟨?_,λx hx=>?_,λi i' x y b hx hy=>?_⟩
 ·have e:(xs.set j (p,g',v)).map (λx:ga=>(x.1,x.2.2))=xs.map λx=>(x.1,x.2.2):=by
   rw[List.map_set];apply List.ext_getElem?;intro i;rw[List.getElem?_set];split
   ·rename_i e;subst e;rw[List.length_map,Qb (cQ.1 hj).1,List.getElem?_map,hj];rfl
   ·rfl
  rw[e];refine h.map.keep' (hg.block r h.map.lt λe2=>?_)
  have:=(World.ownsRow.lt hv r e2.symm).1
  omega
 ·obtain⟨i,hi,rfl⟩:=nQ.1 hx;rw[List.length_set] at hi;rw[List.getElem_set];split
  ·exact ho
  ·rename_i hne;refine gN (h.row _ (List.getElem_mem hi)) λb hb=>hg.block b (World.ownsRow.lt (h.row _ (List.getElem_mem hi)) b hb).2 λe2=>hne ?_;exact h.apart j i _ _ b hj (aQ hi) e2.symm hb
 ·intro hb hb';have get:∀ (k:Nat) (z:ga),(xs.set j (p,g',v))[k]?=some z->∃ z',xs[k]?=some z'/\z'.2.2=z.2.2:=λk z hz=>by
   rw[List.getElem?_set] at hz;split at hz
   ·rename_i e;subst e;rw[Qb (cQ.1 hj).1] at hz
    cases hz
    exact⟨_,hj,rfl⟩
   ·exact⟨z,hz,rfl⟩
  obtain⟨x',hx',ex⟩:=get i x hx;obtain⟨y',hy',ey⟩:=get i' y hy;exact h.apart i i' x' y' b hx' hy' (by rw[ex];exact hb) (by rw[ey];exact hb')
theorem agK(p:Int×List UInt8)(P:Program)(w:World):(Instr.keyThatStays (pH p) (pH p)).run P w = .ok (pH p) w:=by
 have h1:∀ a:ByteArray,(a == a)=true:=λa=>by
  show (a.data == a.data)=true;simp
 have:Instr.sameBits 10000 (pH p) (pH p)=true:=by
  rw[show (10000:Nat)=9998+1+1 from rfl];simp[Instr.sameBits,pH,aA,h1]
 simp[Instr.keyThatStays,this]
section
variable {ops:Array Oper} {rest:List Oper} {o:Oper} {a:Act} {Q:Exit->Act->World->Prop}
theorem aWZ(w:World)(hg:o.guard=none)(m x:Operand)(kB:o.op=Op.mapEntry 184 m x)(base r:Nat)(xs:List ga)(hm:a.eval m = .map (some r))(hr:MapX base r xs w)(Cz:r<base)(p:Int×List UInt8)(hx:a.eval x=pH p)
 (hK:∀ (w':World) (j:Nat) (g:List Np.Span) (v:Value) (xs':List ga),((xs'=xs/\xs[j]?=some (p,g,v))\/(p∉xs.map (·.1)/\xs'=xs ++ [(p,[],.slice none 0 0)]/\j=xs.length/\g = []/\v = .slice none 0 0))->xs'[j]?=some (p,g,v)->MapX base r xs' w'->Turned r w w'->wpList prog ops Q rest (a.put o.dst (.tuple #[v,.int .i64 (j:Int)])) w'):wpList prog ops Q (o::rest) a w:=by
 obtain⟨es,hes,he,iO⟩:=hr.map;have ht:=underlying184;have hl:r<w.heap.size:=(eQ.1 hes).1;have hf:=Xn p w es.toList _ he;have hc:(Instr.checkKey false 10000 186 (pH p)).run prog w = .ok () w:=Wp false p w;refine wpList_plain hg λK' hK'=>?_
 cases er:(xs.map λx:ga=>(x.1,x.2.2)).lookup p with
 | some v=>
  obtain⟨j,j1,j2,hj⟩:=hf.1 v er;obtain⟨e,kZ,lK⟩:=Option.map_eq_some_iff.1 j1;rw[Array.getElem?_toList] at kZ;simp only[Prod.mk.injEq] at lK;rw[List.getElem?_map] at j2;obtain⟨y,tf,mP⟩:=Option.map_eq_some_iff.1 j2;obtain⟨p',g,v'⟩:=y;simp only[Prod.mk.injEq] at mP;obtain⟨rfl,rfl⟩:=mP;have kA:(Instr.keyThatStays (((es[j]?).map (·.key)).getD (pH p')) (pH p')).run prog w = .ok (pH p') w:=by
   rw[kZ];simp only[Option.map_some,Option.getD_some];rw[lK.1];exact agK _ _ w
  have ay:((es[j]?).map (λx=>(x.born:Int))).getD 0=(j:Int):=by
   rw[kZ];simp[iO j e kZ]
  have ut:(es.modify j λe=>{ e with key:=pH p' })=es:=by
   apply Array.ext_getElem?;intro i;rw[Array.getElem?_modify];split
   ·rename_i dj;subst dj;rw[kZ];simp[<-lK.1]
   ·rfl
  have dS:(Instr.mapEntry 184 (.map (some r)) (pH p')).run prog w = .ok (.tuple #[v',.int .i64 (j:Int)]) { w with heap:=w.heap.setIfInBounds r (.map es es.size) }:=by
   simp[Instr.mapEntry,run_underlying ht,MapKept.run_getObj_map hes,hc,hj,kA,MapKept.run_setObj_map _ hes,Result.andThen,ut,ay,goInt]
  unfold Oper.wp;simp[execOp,kB,hm,hx,dS,Result.andThen];have lO:Turned r w { w with heap:=w.heap.setIfInBounds r (.map es es.size) }:=⟨rfl,rfl,rfl,by simp,λi hi=>by simp[Ne.symm hi]⟩;refine hK' _ _ (hK _ j g v' xs (.inl ⟨rfl,tf⟩) tf ⟨⟨es,by simp[hl],he,iO⟩,λx hx=>(hr.row x hx).turned lO Cz,hr.apart⟩ lO)
 | none=>
  have hn:=hf.2 er;have dS:(Instr.mapEntry 184 (.map (some r)) (pH p)).run prog w = .ok (.tuple #[.slice none 0 0,.int .i64 (es.size:Int)]) { w with heap:=w.heap.setIfInBounds r (.map (es.push { key:=pH p,val:=.slice none 0 0,born:=es.size }) (es.size+1)) }:=by
   simp[Instr.mapEntry,run_underlying ht,MapKept.run_getObj_map hes,hc,hn,MapKept.run_setObj_map _ hes,Result.andThen,goInt]
  have an:es.size=xs.length:=by
   have:=Qd List.length he
   simpa using this
  have Zp:p∉xs.map (·.1):=by
   have:=akX _ _ er
   rw[List.map_map] at this;exact this
  unfold Oper.wp;simp[execOp,kB,hm,hx,dS,Result.andThen];have lO:Turned r w { w with heap:=w.heap.setIfInBounds r (.map (es.push { key:=pH p,val:=.slice none 0 0,born:=es.size }) (es.size+1)) }:=⟨rfl,rfl,rfl,by simp,λi hi=>by simp[Ne.symm hi]⟩;refine hK' _ _ (hK _ es.size [] (.slice none 0 0) (xs ++ [(p,[],.slice none 0 0)]) (.inr ⟨Zp,rfl,an,rfl,rfl⟩) (by rw[an];simp) ⟨⟨es.push { key:=pH p,val:=.slice none 0 0,born:=es.size },by simp[hl],by simp[he],λi e hi=>?_⟩,λx hx=>?_,λi j x y b hx hy fw ic=>?_⟩ lO)
  ·rw[Array.getElem?_push] at hi;split at hi
   ·rename_i h1;cases hi;exact h1.symm
   ·exact iO i e hi
  ·rcases List.mem_append.1 hx with hx | hx
   ·exact (hr.row x hx).turned lO Cz
   ·rw[List.mem_singleton] at hx;subst hx;exact aJ.nil _ _
  ·have get:∀ (k:Nat) (z:ga),(xs ++ [(p,[],Value.slice none 0 0)])[k]?=some z->z.2.2.ownBlock=some b->xs[k]?=some z:=λk z hz xP=>by
    rw[List.getElem?_append] at hz;split at hz
    ·exact hz
    ·have:=gQ hz
     rw[List.mem_singleton] at this;subst this;simp[Value.ownBlock] at xP
   exact hr.apart i j x y b (get i x hx fw) (get j y hy ic) fw ic
end
section
variable {ops:Array Oper} {rest:List Oper} {o:Oper} {a:Act} {Q:Exit->Act->World->Prop}
theorem aVK(w:World)(js:o.guard=none)(s x:Operand)(ho:o.op = .call { callee:=.builtin .append,args:=#[s,x],argTypes:=#[55,55] })
 (base:Nat) (v:Value) (ps:List Np.Span) (hs:a.eval s=v) (hown:aJ base w v ps) (blk:Nat) (f u:Int) (hx:a.eval x = .slice (some ⟨blk,0,none⟩) 1 1) (hc:w.cell? ⟨blk,0,none⟩=some (.int .i64 f)) (bq:w.cell? ⟨blk,1,none⟩=some (.int .i64 u)) (hlen:ps.length<=100000) (fh:base<=w.heap.size)
 (h:∀ v' w',aJ base w' v' (ps ++ [⟨f,u⟩])->w.grownBy w' v.ownBlock->(v'.ownBlock=v.ownBlock\/v'.ownBlock=some w.heap.size)->wpList prog ops Q rest (a.put o.dst v') w'):wpList prog ops Q (o::rest) a w:=by
 obtain⟨i0,hi,fk,bd,aN⟩:=info_parts Tryz.infoSpan;refine wpList_append_own_at w js s x 55 ho base 110 i0 (.agg #[.int .i64 0,.int .i64 0]) 2 16 underlying55 hi fk bd aN rfl (by decide) v ps.length (ps.map gE).flatten hs hown ⟨blk,0,none⟩ 1 1 [.int .i64 f,.int .i64 u] hx rfl ?_ (by simp[Value.oneCell']) (by unfold maxLen;omega) (by omega) fh ?_
 ·intro j y hj
  match j,hj with
  | 0,hj=>simp at hj;subst hj;simpa [Addr.add] using hc
  | 1,hj=>simp at hj;subst hj;simpa [Addr.add] using bq
  | j+2,hj=>simp at hj
 ·intro v' w' ho' hg _ hat;refine h v' w' ?_ hg hat;have e:(ps ++ [(⟨f,u⟩:Np.Span)]).length=ps.length+1:=by simp
  unfold aJ;rw[e,List.map_append,List.flatten_append];exact ho'
theorem aWQ(w w0:World)(js:o.guard=none)(m s x:Operand)(kB:o.op=Op.entryStore 184 m s x)(base r:Nat)(xs:List ga)(hX:MapX base r xs w0)(Cz:r<base)(j:Nat)(p:Int×List UInt8)(g g':List Np.Span)(v v':Value)
 (hj:xs[j]?=some (p,g,v)) (hg:w0.grownBy w v.ownBlock) (ho:aJ base w v' g') (hat:v'.ownBlock=v.ownBlock\/v'.ownBlock=some w0.heap.size) (hm:a.eval m = .map (some r)) (hs:a.eval s = .int .i64 (j:Int)) (hx:a.eval x=v')
 (hK:∀ w',MapX base r (xs.set j (p,g',v')) w'->Turned r w w'->wpList prog ops Q rest (a.put o.dst undef) w'):wpList prog ops Q (o::rest) a w:=by
 obtain⟨es,Py,he,iO⟩:=hX.map;have rx:r<w0.heap.size:=(eQ.1 Py).1;have hv:=hX.row _ (gQ hj);have hes:w.heap[r]?=some (.map es es.size):=(hg.block r rx (λe2=>by have:=(World.ownsRow.lt hv r e2.symm).1;omega)).trans Py;have hl:r<w.heap.size:=(eQ.1 hes).1;have an:es.size=xs.length:=by
  have:=Qd List.length he
  simpa using this
 have nT:j<xs.length:=(cQ.1 hj).1;have YR:es.findIdx? (λe=>(e.born:Int) == (j:Int))=some j:=by
  rw[Array.findIdx?_eq_some_iff_getElem];refine⟨by omega,?_,λi hi=>?_⟩
  ·have:=iO j _ (pQ (by omega))
   simp[this]
  ·have:=iO i _ (pQ (by omega))
   simp[this];omega
 refine wpList_plain js λK' hK'=>?_;have dS:(Instr.entryStore 184 (.map (some r)) (.int .i64 (j:Int)) v').run prog w = .ok () { w with heap:=w.heap.setIfInBounds r (.map (es.modify j λe=>{ e with val:=v' }) es.size) }:=by
  simp[Instr.entryStore,MapKept.run_getObj_map hes,YR,asInt,asIntOf,MapKept.run_setObj_map _ hes,Result.andThen]
 unfold Oper.wp;simp[execOp,kB,hm,hs,hx,dS,Result.andThen];have lO:Turned r w { w with heap:=w.heap.setIfInBounds r (.map (es.modify j λe=>{ e with val:=v' }) es.size) }:=⟨rfl,rfl,rfl,by simp,λi hi=>by simp[Ne.symm hi]⟩;refine hK' _ _ (hK _ ⟨⟨es.modify j λe=>{ e with val:=v' },by simp[hl],?_,λi e hi=>?_⟩,λy hy=>?_,λi i' y y' b hy hy' hb hb'=>?_⟩ lO)
 ·apply List.ext_getElem?;intro i;have hi:=Qd (λl=>l[i]?) he;simp only[List.getElem?_map,Array.getElem?_toList] at hi |-;rw[Array.getElem?_modify,List.getElem?_set];by_cases dj:j=i
  ·subst dj;rw[hj] at hi;rw[Qb rfl,Qb rfl,Qb nT];obtain⟨e,kZ⟩:∃ e,es[j]?=some e:=⟨_,pQ (by omega)⟩;rw[kZ] at hi |-;simp at hi |-;exact hi.1
  ·rw[Qc dj,Qc dj];simpa using hi
 ·rw[Array.getElem?_modify] at hi;split at hi
  ·rename_i dj;subst dj;obtain⟨e',he',rfl⟩:=Option.map_eq_some_iff.1 hi;exact iO j e' he'
  ·exact iO i e hi
 ·obtain⟨i,hi,rfl⟩:=nQ.1 hy;rw[List.length_set] at hi;rw[List.getElem_set];split
  ·exact ho.turned lO Cz
  ·rename_i hne;have h1:=hX.row _ (List.getElem_mem hi);have h2:aJ base w xs[i].2.2 xs[i].2.1:=gN h1 λb hb=>hg.block b (World.ownsRow.lt h1 b hb).2 λe2=>hne (hX.apart j i _ _ b hj (aQ hi) e2.symm hb);exact h2.turned lO Cz
 ·have get:∀ (k:Nat) (z:ga),(xs.set j (p,g',v'))[k]?=some z->(k=j/\z=(p,g',v'))\/(k≠j/\xs[k]?=some z):=λk z hz=>by
   rw[List.getElem?_set] at hz;split at hz
   ·rename_i e;subst e
    first
     | (rw[Qb nT] at hz;cases hz;exact .inl ⟨rfl,rfl⟩)
     | (cases hz;exact .inl ⟨rfl,rfl⟩)
   ·rename_i e;exact .inr ⟨λe2=>e e2.symm,hz⟩
  have clash:∀ (k:Nat) (z:ga),k≠j->xs[k]?=some z->z.2.2.ownBlock=some b->v'.ownBlock=some b->False:=λk z hk hz xP mo=>by
   rcases hat with h1 | h1
   ·rw[mo] at h1;exact hk (hX.apart k j _ _ b hz hj xP h1.symm)
   ·rw[mo] at h1
    have:=(World.ownsRow.lt (hX.row _ (gQ hz)) b xP).2
    simp at h1;omega
  rcases get i y hy with ⟨e1,rfl⟩ | ⟨e1,h1⟩
  ·rcases get i' y' hy' with ⟨e2,rfl⟩ | ⟨e2,h2⟩
   ·rw[e1,e2]
   ·exact (clash i' y' e2 h2 hb' hb).elim
  ·rcases get i' y' hy' with ⟨e2,rfl⟩ | ⟨e2,h2⟩
   ·exact (clash i y e1 h1 hb hb').elim
   ·exact hX.apart i i' y y' b h1 h2 hb hb'
structure RangeX(base r I:Nat)(xs:List ga)(seen:Array Nat)(w:World):Prop where
 mapX:MapX base r xs w
 iter:w.heap[I]?=some (.mapIter (some r) xs.length seen xs.length)
 row:∀ x∈xs,x.2.2.ownBlock≠some I
theorem RangeX.ne{base r I:Nat}{xs:List ga}{seen:Array Nat}{w:World}(h:RangeX base r I xs seen w):I≠r:=by
 obtain⟨es,h1,_⟩:=h.mapX.map;intro e
 have:=h.iter
 rw[e,h1] at this
 cases this
theorem RangeX.lt{base r I:Nat}{xs:List ga}{seen:Array Nat}{w:World}(h:RangeX base r I xs seen w):I<w.heap.size:=(eQ.1 h.iter).1
theorem RangeX.keep{base r I:Nat}{xs:List ga}{seen:Array Nat}{w w':World}(h:RangeX base r I xs seen w)(hb:Below w.heap.size w w'):RangeX base r I xs seen w':=⟨h.mapX.keep hb,(hb.block I h.lt).trans h.iter,h.row⟩
theorem RangeX.changed{base r I:Nat}{xs:List ga}{seen:Array Nat}{w w':World}(h:RangeX base r I xs seen w)(hr:r<base){j:Nat}{p:Int×List UInt8}{g g':List Np.Span}{v:Value}(hj:xs[j]?=some (p,g,v))(hg:w.grownBy w' v.ownBlock)(ho:aJ base w' v g'):RangeX base r I (xs.set j (p,g',v)) seen w':=by
 have hv:=h.row _ (gQ hj);refine⟨h.mapX.changed hr hj hg ho,?_,λx hx=>?_⟩
 ·rw[List.length_set];exact (hg.block I h.lt (λe=>hv e.symm)).trans h.iter
 ·obtain⟨i,hi,rfl⟩:=nQ.1 hx;rw[List.length_set] at hi;rw[List.getElem_set];split
  ·exact hv
  ·exact h.row _ (List.getElem_mem hi)
theorem MapX.size{base r:Nat}{xs:List ga}{w:World}(h:MapX base r xs w):∃ es,w.heap[r]?=some (.map es xs.length)/\es.size=xs.length/\es.toList.map (λe=>(e.key,e.val))=(xs.map λx=>(x.1,x.2.2)).map (λp=>(pH p.1,p.2))/\∀ (i:Nat) (e:MapEntry),es[i]?=some e->e.born=i:=by
 obtain⟨es,h1,h2,h3⟩:=h.map;have an:es.size=xs.length:=by
  have:=Qd List.length h2
  simpa using this
 exact⟨es,by rw[<-an];exact h1,an,h2,h3⟩
theorem aWK(w:World)(hg:o.guard=none)(m:Operand)(kB:o.op=Op.range 184 m)(base r:Nat)(xs:List ga)(hm:a.eval m = .map (some r))(hX:MapX base r xs w)
 (hK:∀ w',RangeX base r w.heap.size xs #[] w'->Below w.heap.size w w'->w'.heap.size=w.heap.size+1->wpList prog ops Q rest (a.put o.dst (.pointer (some ⟨w.heap.size,0,none⟩))) w'):wpList prog ops Q (o::rest) a w:=by
 obtain⟨es,hes,an,_⟩:=hX.size;have dS:=run_range_map (P:=prog) w 184 _ _ r es xs.length underlying184 hes;refine wpList_plain hg λK' hK'=>?_;unfold Oper.wp;simp[execOp,kB,hm,dS,Result.andThen];have hb:Below w.heap.size w (w.alloc (.mapIter (some r) xs.length #[] xs.length)):=(vQ _ _).alloc (bQ _) _;refine hK' _ _ (hK _ ⟨hX.keep hb,heap_alloc_new _ _,λx hx e=>?_⟩ hb (by simp))
 have:=(World.ownsRow.lt (hX.row x hx) _ e).2
 omega
theorem RQ{w w':World}{r I:Nat}(h1:w'.heap[r]?=w.heap[r]?)(h2:w'.heap[I]?=w.heap[I]?):w'.rangeLeft r I=w.rangeLeft r I:=by
 unfold World.rangeLeft;rw[h1,h2]
theorem aWJ(w:World)(hg:o.guard=none)(it:Operand)(kB:o.op=Op.next it false)(base r I:Nat)(xs:List ga)(seen:Array Nat)(hit:a.eval it = .pointer (some ⟨I,0,none⟩))(h:RangeX base r I xs seen w)
 (XT:(∀ j,j<xs.length->seen.contains j=true)->wpList prog ops Q rest (a.put o.dst (.tuple #[.bool false])) w)
 (XY:∀ (j:Nat) (p:Int×List UInt8) (g:List Np.Span) (v:Value) (w':World),xs[j]?=some (p,g,v)->RangeX base r I xs (seen.push j) w'->Turned I w w'->w'.rangeLeft r I<w.rangeLeft r I->(Instr.entry (.pointer (some ⟨I,0,none⟩))).run prog w' = .ok (.tuple #[pH p,v]) w'->wpList prog ops Q rest (a.put o.dst (.tuple #[.bool true,pH p,v])) w') :
 wpList prog ops Q (o::rest) a w:=by
 have hne:=h.ne;obtain⟨es,hes,an,he,iO⟩:=h.mapX.size;have hold:∀ x∈es.toList,x.born<xs.length:=λx hx=>by
  obtain⟨i,hi,rfl⟩:=nQ.1 hx;have hi':i<es.size:=by simpa using hi
  have:=iO i es[i] (pQ hi')
  simp only[Array.getElem_toList];omega
 refine wpList_plain hg λK' hK'=>?_;unfold Oper.wp;rcases run_next_at (P:=prog) w o.type I r xs.length xs.length seen es xs.length h.iter hes hold (bQ _) with ⟨h0,dS⟩ | ⟨e,xe,w1,je,dS⟩
 ·simp[execOp,kB,hit,dS,Result.andThen];refine hK' _ _ (XT λj hj=>?_);have h1:=all_seen es seen h0 es[j] (by simp);rwa [iO j es[j] (pQ (by omega))] at h1
 ·obtain⟨hem,a4K⟩:=mem_left xe;obtain⟨j,hj,sS⟩:=nQ.1 hem;have hj':j<es.size:=by simpa using hj
  have PO:es[j]?=some e:=by rw[pQ hj',<-sS];simp
  have Jw:=iO j e PO;obtain⟨⟨p,g,v⟩,hx⟩:∃ x,xs[j]?=some x:=⟨_,aQ (by omega)⟩;have Zi:e.key=pH p/\e.val=v:=by
   have hi:=Qd (λl=>l[j]?) he;simp only[List.getElem?_map,Array.getElem?_toList] at hi;rw[PO,hx] at hi;simpa using hi
  obtain⟨bI,jN⟩:=Zi;rw[Jw] at dS;have gJ:w1.heap[I]?=some (.mapIter (some r) xs.length seen xs.length):=by rcases je with rfl | rfl <;> exact h.iter
  have Jb:I<w1.heap.size:=(eQ.1 gJ).1;have ay:w1.heap[r]?=some (.map es xs.length):=by rcases je with rfl | rfl <;> exact hes
  have aI:Below w.heap.size w w1:=by rcases je with rfl | rfl;exact vQ _ _;exact (vQ _ _).drew
  have uH:w1.heap.size=w.heap.size:=by rcases je with rfl | rfl <;> rfl
  obtain⟨w2,aj⟩:=acJ (Go.ChangeMaps.setBlock w1 I (.mapIter (some r) xs.length (seen.push j) xs.length));have wP:w2.heap[I]?=some (.mapIter (some r) xs.length (seen.push j) xs.length):=by rw[<-aj];simp[Go.ChangeMaps.setBlock,Jb]
  have Qi:∀ i,i≠I->w2.heap[i]?=w1.heap[i]?:=λi hi=>by rw[<-aj];simp[Go.ChangeMaps.setBlock,Ne.symm hi]
  have bX:w1.heap=w.heap:=by rcases je with rfl | rfl <;> rfl
  have lO:Turned I w w2:=⟨by rw[<-aj];exact aI.os,by rw[<-aj];exact aI.tape,by rw[<-aj];exact aI.output,by rw[<-aj];simp[Go.ChangeMaps.setBlock,uH],λi hi=>by rw[Qi i hi,bX]⟩;have ac:w2.heap[r]?=some (.map es xs.length):=(Qi r (Ne.symm hne)).trans ay;rw[aj] at dS;simp[execOp,kB,hit,dS,Result.andThen];rw[bI,jN];refine hK' _ _ (XY j p g v w2 hx ⟨h.mapX.turned lO hne h.row,wP,h.row⟩ lO ?_ ?_)
  ·have:=left_shrinks es seen e xe
   rw[Jw] at this;unfold World.rangeLeft;rw[ac,wP,hes,h.iter];exact this
  ·have mg:(es.toList.map (·.born)).Nodup:=by
    rw[List.nodup_iff_pairwise_ne,List.pairwise_iff_getElem];intro i k hi hk hik;have hi':i<es.size:=by simpa using hi
    have hk':k<es.size:=by simpa using hk
    have h1:=iO i es[i] (pQ hi');have h2:=iO k es[k] (pQ hk');simp only[List.getElem_map,Array.getElem_toList];omega
   have:=run_entry_at (P:=prog) w2 I r xs.length seen es xs.length e (by rw[Jw];exact wP) ac hem mg
   rw[bI,jN] at this;exact this
end
end
end Go.Proofs.YtfnopgdcaanaiaaGreatDoor
