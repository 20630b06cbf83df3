/- Parts of the proof. No condition. -/
import Derived.Maps.RangeWalk
import Derived.Test.YtfnopgdcaanaiaaGreatDoorH07
import Derived.Test.YtfnopgdcaanaiaaGreatDoorH08
import Derived.Test.YtfnopgdcaanaiaaGreatDoorH09
import Derived.Test.YtfnopgdcaanaiaaGreatDoorH10
set_option linter.all false
set_option maxRecDepth 100000
set_option maxHeartbeats 8000000
namespace Go.Proofs.YtfnopgdcaanaiaaGreatDoor
open Go.Proofs.Tryz
section
open Go.RowKit Go.MapKept Go.Shelf
theorem Wr{α β:Type}[BEq α][LawfulBEq α](l:List (α×β))(p:α)(h:l.lookup p=none):p∉l.map (·.1):=by
 induction l with
 | nil=>simp
 | cons z zs ih=>
  rw[List.lookup_cons] at h
  cases hb:(p == z.1) with
  | true=>rw[hb] at h;simp at h
  | false=>
   rw[hb] at h;have hne:p≠z.1:=by simpa using hb
   simp only[List.map_cons,List.mem_cons,not_or];exact⟨hne,ih h⟩
abbrev eC:=(Int×List UInt8)×List Np.Span×Value
structure MapX(base r:Nat)(xs:List eC)(w:World):Prop where
 map:ml r (xs.map λx=>(x.1,x.2.2)) w
 row:∀ x∈xs,aK base w x.2.2 x.2.1
 apart:∀ (i j:Nat) (x y:eC) (g:Nat),xs[i]?=some x->xs[j]?=some y->x.2.2.ownBlock=some g->y.2.2.ownBlock=some g->i=j
theorem MapX.keep{base r:Nat}{xs:List eC}{w w':World}(h:MapX base r xs w)(hb:Below w.heap.size w w'):MapX base r xs w':=⟨h.map.keep hb h.map.lt,λx hx=>(h.row x hx).keep hb,h.apart⟩
theorem MapX.made(base:Nat)(w:World):MapX base w.heap.size [] (w.alloc (.map #[] 0)):=⟨ml.made w,λx hx=>(by cases hx),λi j x y g h=>by simp at h⟩
theorem aK.turned{base r:Nat}{w w':World}{v:Value}{ps:List Np.Span}(h:aK base w v ps)(ht:Turned r w w')(hr:r<base):aK base w' v ps:=ga h (λg hg=>ht.block g (by have:=(h.lt g hg).1;omega))
theorem MapX.turned{base r I:Nat}{xs:List eC}{w w':World}(h:MapX base r xs w)(ht:Turned I w w')(hI:I≠r)(hrow:∀ x∈xs,x.2.2.ownBlock≠some I):MapX base r xs w':=
 ⟨h.map.keep' (ht.block r (Ne.symm hI)),λx hx=>ga (h.row x hx) (λg hg=>ht.block g (λe=>hrow x hx (by rw[hg,e]))),h.apart⟩
theorem MapX.changed{base r:Nat}{xs:List eC}{w w':World}(h:MapX base r xs w)(hr:r<base){j:Nat}{p:Int×List UInt8}{g g':List Np.Span}{v:Value}(hj:xs[j]?=some (p,g,v))(hg:w.grownBy w' v.ownBlock)(ho:aK base w' v g'):MapX base r (xs.set j (p,g',v)) w':=by
 have hv:=h.row _ (gQ hj);refine⟨?_,λx hx=>?_,λi i' x y b hx hy=>?_⟩
 ·have e:(xs.set j (p,g',v)).map (λx:eC=>(x.1,x.2.2))=xs.map λx=>(x.1,x.2.2):=by
   rw[List.map_set];apply List.ext_getElem?;intro i;rw[List.getElem?_set];split
   ·rename_i e;subst e;rw[List.length_map,Qb (cQ.1 hj).1,List.getElem?_map,hj];rfl
   ·rfl
  rw[e];refine h.map.keep' (hg.block r h.map.lt λe2=>?_)
  have:=(World.ownsRow.lt hv r e2.symm).1
  omega
 ·obtain⟨i,hi,rfl⟩:=nQ.1 hx;rw[List.length_set] at hi;rw[List.getElem_set];split
  ·exact ho
  ·rename_i hne;refine ga (h.row _ (List.getElem_mem hi)) λb hb=>hg.block b (World.ownsRow.lt (h.row _ (List.getElem_mem hi)) b hb).2 λe2=>hne ?_;exact h.apart j i _ _ b hj (aQ hi) e2.symm hb
 ·intro hb hb';have get:∀ (k:Nat) (z:eC),(xs.set j (p,g',v))[k]?=some z->∃ z',xs[k]?=some z'/\z'.2.2=z.2.2:=λk z hz=>by
   rw[List.getElem?_set] at hz;split at hz
   ·rename_i e;subst e;rw[Qb (cQ.1 hj).1] at hz
    cases hz
    exact⟨_,hj,rfl⟩
   ·exact⟨z,hz,rfl⟩
  obtain⟨x',hx',ex⟩:=get i x hx;obtain⟨y',hy',ey⟩:=get i' y hy;exact h.apart i i' x' y' b hx' hy' (by rw[ex];exact hb) (by rw[ey];exact hb')
theorem V3(p:Int×List UInt8)(P:Program)(w:World):(Instr.keyThatStays (pH p) (pH p)).run P w = .ok (pH p) w:=by
 have h1:∀ a:ByteArray,(a == a)=true:=λa=>by
  show (a.data == a.data)=true;simp
 have:Instr.sameBits 10000 (pH p) (pH p)=true:=by
  rw[show (10000:Nat)=9998+1+1 from rfl];simp[Instr.sameBits,pH,aB,h1]
 simp[Instr.keyThatStays,this]
section
variable {ops:Array Oper} {rest:List Oper} {o:Oper} {a:Act} {Q:Exit->Act->World->Prop}
theorem Z0(w:World)(hg:o.guard=none)(m x:Operand)(iV:o.op=Op.mapEntry 184 m x)(base r:Nat)(xs:List eC)(hm:a.eval m = .map (some r))(hr:MapX base r xs w)(yO:r<base)(p:Int×List UInt8)(hx:a.eval x=pH p)
 (hK:∀ (w':World) (j:Nat) (g:List Np.Span) (v:Value) (xs':List eC),((xs'=xs/\xs[j]?=some (p,g,v))\/(p∉xs.map (·.1)/\xs'=xs ++ [(p,[],.slice none 0 0)]/\j=xs.length/\g = []/\v = .slice none 0 0))->xs'[j]?=some (p,g,v)->MapX base r xs' w'->Turned r w w'->wpList prog ops Q rest (a.put o.dst (.tuple #[v,.int .i64 (j:Int)])) w'):wpList prog ops Q (o::rest) a w:=by
 obtain⟨es,hes,he,jW⟩:=hr.map;have ht:=underlying184;have hl:r<w.heap.size:=(eQ.1 hes).1;have hf:=Sp p w es.toList _ he;have hc:(Instr.checkKey false 10000 186 (pH p)).run prog w = .ok () w:=RA false p w;refine wpList_plain hg λK' hK'=>?_
 cases eI:(xs.map λx:eC=>(x.1,x.2.2)).lookup p with
 | some v=>
  obtain⟨j,j1,j2,hj⟩:=hf.1 v eI;obtain⟨e,jy,jY⟩:=Option.map_eq_some_iff.1 j1;rw[Array.getElem?_toList] at jy;simp only[Prod.mk.injEq] at jY;rw[List.getElem?_map] at j2;obtain⟨y,p9,lq⟩:=Option.map_eq_some_iff.1 j2;obtain⟨p',g,v'⟩:=y;simp only[Prod.mk.injEq] at lq;obtain⟨rfl,rfl⟩:=lq;have rg:(Instr.keyThatStays (((es[j]?).map (·.key)).getD (pH p')) (pH p')).run prog w = .ok (pH p') w:=by
   rw[jy];simp only[Option.map_some,Option.getD_some];rw[jY.1];exact V3 _ _ w
  have az:((es[j]?).map (λx=>(x.born:Int))).getD 0=(j:Int):=by
   rw[jy];simp[jW j e jy]
  have BH:(es.modify j λe=>{ e with key:=pH p' })=es:=by
   apply Array.ext_getElem?;intro i;rw[Array.getElem?_modify];split
   ·rename_i dp;subst dp;rw[jy];simp[<-jY.1]
   ·rfl
  have cI:(Instr.mapEntry 184 (.map (some r)) (pH p')).run prog w = .ok (.tuple #[v',.int .i64 (j:Int)]) { w with heap:=w.heap.setIfInBounds r (.map es es.size) }:=by
   simp[Instr.mapEntry,run_underlying ht,MapKept.run_getObj_map hes,hc,hj,rg,MapKept.run_setObj_map _ hes,Result.andThen,BH,az,goInt]
  unfold Oper.wp;simp[execOp,iV,hm,hx,cI,Result.andThen];have ka:Turned r w { w with heap:=w.heap.setIfInBounds r (.map es es.size) }:=⟨rfl,rfl,rfl,by simp,λi hi=>by simp[Ne.symm hi]⟩;refine hK' _ _ (hK _ j g v' xs (.inl ⟨rfl,p9⟩) p9 ⟨⟨es,by simp[hl],he,jW⟩,λx hx=>(hr.row x hx).turned ka yO,hr.apart⟩ ka)
 | none=>
  have hn:=hf.2 eI;have cI:(Instr.mapEntry 184 (.map (some r)) (pH p)).run prog w = .ok (.tuple #[.slice none 0 0,.int .i64 (es.size:Int)]) { w with heap:=w.heap.setIfInBounds r (.map (es.push { key:=pH p,val:=.slice none 0 0,born:=es.size }) (es.size+1)) }:=by
   simp[Instr.mapEntry,run_underlying ht,MapKept.run_getObj_map hes,hc,hn,MapKept.run_setObj_map _ hes,Result.andThen,goInt]
  have an:es.size=xs.length:=by
   have:=Qd List.length he
   simpa using this
  have Uy:p∉xs.map (·.1):=by
   have:=Wr _ _ eI
   rw[List.map_map] at this;exact this
  unfold Oper.wp;simp[execOp,iV,hm,hx,cI,Result.andThen];have ka:Turned r w { w with heap:=w.heap.setIfInBounds r (.map (es.push { key:=pH p,val:=.slice none 0 0,born:=es.size }) (es.size+1)) }:=⟨rfl,rfl,rfl,by simp,λi hi=>by simp[Ne.symm hi]⟩;refine hK' _ _ (hK _ es.size [] (.slice none 0 0) (xs ++ [(p,[],.slice none 0 0)]) (.inr ⟨Uy,rfl,an,rfl,rfl⟩) (by rw[an];simp) ⟨⟨es.push { key:=pH p,val:=.slice none 0 0,born:=es.size },by simp[hl],by simp[he],λi e hi=>?_⟩,λx hx=>?_,λi j x y b hx hy eF gG=>?_⟩ ka)
  ·rw[Array.getElem?_push] at hi;split at hi
   ·rename_i h1;cases hi;exact h1.symm
   ·exact jW i e hi
  ·rcases List.mem_append.1 hx with hx | hx
   ·exact (hr.row x hx).turned ka yO
   ·rw[List.mem_singleton] at hx;subst hx;exact aK.nil _ _
  ·have get:∀ (k:Nat) (z:eC),(xs ++ [(p,[],Value.slice none 0 0)])[k]?=some z->z.2.2.ownBlock=some b->xs[k]?=some z:=λk z hz vu=>by
    rw[List.getElem?_append] at hz;split at hz
    ·exact hz
    ·have:=gQ hz
     rw[List.mem_singleton] at this;subst this;simp[Value.ownBlock] at vu
   exact hr.apart i j x y b (get i x hx eF) (get j y hy gG) eF gG
end
section
variable {ops:Array Oper} {rest:List Oper} {o:Oper} {a:Act} {Q:Exit->Act->World->Prop}
theorem ZW(w:World)(gT:o.guard=none)(s x:Operand)(ho:o.op = .call { callee:=.builtin .append,args:=#[s,x],argTypes:=#[55,55] })
 (base:Nat) (v:Value) (ps:List Np.Span) (hs:a.eval s=v) (hown:aK base w v ps) (blk:Nat) (f u:Int) (hx:a.eval x = .slice (some ⟨blk,0,none⟩) 1 1) (hc:w.cell? ⟨blk,0,none⟩=some (.int .i64 f)) (bw:w.cell? ⟨blk,1,none⟩=some (.int .i64 u)) (hlen:ps.length<=100000) (dD:base<=w.heap.size)
 (h:∀ v' w',aK base w' v' (ps ++ [⟨f,u⟩])->w.grownBy w' v.ownBlock->(v'.ownBlock=v.ownBlock\/v'.ownBlock=some w.heap.size)->wpList prog ops Q rest (a.put o.dst v') w'):wpList prog ops Q (o::rest) a w:=by
 obtain⟨i0,hi,eM,bj,aJ⟩:=info_parts Tryz.infoSpan;refine wpList_append_own_at w gT s x 55 ho base 110 i0 (.agg #[.int .i64 0,.int .i64 0]) 2 16 underlying55 hi eM bj aJ rfl (by decide) v ps.length (ps.map eZ).flatten hs hown ⟨blk,0,none⟩ 1 1 [.int .i64 f,.int .i64 u] hx rfl ?_ (by simp[Value.oneCell']) (by unfold maxLen;omega) (by omega) dD ?_
 ·intro j y hj
  match j,hj with
  | 0,hj=>simp at hj;subst hj;simpa [Addr.add] using hc
  | 1,hj=>simp at hj;subst hj;simpa [Addr.add] using bw
  | j+2,hj=>simp at hj
 ·intro v' w' ho' hg _ hat;refine h v' w' ?_ hg hat;have e:(ps ++ [(⟨f,u⟩:Np.Span)]).length=ps.length+1:=by simp
  unfold aK;rw[e,List.map_append,List.flatten_append];exact ho'
theorem ZZ(w w0:World)(gT:o.guard=none)(m s x:Operand)(iV:o.op=Op.entryStore 184 m s x)(base r:Nat)(xs:List eC)(hX:MapX base r xs w0)(yO:r<base)(j:Nat)(p:Int×List UInt8)(g g':List Np.Span)(v v':Value)
 (hj:xs[j]?=some (p,g,v)) (hg:w0.grownBy w v.ownBlock) (ho:aK base w v' g') (hat:v'.ownBlock=v.ownBlock\/v'.ownBlock=some w0.heap.size) (hm:a.eval m = .map (some r)) (hs:a.eval s = .int .i64 (j:Int)) (hx:a.eval x=v')
 (hK:∀ w',MapX base r (xs.set j (p,g',v')) w'->Turned r w w'->wpList prog ops Q rest (a.put o.dst undef) w'):wpList prog ops Q (o::rest) a w:=by
 obtain⟨es,KC,he,jW⟩:=hX.map;have ri:r<w0.heap.size:=(eQ.1 KC).1;have hv:=hX.row _ (gQ hj);have hes:w.heap[r]?=some (.map es es.size):=(hg.block r ri (λe2=>by have:=(World.ownsRow.lt hv r e2.symm).1;omega)).trans KC;have hl:r<w.heap.size:=(eQ.1 hes).1;have an:es.size=xs.length:=by
  have:=Qd List.length he
  simpa using this
 have lR:j<xs.length:=(cQ.1 hj).1;have TZ:es.findIdx? (λe=>(e.born:Int) == (j:Int))=some j:=by
  rw[Array.findIdx?_eq_some_iff_getElem];refine⟨by omega,?_,λi hi=>?_⟩
  ·have:=jW j _ (pQ (by omega))
   simp[this]
  ·have:=jW i _ (pQ (by omega))
   simp[this];omega
 refine wpList_plain gT λK' hK'=>?_;have cI:(Instr.entryStore 184 (.map (some r)) (.int .i64 (j:Int)) v').run prog w = .ok () { w with heap:=w.heap.setIfInBounds r (.map (es.modify j λe=>{ e with val:=v' }) es.size) }:=by
  simp[Instr.entryStore,MapKept.run_getObj_map hes,TZ,asInt,asIntOf,MapKept.run_setObj_map _ hes,Result.andThen]
 unfold Oper.wp;simp[execOp,iV,hm,hs,hx,cI,Result.andThen];have ka:Turned r w { w with heap:=w.heap.setIfInBounds r (.map (es.modify j λe=>{ e with val:=v' }) es.size) }:=⟨rfl,rfl,rfl,by simp,λi hi=>by simp[Ne.symm hi]⟩;refine hK' _ _ (hK _ ⟨⟨es.modify j λe=>{ e with val:=v' },by simp[hl],?_,λi e hi=>?_⟩,λy hy=>?_,λi i' y y' b hy hy' hb hb'=>?_⟩ ka)
 ·apply List.ext_getElem?;intro i;have hi:=Qd (λl=>l[i]?) he;simp only[List.getElem?_map,Array.getElem?_toList] at hi |-;rw[Array.getElem?_modify,List.getElem?_set];by_cases dp:j=i
  ·subst dp;rw[hj] at hi;rw[Qb rfl,Qb rfl,Qb lR];obtain⟨e,jy⟩:∃ e,es[j]?=some e:=⟨_,pQ (by omega)⟩;rw[jy] at hi |-;simp at hi |-;exact hi.1
  ·rw[Qc dp,Qc dp];simpa using hi
 ·rw[Array.getElem?_modify] at hi;split at hi
  ·rename_i dp;subst dp;obtain⟨e',he',rfl⟩:=Option.map_eq_some_iff.1 hi;exact jW j e' he'
  ·exact jW i e hi
 ·obtain⟨i,hi,rfl⟩:=nQ.1 hy;rw[List.length_set] at hi;rw[List.getElem_set];split
  ·exact ho.turned ka yO
  ·rename_i hne;have h1:=hX.row _ (List.getElem_mem hi);have h2:aK base w xs[i].2.2 xs[i].2.1:=ga h1 λb hb=>hg.block b (World.ownsRow.lt h1 b hb).2 λe2=>hne (hX.apart j i _ _ b hj (aQ hi) e2.symm hb);exact h2.turned ka yO
 ·have get:∀ (k:Nat) (z:eC),(xs.set j (p,g',v'))[k]?=some z->(k=j/\z=(p,g',v'))\/(k≠j/\xs[k]?=some z):=λk z hz=>by
   rw[List.getElem?_set] at hz;split at hz
   ·rename_i e;subst e
    first
     | (rw[Qb lR] at hz;cases hz;exact .inl ⟨rfl,rfl⟩)
     | (cases hz;exact .inl ⟨rfl,rfl⟩)
   ·rename_i e;exact .inr ⟨λe2=>e e2.symm,hz⟩
  have clash:∀ (k:Nat) (z:eC),k≠j->xs[k]?=some z->z.2.2.ownBlock=some b->v'.ownBlock=some b->False:=λk z hk hz vu pX=>by
   rcases hat with h1 | h1
   ·rw[pX] at h1;exact hk (hX.apart k j _ _ b hz hj vu h1.symm)
   ·rw[pX] at h1
    have:=(World.ownsRow.lt (hX.row _ (gQ hz)) b vu).2
    simp at h1;omega
  rcases get i y hy with ⟨e1,rfl⟩ | ⟨e1,h1⟩
  ·rcases get i' y' hy' with ⟨e2,rfl⟩ | ⟨e2,h2⟩
   ·rw[e1,e2]
   ·exact (clash i' y' e2 h2 hb' hb).elim
  ·rcases get i' y' hy' with ⟨e2,rfl⟩ | ⟨e2,h2⟩
   ·exact (clash i y e1 h1 hb hb').elim
   ·exact hX.apart i i' y y' b h1 h2 hb hb'
structure RangeX(base r I:Nat)(xs:List eC)(seen:Array Nat)(w:World):Prop where
 mapX:MapX base r xs w
 iter:w.heap[I]?=some (.mapIter (some r) xs.length seen xs.length)
 row:∀ x∈xs,x.2.2.ownBlock≠some I
theorem RangeX.ne{base r I:Nat}{xs:List eC}{seen:Array Nat}{w:World}(h:RangeX base r I xs seen w):I≠r:=by
 obtain⟨es,h1,_⟩:=h.mapX.map;intro e
 have:=h.iter
 rw[e,h1] at this
 cases this
theorem RangeX.lt{base r I:Nat}{xs:List eC}{seen:Array Nat}{w:World}(h:RangeX base r I xs seen w):I<w.heap.size:=(eQ.1 h.iter).1
theorem RangeX.keep{base r I:Nat}{xs:List eC}{seen:Array Nat}{w w':World}(h:RangeX base r I xs seen w)(hb:Below w.heap.size w w'):RangeX base r I xs seen w':=⟨h.mapX.keep hb,(hb.block I h.lt).trans h.iter,h.row⟩
theorem RangeX.changed{base r I:Nat}{xs:List eC}{seen:Array Nat}{w w':World}(h:RangeX base r I xs seen w)(hr:r<base){j:Nat}{p:Int×List UInt8}{g g':List Np.Span}{v:Value}(hj:xs[j]?=some (p,g,v))(hg:w.grownBy w' v.ownBlock)(ho:aK base w' v g'):RangeX base r I (xs.set j (p,g',v)) seen w':=by
 have hv:=h.row _ (gQ hj);refine⟨h.mapX.changed hr hj hg ho,?_,λx hx=>?_⟩
 ·rw[List.length_set];exact (hg.block I h.lt (λe=>hv e.symm)).trans h.iter
 ·obtain⟨i,hi,rfl⟩:=nQ.1 hx;rw[List.length_set] at hi;rw[List.getElem_set];split
  ·exact hv
  ·exact h.row _ (List.getElem_mem hi)
theorem MapX.size{base r:Nat}{xs:List eC}{w:World}(h:MapX base r xs w):∃ es,w.heap[r]?=some (.map es xs.length)/\es.size=xs.length/\es.toList.map (λe=>(e.key,e.val))=(xs.map λx=>(x.1,x.2.2)).map (λp=>(pH p.1,p.2))/\∀ (i:Nat) (e:MapEntry),es[i]?=some e->e.born=i:=by
 obtain⟨es,h1,h2,h3⟩:=h.map;have an:es.size=xs.length:=by
  have:=Qd List.length h2
  simpa using this
 exact⟨es,by rw[<-an];exact h1,an,h2,h3⟩
theorem Z2(w:World)(hg:o.guard=none)(m:Operand)(iV:o.op=Op.range 184 m)(base r:Nat)(xs:List eC)(hm:a.eval m = .map (some r))(hX:MapX base r xs w)
 (hK:∀ w',RangeX base r w.heap.size xs #[] w'->Below w.heap.size w w'->w'.heap.size=w.heap.size+1->wpList prog ops Q rest (a.put o.dst (.pointer (some ⟨w.heap.size,0,none⟩))) w'):wpList prog ops Q (o::rest) a w:=by
 obtain⟨es,hes,an,_⟩:=hX.size;have cI:=run_range_map (P:=prog) w 184 _ _ r es xs.length underlying184 hes;refine wpList_plain hg λK' hK'=>?_;unfold Oper.wp;simp[execOp,iV,hm,cI,Result.andThen];have hb:Below w.heap.size w (w.alloc (.mapIter (some r) xs.length #[] xs.length)):=(vQ _ _).alloc (bQ _) _;refine hK' _ _ (hK _ ⟨hX.keep hb,heap_alloc_new _ _,λx hx e=>?_⟩ hb (by simp))
 have:=(World.ownsRow.lt (hX.row x hx) _ e).2
 omega
theorem M2{w w':World}{r I:Nat}(h1:w'.heap[r]?=w.heap[r]?)(h2:w'.heap[I]?=w.heap[I]?):w'.rangeLeft r I=w.rangeLeft r I:=by
 unfold World.rangeLeft;rw[h1,h2]
theorem Z1(w:World)(hg:o.guard=none)(it:Operand)(iV:o.op=Op.next it false)(base r I:Nat)(xs:List eC)(seen:Array Nat)(hit:a.eval it = .pointer (some ⟨I,0,none⟩))(h:RangeX base r I xs seen w)
 (SU:(∀ j,j<xs.length->seen.contains j=true)->wpList prog ops Q rest (a.put o.dst (.tuple #[.bool false])) w)
 (SZ:∀ (j:Nat) (p:Int×List UInt8) (g:List Np.Span) (v:Value) (w':World),xs[j]?=some (p,g,v)->RangeX base r I xs (seen.push j) w'->Turned I w w'->w'.rangeLeft r I<w.rangeLeft r I->(Instr.entry (.pointer (some ⟨I,0,none⟩))).run prog w' = .ok (.tuple #[pH p,v]) w'->wpList prog ops Q rest (a.put o.dst (.tuple #[.bool true,pH p,v])) w') :
 wpList prog ops Q (o::rest) a w:=by
 have hne:=h.ne;obtain⟨es,hes,an,he,jW⟩:=h.mapX.size;have hold:∀ x∈es.toList,x.born<xs.length:=λx hx=>by
  obtain⟨i,hi,rfl⟩:=nQ.1 hx;have hi':i<es.size:=by simpa using hi
  have:=jW i es[i] (pQ hi')
  simp only[Array.getElem_toList];omega
 refine wpList_plain hg λK' hK'=>?_;unfold Oper.wp;rcases run_next_at (P:=prog) w o.type I r xs.length xs.length seen es xs.length h.iter hes hold (bQ _) with ⟨h0,cI⟩ | ⟨e,tr,w1,jV,cI⟩
 ·simp[execOp,iV,hit,cI,Result.andThen];refine hK' _ _ (SU λj hj=>?_);have h1:=all_seen es seen h0 es[j] (by simp);rwa [jW j es[j] (pQ (by omega))] at h1
 ·obtain⟨hem,agJ⟩:=mem_left tr;obtain⟨j,hj,pI⟩:=nQ.1 hem;have hj':j<es.size:=by simpa using hj
  have KS:es[j]?=some e:=by rw[pQ hj',<-pI];simp
  have E9:=jW j e KS;obtain⟨⟨p,g,v⟩,hx⟩:∃ x,xs[j]?=some x:=⟨_,aQ (by omega)⟩;have Uo:e.key=pH p/\e.val=v:=by
   have hi:=Qd (λl=>l[j]?) he;simp only[List.getElem?_map,Array.getElem?_toList] at hi;rw[KS,hx] at hi;simpa using hi
  obtain⟨bM,iR⟩:=Uo;rw[E9] at cI;have fk:w1.heap[I]?=some (.mapIter (some r) xs.length seen xs.length):=by rcases jV with rfl | rfl <;> exact h.iter
  have EP:I<w1.heap.size:=(eQ.1 fk).1;have az:w1.heap[r]?=some (.map es xs.length):=by rcases jV with rfl | rfl <;> exact hes
  have aG:Below w.heap.size w w1:=by rcases jV with rfl | rfl;exact vQ _ _;exact (vQ _ _).drew
  have rB:w1.heap.size=w.heap.size:=by rcases jV with rfl | rfl <;> rfl
  obtain⟨w2,ai⟩:∃ w2,Go.ChangeMaps.setBlock w1 I (.mapIter (some r) xs.length (seen.push j) xs.length)=w2:=⟨_,rfl⟩;have tg:w2.heap[I]?=some (.mapIter (some r) xs.length (seen.push j) xs.length):=by rw[<-ai];simp[Go.ChangeMaps.setBlock,EP]
  have Lg:∀ i,i≠I->w2.heap[i]?=w1.heap[i]?:=λi hi=>by rw[<-ai];simp[Go.ChangeMaps.setBlock,Ne.symm hi]
  have aH:w1.heap=w.heap:=by rcases jV with rfl | rfl <;> rfl
  have ka:Turned I w w2:=⟨by rw[<-ai];exact aG.os,by rw[<-ai];exact aG.tape,by rw[<-ai];exact aG.output,by rw[<-ai];simp[Go.ChangeMaps.setBlock,rB],λi hi=>by rw[Lg i hi,aH]⟩;have ac:w2.heap[r]?=some (.map es xs.length):=(Lg r (Ne.symm hne)).trans az;rw[ai] at cI;simp[execOp,iV,hit,cI,Result.andThen];rw[bM,iR];refine hK' _ _ (SZ j p g v w2 hx ⟨h.mapX.turned ka hne h.row,tg,h.row⟩ ka ?_ ?_)
  ·have:=left_shrinks es seen e tr
   rw[E9] at this;unfold World.rangeLeft;rw[ac,tg,hes,h.iter];exact this
  ·have oz:(es.toList.map (·.born)).Nodup:=by
    rw[List.nodup_iff_pairwise_ne,List.pairwise_iff_getElem];intro i k hi hk hik;have hi':i<es.size:=by simpa using hi
    have hk':k<es.size:=by simpa using hk
    have h1:=jW i es[i] (pQ hi');have h2:=jW k es[k] (pQ hk');simp only[List.getElem_map,Array.getElem_toList];omega
   have:=run_entry_at (P:=prog) w2 I r xs.length seen es xs.length e (by rw[E9];exact tg) ac hem oz
   rw[bM,iR] at this;exact this
end
end
section
open Go.RowKit
theorem WJ(a b:ByteArray)(n1 n2 n3 n4 m1 m2 m3 m4:Int)(s1 s2:Int)(w:World):(binOp .neq 50 (.agg #[.string a,.int .i64 n1,.int .i64 n2,.int .i64 n3,.int .i64 n4,.int .u64 s1]) (.agg #[.string b,.int .i64 m1,.int .i64 m2,.int .i64 m3,.int .i64 m4,.int .u64 s2])).run prog w = .ok (.bool (!(a.toList == b.toList&&(n1 == m1&&(n2 == m2&&(n3 == m3&&(n4 == m4&&s1 == s2))))))) w:=by
 have u3:=underlying3;have a3:=isAgg3;have z3:=sizeOf3;have u9:=underlying9;have a9:=isAgg9;have z9:=sizeOf9;have u8:=underlying48;have a8:=isAgg48;have z8:=sizeOf48;have hS:prog.underlying 50=some (.struct (prog.fieldsOf 50)):=by kernel_rfl
 have hp:prog.stoodInHeld 50=false:=by kernel_rfl
 rw[run_neq_struct,show (10000:Nat)=9999+1 from rfl,run_equalIn_agg w 9999 50 _ _ hS hp];simp only[Program.fieldsOf,underlying50];go_simp;by_cases h0:a.toList=b.toList <;> by_cases h1:n1=m1 <;> by_cases h2:n2=m2 <;> by_cases h3:n3=m3 <;> by_cases h4:n4=m4 <;> by_cases h5:s1=s2 <;> simp[h0,h1,h2,h3,h4,h5]
theorem YV{x y:Np.Sig}{a b:ByteArray}(ha:a.data.toList=x.zone)(hb:b.data.toList=y.zone):(!(a.toList == b.toList&&(x.key == y.key&&(x.alg == y.alg&&(x.frm == y.frm&&(x.til == y.til&&x.sum == y.sum))))))=decide (x≠y):=by
 rw[dQ,dQ,ha,hb];obtain⟨z,k,g,f,t,m⟩:=x;obtain⟨z',k',g',f',t',m'⟩:=y;simp only[ne_eq,Np.Sig.mk.injEq];by_cases h0:z=z' <;> by_cases h1:k=k' <;> by_cases h2:g=g' <;> by_cases h3:f=f' <;> by_cases h4:t=t' <;> by_cases h5:m=m' <;> simp[h0,h1,h2,h3,h4,h5]
theorem YL(s1 s2:ByteArray)(t1 l1 t2 l2:Int)(v1 v2 u1 u2:Value)(d1 d2:List Np.Datum)(g1 g2:List Np.Sig)(w:World)(gS:SlR bn 3 w w.heap.size v1 d1)(jX:SlR bn 3 w w.heap.size v2 d2)(ra:SlR dj 6 w w.heap.size u1 g1)(yq:SlR dj 6 w w.heap.size u2 g2) :
 Calls prog 20 #[.agg #[.string s1,.int .i64 t1,.int .i64 l1,v1,u1],.agg #[.string s2,.int .i64 t2,.int .i64 l2,v2,u2]] w
  λe w'=>e = .returned (.bool (decide ((s1=s2/\t1=t2/\l1=l2/\d1=d2)/\g1=g2)))/\Below w.heap.size w w':=by
 obtain⟨r,hr⟩:∃ r,decide ((s1=s2/\t1=t2/\l1=l2/\d1=d2)/\g1=g2)=r:=⟨_,rfl⟩;rw[hr];have HR:=jq hr;have wu:=jq gS;have jK:=jq jX;have uf:=jq ra;have ug:=jq yq;obtain⟨A1,c1,rfl,_,_⟩:=al gS;obtain⟨A2,c2,rfl,_,_⟩:=al jX;obtain⟨A3,c3,rfl,_,_⟩:=al ra;obtain⟨A4,c4,rfl,_,_⟩:=al yq;clear gS jX ra yq hr;obtain⟨d1n,h1⟩:∃ n,d1.length=n:=⟨_,rfl⟩;obtain⟨d2n,h2⟩:∃ n,d2.length=n:=⟨_,rfl⟩;obtain⟨n,h3⟩:∃ n,g1.length=n:=⟨_,rfl⟩;obtain⟨m,h4⟩:∃ n,g2.length=n:=⟨_,rfl⟩;rw[h1,h2,h3,h4];rw[h1] at wu;rw[h2] at jK;rw[h3] at uf;rw[h4] at ug;have H3:=jq h3;have H4:=jq h4;clear h1 h2 h3 h4;obtain⟨X,hX⟩:∃ X,w.heap.size=X:=⟨_,rfl⟩;obtain⟨Y,hY⟩:∃ Y,X+1=Y:=⟨_,rfl⟩;obtain⟨W1,ap⟩:∃ W1,(w.alloc (.cells #[.string s1,.int .i64 t1,.int .i64 l1,.slice A1 d1n c1,.slice A3 n c3] 42)).alloc (.cells #[.string s2,.int .i64 t2,.int .i64 l2,.slice A2 d2n c2,.slice A4 m c4] 42)=W1:=⟨_,rfl⟩;have aG:Below w.heap.size w W1:=by rw[<-ap];exact ((vQ _ _).alloc (bQ _) _).alloc (by simp) _
 have kJ:W1.heap.size=w.heap.size+2:=by rw[<-ap];simp
 have k0:W1.cell? ⟨X,0,none⟩=some (.string s1):=by rw[<-ap,<-hX];simp[go_sem]
 have k1:W1.cell? ⟨X,1,none⟩=some (.int .i64 t1):=by rw[<-ap,<-hX];simp[go_sem]
 have k2:W1.cell? ⟨X,2,none⟩=some (.int .i64 l1):=by rw[<-ap,<-hX];simp[go_sem]
 have k3:W1.cell? ⟨X,3,none⟩=some (.slice A1 d1n c1):=by rw[<-ap,<-hX];simp[go_sem]
 have k4:W1.cell? ⟨X,4,none⟩=some (.slice A3 n c3):=by rw[<-ap,<-hX];simp[go_sem]
 have j0:W1.cell? ⟨Y,0,none⟩=some (.string s2):=by rw[<-ap,<-hY,<-hX];simp[go_sem]
 have j1:W1.cell? ⟨Y,1,none⟩=some (.int .i64 t2):=by rw[<-ap,<-hY,<-hX];simp[go_sem]
 have j2:W1.cell? ⟨Y,2,none⟩=some (.int .i64 l2):=by rw[<-ap,<-hY,<-hX];simp[go_sem]
 have j3:W1.cell? ⟨Y,3,none⟩=some (.slice A2 d2n c2):=by rw[<-ap,<-hY,<-hX];simp[go_sem]
 have j4:W1.cell? ⟨Y,4,none⟩=some (.slice A4 m c4):=by rw[<-ap,<-hY,<-hX];simp[go_sem]
 rw[hX] at aG kJ wu jK uf ug |-;have aP:=jq aG;clear aG;go_enter func20,ntmps20;go_wp2_with fail;refine (YI s1 s2 t1 l1 t2 l2 _ _ d1 d2 _ ((wu.out.keep de aP.out).more eN (by omega)) ((jK.out.keep de aP.out).more eN (by omega))).mono ?_;rintro e w2 ⟨rfl,ac⟩;have aJ:=ac.size;replace k0:=(cl ac (by omega)).trans k0;replace k1:=(cl ac (by omega)).trans k1;replace k2:=(cl ac (by omega)).trans k2;replace k3:=(cl ac (by omega)).trans k3;replace k4:=(cl ac (by omega)).trans k4;replace j0:=(cl ac (by omega)).trans j0;replace j1:=(cl ac (by omega)).trans j1;replace j2:=(cl ac (by omega)).trans j2;replace j3:=(cl ac (by omega)).trans j3;replace j4:=(cl ac (by omega)).trans j4;have aj:=jq (aP.out.trans (ac.mono (by omega)));clear ac ap hX;obtain⟨q,hq⟩:∃ q,decide (s1=s2/\t1=t2/\l1=l2/\d1=d2)=q:=⟨_,rfl⟩;rw[hq];have kp:=jq hq;clear hq
 cases q with
 | false=>
  have HX:Hid (r=false):=jq (by rw[<-HR.out];exact tQ λh=>(of_decide_eq_false kp.out) h.1);go_wp2_with fail;go_ret;exact⟨ae HX.out.symm,aj.out⟩
 | true=>
  by_cases mB:n=m
  ·subst mB;go_wp2_with fail;go_loopw [5] (λi wr=>∃ (k:Nat),k<=n/\i = .int .i64 k/\Hid (Below w2.heap.size w2 wr)/\Hid (g1.take k=g2.take k)) (λi _=>n - (intOf i).toNat)
   case atStart=>exact⟨0,jQ _,rfl,jq (vQ _ _),jq rfl⟩
   case round=>
    obtain⟨k,hk,rfl,bD,HT⟩:=hrel;have an:=bD.out.size;have HB:=jq (aj.out.trans (bD.out.mono (by omega)));have a4:=(cl bD.out (by omega)).trans k4;have b4:=(cl bD.out (by omega)).trans j4;by_cases aa:k<n
    ·obtain⟨x,hx⟩:∃ x,g1[k]?=some x:=⟨_,aQ (by rw[H3.out];exact aa)⟩;obtain⟨y,hy⟩:∃ y,g2[k]?=some y:=⟨_,aQ (by rw[H4.out];exact aa)⟩;obtain⟨b,o,c,sx,hv,bJ,oF,_,f0,f1,f2,f3,f4,f5⟩:=mJ (uf.out.keep ep HB.out) hx;obtain⟨b',o',c',sy,hv',yf,eU,_,e0,e1,e2,e3,e4,e5⟩:=mJ (ug.out.keep ep HB.out) hy;simp only[Value.slice.injEq] at hv hv';obtain⟨rfl,_,_⟩:=hv;obtain⟨rfl,_,_⟩:=hv';have gw:Hid (x=y->g1.take (k+1)=g2.take (k+1)):=jq (λe=>by
      obtain⟨q1,q2⟩:=cQ.1 hx;obtain⟨q3,q4⟩:=cQ.1 hy;rw[fQ q1,fQ q3,q2,q4,HT.out,e])
     have ko:Hid (x≠y->r=false):=jq (λe=>by
      rw[<-HR.out];refine tQ λh=>e ?_;have h2:=h.2;subst h2;rw[hx] at hy;simpa using hy)
     have bO:(0:Int)<=(k:Int):=by omega
     have bM:(k:Int)<(n:Int):=by omega
     have heq:=WJ sx sy x.key x.alg x.frm x.til y.key y.alg y.frm y.til x.sum y.sum;rw[YV oF eU] at heq;clear hx hy oF eU;by_cases bR:x=y
     ·have HX:=jq (gw.out bR);have jG:decide (x≠y)=false:=by simpa using bR
      rw[jG] at heq;clear jG bR;go_wp2_with fail;go_quiet (fail);go_wp2_with fail;go_roundw
      case rel=>exact⟨k+1,by omega,by go_num,jq (below_drewN bD.out _),HX⟩
      case measure=>simp[intOf] <;> omega
     ·have HX:=jq (ko.out bR);have jG:decide (x≠y)=true:=uQ bR;rw[jG] at heq;clear jG bR;go_wp2_with fail;go_quiet (fail);go_wp2_with fail;go_ret;exact⟨ae HX.out.symm,below_drewN HB.out _⟩
    ·have HX:Hid (r=true):=jq (by
      rw[<-HR.out];refine uQ ⟨of_decide_eq_true kp.out,?_⟩
      have:=HT.out
      rwa [kQ (by rw[H3.out];omega),kQ (by rw[H4.out];omega)] at this)
     go_wp2_with fail;go_ret;exact⟨ae HX.out.symm,HB.out⟩
  ·have hne:(n:Int)≠(m:Int):=by omega
   have hd:decide ((n:Int)=(m:Int))=false:=tQ hne;have hb:((n:Int) == (m:Int))=false:=by simpa using hne
   have HX:Hid (r=false):=jq (by rw[<-HR.out];exact tQ λh=>mB (by rw[<-H3.out,<-H4.out,h.2]));go_wp2_with fail;go_ret;exact⟨ae HX.out.symm,aj.out⟩
end
section
open Go.RowKit Go.Sort Go.Shelf
def Np.OH(l:List Np.Span):Prop:=∀ s∈l,s.frm<s.til
theorem WK(f u f' u':Int)(w:World):(binOp .neq 110 (.agg #[.int .i64 f,.int .i64 u]) (.agg #[.int .i64 f',.int .i64 u'])).run prog w = .ok (.bool (decide ((⟨f,u⟩:Np.Span)≠⟨f',u'⟩))) w:=by
 have u3:=underlying3;have a3:=isAgg3;have z3:=sizeOf3;have hS:prog.underlying 110=some (.struct (prog.fieldsOf 110)):=by kernel_rfl
 have hp:prog.stoodInHeld 110=false:=by kernel_rfl
 rw[run_neq_struct,show (10000:Nat)=9999+1 from rfl,run_equalIn_agg w 9999 110 _ _ hS hp];simp only[Program.fieldsOf,underlying110];go_simp;by_cases h1:f=f' <;> by_cases h2:u=u' <;> simp[h1,h2]
theorem Nv(v v':Value)(l m:List Np.Span)(w:World)(h:SlR dU 2 w w.heap.size v l)(h':SlR dU 2 w w.heap.size v' m) :
 Calls prog 21 #[v,v'] w (λe w'=>e = .returned (.bool (decide (l=m)))/\Below w.heap.size w w'):=by
 have HL:=jq h;have HM:=jq h';obtain⟨A,c,rfl,bw,bT⟩:=al h;obtain⟨A',c',rfl,Tx,BF⟩:=al h';clear h h';by_cases hlen:l.length=m.length
 ·have uj:=jq hlen;obtain⟨n,hn⟩:∃ n,m.length=n:=⟨_,rfl⟩;rw[hn] at Tx BF hlen;have HN:=jq hn;rw[hlen] at bw bT;rw[hn,hlen];have sm:=jq hlen;clear hlen hn;go_enter func21,ntmps21;go_wp2_with fail;go_loopw [5] (λi wr=>∃ (k:Nat),k<=n/\i = .int .i64 k/\Hid (Below w.heap.size w wr)/\Hid (l.take k=m.take k)) (λi _=>n - (intOf i).toNat)
  case atStart=>exact⟨0,jQ _,rfl,jq (vQ _ _),jq rfl⟩
  case round=>
   obtain⟨k,hk,rfl,HB,HT⟩:=hrel;have an:=HB.out.size;by_cases aa:k<n
   ·have KZ:=sm.out;have K8:=HN.out;obtain⟨x,hx⟩:∃ x,l[k]?=some x:=⟨_,aQ (by omega)⟩;obtain⟨y,hy⟩:∃ y,m[k]?=some y:=⟨_,aQ (by omega)⟩;have jK:=HL.out.keep iw HB.out;have zU:=HM.out.keep iw HB.out;rw[KZ] at jK;rw[K8] at zU;obtain⟨b,o,rfl⟩:=CA (k:=k) jK (by omega);obtain⟨b',o',rfl⟩:=CA (k:=k) zU (by omega);obtain⟨bG,hat⟩:=zy jK hx;obtain⟨uO,uL⟩:=zy zU hy;have h0:=hat.c0;have h1:=hat.c1;have h0':=uL.c0;have h1':=uL.c1;have gw:Hid (x=y->l.take (k+1)=m.take (k+1)):=jq (λe=>by
     obtain⟨q1,q2⟩:=cQ.1 hx;obtain⟨q3,q4⟩:=cQ.1 hy;rw[fQ q1,fQ q3,q2,q4,HT.out,e])
    have ko:Hid (x≠y->decide (l=m)=false):=jq (λe=>tQ (by rintro rfl;rw[hx] at hy;exact e (by simpa using hy)));have bO:(0:Int)<=(k:Int):=by omega
    have bM:(k:Int)<(n:Int):=by omega
    have heq:=WK x.frm x.til y.frm y.til;clear jK zU hat uL hx hy KZ K8;by_cases bR:x=y
    ·have HX:=jq (gw.out bR);have jG:decide ((⟨x.frm,x.til⟩:Np.Span)≠⟨y.frm,y.til⟩)=false:=by rw[bR];simp
     rw[jG] at heq;clear jG bR;go_wp2_with fail;go_quiet (fail);go_wp2_with fail;go_roundw
     case rel=>exact⟨k+1,by omega,by go_num,jq (below_drewN HB.out _),HX⟩
     case measure=>simp[intOf] <;> omega
    ·have HX:=jq (ko.out bR);have jG:decide ((⟨x.frm,x.til⟩:Np.Span)≠⟨y.frm,y.til⟩)=true:=uQ bR;rw[jG] at heq;clear jG bR;go_wp2_with fail;go_quiet (fail);go_wp2_with fail;go_ret;exact⟨ae HX.out.symm,below_drewN HB.out _⟩
   ·have HE:Hid (decide (l=m)=true):=jq (uQ (by
     have:=HT.out
     rwa [kQ (by have:=sm.out;omega),kQ (by have:=HN.out;omega)] at this))
    go_wp2_with fail;go_ret;exact⟨ae HE.out.symm,HB.out⟩
 ·have hne:(l.length:Int)≠(m.length:Int):=by omega
  have hd:decide ((l.length:Int)=(m.length:Int))=false:=tQ hne;have HE:Hid (decide (l=m)=false):=jq (tQ (by rintro rfl;exact hlen rfl));have hb:((l.length:Int) == (m.length:Int))=false:=by simpa using hne
  go_enter func21,ntmps21;go_wp2_with fail;go_ret;exact⟨ae HE.out.symm,vQ _ _⟩
end
section
open Go.RowKit
def fx(w:World):Prop:=Lib.TabIs prog w "internal/strconv.uint64pow10" .u64 Lib.pow10Tab
theorem EE:prog.globalNamed "internal/strconv.uint64pow10" = some 1:=by kernel_rfl
theorem fx.lt{w:World}(h:fx w):1<w.heap.size:=by
 unfold fx Lib.TabIs World.var? at h;rw[EE] at h;simp only[Option.bind_some] at h
 cases hh:w.heap[1]? with
 | none=>rw[hh] at h;cases h
 | some o=>exact (eQ.1 hh).1
theorem fx.keepAt{w w':World}{n:Nat}(h:fx w)(hb:Below n w w')(hn:1<n):fx w':=by
 unfold fx Lib.TabIs World.var? at h |-;rw[EE] at h |-;simp only[Option.bind_some] at h |-;rw[hb.block _ hn];exact h
theorem fx.keep{w w':World}(h:fx w)(hb:Below w.heap.size w w'):fx w':=h.keepAt hb h.lt
theorem JO:∀ n:Nat,Lib.decDigits n=Np.lK n:=by
 intro n
 induction n using Nat.strongRecOn with
 | ind n ih=>
  rw[Lib.decDigits,Np.lK];split
  ·rfl
  ·rw[ih (n / 10) (by omega)]
theorem L9(n:Int)(h0:0<=n)(h1:n<=9223372036854775807)(w:World)(hP:fx w) :
 Calls prog 132 #[.int .i64 n] w λe w'=>e = .returned (aB (Np.aR n))/\Below w.heap.size w w':=
 (Tryz.strconv_Itoa n (by omega) (by omega) w hP).mono λe w' ⟨he,k,os,hw⟩=>by
   refine⟨?_,?_⟩
   ·rw[he,Lib.itoa,Qc (by omega),JO];rfl
   ·rw[hw];exact Lib.below_grow _ w (bQ _) k os
theorem J1(n:Int)(h0:0<=n)(h1:n<18446744073709551616)(w:World)(hP:fx w) :
 Calls prog 133 #[.int .u64 n,.int .i64 10] w λe w'=>e = .returned (aB (Np.aR n))/\Below w.heap.size w w':=by
 obtain⟨u,rfl⟩:∃ u:Nat,n=u:=⟨n.toNat,by omega⟩;refine (Sz u (by omega) w hP).mono λe w' ⟨he,k,os,hw⟩=>⟨?_,?_⟩
 ·rw[he,JO];rfl
 ·rw[hw];exact Lib.below_grow _ w (bQ _) k os
theorem sU{n:Int}(h1:n<18446744073709551616):(Np.aR n).length<=20:=Np.R5 19 n.toNat (by omega)
theorem R7(a b:List (List UInt8)):Np.bN (a++b)=Np.bN a++Np.bN b:=by simp[Np.bN]
theorem Gv:∀ (ns:List Int) (s:List UInt8),s++(ns.flatMap λn=>47::Np.aR n) ++ [47]=Np.bN (s::ns.map Np.aR)
 | [],s=>by simp[Np.bN]
 | n::ns,s=>by
   rw[Np.uD,List.map_cons,<-Gv ns (Np.aR n)];simp
theorem M0:∀ (ns:List Int) (s:List UInt8),(∀ n∈ns,n<18446744073709551616)->(s++(ns.flatMap λn=>47::Np.aR n) ++ [47]).length<=s.length+1+21 * ns.length
 | [],s,_=>by simp
 | n::ns,s,h=>by
   have:=M0 ns s (λm hm=>h m (mQ _ hm))
   have h2:=sU (h n (by simp));simp at this |-;omega
theorem uy:BldT 198:=⟨by kernel_rfl,by decide⟩
def jT(b:Nat)(r:Option Nat)(w:World)(v:Value)(ns:List Int):Prop:=
 ∃ A c,v = .slice A ns.length c/\ns.length<=c/\∀ i x,ns[i]?=some x->∃ g o,A=some ⟨g,o,none⟩/\g<w.heap.size/\g≠b/\r≠some g/\w.cell? ⟨g,o+i,none⟩=some (.int .i64 x)
theorem jT.step{b:Nat}{r r':Option Nat}{w w':World}{v:Value}{ns:List Int}(h:jT b r w v ns)(hs:BS b r w r' w'):jT b r' w' v ns:=by
 obtain⟨A,c,h1,h2,h4⟩:=h;refine⟨A,c,h1,h2,λi x hx=>?_⟩;obtain⟨g,o,h5,h6,h7,h8,h9⟩:=h4 i x hx;exact⟨g,o,h5,lQ h6 hs.size,h7,hs.free h6 h8,(hs.cell h6 h7 h8 _).trans h9⟩
theorem jT.nil(b:Nat)(r:Option Nat)(w:World):jT b r w (.slice none 0 0) []:=⟨none,0,rfl,bQ _,λi x h=>by simp at h⟩
def oL(ns:List Int):List UInt8:=ns.flatMap λn=>47::Np.aR n
theorem WU{ns:List Int}{k:Nat}{x:Int}(hx:ns[k]?=some x):oL (ns.take (k+1))=oL (ns.take k) ++ [47]++Np.aR x:=by
 obtain⟨hl,he⟩:=cQ.1 hx;rw[fQ hl,he];simp[oL]
theorem MC:∀ (ns:List Int),(∀ n∈ns,n<18446744073709551616)->(oL ns).length<=21 * ns.length
 | [],_=>by simp[oL]
 | n::ns,h=>by
   have:=MC ns (λm hm=>h m (mQ _ hm))
   have h2:=sU (h n (by simp));simp[oL] at this |-;omega
theorem Ci(B b:Nat)(r:Option Nat)(l:List UInt8)(s:ByteArray)(v:Value)(ns:List Int)(w:World)(h:Bld 198 B b r l w)(hv:jT b r w v ns)(hn:∀ n∈ns,0<=n/\n<=9223372036854775807)(hl:l.length<=10000000)(hs:s.size<=100000)(tu:ns.length<=100)(gj:B<=w.heap.size)(hP:fx w)(S9:1<B) :
 Calls prog 217 #[.string s,v,.pointer (some ⟨b,0,none⟩)] w (vY 198 B b r (l++Np.bN (s.data.toList::ns.map Np.aR)) (.tuple #[]) w):=by
 have H:=jq h;have HV:=jq hv;have HP:=jq hP;have HN:=jq hn;have iD:=jq h.row.1;have lF:=jq h.row.2.2;obtain⟨A,c,rfl,hc,-⟩:=hv;obtain⟨m,hm⟩:∃ m,ns.length=m:=⟨_,rfl⟩;rw[hm] at tu;have HM:=jq hm;have DK:Hid (∀ k,(oL (ns.take k)).length<=2100):=jq (λk=>by
  have h1:=MC (ns.take k) (λn hn'=>by have:=HN.out n (List.mem_of_mem_take hn');omega);rw[List.length_take] at h1;have h2:=HM.out;omega)
 have cD:s.data.toList.length=s.size:=aU s;have jP:=jq cD;clear h hn hP cD;rw[hm] at HV |-;clear hm hc;go_enter func217,ntmps217;go_wp2_with fail;refine (G3 uy B b r _ s _ H.out (by omega) (by omega) gj).mono ?_;rintro e w1 ⟨rfl,r1,az,bi⟩;have aq:=jq az;have eB:=jq bi;have rB:=bi.size;clear az bi;go_wp2_with fail;go_loopw [11] (λi wr=>∃ (k:Nat) (r':Option Nat),k<=m/\i = .int .i64 k/\Hid (Bld 198 B b r' (l++s.data.toList++oL (ns.take k)) wr)/\Hid (BS b r w r' wr)/\Hid (jT b r' wr (.slice A m c) ns)) (λi _=>m - (intOf i).toNat)
 case atStart=>exact⟨0,r1,jQ _,rfl,jq (by simpa [oL] using aq.out),eB,jq (HV.out.step eB.out)⟩
 case round=>
  obtain⟨k,r',hk,rfl,HB,HS,HX⟩:=hrel;have an:=HS.out.size;have cX:Hid (Below B w wr):=jq (HS.out.below iD.out (λk hk=>(lF.out k hk).1) gj);by_cases aa:k<m
  ·obtain⟨x,ab⟩:∃ x,ns[k]?=some x:=⟨_,aQ (by rw[HM.out];exact aa)⟩;obtain⟨A',c',hA,_,bK⟩:=HX.out;simp only[Value.slice.injEq] at hA;obtain⟨rfl,-,rfl⟩:=hA;obtain⟨g,o,rfl,hg,dm,BC,hcell⟩:=bK k _ ab;have HJ:=jq (WU ab);have LQ:=HN.out x (gQ ab);have Eb:=jq LQ;have UB:=DK.out k;have amQ:=DK.out (k+1);clear bK ab LQ;go_wp2_with fail;refine (G2 uy B b r' _ 47 47 rfl _ HB.out (by simp;omega) (by omega)).mono ?_;rintro e w2 ⟨rfl,r2,ac,gX⟩;have aj:=jq ac;have iE:=jq gX;have iW:=gX.size;clear ac gX;go_wp2_with fail;refine (L9 x Eb.out.1 Eb.out.2 w2 (HP.out.keepAt (cX.out.trans (iE.out.below iD.out (λk hk=>(HB.out.row.2.2 k hk).1) (by omega))) S9)).mono ?_;rintro e w3 ⟨rfl,ak⟩;have ar:=jq (aj.out.keep ak);have wT:=jq (iE.out.after ak);have j9:=ak.size;clear ak;go_wp2_with fail;refine (G3 uy B b r2 _ ⟨(Np.aR x).toArray⟩ _ ar.out (by simp;omega) (by rw[<-aU];have:=sU (n:=x) (by have:=Eb.out;omega);simp;omega) (by omega)).mono ?_;rintro e w4 ⟨rfl,r4,av,FN⟩;have ba:=jq av;have IM:=jq (wT.out.trans FN);clear av FN;go_wp2_with fail;go_roundw
   case rel=>exact⟨k+1,r4,by omega,by go_num,jq (by have:=ba.out;rw[HJ.out];simpa using this),jq (HS.out.trans IM.out),jq (HX.out.step IM.out)⟩
   case measure=>simp[intOf] <;> omega
  ·have UB:=DK.out k;have fL:Hid (ns.take k=ns):=jq (kQ (by rw[HM.out];omega));go_wp2_with fail;refine (G2 uy B b r' _ 47 47 rfl _ HB.out (by simp;omega) (by omega)).mono ?_;rintro e w2 ⟨rfl,r2,ac,gX⟩;have aj:=jq ac;have iE:=jq (HS.out.trans gX);clear ac gX;go_wp2_with fail;go_end0;refine⟨rfl,r2,?_,iE.out⟩
   have:=aj.out
   rw[fL.out] at this;rw[<-Gv];simpa [oL] using this
end
namespace Np
structure Ent22 where
 signed:Signed
 zone:List UInt8
 til:Int
deriving DecidableEq
def QOk(n:List UInt8)(ty:Int):Prop:=aC n=true/\1<=ty/\ty<=8
def xD(t:Int):Prop:=0<=t/\t<=20000000
noncomputable def qI(h:Hist):Int×List Held:=if yes (VHist h) then (0,cK h) else (1,[])
theorem Ek{h:Hist}(k:VHist h):qI h=(0,cK h):=by unfold qI;rw[bB k];rfl
theorem Jm{h:Hist}(k:¬ VHist h):qI h=(1,[]):=by unfold qI;rw[aF k];rfl
def uv(h:Hist)(n:List UInt8)(ty t:Int):Prop:=VHist h/\QOk n ty/\xD t
noncomputable def qf(h:Hist)(n:List UInt8)(ty t:Int):Int×List Signed:=if yes (uv h n ty t) then (0,dP (cK h) n ty t) else (1,[])
theorem zm{h:Hist}{n:List UInt8}{ty t:Int}(k:uv h n ty t):qf h n ty t=(0,dP (cK h) n ty t):=by unfold qf;rw[bB k];rfl
theorem Cf{h:Hist}{n:List UInt8}{ty t:Int}(k:¬ uv h n ty t):qf h n ty t=(1,[]):=by unfold qf;rw[aF k];rfl
def VM(a b:Ent22):Prop:=a.signed.set.name=b.signed.set.name/\a.signed.set.type=b.signed.set.type/\a.zone=b.zone
structure EntOk(e:Ent22):Prop where
 name:aC e.signed.set.name=true
 zone:aC e.zone=true
 wild:dL e.zone=false
 under:bg e.signed.set.name e.zone=true
 til:1<=e.til/\e.til<=20100001
 kind:(e.signed.set.data = []/\(1<=e.signed.set.type/\e.signed.set.type<=8)/\(0<=e.signed.set.life/\e.signed.set.life<=100000)/\e.signed.sigs = [])\/(e.signed.set.data≠[]/\cW e.signed.set=true/\fw e.zone e.signed.sigs)
structure VCache(l:List Ent22):Prop where
 few:l.length<=400
 each:∀ e∈l,EntOk e
 apart:l.Pairwise λa b=>¬ VM a b
theorem VCache.sub{l m:List Ent22}(h:VCache l)(hm:m.Sublist l):VCache m:=
 ⟨yQ hm.length_le h.few,λe he=>h.each e (hm.subset he),h.apart.sublist hm⟩
def po(l:List Held)(n:List UInt8)(ty:Int):List Signed:=(l.filter λx=>(x.signed.set.name == n)&&decide (x.signed.set.type=ty)).map (·.signed)
theorem Eo{l:List Held}{n:List UInt8}{ty:Int}{x:Held} : po (l ++ [x]) n ty=if x.signed.set.name=n/\x.signed.set.type=ty then po l n ty ++ [x.signed] else po l n ty:=by
 unfold po;rw[List.filter_append,List.map_append];by_cases h:x.signed.set.name=n/\x.signed.set.type=ty
 ·have hb:((x.signed.set.name == n)&&decide (x.signed.set.type=ty))=true:=by simp[h.1,h.2]
  rw[Qb h,List.filter_cons,Qb hb];rfl
 ·have hb:((x.signed.set.name == n)&&decide (x.signed.set.type=ty))=false:=by
   rw[Bool.eq_false_iff];intro e;rw[Bool.and_eq_true,beq_iff_eq,Qa] at e;exact h e
  rw[Qc h,List.filter_cons,Qc (by rw[hb];decide)];simp
theorem Xf(l:List Held)(n:List UInt8)(ty t:Int):dP l n ty t=cE (po (l.filter λx=>dP.l1 x.spans t) n ty):=by
 unfold dP po;rw[List.filter_filter];congr 2;refine List.filter_congr λx _=>?_;rw[Bool.and_assoc]
theorem Gr(l:List Held)(n:List UInt8)(ty t:Int):(dP l n ty t).length<=l.length:=by
 unfold dP;have h:=rM ((l.filter λx=>(x.signed.set.name == n)&&(decide (x.signed.set.type=ty)&&dP.l1 x.spans t)).map (·.signed));rw[List.length_map] at h;exact yQ h (List.length_filter_le _ _)
def lu(us:List Signed):List (List UInt8×Value):=us.map λs=>(dC s,.bool true)
theorem V7(us:List Signed)(s:Signed):lu (us ++ [s])=lu us ++ [(dC s,.bool true)]:=by simp[lu]
theorem Ma:∀ {us:List Signed} {s:Signed},Plain47 s->(∀ x∈us,Plain47 x)->s∉us->(lu us).lookup (dC s)=none
 | [],_,_,_,_=>rfl
 | x::us,s,hs,hu,hn=>by
   have e:lu (x::us)=(dC x,.bool true)::lu us:=rfl;have hne:(dC s == dC x)=false:=beq_eq_false_iff_ne.2 λh=>hn (by rw[Gc hs (hu x (by simp)) h];simp);rw[e,List.lookup_cons,hne];exact Ma hs (λy hy=>hu y (mQ _ hy)) (λh=>hn (mQ _ h))
theorem Mc:∀ {us:List Signed} {s:Signed},s∈us->(lu us).lookup (dC s)=some (.bool true)
 | [],_,h=>by cases h
 | x::us,s,h=>by
   have e:lu (x::us)=(dC x,.bool true)::lu us:=rfl;rw[e,List.lookup_cons];by_cases hk:(dC s == dC x)=true
   ·rw[hk]
   ·rw[Bool.not_eq_true] at hk;rw[hk];refine Mc ((List.mem_cons.1 h).resolve_left ?_);rintro rfl;simp at hk
theorem MN(l:List Held)(n:List UInt8)(ty t:Int):(dP l n ty t).Nodup:=tK _
end Np
section
open Go.RowKit
theorem vL{α:Type}{R:World->Nat->List Value->α->Prop}{sz:Nat}{w:World}{B:Nat}{v:Value}{xs:List α}(h:SlR R sz w B v xs):∃ A n c,v = .slice A n c:=by
 obtain⟨A,c,rfl,_⟩:=al h;exact⟨_,_,_,rfl⟩
theorem YK(x y:Np.Signed)(s1 s2:ByteArray)(h1:s1.data.toList=x.set.name)(h2:s2.data.toList=y.set.name)(v1 u1 v2 u2:Value)(w:World)(gS:SlR bn 3 w w.heap.size v1 x.set.data)(ra:SlR dj 6 w w.heap.size u1 x.sigs)(jX:SlR bn 3 w w.heap.size v2 y.set.data)(yq:SlR dj 6 w w.heap.size u2 y.sigs) :
 Calls prog 20 #[.agg #[.string s1,.int .i64 x.set.type,.int .i64 x.set.life,v1,u1],.agg #[.string s2,.int .i64 y.set.type,.int .i64 y.set.life,v2,u2]] w λe w'=>e = .returned (.bool (decide (x=y)))/\Below w.heap.size w w':=by
 refine (YL s1 s2 _ _ _ _ v1 v2 u1 u2 _ _ _ _ w gS jX ra yq).mono λe w' ⟨he,hb⟩=>⟨he.trans ?_,hb⟩;congr 2;rw[decide_eq_decide];obtain⟨⟨nx,tx,lx,dx⟩,gx⟩:=x;obtain⟨⟨ny,ty,ly,dy⟩,gy⟩:=y;dsimp only at h1 h2 |-;simp only[Np.Signed.mk.injEq,Np.DSet.mk.injEq];refine and_congr (and_congr ⟨λh=>by rw[<-h1,<-h2,h],λh=>kL (by rw[h1,h2,h])⟩ Iff.rfl) Iff.rfl
end
end Go.Proofs.YtfnopgdcaanaiaaGreatDoor
