/- Parts of the proof. No condition. -/
import Derived.Test.YtfnopgdcaanaiaaGreatDoorV06
import Derived.Test.YtfnopgdcaanaiaaGreatDoorV07
set_option linter.all false
set_option maxRecDepth 100000
set_option maxHeartbeats 8000000
namespace Go.Proofs.YtfnopgdcaanaiaaGreatDoor
open Go.Proofs.Tryz
section
open Go.RowKit
theorem J8{c:UInt8}{r:List UInt8}(hc:c≠46):∃ x xs,Np.aZ (c::r)=(c::x)::xs:=by
 unfold Np.aZ;rw[Qc hc]
 cases Np.aZ r with
 | nil=>exact⟨[],[],rfl⟩
 | cons x xs=>exact⟨x,xs,rfl⟩
theorem Rz{l:List UInt8}(h:Np.aG l=true):Np.eF l=((Np.eI l).head? == some [42]):=by
 unfold Np.eI;by_cases hd:l = [46]
 ·subst hd;decide
 ·rw[Qc hd]
  cases l with
  | nil=>exact absurd h (by decide)
  | cons c r=>
   have hg:Np.fq (Np.aZ (c::r)).reverse 0 false=true:=by
    unfold Np.aG at h;rw[Qc hd] at h;split at h
    ·cases h
    ·exact h
   have hl:=Np.Nh _ _ _ hg;by_cases hc:c=46
   ·subst hc;have e:Np.aZ (46::r) = []::Np.aZ r:=by rw[Np.aZ,Qb rfl]
    rw[e] at hl
    have:=hl [] (by simp)
    rcases this with h1 | h1
    ·cases h1
    ·exact absurd h1 (by decide)
   ·obtain⟨x,xs,e⟩:=J8 (r:=r) hc;rw[e] at hl |-;rw[Bool.eq_iff_iff];simp only[Np.eF,List.head?_cons,beq_iff_eq,Option.some.injEq,List.cons.injEq];constructor
    ·rintro rfl;rcases hl (42::x) (by simp) with h1 | h1
     ·simpa using h1
     ·exfalso;unfold Np.cD at h1;simp only[Bool.and_eq_true,List.all_cons] at h1;exact absurd h1.2.1 (by decide)
    ·exact λh=>h.1
theorem QA(s:ByteArray)(h:Np.aG s.data.toList=true)(w:World) :
 Calls prog 158 #[.string s] w (aOJ w.heap.size w (.bool (Np.eF s.data.toList))):=by
 have hw:=Rz h;have al:=yH h;obtain⟨ps,fz⟩:=aJZ (Np.eI s.data.toList);obtain⟨r,hr⟩:=aJZ (ps.head? == some [42]);rw[hw,fz,hr];have rn:=jq fz;have HR:=jq hr;clear hw h fz hr;go_enter func158,ntmps158;go_wp2_with fail;refine (Ce s (by omega) _).mono ?_;rw[rn.out];rintro e w1 ⟨v,rfl,hv,hb⟩;have HB:=jq hb;clear hb;obtain⟨A,c,rfl,hc,hl,he⟩:=hv
 cases ps with
 | nil=>
  have HX:Hid (r=false):=jq (by rw[<-HR.out];rfl);go_wp2_with fail;go_ret;exact⟨ae HX.out.symm,HB.out⟩
 | cons x xs=>
  obtain⟨b,o,e,rfl,bB,_,hce,hx⟩:=he 0 x rfl;have hx':e = [aC x]:=hx;subst hx';have h0:w1.cell? ⟨b,o,none⟩=some (aC x):=by have:=hce 0 _ rfl;simpa using this
  have HX:Hid ((x == [42])=r):=jq (by rw[<-HR.out,List.head?_cons,Bool.eq_iff_iff];simp);obtain⟨n,hn⟩:=aJZ ((x::xs).length);have lU:0<n:=by rw[<-hn];simp
  have XR:(0:Int)<(n:Int):=by omega
  rw[hn];clear he hce hx hc hl hn;go_wp2_with fail
  all_goals
   go_ret;refine⟨ae ?_,HB.out⟩;rw[<-HX.out]
end
section
open Go.RowKit Go.MapKept Go.Shelf
theorem Zw{α β:Type}[BEq α][LawfulBEq α](l:List (α×β))(p:α)(h:l.lookup p=none):p∉l.map (·.1):=by
 induction l with
 | nil=>simp
 | cons z zs ih=>
  rw[List.lookup_cons] at h
  cases hb:(p == z.1) with
  | true=>rw[hb] at h;simp at h
  | false=>
   rw[hb] at h;have hne:p≠z.1:=by simpa using hb
   simp only[List.map_cons,List.mem_cons,not_or];exact⟨hne,ih h⟩
abbrev fl:=(Int×List UInt8)×List Np.Span×Value
structure MapX(base r:Nat)(xs:List fl)(w:World):Prop where
 map:oi r (xs.map λx=>(x.1,x.2.2)) w
 row:∀ x∈xs,aw base w x.2.2 x.2.1
 apart:∀ (i j:Nat) (x y:fl) (g:Nat),xs[i]?=some x->xs[j]?=some y->x.2.2.ownBlock=some g->y.2.2.ownBlock=some g->i=j
theorem MapX.keep{base r:Nat}{xs:List fl}{w w':World}(h:MapX base r xs w)(hb:Below w.heap.size w w'):MapX base r xs w':=⟨h.map.keep hb h.map.lt,λx hx=>(h.row x hx).keep hb,h.apart⟩
theorem MapX.made(base:Nat)(w:World):MapX base w.heap.size [] (w.alloc (.map #[] 0)):=⟨oi.made w,λx hx=>(by cases hx),λi j x y g h=>by simp at h⟩
theorem aw.turned{base r:Nat}{w w':World}{v:Value}{ps:List Np.Span}(h:aw base w v ps)(ht:Turned r w w')(hr:r<base):aw base w' v ps:=cX h (λg hg=>ht.block g (by have:=(h.lt g hg).1;omega))
theorem MapX.turned{base r I:Nat}{xs:List fl}{w w':World}(h:MapX base r xs w)(ht:Turned I w w')(hI:I≠r)(hrow:∀ x∈xs,x.2.2.ownBlock≠some I):MapX base r xs w':=
 ⟨h.map.keep' (ht.block r (Ne.symm hI)),λx hx=>cX (h.row x hx) (λg hg=>ht.block g (λe=>hrow x hx (by rw[hg,e]))),h.apart⟩
theorem MapX.changed{base r:Nat}{xs:List fl}{w w':World}(h:MapX base r xs w)(hr:r<base){j:Nat}{p:Int×List UInt8}{g g':List Np.Span}{v:Value}(hj:xs[j]?=some (p,g,v))(hg:w.grownBy w' v.ownBlock)(ho:aw base w' v g'):MapX base r (xs.set j (p,g',v)) w':=by
 have hv:=h.row _ (gQ hj);refine⟨?_,λx hx=>?_,λi i' x y b hx hy=>?_⟩
 ·have e:(xs.set j (p,g',v)).map (λx:fl=>(x.1,x.2.2))=xs.map λx=>(x.1,x.2.2):=by
   rw[List.map_set];apply List.ext_getElem?;intro i;rw[List.getElem?_set];split
   ·rename_i e;subst e;rw[List.length_map,Qb (cQ.1 hj).1,List.getElem?_map,hj];rfl
   ·rfl
  rw[e];refine h.map.keep' (hg.block r h.map.lt λe2=>?_)
  have:=(World.ownsRow.lt hv r e2.symm).1
  omega
 ·obtain⟨i,hi,rfl⟩:=nQ.1 hx;rw[List.length_set] at hi;rw[List.getElem_set];split
  ·exact ho
  ·rename_i hne;refine cX (h.row _ (List.getElem_mem hi)) λb hb=>hg.block b (World.ownsRow.lt (h.row _ (List.getElem_mem hi)) b hb).2 λe2=>hne ?_;exact h.apart j i _ _ b hj (aQ hi) e2.symm hb
 ·intro hb hb';have get:∀ (k:Nat) (z:fl),(xs.set j (p,g',v))[k]?=some z->∃ z',xs[k]?=some z'/\z'.2.2=z.2.2:=λk z hz=>by
   rw[List.getElem?_set] at hz;split at hz
   ·rename_i e;subst e;rw[Qb (cQ.1 hj).1] at hz
    cases hz
    exact⟨_,hj,rfl⟩
   ·exact⟨z,hz,rfl⟩
  obtain⟨x',hx',ex⟩:=get i x hx;obtain⟨y',hy',ey⟩:=get i' y hy;exact h.apart i i' x' y' b hx' hy' (by rw[ex];exact hb) (by rw[ey];exact hb')
theorem Y6(p:Int×List UInt8)(P:Program)(w:World):(Instr.keyThatStays (pH p) (pH p)).run P w = .ok (pH p) w:=by
 have h1:∀ a:ByteArray,(a == a)=true:=λa=>by
  show (a.data == a.data)=true;simp
 have:Instr.sameBits 10000 (pH p) (pH p)=true:=by
  rw[show (10000:Nat)=9998+1+1 from rfl];simp[Instr.sameBits,pH,aC,h1]
 simp[Instr.keyThatStays,this]
section
variable {ops:Array Oper} {rest:List Oper} {o:Oper} {a:Act} {Q:Exit->Act->World->Prop}
theorem aEY(w:World)(hg:o.guard=none)(m x:Operand)(iB:o.op=Op.mapEntry 184 m x)(base r:Nat)(xs:List fl)(hm:a.eval m = .map (some r))(hr:MapX base r xs w)(BK:r<base)(p:Int×List UInt8)(hx:a.eval x=pH p)
 (hK:∀ (w':World) (j:Nat) (g:List Np.Span) (v:Value) (xs':List fl),((xs'=xs/\xs[j]?=some (p,g,v))\/(p∉xs.map (·.1)/\xs'=xs ++ [(p,[],.slice none 0 0)]/\j=xs.length/\g = []/\v = .slice none 0 0))->xs'[j]?=some (p,g,v)->MapX base r xs' w'->Turned r w w'->wpList prog ops Q rest (a.put o.dst (.tuple #[v,.int .i64 (j:Int)])) w'):wpList prog ops Q (o::rest) a w:=by
 obtain⟨es,hes,he,lw⟩:=hr.map;have ht:=underlying184;have hl:r<w.heap.size:=(eQ.1 hes).1;have hf:=VQ p w es.toList _ he;have hc:(Instr.checkKey false 10000 186 (pH p)).run prog w = .ok () w:=U6 false p w;refine wpList_plain hg λK' hK'=>?_
 cases iT:(xs.map λx:fl=>(x.1,x.2.2)).lookup p with
 | some v=>
  obtain⟨j,j1,j2,hj⟩:=hf.1 v iT;obtain⟨e,ic,ie⟩:=Option.map_eq_some_iff.1 j1;rw[Array.getElem?_toList] at ic;simp only[Prod.mk.injEq] at ie;rw[List.getElem?_map] at j2;obtain⟨y,sB,pU⟩:=Option.map_eq_some_iff.1 j2;obtain⟨p',g,v'⟩:=y;simp only[Prod.mk.injEq] at pU;obtain⟨rfl,rfl⟩:=pU;have tE:(Instr.keyThatStays (((es[j]?).map (·.key)).getD (pH p')) (pH p')).run prog w = .ok (pH p') w:=by
   rw[ic];simp only[Option.map_some,Option.getD_some];rw[ie.1];exact Y6 _ _ w
  have aq:((es[j]?).map (λx=>(x.born:Int))).getD 0=(j:Int):=by
   rw[ic];simp[lw j e ic]
  have Eb:(es.modify j λe=>{ e with key:=pH p' })=es:=by
   apply Array.ext_getElem?;intro i;rw[Array.getElem?_modify];split
   ·rename_i dE;subst dE;rw[ic];simp[<-ie.1]
   ·rfl
  have dh:(Instr.mapEntry 184 (.map (some r)) (pH p')).run prog w = .ok (.tuple #[v',.int .i64 (j:Int)]) { w with heap:=w.heap.setIfInBounds r (.map es es.size) }:=by
   simp[Instr.mapEntry,run_underlying ht,MapKept.run_getObj_map hes,hc,hj,tE,MapKept.run_setObj_map _ hes,Result.andThen,Eb,aq,goInt]
  unfold Oper.wp;simp[execOp,iB,hm,hx,dh,Result.andThen];have lD:Turned r w { w with heap:=w.heap.setIfInBounds r (.map es es.size) }:=⟨rfl,rfl,rfl,by simp,λi hi=>by simp[Ne.symm hi]⟩;refine hK' _ _ (hK _ j g v' xs (.inl ⟨rfl,sB⟩) sB ⟨⟨es,by simp[hl],he,lw⟩,λx hx=>(hr.row x hx).turned lD BK,hr.apart⟩ lD)
 | none=>
  have hn:=hf.2 iT;have dh:(Instr.mapEntry 184 (.map (some r)) (pH p)).run prog w = .ok (.tuple #[.slice none 0 0,.int .i64 (es.size:Int)]) { w with heap:=w.heap.setIfInBounds r (.map (es.push { key:=pH p,val:=.slice none 0 0,born:=es.size }) (es.size+1)) }:=by
   simp[Instr.mapEntry,run_underlying ht,MapKept.run_getObj_map hes,hc,hn,MapKept.run_setObj_map _ hes,Result.andThen,goInt]
  have al:es.size=xs.length:=by
   have:=Qd List.length he
   simpa using this
  have XT:p∉xs.map (·.1):=by
   have:=Zw _ _ iT
   rw[List.map_map] at this;exact this
  unfold Oper.wp;simp[execOp,iB,hm,hx,dh,Result.andThen];have lD:Turned r w { w with heap:=w.heap.setIfInBounds r (.map (es.push { key:=pH p,val:=.slice none 0 0,born:=es.size }) (es.size+1)) }:=⟨rfl,rfl,rfl,by simp,λi hi=>by simp[Ne.symm hi]⟩;refine hK' _ _ (hK _ es.size [] (.slice none 0 0) (xs ++ [(p,[],.slice none 0 0)]) (.inr ⟨XT,rfl,al,rfl,rfl⟩) (by rw[al];simp) ⟨⟨es.push { key:=pH p,val:=.slice none 0 0,born:=es.size },by simp[hl],by simp[he],λi e hi=>?_⟩,λx hx=>?_,λi j x y b hx hy fR iP=>?_⟩ lD)
  ·rw[Array.getElem?_push] at hi;split at hi
   ·rename_i h1;cases hi;exact h1.symm
   ·exact lw i e hi
  ·rcases List.mem_append.1 hx with hx | hx
   ·exact (hr.row x hx).turned lD BK
   ·rw[List.mem_singleton] at hx;subst hx;exact aw.nil _ _
  ·have get:∀ (k:Nat) (z:fl),(xs ++ [(p,[],Value.slice none 0 0)])[k]?=some z->z.2.2.ownBlock=some b->xs[k]?=some z:=λk z hz wg=>by
    rw[List.getElem?_append] at hz;split at hz
    ·exact hz
    ·have:=gQ hz
     rw[List.mem_singleton] at this;subst this;simp[Value.ownBlock] at wg
   exact hr.apart i j x y b (get i x hx fR) (get j y hy iP) fR iP
end
section
variable {ops:Array Oper} {rest:List Oper} {o:Oper} {a:Act} {Q:Exit->Act->World->Prop}
theorem aEJ(w:World)(go:o.guard=none)(s x:Operand)(ho:o.op = .call { callee:=.builtin .append,args:=#[s,x],argTypes:=#[55,55] })
 (base:Nat) (v:Value) (ps:List Np.Span) (hs:a.eval s=v) (hown:aw base w v ps) (blk:Nat) (f u:Int) (hx:a.eval x = .slice (some ⟨blk,0,none⟩) 1 1) (hc:w.cell? ⟨blk,0,none⟩=some (.int .i64 f)) (be:w.cell? ⟨blk,1,none⟩=some (.int .i64 u)) (hlen:ps.length<=100000) (dw:base<=w.heap.size)
 (h:∀ v' w',aw base w' v' (ps ++ [⟨f,u⟩])->w.grownBy w' v.ownBlock->(v'.ownBlock=v.ownBlock\/v'.ownBlock=some w.heap.size)->wpList prog ops Q rest (a.put o.dst v') w'):wpList prog ops Q (o::rest) a w:=by
 obtain⟨i0,hi,di,ba,aN⟩:=info_parts Tryz.infoSpan;refine wpList_append_own_at w go s x 55 ho base 110 i0 (.agg #[.int .i64 0,.int .i64 0]) 2 16 underlying55 hi di ba aN rfl (by decide) v ps.length (ps.map fN).flatten hs hown ⟨blk,0,none⟩ 1 1 [.int .i64 f,.int .i64 u] hx rfl ?_ (by simp[Value.oneCell']) (by unfold maxLen;omega) (by omega) dw ?_
 ·intro j y hj
  match j,hj with
  | 0,hj=>simp at hj;subst hj;simpa [Addr.add] using hc
  | 1,hj=>simp at hj;subst hj;simpa [Addr.add] using be
  | j+2,hj=>simp at hj
 ·intro v' w' ho' hg _ hat;refine h v' w' ?_ hg hat;have e:(ps ++ [(⟨f,u⟩:Np.Span)]).length=ps.length+1:=by simp
  unfold aw;rw[e,List.map_append,List.flatten_append];exact ho'
theorem aEX(w w0:World)(go:o.guard=none)(m s x:Operand)(iB:o.op=Op.entryStore 184 m s x)(base r:Nat)(xs:List fl)(hX:MapX base r xs w0)(BK:r<base)(j:Nat)(p:Int×List UInt8)(g g':List Np.Span)(v v':Value)
 (hj:xs[j]?=some (p,g,v)) (hg:w0.grownBy w v.ownBlock) (ho:aw base w v' g') (hat:v'.ownBlock=v.ownBlock\/v'.ownBlock=some w0.heap.size) (hm:a.eval m = .map (some r)) (hs:a.eval s = .int .i64 (j:Int)) (hx:a.eval x=v')
 (hK:∀ w',MapX base r (xs.set j (p,g',v')) w'->Turned r w w'->wpList prog ops Q rest (a.put o.dst undef) w'):wpList prog ops Q (o::rest) a w:=by
 obtain⟨es,N8,he,lw⟩:=hX.map;have tF:r<w0.heap.size:=(eQ.1 N8).1;have hv:=hX.row _ (gQ hj);have hes:w.heap[r]?=some (.map es es.size):=(hg.block r tF (λe2=>by have:=(World.ownsRow.lt hv r e2.symm).1;omega)).trans N8;have hl:r<w.heap.size:=(eQ.1 hes).1;have al:es.size=xs.length:=by
  have:=Qd List.length he
  simpa using this
 have j8:j<xs.length:=(cQ.1 hj).1;have Xg:es.findIdx? (λe=>(e.born:Int) == (j:Int))=some j:=by
  rw[Array.findIdx?_eq_some_iff_getElem];refine⟨by omega,?_,λi hi=>?_⟩
  ·have:=lw j _ (pQ (by omega))
   simp[this]
  ·have:=lw i _ (pQ (by omega))
   simp[this];omega
 refine wpList_plain go λK' hK'=>?_;have dh:(Instr.entryStore 184 (.map (some r)) (.int .i64 (j:Int)) v').run prog w = .ok () { w with heap:=w.heap.setIfInBounds r (.map (es.modify j λe=>{ e with val:=v' }) es.size) }:=by
  simp[Instr.entryStore,MapKept.run_getObj_map hes,Xg,asInt,asIntOf,MapKept.run_setObj_map _ hes,Result.andThen]
 unfold Oper.wp;simp[execOp,iB,hm,hs,hx,dh,Result.andThen];have lD:Turned r w { w with heap:=w.heap.setIfInBounds r (.map (es.modify j λe=>{ e with val:=v' }) es.size) }:=⟨rfl,rfl,rfl,by simp,λi hi=>by simp[Ne.symm hi]⟩;refine hK' _ _ (hK _ ⟨⟨es.modify j λe=>{ e with val:=v' },by simp[hl],?_,λi e hi=>?_⟩,λy hy=>?_,λi i' y y' b hy hy' hb hb'=>?_⟩ lD)
 ·apply List.ext_getElem?;intro i;have hi:=Qd (λl=>l[i]?) he;simp only[List.getElem?_map,Array.getElem?_toList] at hi |-;rw[Array.getElem?_modify,List.getElem?_set];by_cases dE:j=i
  ·subst dE;rw[hj] at hi;rw[Qb rfl,Qb rfl,Qb j8];obtain⟨e,ic⟩:∃ e,es[j]?=some e:=⟨_,pQ (by omega)⟩;rw[ic] at hi |-;simp at hi |-;exact hi.1
  ·rw[Qc dE,Qc dE];simpa using hi
 ·rw[Array.getElem?_modify] at hi;split at hi
  ·rename_i dE;subst dE;obtain⟨e',he',rfl⟩:=Option.map_eq_some_iff.1 hi;exact lw j e' he'
  ·exact lw i e hi
 ·obtain⟨i,hi,rfl⟩:=nQ.1 hy;rw[List.length_set] at hi;rw[List.getElem_set];split
  ·exact ho.turned lD BK
  ·rename_i hne;have h1:=hX.row _ (List.getElem_mem hi);have h2:aw base w xs[i].2.2 xs[i].2.1:=cX h1 λb hb=>hg.block b (World.ownsRow.lt h1 b hb).2 λe2=>hne (hX.apart j i _ _ b hj (aQ hi) e2.symm hb);exact h2.turned lD BK
 ·have get:∀ (k:Nat) (z:fl),(xs.set j (p,g',v'))[k]?=some z->(k=j/\z=(p,g',v'))\/(k≠j/\xs[k]?=some z):=λk z hz=>by
   rw[List.getElem?_set] at hz;split at hz
   ·rename_i e;subst e
    first
     | (rw[Qb j8] at hz;cases hz;exact .inl ⟨rfl,rfl⟩)
     | (cases hz;exact .inl ⟨rfl,rfl⟩)
   ·rename_i e;exact .inr ⟨λe2=>e e2.symm,hz⟩
  have clash:∀ (k:Nat) (z:fl),k≠j->xs[k]?=some z->z.2.2.ownBlock=some b->v'.ownBlock=some b->False:=λk z hk hz wg ij=>by
   rcases hat with h1 | h1
   ·rw[ij] at h1;exact hk (hX.apart k j _ _ b hz hj wg h1.symm)
   ·rw[ij] at h1
    have:=(World.ownsRow.lt (hX.row _ (gQ hz)) b wg).2
    simp at h1;omega
  rcases get i y hy with ⟨e1,rfl⟩ | ⟨e1,h1⟩
  ·rcases get i' y' hy' with ⟨e2,rfl⟩ | ⟨e2,h2⟩
   ·rw[e1,e2]
   ·exact (clash i' y' e2 h2 hb' hb).elim
  ·rcases get i' y' hy' with ⟨e2,rfl⟩ | ⟨e2,h2⟩
   ·exact (clash i y e1 h1 hb hb').elim
   ·exact hX.apart i i' y y' b h1 h2 hb hb'
structure RangeX(base r I:Nat)(xs:List fl)(seen:Array Nat)(w:World):Prop where
 mapX:MapX base r xs w
 iter:w.heap[I]?=some (.mapIter (some r) xs.length seen xs.length)
 row:∀ x∈xs,x.2.2.ownBlock≠some I
theorem RangeX.ne{base r I:Nat}{xs:List fl}{seen:Array Nat}{w:World}(h:RangeX base r I xs seen w):I≠r:=by
 obtain⟨es,h1,_⟩:=h.mapX.map;intro e
 have:=h.iter
 rw[e,h1] at this
 cases this
theorem RangeX.lt{base r I:Nat}{xs:List fl}{seen:Array Nat}{w:World}(h:RangeX base r I xs seen w):I<w.heap.size:=(eQ.1 h.iter).1
theorem RangeX.keep{base r I:Nat}{xs:List fl}{seen:Array Nat}{w w':World}(h:RangeX base r I xs seen w)(hb:Below w.heap.size w w'):RangeX base r I xs seen w':=⟨h.mapX.keep hb,(hb.block I h.lt).trans h.iter,h.row⟩
theorem RangeX.changed{base r I:Nat}{xs:List fl}{seen:Array Nat}{w w':World}(h:RangeX base r I xs seen w)(hr:r<base){j:Nat}{p:Int×List UInt8}{g g':List Np.Span}{v:Value}(hj:xs[j]?=some (p,g,v))(hg:w.grownBy w' v.ownBlock)(ho:aw base w' v g'):RangeX base r I (xs.set j (p,g',v)) seen w':=by
 have hv:=h.row _ (gQ hj);refine⟨h.mapX.changed hr hj hg ho,?_,λx hx=>?_⟩
 ·rw[List.length_set];exact (hg.block I h.lt (λe=>hv e.symm)).trans h.iter
 ·obtain⟨i,hi,rfl⟩:=nQ.1 hx;rw[List.length_set] at hi;rw[List.getElem_set];split
  ·exact hv
  ·exact h.row _ (List.getElem_mem hi)
theorem MapX.size{base r:Nat}{xs:List fl}{w:World}(h:MapX base r xs w):∃ es,w.heap[r]?=some (.map es xs.length)/\es.size=xs.length/\es.toList.map (λe=>(e.key,e.val))=(xs.map λx=>(x.1,x.2.2)).map (λp=>(pH p.1,p.2))/\∀ (i:Nat) (e:MapEntry),es[i]?=some e->e.born=i:=by
 obtain⟨es,h1,h2,h3⟩:=h.map;have al:es.size=xs.length:=by
  have:=Qd List.length h2
  simpa using this
 exact⟨es,by rw[<-al];exact h1,al,h2,h3⟩
theorem aFZ(w:World)(hg:o.guard=none)(m:Operand)(iB:o.op=Op.range 184 m)(base r:Nat)(xs:List fl)(hm:a.eval m = .map (some r))(hX:MapX base r xs w)
 (hK:∀ w',RangeX base r w.heap.size xs #[] w'->Below w.heap.size w w'->w'.heap.size=w.heap.size+1->wpList prog ops Q rest (a.put o.dst (.pointer (some ⟨w.heap.size,0,none⟩))) w'):wpList prog ops Q (o::rest) a w:=by
 obtain⟨es,hes,al,_⟩:=hX.size;have dh:=run_range_map (P:=prog) w 184 _ _ r es xs.length underlying184 hes;refine wpList_plain hg λK' hK'=>?_;unfold Oper.wp;simp[execOp,iB,hm,dh,Result.andThen];have hb:Below w.heap.size w (w.alloc (.mapIter (some r) xs.length #[] xs.length)):=(vQ _ _).alloc (bQ _) _;refine hK' _ _ (hK _ ⟨hX.keep hb,heap_alloc_new _ _,λx hx e=>?_⟩ hb (by simp))
 have:=(World.ownsRow.lt (hX.row x hx) _ e).2
 omega
theorem Qo{w w':World}{r I:Nat}(h1:w'.heap[r]?=w.heap[r]?)(h2:w'.heap[I]?=w.heap[I]?):w'.rangeLeft r I=w.rangeLeft r I:=by
 unfold World.rangeLeft;rw[h1,h2]
theorem aFQ(w:World)(hg:o.guard=none)(it:Operand)(iB:o.op=Op.next it false)(base r I:Nat)(xs:List fl)(seen:Array Nat)(hit:a.eval it = .pointer (some ⟨I,0,none⟩))(h:RangeX base r I xs seen w)
 (Wt:(∀ j,j<xs.length->seen.contains j=true)->wpList prog ops Q rest (a.put o.dst (.tuple #[.bool false])) w)
 (Wy:∀ (j:Nat) (p:Int×List UInt8) (g:List Np.Span) (v:Value) (w':World),xs[j]?=some (p,g,v)->RangeX base r I xs (seen.push j) w'->Turned I w w'->w'.rangeLeft r I<w.rangeLeft r I->(Instr.entry (.pointer (some ⟨I,0,none⟩))).run prog w' = .ok (.tuple #[pH p,v]) w'->wpList prog ops Q rest (a.put o.dst (.tuple #[.bool true,pH p,v])) w') :
 wpList prog ops Q (o::rest) a w:=by
 have hne:=h.ne;obtain⟨es,hes,al,he,lw⟩:=h.mapX.size;have hold:∀ x∈es.toList,x.born<xs.length:=λx hx=>by
  obtain⟨i,hi,rfl⟩:=nQ.1 hx;have hi':i<es.size:=by simpa using hi
  have:=lw i es[i] (pQ hi')
  simp only[Array.getElem_toList];omega
 refine wpList_plain hg λK' hK'=>?_;unfold Oper.wp;rcases run_next_at (P:=prog) w o.type I r xs.length xs.length seen es xs.length h.iter hes hold (bQ _) with ⟨h0,dh⟩ | ⟨e,vR,w1,iO,dh⟩
 ·simp[execOp,iB,hit,dh,Result.andThen];refine hK' _ _ (Wt λj hj=>?_);have h1:=all_seen es seen h0 es[j] (by simp);rwa [lw j es[j] (pQ (by omega))] at h1
 ·obtain⟨hem,aOY⟩:=mem_left vR;obtain⟨j,hj,rP⟩:=nQ.1 hem;have hj':j<es.size:=by simpa using hj
  have Om:es[j]?=some e:=by rw[pQ hj',<-rP];simp
  have In:=lw j e Om;obtain⟨⟨p,g,v⟩,hx⟩:∃ x,xs[j]?=some x:=⟨_,aQ (by omega)⟩;have XI:e.key=pH p/\e.val=v:=by
   have hi:=Qd (λl=>l[j]?) he;simp only[List.getElem?_map,Array.getElem?_toList] at hi;rw[Om,hx] at hi;simpa using hi
  obtain⟨bL,jj⟩:=XI;rw[In] at dh;have eC:w1.heap[I]?=some (.mapIter (some r) xs.length seen xs.length):=by rcases iO with rfl | rfl <;> exact h.iter
  have Hv:I<w1.heap.size:=(eQ.1 eC).1;have aq:w1.heap[r]?=some (.map es xs.length):=by rcases iO with rfl | rfl <;> exact hes
  have aB:Below w.heap.size w w1:=by rcases iO with rfl | rfl;exact vQ _ _;exact (vQ _ _).drew
  have wb:w1.heap.size=w.heap.size:=by rcases iO with rfl | rfl <;> rfl
  obtain⟨w2,ag⟩:=aJZ (Go.ChangeMaps.setBlock w1 I (.mapIter (some r) xs.length (seen.push j) xs.length));have vL:w2.heap[I]?=some (.mapIter (some r) xs.length (seen.push j) xs.length):=by rw[<-ag];simp[Go.ChangeMaps.setBlock,Hv]
  have OJ:∀ i,i≠I->w2.heap[i]?=w1.heap[i]?:=λi hi=>by rw[<-ag];simp[Go.ChangeMaps.setBlock,Ne.symm hi]
  have aP:w1.heap=w.heap:=by rcases iO with rfl | rfl <;> rfl
  have lD:Turned I w w2:=⟨by rw[<-ag];exact aB.os,by rw[<-ag];exact aB.tape,by rw[<-ag];exact aB.output,by rw[<-ag];simp[Go.ChangeMaps.setBlock,wb],λi hi=>by rw[OJ i hi,aP]⟩;have ac:w2.heap[r]?=some (.map es xs.length):=(OJ r (Ne.symm hne)).trans aq;rw[ag] at dh;simp[execOp,iB,hit,dh,Result.andThen];rw[bL,jj];refine hK' _ _ (Wy j p g v w2 hx ⟨h.mapX.turned lD hne h.row,vL,h.row⟩ lD ?_ ?_)
  ·have:=left_shrinks es seen e vR
   rw[In] at this;unfold World.rangeLeft;rw[ac,vL,hes,h.iter];exact this
  ·have pN:(es.toList.map (·.born)).Nodup:=by
    rw[List.nodup_iff_pairwise_ne,List.pairwise_iff_getElem];intro i k hi hk hik;have hi':i<es.size:=by simpa using hi
    have hk':k<es.size:=by simpa using hk
    have h1:=lw i es[i] (pQ hi');have h2:=lw k es[k] (pQ hk');simp only[List.getElem_map,Array.getElem_toList];omega
   have:=run_entry_at (P:=prog) w2 I r xs.length seen es xs.length e (by rw[In];exact vL) ac hem pN
   rw[bL,jj] at this;exact this
end
end
section
open Go.RowKit
def Np.zV(l:List Np.Signed)(k:Nat)(x:Np.Signed):Prop:=∀ p,0<k->l[k - 1]?=some p->p.set.name=x.set.name->x.set.type≠3/\(Np.nM (l.take (k+1))=x.set.name->x.set.type=8)
def Np.zW(l:List Np.Signed):Prop:=∀ k x,l[k]?=some x->Np.zV l k x
theorem Zj{l:List Np.Signed}{k:Nat}{x:Np.Signed}(hx:l[k]?=some x):Np.nM (l.take (k+1))=if x.set.type=3 then x.set.name else Np.nM (l.take k):=by
 obtain⟨hk,rfl⟩:=cQ.1 hx;rw[fQ hk,Np.JB]
theorem anJ(a:ByteArray)(v:Value)(l:List Np.Signed)(bw:l.length<=20000)(hv:∀ x∈l,x.set.name≠[])(w:World)(hd:SlR cV 5 w w.heap.size v l) :
 Calls prog 161 #[.agg #[.string a,v]] w (aOJ w.heap.size w (.bool (Np.yes (Np.zW l)))):=by
 obtain⟨r,hr⟩:=aJZ (Np.yes (Np.zW l));rw[hr];have HR:=jq hr;have HD:=jq hd;have HV:=jq hv;obtain⟨A,c,rfl,be,bC⟩:=aj hd;clear hr hd hv;have HW:Hid (∀ o,Below w.heap.size w (w.alloc o)):=jq (λo=>(vQ _ w).alloc (bQ _) _);go_enter func161,ntmps161;go_wp2_with fail;obtain⟨w1,ai⟩:=aJZ (w.alloc (.cells #[.string a,.slice A l.length c] 44));have c1:w1.cell? ⟨w.heap.size,1,none⟩=some (.slice A l.length c):=by rw[<-ai];simp[go_sem]
 have ba:w1.heap.size=w.heap.size+1:=by rw[<-ai];simp
 have am:Hid (Below w.heap.size w w1):=jq (by rw[<-ai];exact HW.out _);rw[ai];clear ai;go_loopw [3,4] (λva i wr=>∃ (k:Nat) (sa:ByteArray),k<=l.length/\i = .int .i64 k/\va = .string sa/\Hid (sa.data.toList=Np.nM (l.take k))/\Hid (Below w1.heap.size w1 wr)/\Hid (∀ j x,j<k->l[j]?=some x->Np.zV l j x)) (λ_ i _=>l.length - (intOf i).toNat)
 case atStart=>exact⟨0,⟨#[]⟩,jQ _,rfl,rfl,jq rfl,jq (vQ _ _),jq (λj g hj=>by omega)⟩
 case round=>
  obtain⟨k,sa,hk,rfl,rfl,uU,HB,HA⟩:=hrel;have al:=HB.out.size;have d1:wr.cell? ⟨w.heap.size,1,none⟩=some (.slice A l.length c):=aIZ HB.out c1;have aD:=aIX am HB.out;have bR:w.heap.size<wr.heap.size:=by omega
  by_cases aa:k<l.length
  ·obtain⟨x,ab⟩:∃ x,l[k]?=some x:=⟨_,aQ aa⟩;obtain⟨b,o,c',sn,dv,sv,hA,bj,_,ay,cC,aT,aR,f0,f1,f2,f3,f4⟩:=fE (HD.out.keep bU aD.out) ab
   cases hA
   have HX:=jq ab;have aW:=jq ay;have ml:=jq (Zj ab);have hne:(sn.toList == [])=false:=by rw[dQ,ay];simpa using HV.out x (gQ ab)
   have dR:Hid (Np.zV l k x->∀ j y,j<k+1->l[j]?=some y->Np.zV l j y):=jq (λh j y hj hy=>by
    by_cases e:j=k
    ·subst e;rw[ab] at hy;cases hy;exact h
    ·exact HA.out j y (by omega) hy)
   have HF:Hid (¬ Np.zV l k x->r=false):=jq (λh=>by rw[<-HR.out];exact Np.aS λq=>h (q k x ab));have bF:(0:Int)<=(k:Int):=by omega
   have bL:(k:Int)<(l.length:Int):=by omega
   have aq:b<wr.heap.size:=by omega
   have Im:∃ q:Bool,Hid (q=true↔∃ p,0<k/\l[k - 1]?=some p/\p.set.name=x.set.name)/\((k=0/\q=false)\/∃ (m:Nat) (sy:ByteArray),k=m+1/\wr.cell? ⟨b,o+m * 5,none⟩=some (.string sy)/\(sy.toList == sn.toList)=q):=by
    by_cases ji:k=0
    ·exact⟨false,jq ⟨λh=>(by cases h),λ⟨p,h,_⟩=>(by omega)⟩,.inl ⟨ji,rfl⟩⟩
    ·obtain⟨m,rfl⟩:∃ m,k=m+1:=⟨k - 1,by omega⟩;obtain⟨y,hy⟩:∃ y,l[m]?=some y:=⟨_,aQ (by omega)⟩;obtain⟨b9,o9,c9,sy,dv9,sv9,hA,_,_,iC,_,_,_,q0,q1,_⟩:=fE (HD.out.keep bU aD.out) hy;simp only[Value.slice.injEq,Option.some.injEq,Addr.mk.injEq,and_true,true_and] at hA;obtain⟨⟨rfl,rfl⟩,-⟩:=hA;refine⟨_,jq ?_,.inr ⟨m,sy,rfl,q0,rfl⟩⟩;rw[dQ,dQ,iC,aW.out,beq_iff_eq];constructor
     ·intro h;exact⟨y,by omega,by simpa using hy,h⟩
     ·rintro⟨p,_,hp,h⟩;rw[show m+1 - 1=m by omega,hy] at hp
      cases hp;exact h
   obtain⟨qb,ro,BJ⟩:=Im;obtain⟨ty,fB⟩:=aJZ x.set.type;have fK:=jq fB;rw[fB] at f1;clear ab ay aT aR fB f2 f3 f4;have go:∃ m:Nat,(decide ((0:Int)<(k:Int))=false/\decide (0<k)=false/\qb=false)\/(decide ((0:Int)<(k:Int))=true/\decide (0<k)=true/\IntKind.i64.wrap ((k:Int) - 1)=(m:Int)/\(k:Int) - 1=(m:Int)/\(0:Int)<=(m:Int)/\(m:Int)<(l.length:Int)/\∃ sy:ByteArray,wr.cell? ⟨b,o+m * 5,none⟩=some (.string sy)/\(sy.toList == sn.toList)=qb):=by
    rcases BJ with ⟨ji,h⟩ | ⟨m,sy,mJ,g0,rZ⟩
    ·exact⟨0,.inl ⟨by simp;omega,by simp;omega,h⟩⟩
    ·exact⟨m,.inr ⟨by simp;omega,by simp;omega,by rw[IntWalk.i64_in _ (by omega)];omega,by omega,by omega,by omega,sy,g0,rZ⟩⟩
   clear BJ;obtain⟨m,go⟩:=go;by_cases h3:ty=3
   ·subst h3;have tT:Hid (sn.data.toList=Np.nM (l.take (k+1))):=jq (by rw[ml.out,Qb fK.out,aW.out]);rcases go with ⟨gU,iz,rfl⟩ | ⟨gU,iz,Jl,Eo,jh,rM,sy,g0,rZ⟩
    ·have bG:=jq (dR.out (λp h0 hp he=>by have:=ro.out.2 ⟨p,h0,hp,he⟩;cases this));go_wp2_with fail;go_quiet (fail);go_wp2_with fail;go_roundw
     case rel=>exact⟨k+1,sn,by omega,by go_num,rfl,tT,jq (below_drewN HB.out _),jq bG.out⟩
     case measure=>simp[intOf] <;> omega
    ·cases qb with
     | false=>
      have bG:=jq (dR.out (λp h0 hp he=>by have:=ro.out.2 ⟨p,h0,hp,he⟩;cases this));go_wp2_with fail;go_quiet (fail);go_wp2_with fail;go_roundw
      case rel=>exact⟨k+1,sn,by omega,by go_num,rfl,tT,jq (below_drewN HB.out _),jq bG.out⟩
      case measure=>simp[intOf] <;> omega
     | true=>
      have sY:Hid (r=false):=jq (HF.out λh=>by
       obtain⟨p,h0,hp,he⟩:=ro.out.1 (by simp);exact (h p h0 hp he).1 fK.out)
      go_wp2_with fail;go_quiet (fail);obtain⟨w2,ag⟩:=aJZ (wr.drewN nq);rw[ag];have ac:Below wr.heap.size wr w2:=by rw[<-ag];exact below_drewN (vQ _ _) _
      have t1:w2.cell? ⟨w.heap.size,1,none⟩=some (.slice (some ⟨b,o,none⟩) l.length c):=aIZ ac d1;have t2:w2.cell? ⟨b,o+k * 5,none⟩=some (.string sn):=aIZ ac f0;have fk:=aIX aD ac;clear ac ag;go_wp2_with fail;go_ret;exact⟨ae sY.out.symm,fk.out⟩
   ·have h3':(ty == 3)=false:=by simpa using h3
    have h3'':(ty != 3)=true:=by simpa using h3
    have tT:Hid (sa.data.toList=Np.nM (l.take (k+1))):=jq (by rw[ml.out,Qc (by rw[fK.out];exact h3)];exact uU.out);rcases go with ⟨gU,iz,rfl⟩ | ⟨gU,iz,Jl,Eo,jh,rM,sy,g0,rZ⟩
    ·have bG:=jq (dR.out (λp h0 hp he=>by have:=ro.out.2 ⟨p,h0,hp,he⟩;cases this));go_wp2_with fail;go_quiet (fail);go_wp2_with fail;go_roundw
     case rel=>exact⟨k+1,sa,by omega,by go_num,rfl,tT,jq (below_drewN HB.out _),jq bG.out⟩
     case measure=>simp[intOf] <;> omega
    ·cases qb with
     | false=>
      have bG:=jq (dR.out (λp h0 hp he=>by have:=ro.out.2 ⟨p,h0,hp,he⟩;cases this));go_wp2_with fail;go_quiet (fail);go_wp2_with fail;go_roundw
      case rel=>exact⟨k+1,sa,by omega,by go_num,rfl,tT,jq (below_drewN HB.out _),jq bG.out⟩
      case measure=>simp[intOf] <;> omega
     | true=>
      obtain⟨qe,Ek⟩:=aJZ (sn.toList == sa.toList);have LL:Hid (qe=true↔Np.nM (l.take (k+1))=x.set.name):=jq (by rw[<-Ek,dQ,dQ,aW.out,tT.out,beq_iff_eq];exact eq_comm);obtain⟨q8,vZ⟩:=aJZ (ty != 8);have CZ:Hid (q8=true↔x.set.type≠8):=jq (by rw[<-vZ,fK.out];simp);have rq:Hid (x.set.type≠3):=jq (by rw[fK.out];exact h3);clear h3;go_wp2_with fail;go_quiet (fail);obtain⟨w2,ag⟩:=aJZ (wr.drewN nq);rw[ag];have ac:Below wr.heap.size wr w2:=by rw[<-ag];exact below_drewN (vQ _ _) _
      have t1:w2.cell? ⟨w.heap.size,1,none⟩=some (.slice (some ⟨b,o,none⟩) l.length c):=aIZ ac d1;have t2:w2.cell? ⟨b,o+k * 5,none⟩=some (.string sn):=aIZ ac f0;have fk:=aIX aD ac;have L3:=jq (HB.out.trans (ac.mono HB.out.size));clear ac ag
      cases qe with
      | false=>
       have bG:=jq (dR.out (λp h0 hp he=>⟨rq.out,λhl=>by have:=LL.out.2 hl;cases this⟩));go_wp2_with fail;go_roundw
       case rel=>exact⟨k+1,sa,by omega,by go_num,rfl,tT,jq L3.out,jq bG.out⟩
       case measure=>simp[intOf] <;> omega
      | true=>
       cases q8 with
       | false=>
        have bG:=jq (dR.out (λp h0 hp he=>⟨rq.out,λ_=>Decidable.not_not.1 λh8=>by have:=CZ.out.2 h8;cases this⟩));go_wp2_with fail;go_roundw
        case rel=>exact⟨k+1,sa,by omega,by go_num,rfl,tT,jq L3.out,jq bG.out⟩
        case measure=>simp[intOf] <;> omega
       | true=>
        have sY:Hid (r=false):=jq (HF.out λh=>by
         obtain⟨p,h0,hp,he⟩:=ro.out.1 (by simp);exact CZ.out.1 (by simp) ((h p h0 hp he).2 (LL.out.1 (by simp))))
        go_wp2_with fail;go_ret;exact⟨ae sY.out.symm,fk.out⟩
  ·go_wp2_with fail;go_ret;refine⟨ae ?_,aD.out⟩;rw[<-HR.out];exact (Np.cu λi x hx=>HA.out i x (by have:=(cQ.1 hx).1;omega) hx).symm
theorem ZR{x:List UInt8}(h:Np.aG x=true):x≠[]:=by
 rintro rfl;revert h;decide
def Ul(w1:World)(apex:List UInt8)(l:List Np.Signed)(i:Value)(wr:World):Prop:=
 ∃ k:Nat,k<=l.length/\i = .int .i64 k/\Below w1.heap.size w1 wr/\Hid (∀ j x,j<k->l[j]?=some x->Np.dC x.set=true)/\Hid (Np.jY apex none l=Np.jY apex (pY l k) (l.drop k))
theorem alX(a:ByteArray)(ha:a.size<=140737488355328)(v:Value)(l:List Np.Signed)(bw:l.length<=20000)(w:World)(hd:SlR cV 5 w w.heap.size v l) :
 Calls prog 159 #[.agg #[.string a,v]] w (aOJ w.heap.size w (.bool (Np.eX ⟨a.data.toList,l⟩))):=by
 have HD:=jq hd;obtain⟨A,c,rfl,be,bC,-⟩:=hd;have HW:Hid (∀ o,Below w.heap.size w (w.alloc o)):=jq (λo=>(vQ _ w).alloc (bQ _) _);go_enter func159,ntmps159;go_wp2_with fail;refine (yL _ ha _).mono ?_;rintro e w1 ⟨rfl,hb⟩;have c0:w1.cell? ⟨w.heap.size,0,none⟩=some (.string a):=by rw[hb.cell (by simp)];go_simp
 have c1:w1.cell? ⟨w.heap.size,1,none⟩=some (.slice A l.length c):=by rw[hb.cell (by simp)];go_simp
 have cI:w.heap.size<w1.heap.size:=by have:=hb.size;simp at this;omega
 have am:=jq ((HW.out _).trans (hb.mono (by simp)));clear hb
 cases nG:Np.aG a.data.toList with
 | false=>
  have HF:Hid (Np.eX ⟨a.data.toList,l⟩=false):=jq (by unfold Np.eX;rw[nG];rfl);clear nG;go_wp2_with fail;go_ret;exact⟨ae HF.out.symm,am.out⟩
 | true=>
  have xO:=jq nG;have haz:=yH nG;clear nG;go_wp2_with fail;refine (QA a xO.out _).mono ?_;rintro e w0 ⟨rfl,bW⟩;have Ym:=bW.size;replace c0:w0.cell? ⟨w.heap.size,0,none⟩=some (.string a):=(bW.cell (by simpa using cI)).trans c0;replace c1:w0.cell? ⟨w.heap.size,1,none⟩=some (.slice A l.length c):=(bW.cell (by simpa using cI)).trans c1;replace am:=aIX am bW;replace cI:w.heap.size<w0.heap.size:=by omega
  clear bW Ym;obtain⟨w1,rfl⟩:=aKQ w0
  cases sm:Np.eF a.data.toList with
  | true=>
   have HF:Hid (Np.eX ⟨a.data.toList,l⟩=false):=jq (by unfold Np.eX;rw[sm];simp);go_wp2_with (go_at_call 225;refine (EU a ha _).mono ?_;rintro e w' ⟨rfl,rfl⟩);go_ret;exact⟨ae HF.out.symm,am.out⟩
  | false=>
   have HF:Hid (Np.eX ⟨a.data.toList,l⟩=Np.jY a.data.toList none l):=jq (by unfold Np.eX;rw[sm,xO.out];simp);go_wp2_with (go_at_call 225;refine (EU a ha _).mono ?_;rintro e w' ⟨rfl,rfl⟩);clear sm;go_loopw [3] (λi wr=>Ul w1 a.data.toList l i wr) (λi _=>l.length - (intOf i).toNat)
   case atStart=>exact⟨0,jQ _,rfl,vQ _ _,jq (λj x hj=>by omega),jq rfl⟩
   case round=>
    obtain⟨k,hk,rfl,aB,HV,HG⟩:=hrel;have Yy:=aB.size;have d0:wr.cell? ⟨w.heap.size,0,none⟩=some (.string a):=by rw[aB.cell (by simpa using cI)];exact c0
    have d1:wr.cell? ⟨w.heap.size,1,none⟩=some (.slice A l.length c):=by rw[aB.cell (by simpa using cI)];exact c1
    have bR:w.heap.size<wr.heap.size:=by omega
    by_cases aa:k<l.length
    ·have lS:Below w.heap.size w wr:=am.out.trans (aB.aKZ);have ab:=aQ aa;obtain⟨b,o,c',sn,dv,sv,hA,bj,_,ay,al,aT,aR,e0,e1,e2,e3,e4⟩:=fE (HD.out.keep bU lS) ab
     cases hA
     generalize hx:l[k]=x at *;clear hx;obtain⟨Ad,cd,rfl,Iv,XK⟩:=aj aT;have mh:=jq aT;have HX:=jq ab;have qD:(⟨sn.data.toList,x.set.type,x.set.life,x.set.data⟩:Np.DSet)=x.set:=by rw[ay]
     have LP:=jq qD;have aW:=jq ay;have aO:=jq aB;have xo:=jq lS;have ju:=jq (HG.out.trans (RJ ab (pY l k)));clear aT aR ab ay aB lS c0 c1 qD e4;go_wp2_with fail;have mF:Below wr.heap.size wr (wr.alloc (.cells #[.string sn,.int .i64 x.set.type,.int .i64 x.set.life,.slice Ad x.set.data.length cd] 26)):=(vQ _ _).alloc (bQ _) _;have p0:=World.cell?_alloc_new wr #[.string sn,.int .i64 x.set.type,.int .i64 x.set.life,.slice Ad x.set.data.length cd] 26 0;have p1:=World.cell?_alloc_new wr #[.string sn,.int .i64 x.set.type,.int .i64 x.set.life,.slice Ad x.set.data.length cd] 26 1;have p2:=World.cell?_alloc_new wr #[.string sn,.int .i64 x.set.type,.int .i64 x.set.life,.slice Ad x.set.data.length cd] 26 2;have p3:=World.cell?_alloc_new wr #[.string sn,.int .i64 x.set.type,.int .i64 x.set.life,.slice Ad x.set.data.length cd] 26 3;have l4:wr.heap.size<(wr.alloc (.cells #[.string sn,.int .i64 x.set.type,.int .i64 x.set.life,.slice Ad x.set.data.length cd] 26)).heap.size:=by simp
     generalize wr.alloc (.cells #[.string sn,.int .i64 x.set.type,.int .i64 x.set.life,.slice Ad x.set.data.length cd] 26)=wa at mF p0 p1 p2 p3 l4 |-;have eb:=jq mF;have ux:=aIX xo mF;replace d0:wa.cell? ⟨w.heap.size,0,none⟩=some (.string a):=by rw[mF.cell (by simpa using bR)];exact d0
     replace d1:wa.cell? ⟨w.heap.size,1,none⟩=some (.slice (some ⟨b,o,none⟩) l.length c):=by rw[mF.cell (by simpa using bR)];exact d1
     replace p0:wa.cell? ⟨wr.heap.size,0,none⟩=some (.string sn):=p0;replace p1:wa.cell? ⟨wr.heap.size,1,none⟩=some (.int .i64 x.set.type):=p1;replace p2:wa.cell? ⟨wr.heap.size,2,none⟩=some (.int .i64 x.set.life):=p2;replace p3:wa.cell? ⟨wr.heap.size,3,none⟩=some (.slice Ad x.set.data.length cd):=p3;have nA:∀ (g:bO wa) (p:Addr),p.block<wa.heap.size->g.w.cell? p=wa.cell? p:=λg p h=>g.cell p h;have aYZ:w.heap.size<wa.heap.size:=by omega
     have aNQ:b<wa.heap.size:=by omega
     have Sy:=jq ((mh.out.keep bD (eb.out.aKZ)).more bP (show w.heap.size<=wa.heap.size by omega));clear mF e0 e1 e2 e3;have cB:∀ g:bO wa,Calls prog 150 #[.agg #[.string sn,.int .i64 x.set.type,.int .i64 x.set.life,.slice Ad x.set.data.length cd]] g.w λe w'=>e = .returned (.bool (Np.dC x.set))/\Below g.w.heap.size g.w w':=λg=>by
      rw[<-LP.out];exact JV sn al _ _ _ x.set.data _ (Sy.out.later bD bP g.below)
     cases fC:Np.dC x.set with
     | false=>
      rw[fC] at cB;have kr:=jq cB;have ky:=jq fC;clear cB fC;refine aMQ ?_
      repeat (go_big_quiet_step ((go_at_call 150;exact Calls.grow_of (kr.out _))))
      refine wpQuiet_nil ?_;rintro _ ⟨g,rfl⟩;go_wp2_with fail;go_ret;refine⟨ae ?_,ux.out.trans (g.below.aKZ)⟩;rw[HF.out,ju.out,ky.out,Bool.and_false];rfl
     | true=>
      rw[fC] at cB;have kr:=jq cB;have ky:=jq fC;have lE:Np.aG sn.data.toList=true:=by rw[aW.out];exact (Np.um fC).1
      have iu:=jq lE;have Yj:=yH lE;have hin:∀ g:bO wa,Calls prog 222 #[.string sn,.string a] g.w λe w'=>e = .returned (.bool (Np.bq sn.data.toList a.data.toList))/\Below g.w.heap.size g.w w':=λg=>by
       rw[<-Np.B5 (ZR xO.out)];exact ES sn a (by omega) (by omega) _
      have AJ:∀ j y,j<k+1->l[j]?=some y->Np.dC y.set=true:=λj y hj hy=>by
       by_cases e:j=k
       ·subst e;rw[HX.out] at hy;cases hy;exact fC
       ·exact HV.out j y (by omega) hy
      have nX:=jq AJ;clear cB fC lE AJ
      cases fT:Np.bq sn.data.toList a.data.toList with
      | false=>
       rw[fT] at hin;have jO:=jq hin;have zK:=jq fT;clear fT hin;refine aMQ ?_
       repeat (go_big_quiet_step (first
        | (go_at_call 150;exact Calls.grow_of (kr.out _))
        | (go_at_call 222;exact Calls.grow_of (jO.out _))))
       refine wpQuiet_nil ?_;rintro _ ⟨g,rfl⟩;go_wp2_with fail;go_ret;refine⟨ae ?_,ux.out.trans (g.below.aKZ)⟩;rw[HF.out,ju.out,<-aW.out,iu.out,zK.out];rfl
      | true=>
       rw[fT] at hin;have jO:=jq hin;have tX:Np.jY a.data.toList none l=((match pY l k with | none=>true | some q=>decide (Np.hZ q x.set<0))&&Np.jY a.data.toList (pY l (k+1)) (l.drop (k+1))):=by
        rw[ju.out,<-aW.out,iu.out,fT,ky.out,Fh HX.out];rfl
       have ck:=jq tX;clear fT hin tX;by_cases bF:k=0
       ·subst bF;refine aMQ ?_
        repeat (go_big_quiet_step (first
         | (go_at_call 150;exact Calls.grow_of (kr.out _))
         | (go_at_call 222;exact Calls.grow_of (jO.out _))))
        refine wpQuiet_nil ?_;rintro _ ⟨g,rfl⟩;go_wp2_with fail;go_roundw
        case rel=>exact⟨1,by omega,by go_num,aO.out.trans ((eb.out.trans (g.below.aKZ)).mono aO.out.size),nX,jq (by rw[ck.out];rfl)⟩
        case measure=>simp[intOf] <;> omega
       ·obtain⟨i,rfl⟩:∃ i,k=i+1:=⟨k - 1,by omega⟩;have rJ:=aQ (show i<l.length by omega);obtain⟨b',o',c'',sq,dq,sg,pu,AO,_,kR,OY,Ba,_,f0,f1,f2,f3,_⟩:=fE ((HD.out.keep bU ux.out)) rJ
        cases pu
        generalize hy:l[i]=y at *;clear hy;obtain⟨Aq,cq,rfl,W4,Ow⟩:=aj Ba;have OU:(⟨sq.data.toList,y.set.type,y.set.life,y.set.data⟩:Np.DSet)=y.set:=by rw[kR]
        have Pb:Np.aG sq.data.toList=true:=by rw[kR];exact (Np.um (HV.out i y (by omega) rJ)).1
        have OM:pY l (i+1)=some y.set:=Fh rJ;have mq:=jq OM;have OI:∀ g:bO wa,Calls prog 234 #[.agg #[.string sq,.int .i64 y.set.type,.int .i64 y.set.life,.slice Aq y.set.data.length cq],.agg #[.string sn,.int .i64 x.set.type,.int .i64 x.set.life,.slice Ad x.set.data.length cd]] g.w λe w'=>e = .returned (.int .i64 (Np.hZ y.set x.set))/\Below g.w.heap.size g.w w':=λg=>by
         have:=amJ sq sn y.set.type y.set.life x.set.type x.set.life (.slice Aq y.set.data.length cq) (.slice Ad x.set.data.length cd) y.set.data x.set.data Pb iu.out g.w
         rw[OU,LP.out] at this;exact this
        have LB:=jq OI;clear OU OM Ba kR rJ OI Pb;have jh:(0:Int)<=(i:Int):=by omega
        have rM:(i:Int)<(l.length:Int):=by omega
        have XX:(0:Int)<(((i+1:Nat)):Int):=by omega
        have ai:IntKind.i64.wrap (((i+1:Nat):Int) - 1)=(i:Int):=by rw[IntWalk.i64_in _ (by omega)];omega
        by_cases gj:Np.hZ y.set x.set<0
        ·have lc:=jq (uQ gj);have Iw:¬ (0<=Np.hZ y.set x.set):=by omega
         refine aMQ ?_
         repeat (go_big_quiet_step (first
          | (go_at_call 150;exact Calls.grow_of (kr.out _))
          | (go_at_call 222;exact Calls.grow_of (jO.out _))
          | (go_at_call 234;exact Calls.grow_of (LB.out _))))
         refine wpQuiet_nil ?_;rintro _ ⟨g,rfl⟩;go_wp2_with fail;go_roundw
         case rel=>
          refine⟨i+1+1,by omega,by go_num,aO.out.trans ((eb.out.trans (g.below.aKZ)).mono aO.out.size),nX,jq ?_⟩;rw[ck.out,mq.out];simp only[lc.out,Bool.true_and]
         case measure=>simp[intOf] <;> omega
        ·have lc:=jq (tQ gj);have Iw:0<=Np.hZ y.set x.set:=by omega
         refine aMQ ?_
         repeat (go_big_quiet_step (first
          | (go_at_call 150;exact Calls.grow_of (kr.out _))
          | (go_at_call 222;exact Calls.grow_of (jO.out _))
          | (go_at_call 234;exact Calls.grow_of (LB.out _))))
         refine wpQuiet_nil ?_;rintro _ ⟨g,rfl⟩;go_wp2_with fail;go_ret;refine⟨ae ?_,ux.out.trans (g.below.aKZ)⟩;rw[HF.out,ck.out,mq.out];simp only[lc.out,Bool.false_and]
    ·go_wp2_with fail;go_ret;refine⟨ae ?_,am.out.trans (aB.aKZ)⟩;rw[HF.out,HG.out,List.drop_eq_nil_of_le (by omega)];rfl
end
end Go.Proofs.YtfnopgdcaanaiaaGreatDoor
