/- Parts of the proof. No condition. -/
import Derived.Test.YtfnopgdcaanaiaaGreatDoorW06
import Derived.Test.YtfnopgdcaanaiaaGreatDoorW07
set_option linter.all false
set_option maxRecDepth 100000
set_option maxHeartbeats 8000000
namespace Go.Proofs.YtfnopgdcaanaiaaGreatDoor
open Go.Proofs.Tryz
section
open Go.RowKit
theorem JC{c:UInt8}{r:List UInt8}(hc:c≠46):∃ x xs,Np.aU (c::r)=(c::x)::xs:=by
 unfold Np.aU;rw[Qc hc]
 cases Np.aU r with
 | nil=>exact⟨[],[],rfl⟩
 | cons x xs=>exact⟨x,xs,rfl⟩
theorem JV{l:List UInt8}(h:Np.aA l=true):Np.dP l=((Np.eG l).head? == some [42]):=by
 unfold Np.eG;by_cases hd:l = [46]
 ·subst hd;decide
 ·rw[Qc hd]
  cases l with
  | nil=>exact absurd h (by decide)
  | cons c r=>
   have hg:Np.fD (Np.aU (c::r)).reverse 0 false=true:=by
    unfold Np.aA at h;rw[Qc hd] at h;split at h
    ·cases h
    ·exact h
   have hl:=Np.ML _ _ _ hg;by_cases hc:c=46
   ·subst hc;have e:Np.aU (46::r) = []::Np.aU r:=by rw[Np.aU,Qb rfl]
    rw[e] at hl
    have:=hl [] (by simp)
    rcases this with h1 | h1
    ·cases h1
    ·exact absurd h1 (by decide)
   ·obtain⟨x,xs,e⟩:=JC (r:=r) hc;rw[e] at hl |-;rw[Bool.eq_iff_iff];simp only[Np.dP,List.head?_cons,beq_iff_eq,Option.some.injEq,List.cons.injEq];constructor
    ·rintro rfl;rcases hl (42::x) (by simp) with h1 | h1
     ·simpa using h1
     ·exfalso;unfold Np.cC at h1;simp only[Bool.and_eq_true,List.all_cons] at h1;exact absurd h1.2.1 (by decide)
    ·exact λh=>h.1
theorem Jq(s:ByteArray)(h:Np.aA s.data.toList=true)(w:World) :
 Calls prog 158 #[.string s] w (aFQ w.heap.size w (.bool (Np.dP s.data.toList))):=by
 have hw:=JV h;have an:=tU h;obtain⟨ps,ft⟩:=aCQ (Np.eG s.data.toList);obtain⟨r,hr⟩:=aCQ (ps.head? == some [42]);rw[hw,ft,hr];have nc:=jq ft;have HR:=jq hr;clear hw h ft hr;go_enter func158,ntmps158;go_wp2_with fail;refine (BW s (by omega) _).mono ?_;rw[nc.out];rintro e w1 ⟨v,rfl,hv,hb⟩;have HB:=jq hb;clear hb;obtain⟨A,c,rfl,hc,hl,he⟩:=hv
 cases ps with
 | nil=>
  have HX:Hid (r=false):=jq (by rw[<-HR.out];rfl);go_wp2_with fail;go_ret;exact⟨ag HX.out.symm,HB.out⟩
 | cons x xs=>
  obtain⟨b,o,e,rfl,bD,_,hce,hx⟩:=he 0 x rfl;have hx':e = [av x]:=hx;subst hx';have h0:w1.cell? ⟨b,o,none⟩=some (av x):=by have:=hce 0 _ rfl;simpa using this
  have HX:Hid ((x == [42])=r):=jq (by rw[<-HR.out,List.head?_cons,Bool.eq_iff_iff];simp);obtain⟨n,hn⟩:=aCQ ((x::xs).length);have iH:0<n:=by rw[<-hn];simp
  have NS:(0:Int)<(n:Int):=by omega
  rw[hn];clear he hce hx hc hl hn;go_wp2_with fail
  all_goals
   go_ret;refine⟨ag ?_,HB.out⟩;rw[<-HX.out]
end
section
open Go.RowKit Go.MapKept Go.Shelf
theorem Y0{α β:Type}[BEq α][LawfulBEq α](l:List (α×β))(p:α)(h:l.lookup p=none):p∉l.map (·.1):=by
 induction l with
 | nil=>simp
 | cons z zs ih=>
  rw[List.lookup_cons] at h
  cases hb:(p == z.1) with
  | true=>rw[hb] at h;simp at h
  | false=>
   rw[hb] at h;have hne:p≠z.1:=by simpa using hb
   simp only[List.map_cons,List.mem_cons,not_or];exact⟨hne,ih h⟩
abbrev fB:=(Int×List UInt8)×List Np.Span×Value
structure MapX(base r:Nat)(xs:List fB)(w:World):Prop where
 map:ou r (xs.map λx=>(x.1,x.2.2)) w
 row:∀ x∈xs,aN base w x.2.2 x.2.1
 apart:∀ (i j:Nat) (x y:fB) (g:Nat),xs[i]?=some x->xs[j]?=some y->x.2.2.ownBlock=some g->y.2.2.ownBlock=some g->i=j
theorem MapX.keep{base r:Nat}{xs:List fB}{w w':World}(h:MapX base r xs w)(hb:Below w.heap.size w w'):MapX base r xs w':=⟨h.map.keep hb h.map.lt,λx hx=>(h.row x hx).keep hb,h.apart⟩
theorem MapX.made(base:Nat)(w:World):MapX base w.heap.size [] (w.alloc (.map #[] 0)):=⟨ou.made w,λx hx=>(by cases hx),λi j x y g h=>by simp at h⟩
theorem aN.turned{base r:Nat}{w w':World}{v:Value}{ps:List Np.Span}(h:aN base w v ps)(ht:Turned r w w')(hr:r<base):aN base w' v ps:=gY h (λg hg=>ht.block g (by have:=(h.lt g hg).1;omega))
theorem MapX.turned{base r I:Nat}{xs:List fB}{w w':World}(h:MapX base r xs w)(ht:Turned I w w')(hI:I≠r)(hrow:∀ x∈xs,x.2.2.ownBlock≠some I):MapX base r xs w':=
 ⟨h.map.keep' (ht.block r (Ne.symm hI)),λx hx=>gY (h.row x hx) (λg hg=>ht.block g (λe=>hrow x hx (by rw[hg,e]))),h.apart⟩
theorem MapX.changed{base r:Nat}{xs:List fB}{w w':World}(h:MapX base r xs w)(hr:r<base){j:Nat}{p:Int×List UInt8}{g g':List Np.Span}{v:Value}(hj:xs[j]?=some (p,g,v))(hg:w.grownBy w' v.ownBlock)(ho:aN base w' v g'):MapX base r (xs.set j (p,g',v)) w':=by
 have hv:=h.row _ (gQ hj);refine⟨?_,λx hx=>?_,λi i' x y b hx hy=>?_⟩
 ·have e:(xs.set j (p,g',v)).map (λx:fB=>(x.1,x.2.2))=xs.map λx=>(x.1,x.2.2):=by
   rw[List.map_set];apply List.ext_getElem?;intro i;rw[List.getElem?_set];split
   ·rename_i e;subst e;rw[List.length_map,Qb (cQ.1 hj).1,List.getElem?_map,hj];rfl
   ·rfl
  rw[e];refine h.map.keep' (hg.block r h.map.lt λe2=>?_)
  have:=(World.ownsRow.lt hv r e2.symm).1
  omega
 ·obtain⟨i,hi,rfl⟩:=nQ.1 hx;rw[List.length_set] at hi;rw[List.getElem_set];split
  ·exact ho
  ·rename_i hne;refine gY (h.row _ (List.getElem_mem hi)) λb hb=>hg.block b (World.ownsRow.lt (h.row _ (List.getElem_mem hi)) b hb).2 λe2=>hne ?_;exact h.apart j i _ _ b hj (aQ hi) e2.symm hb
 ·intro hb hb';have get:∀ (k:Nat) (z:fB),(xs.set j (p,g',v))[k]?=some z->∃ z',xs[k]?=some z'/\z'.2.2=z.2.2:=λk z hz=>by
   rw[List.getElem?_set] at hz;split at hz
   ·rename_i e;subst e;rw[Qb (cQ.1 hj).1] at hz
    cases hz
    exact⟨_,hj,rfl⟩
   ·exact⟨z,hz,rfl⟩
  obtain⟨x',hx',ex⟩:=get i x hx;obtain⟨y',hy',ey⟩:=get i' y hy;exact h.apart i i' x' y' b hx' hy' (by rw[ex];exact hb) (by rw[ey];exact hb')
theorem Yz(p:Int×List UInt8)(P:Program)(w:World):(Instr.keyThatStays (pH p) (pH p)).run P w = .ok (pH p) w:=by
 have h1:∀ a:ByteArray,(a == a)=true:=λa=>by
  show (a.data == a.data)=true;simp
 have:Instr.sameBits 10000 (pH p) (pH p)=true:=by
  rw[show (10000:Nat)=9998+1+1 from rfl];simp[Instr.sameBits,pH,av,h1]
 simp[Instr.keyThatStays,this]
section
variable {ops:Array Oper} {rest:List Oper} {o:Oper} {a:Act} {Q:Exit->Act->World->Prop}
theorem azZ(w:World)(hg:o.guard=none)(m x:Operand)(jO:o.op=Op.mapEntry 184 m x)(base r:Nat)(xs:List fB)(hm:a.eval m = .map (some r))(hr:MapX base r xs w)(Bu:r<base)(p:Int×List UInt8)(hx:a.eval x=pH p)
 (hK:∀ (w':World) (j:Nat) (g:List Np.Span) (v:Value) (xs':List fB),((xs'=xs/\xs[j]?=some (p,g,v))\/(p∉xs.map (·.1)/\xs'=xs ++ [(p,[],.slice none 0 0)]/\j=xs.length/\g = []/\v = .slice none 0 0))->xs'[j]?=some (p,g,v)->MapX base r xs' w'->Turned r w w'->wpList prog ops Q rest (a.put o.dst (.tuple #[v,.int .i64 (j:Int)])) w'):wpList prog ops Q (o::rest) a w:=by
 obtain⟨es,hes,he,ik⟩:=hr.map;have ht:=underlying184;have hl:r<w.heap.size:=(eQ.1 hes).1;have hf:=UT p w es.toList _ he;have hc:(Instr.checkKey false 10000 186 (pH p)).run prog w = .ok () w:=T4 false p w;refine wpList_plain hg λK' hK'=>?_
 cases dN:(xs.map λx:fB=>(x.1,x.2.2)).lookup p with
 | some v=>
  obtain⟨j,j1,j2,hj⟩:=hf.1 v dN;obtain⟨e,kl,k9⟩:=Option.map_eq_some_iff.1 j1;rw[Array.getElem?_toList] at kl;simp only[Prod.mk.injEq] at k9;rw[List.getElem?_map] at j2;obtain⟨y,rY,mH⟩:=Option.map_eq_some_iff.1 j2;obtain⟨p',g,v'⟩:=y;simp only[Prod.mk.injEq] at mH;obtain⟨rfl,rfl⟩:=mH;have jM:(Instr.keyThatStays (((es[j]?).map (·.key)).getD (pH p')) (pH p')).run prog w = .ok (pH p') w:=by
   rw[kl];simp only[Option.map_some,Option.getD_some];rw[k9.1];exact Yz _ _ w
  have aB:((es[j]?).map (λx=>(x.born:Int))).getD 0=(j:Int):=by
   rw[kl];simp[ik j e kl]
  have tq:(es.modify j λe=>{ e with key:=pH p' })=es:=by
   apply Array.ext_getElem?;intro i;rw[Array.getElem?_modify];split
   ·rename_i dp;subst dp;rw[kl];simp[<-k9.1]
   ·rfl
  have dz:(Instr.mapEntry 184 (.map (some r)) (pH p')).run prog w = .ok (.tuple #[v',.int .i64 (j:Int)]) { w with heap:=w.heap.setIfInBounds r (.map es es.size) }:=by
   simp[Instr.mapEntry,run_underlying ht,MapKept.run_getObj_map hes,hc,hj,jM,MapKept.run_setObj_map _ hes,Result.andThen,tq,aB,goInt]
  unfold Oper.wp;simp[execOp,jO,hm,hx,dz,Result.andThen];have lk:Turned r w { w with heap:=w.heap.setIfInBounds r (.map es es.size) }:=⟨rfl,rfl,rfl,by simp,λi hi=>by simp[Ne.symm hi]⟩;refine hK' _ _ (hK _ j g v' xs (.inl ⟨rfl,rY⟩) rY ⟨⟨es,by simp[hl],he,ik⟩,λx hx=>(hr.row x hx).turned lk Bu,hr.apart⟩ lk)
 | none=>
  have hn:=hf.2 dN;have dz:(Instr.mapEntry 184 (.map (some r)) (pH p)).run prog w = .ok (.tuple #[.slice none 0 0,.int .i64 (es.size:Int)]) { w with heap:=w.heap.setIfInBounds r (.map (es.push { key:=pH p,val:=.slice none 0 0,born:=es.size }) (es.size+1)) }:=by
   simp[Instr.mapEntry,run_underlying ht,MapKept.run_getObj_map hes,hc,hn,MapKept.run_setObj_map _ hes,Result.andThen,goInt]
  have an:es.size=xs.length:=by
   have:=Qd List.length he
   simpa using this
  have W7:p∉xs.map (·.1):=by
   have:=Y0 _ _ dN
   rw[List.map_map] at this;exact this
  unfold Oper.wp;simp[execOp,jO,hm,hx,dz,Result.andThen];have lk:Turned r w { w with heap:=w.heap.setIfInBounds r (.map (es.push { key:=pH p,val:=.slice none 0 0,born:=es.size }) (es.size+1)) }:=⟨rfl,rfl,rfl,by simp,λi hi=>by simp[Ne.symm hi]⟩;refine hK' _ _ (hK _ es.size [] (.slice none 0 0) (xs ++ [(p,[],.slice none 0 0)]) (.inr ⟨W7,rfl,an,rfl,rfl⟩) (by rw[an];simp) ⟨⟨es.push { key:=pH p,val:=.slice none 0 0,born:=es.size },by simp[hl],by simp[he],λi e hi=>?_⟩,λx hx=>?_,λi j x y b hx hy fE iF=>?_⟩ lk)
  ·rw[Array.getElem?_push] at hi;split at hi
   ·rename_i h1;cases hi;exact h1.symm
   ·exact ik i e hi
  ·rcases List.mem_append.1 hx with hx | hx
   ·exact (hr.row x hx).turned lk Bu
   ·rw[List.mem_singleton] at hx;subst hx;exact aN.nil _ _
  ·have get:∀ (k:Nat) (z:fB),(xs ++ [(p,[],Value.slice none 0 0)])[k]?=some z->z.2.2.ownBlock=some b->xs[k]?=some z:=λk z hz ym=>by
    rw[List.getElem?_append] at hz;split at hz
    ·exact hz
    ·have:=gQ hz
     rw[List.mem_singleton] at this;subst this;simp[Value.ownBlock] at ym
   exact hr.apart i j x y b (get i x hx fE) (get j y hy iF) fE iF
end
section
variable {ops:Array Oper} {rest:List Oper} {o:Oper} {a:Act} {Q:Exit->Act->World->Prop}
theorem ayK(w:World)(iU:o.guard=none)(s x:Operand)(ho:o.op = .call { callee:=.builtin .append,args:=#[s,x],argTypes:=#[55,55] })
 (base:Nat) (v:Value) (ps:List Np.Span) (hs:a.eval s=v) (hown:aN base w v ps) (blk:Nat) (f u:Int) (hx:a.eval x = .slice (some ⟨blk,0,none⟩) 1 1) (hc:w.cell? ⟨blk,0,none⟩=some (.int .i64 f)) (bq:w.cell? ⟨blk,1,none⟩=some (.int .i64 u)) (hlen:ps.length<=100000) (eC:base<=w.heap.size)
 (h:∀ v' w',aN base w' v' (ps ++ [⟨f,u⟩])->w.grownBy w' v.ownBlock->(v'.ownBlock=v.ownBlock\/v'.ownBlock=some w.heap.size)->wpList prog ops Q rest (a.put o.dst v') w'):wpList prog ops Q (o::rest) a w:=by
 obtain⟨i0,hi,db,bk,aK⟩:=info_parts Tryz.infoSpan;refine wpList_append_own_at w iU s x 55 ho base 110 i0 (.agg #[.int .i64 0,.int .i64 0]) 2 16 underlying55 hi db bk aK rfl (by decide) v ps.length (ps.map fW).flatten hs hown ⟨blk,0,none⟩ 1 1 [.int .i64 f,.int .i64 u] hx rfl ?_ (by simp[Value.oneCell']) (by unfold maxLen;omega) (by omega) eC ?_
 ·intro j y hj
  match j,hj with
  | 0,hj=>simp at hj;subst hj;simpa [Addr.add] using hc
  | 1,hj=>simp at hj;subst hj;simpa [Addr.add] using bq
  | j+2,hj=>simp at hj
 ·intro v' w' ho' hg _ hat;refine h v' w' ?_ hg hat;have e:(ps ++ [(⟨f,u⟩:Np.Span)]).length=ps.length+1:=by simp
  unfold aN;rw[e,List.map_append,List.flatten_append];exact ho'
theorem azQ(w w0:World)(iU:o.guard=none)(m s x:Operand)(jO:o.op=Op.entryStore 184 m s x)(base r:Nat)(xs:List fB)(hX:MapX base r xs w0)(Bu:r<base)(j:Nat)(p:Int×List UInt8)(g g':List Np.Span)(v v':Value)
 (hj:xs[j]?=some (p,g,v)) (hg:w0.grownBy w v.ownBlock) (ho:aN base w v' g') (hat:v'.ownBlock=v.ownBlock\/v'.ownBlock=some w0.heap.size) (hm:a.eval m = .map (some r)) (hs:a.eval s = .int .i64 (j:Int)) (hx:a.eval x=v')
 (hK:∀ w',MapX base r (xs.set j (p,g',v')) w'->Turned r w w'->wpList prog ops Q rest (a.put o.dst undef) w'):wpList prog ops Q (o::rest) a w:=by
 obtain⟨es,Nl,he,ik⟩:=hX.map;have qG:r<w0.heap.size:=(eQ.1 Nl).1;have hv:=hX.row _ (gQ hj);have hes:w.heap[r]?=some (.map es es.size):=(hg.block r qG (λe2=>by have:=(World.ownsRow.lt hv r e2.symm).1;omega)).trans Nl;have hl:r<w.heap.size:=(eQ.1 hes).1;have an:es.size=xs.length:=by
  have:=Qd List.length he
  simpa using this
 have nF:j<xs.length:=(cQ.1 hj).1;have Wq:es.findIdx? (λe=>(e.born:Int) == (j:Int))=some j:=by
  rw[Array.findIdx?_eq_some_iff_getElem];refine⟨by omega,?_,λi hi=>?_⟩
  ·have:=ik j _ (pQ (by omega))
   simp[this]
  ·have:=ik i _ (pQ (by omega))
   simp[this];omega
 refine wpList_plain iU λK' hK'=>?_;have dz:(Instr.entryStore 184 (.map (some r)) (.int .i64 (j:Int)) v').run prog w = .ok () { w with heap:=w.heap.setIfInBounds r (.map (es.modify j λe=>{ e with val:=v' }) es.size) }:=by
  simp[Instr.entryStore,MapKept.run_getObj_map hes,Wq,asInt,asIntOf,MapKept.run_setObj_map _ hes,Result.andThen]
 unfold Oper.wp;simp[execOp,jO,hm,hs,hx,dz,Result.andThen];have lk:Turned r w { w with heap:=w.heap.setIfInBounds r (.map (es.modify j λe=>{ e with val:=v' }) es.size) }:=⟨rfl,rfl,rfl,by simp,λi hi=>by simp[Ne.symm hi]⟩;refine hK' _ _ (hK _ ⟨⟨es.modify j λe=>{ e with val:=v' },by simp[hl],?_,λi e hi=>?_⟩,λy hy=>?_,λi i' y y' b hy hy' hb hb'=>?_⟩ lk)
 ·apply List.ext_getElem?;intro i;have hi:=Qd (λl=>l[i]?) he;simp only[List.getElem?_map,Array.getElem?_toList] at hi |-;rw[Array.getElem?_modify,List.getElem?_set];by_cases dp:j=i
  ·subst dp;rw[hj] at hi;rw[Qb rfl,Qb rfl,Qb nF];obtain⟨e,kl⟩:∃ e,es[j]?=some e:=⟨_,pQ (by omega)⟩;rw[kl] at hi |-;simp at hi |-;exact hi.1
  ·rw[Qc dp,Qc dp];simpa using hi
 ·rw[Array.getElem?_modify] at hi;split at hi
  ·rename_i dp;subst dp;obtain⟨e',he',rfl⟩:=Option.map_eq_some_iff.1 hi;exact ik j e' he'
  ·exact ik i e hi
 ·obtain⟨i,hi,rfl⟩:=nQ.1 hy;rw[List.length_set] at hi;rw[List.getElem_set];split
  ·exact ho.turned lk Bu
  ·rename_i hne;have h1:=hX.row _ (List.getElem_mem hi);have h2:aN base w xs[i].2.2 xs[i].2.1:=gY h1 λb hb=>hg.block b (World.ownsRow.lt h1 b hb).2 λe2=>hne (hX.apart j i _ _ b hj (aQ hi) e2.symm hb);exact h2.turned lk Bu
 ·have get:∀ (k:Nat) (z:fB),(xs.set j (p,g',v'))[k]?=some z->(k=j/\z=(p,g',v'))\/(k≠j/\xs[k]?=some z):=λk z hz=>by
   rw[List.getElem?_set] at hz;split at hz
   ·rename_i e;subst e
    first
     | (rw[Qb nF] at hz;cases hz;exact .inl ⟨rfl,rfl⟩)
     | (cases hz;exact .inl ⟨rfl,rfl⟩)
   ·rename_i e;exact .inr ⟨λe2=>e e2.symm,hz⟩
  have clash:∀ (k:Nat) (z:fB),k≠j->xs[k]?=some z->z.2.2.ownBlock=some b->v'.ownBlock=some b->False:=λk z hk hz ym lU=>by
   rcases hat with h1 | h1
   ·rw[lU] at h1;exact hk (hX.apart k j _ _ b hz hj ym h1.symm)
   ·rw[lU] at h1
    have:=(World.ownsRow.lt (hX.row _ (gQ hz)) b ym).2
    simp at h1;omega
  rcases get i y hy with ⟨e1,rfl⟩ | ⟨e1,h1⟩
  ·rcases get i' y' hy' with ⟨e2,rfl⟩ | ⟨e2,h2⟩
   ·rw[e1,e2]
   ·exact (clash i' y' e2 h2 hb' hb).elim
  ·rcases get i' y' hy' with ⟨e2,rfl⟩ | ⟨e2,h2⟩
   ·exact (clash i y e1 h1 hb hb').elim
   ·exact hX.apart i i' y y' b h1 h2 hb hb'
structure RangeX(base r I:Nat)(xs:List fB)(seen:Array Nat)(w:World):Prop where
 mapX:MapX base r xs w
 iter:w.heap[I]?=some (.mapIter (some r) xs.length seen xs.length)
 row:∀ x∈xs,x.2.2.ownBlock≠some I
theorem RangeX.ne{base r I:Nat}{xs:List fB}{seen:Array Nat}{w:World}(h:RangeX base r I xs seen w):I≠r:=by
 obtain⟨es,h1,_⟩:=h.mapX.map;intro e
 have:=h.iter
 rw[e,h1] at this
 cases this
theorem RangeX.lt{base r I:Nat}{xs:List fB}{seen:Array Nat}{w:World}(h:RangeX base r I xs seen w):I<w.heap.size:=(eQ.1 h.iter).1
theorem RangeX.keep{base r I:Nat}{xs:List fB}{seen:Array Nat}{w w':World}(h:RangeX base r I xs seen w)(hb:Below w.heap.size w w'):RangeX base r I xs seen w':=⟨h.mapX.keep hb,(hb.block I h.lt).trans h.iter,h.row⟩
theorem RangeX.changed{base r I:Nat}{xs:List fB}{seen:Array Nat}{w w':World}(h:RangeX base r I xs seen w)(hr:r<base){j:Nat}{p:Int×List UInt8}{g g':List Np.Span}{v:Value}(hj:xs[j]?=some (p,g,v))(hg:w.grownBy w' v.ownBlock)(ho:aN base w' v g'):RangeX base r I (xs.set j (p,g',v)) seen w':=by
 have hv:=h.row _ (gQ hj);refine⟨h.mapX.changed hr hj hg ho,?_,λx hx=>?_⟩
 ·rw[List.length_set];exact (hg.block I h.lt (λe=>hv e.symm)).trans h.iter
 ·obtain⟨i,hi,rfl⟩:=nQ.1 hx;rw[List.length_set] at hi;rw[List.getElem_set];split
  ·exact hv
  ·exact h.row _ (List.getElem_mem hi)
theorem MapX.size{base r:Nat}{xs:List fB}{w:World}(h:MapX base r xs w):∃ es,w.heap[r]?=some (.map es xs.length)/\es.size=xs.length/\es.toList.map (λe=>(e.key,e.val))=(xs.map λx=>(x.1,x.2.2)).map (λp=>(pH p.1,p.2))/\∀ (i:Nat) (e:MapEntry),es[i]?=some e->e.born=i:=by
 obtain⟨es,h1,h2,h3⟩:=h.map;have an:es.size=xs.length:=by
  have:=Qd List.length h2
  simpa using this
 exact⟨es,by rw[<-an];exact h1,an,h2,h3⟩
theorem azK(w:World)(hg:o.guard=none)(m:Operand)(jO:o.op=Op.range 184 m)(base r:Nat)(xs:List fB)(hm:a.eval m = .map (some r))(hX:MapX base r xs w)
 (hK:∀ w',RangeX base r w.heap.size xs #[] w'->Below w.heap.size w w'->w'.heap.size=w.heap.size+1->wpList prog ops Q rest (a.put o.dst (.pointer (some ⟨w.heap.size,0,none⟩))) w'):wpList prog ops Q (o::rest) a w:=by
 obtain⟨es,hes,an,_⟩:=hX.size;have dz:=run_range_map (P:=prog) w 184 _ _ r es xs.length underlying184 hes;refine wpList_plain hg λK' hK'=>?_;unfold Oper.wp;simp[execOp,jO,hm,dz,Result.andThen];have hb:Below w.heap.size w (w.alloc (.mapIter (some r) xs.length #[] xs.length)):=(vQ _ _).alloc (bQ _) _;refine hK' _ _ (hK _ ⟨hX.keep hb,heap_alloc_new _ _,λx hx e=>?_⟩ hb (by simp))
 have:=(World.ownsRow.lt (hX.row x hx) _ e).2
 omega
theorem PA{w w':World}{r I:Nat}(h1:w'.heap[r]?=w.heap[r]?)(h2:w'.heap[I]?=w.heap[I]?):w'.rangeLeft r I=w.rangeLeft r I:=by
 unfold World.rangeLeft;rw[h1,h2]
theorem azJ(w:World)(hg:o.guard=none)(it:Operand)(jO:o.op=Op.next it false)(base r I:Nat)(xs:List fB)(seen:Array Nat)(hit:a.eval it = .pointer (some ⟨I,0,none⟩))(h:RangeX base r I xs seen w)
 (Vq:(∀ j,j<xs.length->seen.contains j=true)->wpList prog ops Q rest (a.put o.dst (.tuple #[.bool false])) w)
 (Vv:∀ (j:Nat) (p:Int×List UInt8) (g:List Np.Span) (v:Value) (w':World),xs[j]?=some (p,g,v)->RangeX base r I xs (seen.push j) w'->Turned I w w'->w'.rangeLeft r I<w.rangeLeft r I->(Instr.entry (.pointer (some ⟨I,0,none⟩))).run prog w' = .ok (.tuple #[pH p,v]) w'->wpList prog ops Q rest (a.put o.dst (.tuple #[.bool true,pH p,v])) w') :
 wpList prog ops Q (o::rest) a w:=by
 have hne:=h.ne;obtain⟨es,hes,an,he,ik⟩:=h.mapX.size;have hold:∀ x∈es.toList,x.born<xs.length:=λx hx=>by
  obtain⟨i,hi,rfl⟩:=nQ.1 hx;have hi':i<es.size:=by simpa using hi
  have:=ik i es[i] (pQ hi')
  simp only[Array.getElem_toList];omega
 refine wpList_plain hg λK' hK'=>?_;unfold Oper.wp;rcases run_next_at (P:=prog) w o.type I r xs.length xs.length seen es xs.length h.iter hes hold (bQ _) with ⟨h0,dz⟩ | ⟨e,vE,w1,kW,dz⟩
 ·simp[execOp,jO,hit,dz,Result.andThen];refine hK' _ _ (Vq λj hj=>?_);have h1:=all_seen es seen h0 es[j] (by simp);rwa [ik j es[j] (pQ (by omega))] at h1
 ·obtain⟨hem,aHZ⟩:=mem_left vE;obtain⟨j,hj,rJ⟩:=nQ.1 hem;have hj':j<es.size:=by simpa using hj
  have NB:es[j]?=some e:=by rw[pQ hj',<-rJ];simp
  have Hl:=ik j e NB;obtain⟨⟨p,g,v⟩,hx⟩:∃ x,xs[j]?=some x:=⟨_,aQ (by omega)⟩;have WR:e.key=pH p/\e.val=v:=by
   have hi:=Qd (λl=>l[j]?) he;simp only[List.getElem?_map,Array.getElem?_toList] at hi;rw[NB,hx] at hi;simpa using hi
  obtain⟨bT,jK⟩:=WR;rw[Hl] at dz;have gb:w1.heap[I]?=some (.mapIter (some r) xs.length seen xs.length):=by rcases kW with rfl | rfl <;> exact h.iter
  have G0:I<w1.heap.size:=(eQ.1 gb).1;have aB:w1.heap[r]?=some (.map es xs.length):=by rcases kW with rfl | rfl <;> exact hes
  have aD:Below w.heap.size w w1:=by rcases kW with rfl | rfl;exact vQ _ _;exact (vQ _ _).drew
  have tH:w1.heap.size=w.heap.size:=by rcases kW with rfl | rfl <;> rfl
  obtain⟨w2,aj⟩:=aCQ (Go.ChangeMaps.setBlock w1 I (.mapIter (some r) xs.length (seen.push j) xs.length));have vu:w2.heap[I]?=some (.mapIter (some r) xs.length (seen.push j) xs.length):=by rw[<-aj];simp[Go.ChangeMaps.setBlock,G0]
  have NX:∀ i,i≠I->w2.heap[i]?=w1.heap[i]?:=λi hi=>by rw[<-aj];simp[Go.ChangeMaps.setBlock,Ne.symm hi]
  have bG:w1.heap=w.heap:=by rcases kW with rfl | rfl <;> rfl
  have lk:Turned I w w2:=⟨by rw[<-aj];exact aD.os,by rw[<-aj];exact aD.tape,by rw[<-aj];exact aD.output,by rw[<-aj];simp[Go.ChangeMaps.setBlock,tH],λi hi=>by rw[NX i hi,bG]⟩;have ae:w2.heap[r]?=some (.map es xs.length):=(NX r (Ne.symm hne)).trans aB;rw[aj] at dz;simp[execOp,jO,hit,dz,Result.andThen];rw[bT,jK];refine hK' _ _ (Vv j p g v w2 hx ⟨h.mapX.turned lk hne h.row,vu,h.row⟩ lk ?_ ?_)
  ·have:=left_shrinks es seen e vE
   rw[Hl] at this;unfold World.rangeLeft;rw[ae,vu,hes,h.iter];exact this
  ·have nJ:(es.toList.map (·.born)).Nodup:=by
    rw[List.nodup_iff_pairwise_ne,List.pairwise_iff_getElem];intro i k hi hk hik;have hi':i<es.size:=by simpa using hi
    have hk':k<es.size:=by simpa using hk
    have h1:=ik i es[i] (pQ hi');have h2:=ik k es[k] (pQ hk');simp only[List.getElem_map,Array.getElem_toList];omega
   have:=run_entry_at (P:=prog) w2 I r xs.length seen es xs.length e (by rw[Hl];exact vu) ae hem nJ
   rw[bT,jK] at this;exact this
end
end
section
open Go.RowKit
def Np.zR(l:List Np.Signed)(k:Nat)(x:Np.Signed):Prop:=∀ p,0<k->l[k - 1]?=some p->p.set.name=x.set.name->x.set.type≠3/\(Np.nR (l.take (k+1))=x.set.name->x.set.type=8)
def Np.zS(l:List Np.Signed):Prop:=∀ k x,l[k]?=some x->Np.zR l k x
theorem YO{l:List Np.Signed}{k:Nat}{x:Np.Signed}(hx:l[k]?=some x):Np.nR (l.take (k+1))=if x.set.type=3 then x.set.name else Np.nR (l.take k):=by
 obtain⟨hk,rfl⟩:=cQ.1 hx;rw[fQ hk,Np.I9]
theorem ahZ(a:ByteArray)(v:Value)(l:List Np.Signed)(cg:l.length<=20000)(hv:∀ x∈l,x.set.name≠[])(w:World)(hd:SlR bP 5 w w.heap.size v l) :
 Calls prog 161 #[.agg #[.string a,v]] w (aFQ w.heap.size w (.bool (Np.yes (Np.zS l)))):=by
 obtain⟨r,hr⟩:=aCQ (Np.yes (Np.zS l));rw[hr];have HR:=jq hr;have HD:=jq hd;have HV:=jq hv;obtain⟨A,c,rfl,bq,bN⟩:=ak hd;clear hr hd hv;have HW:Hid (∀ o,Below w.heap.size w (w.alloc o)):=jq (λo=>(vQ _ w).alloc (bQ _) _);go_enter func161,ntmps161;go_wp2_with fail;obtain⟨w1,ah⟩:=aCQ (w.alloc (.cells #[.string a,.slice A l.length c] 44));have c1:w1.cell? ⟨w.heap.size,1,none⟩=some (.slice A l.length c):=by rw[<-ah];simp[go_sem]
 have bk:w1.heap.size=w.heap.size+1:=by rw[<-ah];simp
 have aq:Hid (Below w.heap.size w w1):=jq (by rw[<-ah];exact HW.out _);rw[ah];clear ah;go_loopw [3,4] (λva i wr=>∃ (k:Nat) (sa:ByteArray),k<=l.length/\i = .int .i64 k/\va = .string sa/\Hid (sa.data.toList=Np.nR (l.take k))/\Hid (Below w1.heap.size w1 wr)/\Hid (∀ j x,j<k->l[j]?=some x->Np.zR l j x)) (λ_ i _=>l.length - (intOf i).toNat)
 case atStart=>exact⟨0,⟨#[]⟩,jQ _,rfl,rfl,jq rfl,jq (vQ _ _),jq (λj g hj=>by omega)⟩
 case round=>
  obtain⟨k,sa,hk,rfl,rfl,oh,HB,HA⟩:=hrel;have an:=HB.out.size;have d1:wr.cell? ⟨w.heap.size,1,none⟩=some (.slice A l.length c):=aBX HB.out c1;have az:=aBY aq HB.out;have dJ:w.heap.size<wr.heap.size:=by omega
  by_cases aa:k<l.length
  ·obtain⟨x,ac⟩:∃ x,l[k]?=some x:=⟨_,aQ aa⟩;obtain⟨b,o,c',sn,dv,sv,hA,bR,_,ar,cZ,aO,bh,f0,f1,f2,f3,f4⟩:=fR (HD.out.keep bH az.out) ac
   cases hA
   have HX:=jq ac;have aS:=jq ar;have ql:=jq (YO ac);have hne:(sn.toList == [])=false:=by rw[dQ,ar];simpa using HV.out x (gQ ac)
   have bO:Hid (Np.zR l k x->∀ j y,j<k+1->l[j]?=some y->Np.zR l j y):=jq (λh j y hj hy=>by
    by_cases e:j=k
    ·subst e;rw[ac] at hy;cases hy;exact h
    ·exact HA.out j y (by omega) hy)
   have HF:Hid (¬ Np.zR l k x->r=false):=jq (λh=>by rw[<-HR.out];exact Np.aC λq=>h (q k x ac));have bV:(0:Int)<=(k:Int):=by omega
   have bT:(k:Int)<(l.length:Int):=by omega
   have aB:b<wr.heap.size:=by omega
   have Hj:∃ q:Bool,Hid (q=true↔∃ p,0<k/\l[k - 1]?=some p/\p.set.name=x.set.name)/\((k=0/\q=false)\/∃ (m:Nat) (sy:ByteArray),k=m+1/\wr.cell? ⟨b,o+m * 5,none⟩=some (.string sy)/\(sy.toList == sn.toList)=q):=by
    by_cases gC:k=0
    ·exact⟨false,jq ⟨λh=>(by cases h),λ⟨p,h,_⟩=>(by omega)⟩,.inl ⟨gC,rfl⟩⟩
    ·obtain⟨m,rfl⟩:∃ m,k=m+1:=⟨k - 1,by omega⟩;obtain⟨y,hy⟩:∃ y,l[m]?=some y:=⟨_,aQ (by omega)⟩;obtain⟨b9,o9,c9,sy,dv9,sv9,hA,_,_,gU,_,_,_,q0,q1,_⟩:=fR (HD.out.keep bH az.out) hy;simp only[Value.slice.injEq,Option.some.injEq,Addr.mk.injEq,and_true,true_and] at hA;obtain⟨⟨rfl,rfl⟩,-⟩:=hA;refine⟨_,jq ?_,.inr ⟨m,sy,rfl,q0,rfl⟩⟩;rw[dQ,dQ,gU,aS.out,beq_iff_eq];constructor
     ·intro h;exact⟨y,by omega,by simpa using hy,h⟩
     ·rintro⟨p,_,hp,h⟩;rw[show m+1 - 1=m by omega,hy] at hp
      cases hp;exact h
   obtain⟨qb,rl,Br⟩:=Hj;obtain⟨ty,dC⟩:=aCQ x.set.type;have di:=jq dC;rw[dC] at f1;clear ac ar aO bh dC f2 f3 f4;have iU:∃ m:Nat,(decide ((0:Int)<(k:Int))=false/\decide (0<k)=false/\qb=false)\/(decide ((0:Int)<(k:Int))=true/\decide (0<k)=true/\IntKind.i64.wrap ((k:Int) - 1)=(m:Int)/\(k:Int) - 1=(m:Int)/\(0:Int)<=(m:Int)/\(m:Int)<(l.length:Int)/\∃ sy:ByteArray,wr.cell? ⟨b,o+m * 5,none⟩=some (.string sy)/\(sy.toList == sn.toList)=qb):=by
    rcases Br with ⟨gC,h⟩ | ⟨m,sy,mw,g0,rR⟩
    ·exact⟨0,.inl ⟨by simp;omega,by simp;omega,h⟩⟩
    ·exact⟨m,.inr ⟨by simp;omega,by simp;omega,by rw[IntWalk.i64_in _ (by omega)];omega,by omega,by omega,by omega,sy,g0,rR⟩⟩
   clear Br;obtain⟨m,iU⟩:=iU;by_cases h3:ty=3
   ·subst h3;have tD:Hid (sn.data.toList=Np.nR (l.take (k+1))):=jq (by rw[ql.out,Qb di.out,aS.out]);rcases iU with ⟨jj,jk,rfl⟩ | ⟨jj,jk,IS,D2,nE,qE,sy,g0,rR⟩
    ·have bl:=jq (bO.out (λp h0 hp he=>by have:=rl.out.2 ⟨p,h0,hp,he⟩;cases this));go_wp2_with fail;go_quiet (fail);go_wp2_with fail;go_roundw
     case rel=>exact⟨k+1,sn,by omega,by go_num,rfl,tD,jq (below_drewN HB.out _),jq bl.out⟩
     case measure=>simp[intOf] <;> omega
    ·cases qb with
     | false=>
      have bl:=jq (bO.out (λp h0 hp he=>by have:=rl.out.2 ⟨p,h0,hp,he⟩;cases this));go_wp2_with fail;go_quiet (fail);go_wp2_with fail;go_roundw
      case rel=>exact⟨k+1,sn,by omega,by go_num,rfl,tD,jq (below_drewN HB.out _),jq bl.out⟩
      case measure=>simp[intOf] <;> omega
     | true=>
      have ot:Hid (r=false):=jq (HF.out λh=>by
       obtain⟨p,h0,hp,he⟩:=rl.out.1 (by simp);exact (h p h0 hp he).1 di.out)
      go_wp2_with fail;go_quiet (fail);obtain⟨w2,aj⟩:=aCQ (wr.drewN nq);rw[aj];have ae:Below wr.heap.size wr w2:=by rw[<-aj];exact below_drewN (vQ _ _) _
      have t1:w2.cell? ⟨w.heap.size,1,none⟩=some (.slice (some ⟨b,o,none⟩) l.length c):=aBX ae d1;have t2:w2.cell? ⟨b,o+k * 5,none⟩=some (.string sn):=aBX ae f0;have eV:=aBY az ae;clear ae aj;go_wp2_with fail;go_ret;exact⟨ag ot.out.symm,eV.out⟩
   ·have h3':(ty == 3)=false:=by simpa using h3
    have h3'':(ty != 3)=true:=by simpa using h3
    have tD:Hid (sa.data.toList=Np.nR (l.take (k+1))):=jq (by rw[ql.out,Qc (by rw[di.out];exact h3)];exact oh.out);rcases iU with ⟨jj,jk,rfl⟩ | ⟨jj,jk,IS,D2,nE,qE,sy,g0,rR⟩
    ·have bl:=jq (bO.out (λp h0 hp he=>by have:=rl.out.2 ⟨p,h0,hp,he⟩;cases this));go_wp2_with fail;go_quiet (fail);go_wp2_with fail;go_roundw
     case rel=>exact⟨k+1,sa,by omega,by go_num,rfl,tD,jq (below_drewN HB.out _),jq bl.out⟩
     case measure=>simp[intOf] <;> omega
    ·cases qb with
     | false=>
      have bl:=jq (bO.out (λp h0 hp he=>by have:=rl.out.2 ⟨p,h0,hp,he⟩;cases this));go_wp2_with fail;go_quiet (fail);go_wp2_with fail;go_roundw
      case rel=>exact⟨k+1,sa,by omega,by go_num,rfl,tD,jq (below_drewN HB.out _),jq bl.out⟩
      case measure=>simp[intOf] <;> omega
     | true=>
      obtain⟨qe,IC⟩:=aCQ (sn.toList == sa.toList);have KZ:Hid (qe=true↔Np.nR (l.take (k+1))=x.set.name):=jq (by rw[<-IC,dQ,dQ,aS.out,tD.out,beq_iff_eq];exact eq_comm);obtain⟨q8,lh⟩:=aCQ (ty != 8);have Cy:Hid (q8=true↔x.set.type≠8):=jq (by rw[<-lh,di.out];simp);have pt:Hid (x.set.type≠3):=jq (by rw[di.out];exact h3);clear h3;go_wp2_with fail;go_quiet (fail);obtain⟨w2,aj⟩:=aCQ (wr.drewN nq);rw[aj];have ae:Below wr.heap.size wr w2:=by rw[<-aj];exact below_drewN (vQ _ _) _
      have t1:w2.cell? ⟨w.heap.size,1,none⟩=some (.slice (some ⟨b,o,none⟩) l.length c):=aBX ae d1;have t2:w2.cell? ⟨b,o+k * 5,none⟩=some (.string sn):=aBX ae f0;have eV:=aBY az ae;have Lh:=jq (HB.out.trans (ae.mono HB.out.size));clear ae aj
      cases qe with
      | false=>
       have bl:=jq (bO.out (λp h0 hp he=>⟨pt.out,λhl=>by have:=KZ.out.2 hl;cases this⟩));go_wp2_with fail;go_roundw
       case rel=>exact⟨k+1,sa,by omega,by go_num,rfl,tD,jq Lh.out,jq bl.out⟩
       case measure=>simp[intOf] <;> omega
      | true=>
       cases q8 with
       | false=>
        have bl:=jq (bO.out (λp h0 hp he=>⟨pt.out,λ_=>Decidable.not_not.1 λh8=>by have:=Cy.out.2 h8;cases this⟩));go_wp2_with fail;go_roundw
        case rel=>exact⟨k+1,sa,by omega,by go_num,rfl,tD,jq Lh.out,jq bl.out⟩
        case measure=>simp[intOf] <;> omega
       | true=>
        have ot:Hid (r=false):=jq (HF.out λh=>by
         obtain⟨p,h0,hp,he⟩:=rl.out.1 (by simp);exact Cy.out.1 (by simp) ((h p h0 hp he).2 (KZ.out.1 (by simp))))
        go_wp2_with fail;go_ret;exact⟨ag ot.out.symm,eV.out⟩
  ·go_wp2_with fail;go_ret;refine⟨ag ?_,az.out⟩;rw[<-HR.out];exact (Np.ba λi x hx=>HA.out i x (by have:=(cQ.1 hx).1;omega) hx).symm
theorem O6{x:List UInt8}(h:Np.aA x=true):x≠[]:=by
 rintro rfl;revert h;decide
def S8(w1:World)(apex:List UInt8)(l:List Np.Signed)(i:Value)(wr:World):Prop:=
 ∃ k:Nat,k<=l.length/\i = .int .i64 k/\Below w1.heap.size w1 wr/\Hid (∀ j x,j<k->l[j]?=some x->Np.cN x.set=true)/\Hid (Np.jD apex none l=Np.jD apex (pX l k) (l.drop k))
theorem agZ(a:ByteArray)(ha:a.size<=140737488355328)(v:Value)(l:List Np.Signed)(cg:l.length<=20000)(w:World)(hd:SlR bP 5 w w.heap.size v l) :
 Calls prog 159 #[.agg #[.string a,v]] w (aFQ w.heap.size w (.bool (Np.fh ⟨a.data.toList,l⟩))):=by
 have HD:=jq hd;obtain⟨A,c,rfl,bq,bN,-⟩:=hd;have HW:Hid (∀ o,Below w.heap.size w (w.alloc o)):=jq (λo=>(vQ _ w).alloc (bQ _) _);go_enter func159,ntmps159;go_wp2_with fail;refine (tW _ ha _).mono ?_;rintro e w1 ⟨rfl,hb⟩;have c0:w1.cell? ⟨w.heap.size,0,none⟩=some (.string a):=by rw[hb.cell (by simp)];go_simp
 have c1:w1.cell? ⟨w.heap.size,1,none⟩=some (.slice A l.length c):=by rw[hb.cell (by simp)];go_simp
 have eh:w.heap.size<w1.heap.size:=by have:=hb.size;simp at this;omega
 have aq:=jq ((HW.out _).trans (hb.mono (by simp)));clear hb
 cases qJ:Np.aA a.data.toList with
 | false=>
  have HF:Hid (Np.fh ⟨a.data.toList,l⟩=false):=jq (by unfold Np.fh;rw[qJ];rfl);clear qJ;go_wp2_with fail;go_ret;exact⟨ag HF.out.symm,aq.out⟩
 | true=>
  have xB:=jq qJ;have haz:=tU qJ;clear qJ;go_wp2_with fail;refine (Jq a xB.out _).mono ?_;rintro e w0 ⟨rfl,cE⟩;have XG:=cE.size;replace c0:w0.cell? ⟨w.heap.size,0,none⟩=some (.string a):=(cE.cell (by simpa using eh)).trans c0;replace c1:w0.cell? ⟨w.heap.size,1,none⟩=some (.slice A l.length c):=(cE.cell (by simpa using eh)).trans c1;replace aq:=aBY aq cE;replace eh:w.heap.size<w0.heap.size:=by omega
  clear cE XG;obtain⟨w1,rfl⟩:=aCY w0
  cases rW:Np.dP a.data.toList with
  | true=>
   have HF:Hid (Np.fh ⟨a.data.toList,l⟩=false):=jq (by unfold Np.fh;rw[rW];simp);go_wp2_with (go_at_call 225;refine (Eu a ha _).mono ?_;rintro e w' ⟨rfl,rfl⟩);go_ret;exact⟨ag HF.out.symm,aq.out⟩
  | false=>
   have HF:Hid (Np.fh ⟨a.data.toList,l⟩=Np.jD a.data.toList none l):=jq (by unfold Np.fh;rw[rW,xB.out];simp);go_wp2_with (go_at_call 225;refine (Eu a ha _).mono ?_;rintro e w' ⟨rfl,rfl⟩);clear rW;go_loopw [3] (λi wr=>S8 w1 a.data.toList l i wr) (λi _=>l.length - (intOf i).toNat)
   case atStart=>exact⟨0,jQ _,rfl,vQ _ _,jq (λj x hj=>by omega),jq rfl⟩
   case round=>
    obtain⟨k,hk,rfl,aD,HV,HG⟩:=hrel;have XQ:=aD.size;have d0:wr.cell? ⟨w.heap.size,0,none⟩=some (.string a):=by rw[aD.cell (by simpa using eh)];exact c0
    have d1:wr.cell? ⟨w.heap.size,1,none⟩=some (.slice A l.length c):=by rw[aD.cell (by simpa using eh)];exact c1
    have dJ:w.heap.size<wr.heap.size:=by omega
    by_cases aa:k<l.length
    ·have lJ:Below w.heap.size w wr:=aq.out.trans (aD.aDQ);have ac:=aQ aa;obtain⟨b,o,c',sn,dv,sv,hA,bR,_,ar,an,aO,bh,e0,e1,e2,e3,e4⟩:=fR (HD.out.keep bH lJ) ac
     cases hA
     generalize hx:l[k]=x at *;clear hx;obtain⟨Ad,cd,rfl,Hu,WU⟩:=ak aO;have jy:=jq aO;have HX:=jq ac;have oS:(⟨sn.data.toList,x.set.type,x.set.life,x.set.data⟩:Np.DSet)=x.set:=by rw[ar]
     have K7:=jq oS;have aS:=jq ar;have aZ:=jq aD;have wV:=jq lJ;have qi:=jq (HG.out.trans (QZ ac (pX l k)));clear aO bh ac ar aD lJ c0 c1 oS e4;go_wp2_with fail;have mi:Below wr.heap.size wr (wr.alloc (.cells #[.string sn,.int .i64 x.set.type,.int .i64 x.set.life,.slice Ad x.set.data.length cd] 26)):=(vQ _ _).alloc (bQ _) _;have p0:=World.cell?_alloc_new wr #[.string sn,.int .i64 x.set.type,.int .i64 x.set.life,.slice Ad x.set.data.length cd] 26 0;have p1:=World.cell?_alloc_new wr #[.string sn,.int .i64 x.set.type,.int .i64 x.set.life,.slice Ad x.set.data.length cd] 26 1;have p2:=World.cell?_alloc_new wr #[.string sn,.int .i64 x.set.type,.int .i64 x.set.life,.slice Ad x.set.data.length cd] 26 2;have p3:=World.cell?_alloc_new wr #[.string sn,.int .i64 x.set.type,.int .i64 x.set.life,.slice Ad x.set.data.length cd] 26 3;have gh:wr.heap.size<(wr.alloc (.cells #[.string sn,.int .i64 x.set.type,.int .i64 x.set.life,.slice Ad x.set.data.length cd] 26)).heap.size:=by simp
     generalize wr.alloc (.cells #[.string sn,.int .i64 x.set.type,.int .i64 x.set.life,.slice Ad x.set.data.length cd] 26)=wa at mi p0 p1 p2 p3 gh |-;have eT:=jq mi;have uh:=aBY wV mi;replace d0:wa.cell? ⟨w.heap.size,0,none⟩=some (.string a):=by rw[mi.cell (by simpa using dJ)];exact d0
     replace d1:wa.cell? ⟨w.heap.size,1,none⟩=some (.slice (some ⟨b,o,none⟩) l.length c):=by rw[mi.cell (by simpa using dJ)];exact d1
     replace p0:wa.cell? ⟨wr.heap.size,0,none⟩=some (.string sn):=p0;replace p1:wa.cell? ⟨wr.heap.size,1,none⟩=some (.int .i64 x.set.type):=p1;replace p2:wa.cell? ⟨wr.heap.size,2,none⟩=some (.int .i64 x.set.life):=p2;replace p3:wa.cell? ⟨wr.heap.size,3,none⟩=some (.slice Ad x.set.data.length cd):=p3;have qD:∀ (g:bE wa) (p:Addr),p.block<wa.heap.size->g.w.cell? p=wa.cell? p:=λg p h=>g.cell p h;have aOZ:w.heap.size<wa.heap.size:=by omega
     have aGQ:b<wa.heap.size:=by omega
     have Fq:=jq ((jy.out.keep cM (eT.out.aDQ)).more dt (show w.heap.size<=wa.heap.size by omega));clear mi e0 e1 e2 e3;have ci:∀ g:bE wa,Calls prog 150 #[.agg #[.string sn,.int .i64 x.set.type,.int .i64 x.set.life,.slice Ad x.set.data.length cd]] g.w λe w'=>e = .returned (.bool (Np.cN x.set))/\Below g.w.heap.size g.w w':=λg=>by
      rw[<-K7.out];exact Jp sn an _ _ _ x.set.data _ (Fq.out.later cM dt g.below)
     cases da:Np.cN x.set with
     | false=>
      rw[da] at ci;have nX:=jq ci;have kb:=jq da;clear ci da;refine aEK ?_
      repeat (go_big_quiet_step ((go_at_call 150;exact Calls.grow_of (nX.out _))))
      refine wpQuiet_nil ?_;rintro _ ⟨g,rfl⟩;go_wp2_with fail;go_ret;refine⟨ag ?_,uh.out.trans (g.below.aDQ)⟩;rw[HF.out,qi.out,kb.out,Bool.and_false];rfl
     | true=>
      rw[da] at ci;have nX:=jq ci;have kb:=jq da;have lp:Np.aA sn.data.toList=true:=by rw[aS.out];exact (Np.qY da).1
      have ic:=jq lp;have XC:=tU lp;have hin:∀ g:bE wa,Calls prog 222 #[.string sn,.string a] g.w λe w'=>e = .returned (.bool (Np.bi sn.data.toList a.data.toList))/\Below g.w.heap.size g.w w':=λg=>by
       rw[<-Np.yn (O6 xB.out)];exact BV sn a (by omega) (by omega) _
      have AH:∀ j y,j<k+1->l[j]?=some y->Np.cN y.set=true:=λj y hj hy=>by
       by_cases e:j=k
       ·subst e;rw[HX.out] at hy;cases hy;exact da
       ·exact HV.out j y (by omega) hy
      have nU:=jq AH;clear ci da lp AH
      cases eD:Np.bi sn.data.toList a.data.toList with
      | false=>
       rw[eD] at hin;have fU:=jq hin;have zz:=jq eD;clear eD hin;refine aEK ?_
       repeat (go_big_quiet_step (first
        | (go_at_call 150;exact Calls.grow_of (nX.out _))
        | (go_at_call 222;exact Calls.grow_of (fU.out _))))
       refine wpQuiet_nil ?_;rintro _ ⟨g,rfl⟩;go_wp2_with fail;go_ret;refine⟨ag ?_,uh.out.trans (g.below.aDQ)⟩;rw[HF.out,qi.out,<-aS.out,ic.out,zz.out];rfl
      | true=>
       rw[eD] at hin;have fU:=jq hin;have BB:Np.jD a.data.toList none l=((match pX l k with | none=>true | some q=>decide (Np.gR q x.set<0))&&Np.jD a.data.toList (pX l (k+1)) (l.drop (k+1))):=by
        rw[qi.out,<-aS.out,ic.out,eD,kb.out,ER HX.out];rfl
       have dF:=jq BB;clear eD hin BB;by_cases bV:k=0
       ·subst bV;refine aEK ?_
        repeat (go_big_quiet_step (first
         | (go_at_call 150;exact Calls.grow_of (nX.out _))
         | (go_at_call 222;exact Calls.grow_of (fU.out _))))
        refine wpQuiet_nil ?_;rintro _ ⟨g,rfl⟩;go_wp2_with fail;go_roundw
        case rel=>exact⟨1,by omega,by go_num,aZ.out.trans ((eT.out.trans (g.below.aDQ)).mono aZ.out.size),nU,jq (by rw[dF.out];rfl)⟩
        case measure=>simp[intOf] <;> omega
       ·obtain⟨i,rfl⟩:∃ i,k=i+1:=⟨k - 1,by omega⟩;have rF:=aQ (show i<l.length by omega);obtain⟨b',o',c'',sq,dq,sg,py,AK,_,jP,Od,AR,_,f0,f1,f2,f3,_⟩:=fR ((HD.out.keep bH uh.out)) rF
        cases py
        generalize hy:l[i]=y at *;clear hy;obtain⟨Aq,cq,rfl,Wc,NH⟩:=ak AR;have N8:(⟨sq.data.toList,y.set.type,y.set.life,y.set.data⟩:Np.DSet)=y.set:=by rw[jP]
        have Om:Np.aA sq.data.toList=true:=by rw[jP];exact (Np.qY (HV.out i y (by omega) rF)).1
        have N0:pX l (i+1)=some y.set:=ER rF;have uB:=jq N0;have NW:∀ g:bE wa,Calls prog 234 #[.agg #[.string sq,.int .i64 y.set.type,.int .i64 y.set.life,.slice Aq y.set.data.length cq],.agg #[.string sn,.int .i64 x.set.type,.int .i64 x.set.life,.slice Ad x.set.data.length cd]] g.w λe w'=>e = .returned (.int .i64 (Np.gR y.set x.set))/\Below g.w.heap.size g.w w':=λg=>by
         have:=agX sq sn y.set.type y.set.life x.set.type x.set.life (.slice Aq y.set.data.length cq) (.slice Ad x.set.data.length cd) y.set.data x.set.data Om ic.out g.w
         rw[N8,K7.out] at this;exact this
        have KL:=jq NW;clear N8 N0 AR jP rF NW Om;have nE:(0:Int)<=(i:Int):=by omega
        have qE:(i:Int)<(l.length:Int):=by omega
        have Xg:(0:Int)<(((i+1:Nat)):Int):=by omega
        have ah:IntKind.i64.wrap (((i+1:Nat):Int) - 1)=(i:Int):=by rw[IntWalk.i64_in _ (by omega)];omega
        by_cases fZ:Np.gR y.set x.set<0
        ·have kD:=jq (uQ fZ);have Hw:¬ (0<=Np.gR y.set x.set):=by omega
         refine aEK ?_
         repeat (go_big_quiet_step (first
          | (go_at_call 150;exact Calls.grow_of (nX.out _))
          | (go_at_call 222;exact Calls.grow_of (fU.out _))
          | (go_at_call 234;exact Calls.grow_of (KL.out _))))
         refine wpQuiet_nil ?_;rintro _ ⟨g,rfl⟩;go_wp2_with fail;go_roundw
         case rel=>
          refine⟨i+1+1,by omega,by go_num,aZ.out.trans ((eT.out.trans (g.below.aDQ)).mono aZ.out.size),nU,jq ?_⟩;rw[dF.out,uB.out];simp only[kD.out,Bool.true_and]
         case measure=>simp[intOf] <;> omega
        ·have kD:=jq (tQ fZ);have Hw:0<=Np.gR y.set x.set:=by omega
         refine aEK ?_
         repeat (go_big_quiet_step (first
          | (go_at_call 150;exact Calls.grow_of (nX.out _))
          | (go_at_call 222;exact Calls.grow_of (fU.out _))
          | (go_at_call 234;exact Calls.grow_of (KL.out _))))
         refine wpQuiet_nil ?_;rintro _ ⟨g,rfl⟩;go_wp2_with fail;go_ret;refine⟨ag ?_,uh.out.trans (g.below.aDQ)⟩;rw[HF.out,dF.out,uB.out];simp only[kD.out,Bool.false_and]
    ·go_wp2_with fail;go_ret;refine⟨ag ?_,aq.out.trans (aD.aDQ)⟩;rw[HF.out,HG.out,List.drop_eq_nil_of_le (by omega)];rfl
end
end Go.Proofs.YtfnopgdcaanaiaaGreatDoor
