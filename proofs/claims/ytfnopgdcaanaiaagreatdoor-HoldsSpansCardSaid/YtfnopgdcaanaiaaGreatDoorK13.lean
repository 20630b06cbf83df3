/- Parts of the proof. No condition. -/
import Derived.Maps.RangeWalk
import Derived.Test.YtfnopgdcaanaiaaGreatDoorK07
import Derived.Test.YtfnopgdcaanaiaaGreatDoorK08
import Derived.Test.YtfnopgdcaanaiaaGreatDoorK09
import Derived.Test.YtfnopgdcaanaiaaGreatDoorK10
set_option linter.all false
set_option maxRecDepth 100000
set_option maxHeartbeats 8000000
namespace Go.Proofs.YtfnopgdcaanaiaaGreatDoor
open Go.Proofs.Tryz
section
open Go.RowKit
theorem J0{c:UInt8}{r:List UInt8}(hc:c≠46):∃ x xs,Np.aW (c::r)=(c::x)::xs:=by
 unfold Np.aW;rw[Qc hc]
 cases Np.aW r with
 | nil=>exact⟨[],[],rfl⟩
 | cons x xs=>exact⟨x,xs,rfl⟩
theorem RL{l:List UInt8}(h:Np.aG l=true):Np.eh l=((Np.ek l).head? == some [42]):=by
 unfold Np.ek;by_cases hd:l = [46]
 ·subst hd;decide
 ·rw[Qc hd]
  cases l with
  | nil=>exact absurd h (by decide)
  | cons c r=>
   have hg:Np.fh (Np.aW (c::r)).reverse 0 false=true:=by
    unfold Np.aG at h;rw[Qc hd] at h;split at h
    ·cases h
    ·exact h
   have hl:=Np.Nh _ _ _ hg;by_cases hc:c=46
   ·subst hc;have e:Np.aW (46::r) = []::Np.aW r:=by rw[Np.aW,Qb rfl]
    rw[e] at hl
    have:=hl [] (by simp)
    rcases this with h1 | h1
    ·cases h1
    ·exact absurd h1 (by decide)
   ·obtain⟨x,xs,e⟩:=J0 (r:=r) hc;rw[e] at hl |-;rw[Bool.eq_iff_iff];simp only[Np.eh,List.head?_cons,beq_iff_eq,Option.some.injEq,List.cons.injEq];constructor
    ·rintro rfl;rcases hl (42::x) (by simp) with h1 | h1
     ·simpa using h1
     ·exfalso;unfold Np.cg at h1;simp only[Bool.and_eq_true,List.all_cons] at h1;exact absurd h1.2.1 (by decide)
    ·exact λh=>h.1
theorem QP(s:ByteArray)(h:Np.aG s.data.toList=true)(w:World) :
 Calls prog 158 #[.string s] w λe w'=>e = .returned (.bool (Np.eh s.data.toList))/\Below w.heap.size w w':=by
 have hw:=RL h;have ap:=yP h;obtain⟨ps,fY⟩:∃ ps,Np.ek s.data.toList=ps:=⟨_,rfl⟩;obtain⟨r,hr⟩:∃ r,(ps.head? == some [42])=r:=⟨_,rfl⟩;rw[hw,fY,hr];have oJ:=jq fY;have HR:=jq hr;clear hw h fY hr;go_enter func158,ntmps158;go_wp2_with fail;refine (Cw s (by omega) _).mono ?_;rw[oJ.out];rintro e w1 ⟨v,rfl,hv,hb⟩;have HB:=jq hb;clear hb;obtain⟨A,c,rfl,hc,hl,he⟩:=hv
 cases ps with
 | nil=>
  have HX:Hid (r=false):=jq (by rw[<-HR.out];rfl);go_wp2_with fail;go_ret;exact⟨ag HX.out.symm,HB.out⟩
 | cons x xs=>
  obtain⟨b,o,e,rfl,bC,_,hce,hx⟩:=he 0 x rfl;have hx':e = [aD x]:=hx;subst hx';have h0:w1.cell? ⟨b,o,none⟩=some (aD x):=by have:=hce 0 _ rfl;simpa using this
  have HX:Hid ((x == [42])=r):=jq (by rw[<-HR.out,List.head?_cons,Bool.eq_iff_iff];simp);obtain⟨n,hn⟩:∃ n,(x::xs).length=n:=⟨_,rfl⟩;have mU:0<n:=by rw[<-hn];simp
  have Yk:(0:Int)<(n:Int):=by omega
  rw[hn];clear he hce hx hc hl hn;go_wp2_with fail
  all_goals
   go_ret;refine⟨ag ?_,HB.out⟩;rw[<-HX.out]
end
section
open Go.RowKit Go.MapKept Go.Shelf
theorem abZ{α β:Type}[BEq α][LawfulBEq α](l:List (α×β))(p:α)(h:l.lookup p=none):p∉l.map (·.1):=by
 induction l with
 | nil=>simp
 | cons z zs ih=>
  rw[List.lookup_cons] at h
  cases hb:(p == z.1) with
  | true=>rw[hb] at h;simp at h
  | false=>
   rw[hb] at h;have hne:p≠z.1:=by simpa using hb
   simp only[List.map_cons,List.mem_cons,not_or];exact⟨hne,ih h⟩
abbrev fd:=(Int×List UInt8)×List Np.Span×Value
structure MapX(base r:Nat)(xs:List fd)(w:World):Prop where
 map:nF r (xs.map λx=>(x.1,x.2.2)) w
 row:∀ x∈xs,aK base w x.2.2 x.2.1
 apart:∀ (i j:Nat) (x y:fd) (g:Nat),xs[i]?=some x->xs[j]?=some y->x.2.2.ownBlock=some g->y.2.2.ownBlock=some g->i=j
theorem MapX.keep{base r:Nat}{xs:List fd}{w w':World}(h:MapX base r xs w)(hb:Below w.heap.size w w'):MapX base r xs w':=⟨h.map.keep hb h.map.lt,λx hx=>(h.row x hx).keep hb,h.apart⟩
theorem MapX.made(base:Nat)(w:World):MapX base w.heap.size [] (w.alloc (.map #[] 0)):=⟨nF.made w,λx hx=>(by cases hx),λi j x y g h=>by simp at h⟩
theorem aK.turned{base r:Nat}{w w':World}{v:Value}{ps:List Np.Span}(h:aK base w v ps)(ht:Turned r w w')(hr:r<base):aK base w' v ps:=gp h (λg hg=>ht.block g (by have:=(h.lt g hg).1;omega))
theorem MapX.turned{base r I:Nat}{xs:List fd}{w w':World}(h:MapX base r xs w)(ht:Turned I w w')(hI:I≠r)(hrow:∀ x∈xs,x.2.2.ownBlock≠some I):MapX base r xs w':=
 ⟨h.map.keep' (ht.block r (Ne.symm hI)),λx hx=>gp (h.row x hx) (λg hg=>ht.block g (λe=>hrow x hx (by rw[hg,e]))),h.apart⟩
theorem MapX.changed{base r:Nat}{xs:List fd}{w w':World}(h:MapX base r xs w)(hr:r<base){j:Nat}{p:Int×List UInt8}{g g':List Np.Span}{v:Value}(hj:xs[j]?=some (p,g,v))(hg:w.grownBy w' v.ownBlock)(ho:aK base w' v g'):MapX base r (xs.set j (p,g',v)) w':=by
 have hv:=h.row _ (gQ hj);refine⟨?_,λx hx=>?_,λi i' x y b hx hy=>?_⟩
 ·have e:(xs.set j (p,g',v)).map (λx:fd=>(x.1,x.2.2))=xs.map λx=>(x.1,x.2.2):=by
   rw[List.map_set];apply List.ext_getElem?;intro i;rw[List.getElem?_set];split
   ·rename_i e;subst e;rw[List.length_map,Qb (cQ.1 hj).1,List.getElem?_map,hj];rfl
   ·rfl
  rw[e];refine h.map.keep' (hg.block r h.map.lt λe2=>?_)
  have:=(World.ownsRow.lt hv r e2.symm).1
  omega
 ·obtain⟨i,hi,rfl⟩:=nQ.1 hx;rw[List.length_set] at hi;rw[List.getElem_set];split
  ·exact ho
  ·rename_i hne;refine gp (h.row _ (List.getElem_mem hi)) λb hb=>hg.block b (World.ownsRow.lt (h.row _ (List.getElem_mem hi)) b hb).2 λe2=>hne ?_;exact h.apart j i _ _ b hj (aQ hi) e2.symm hb
 ·intro hb hb';have get:∀ (k:Nat) (z:fd),(xs.set j (p,g',v))[k]?=some z->∃ z',xs[k]?=some z'/\z'.2.2=z.2.2:=λk z hz=>by
   rw[List.getElem?_set] at hz;split at hz
   ·rename_i e;subst e;rw[Qb (cQ.1 hj).1] at hz
    cases hz
    exact⟨_,hj,rfl⟩
   ·exact⟨z,hz,rfl⟩
  obtain⟨x',hx',ex⟩:=get i x hx;obtain⟨y',hy',ey⟩:=get i' y hy;exact h.apart i i' x' y' b hx' hy' (by rw[ex];exact hb) (by rw[ey];exact hb')
theorem ZU(p:Int×List UInt8)(P:Program)(w:World):(Instr.keyThatStays (pH p) (pH p)).run P w = .ok (pH p) w:=by
 have h1:∀ a:ByteArray,(a == a)=true:=λa=>by
  show (a.data == a.data)=true;simp
 have:Instr.sameBits 10000 (pH p) (pH p)=true:=by
  rw[show (10000:Nat)=9998+1+1 from rfl];simp[Instr.sameBits,pH,aD,h1]
 simp[Instr.keyThatStays,this]
section
variable {ops:Array Oper} {rest:List Oper} {o:Oper} {a:Act} {Q:Exit->Act->World->Prop}
theorem aKJ(w:World)(hg:o.guard=none)(m x:Operand)(jz:o.op=Op.mapEntry 184 m x)(base r:Nat)(xs:List fd)(hm:a.eval m = .map (some r))(hr:MapX base r xs w)(tK:r<base)(p:Int×List UInt8)(hx:a.eval x=pH p)
 (hK:∀ (w':World) (j:Nat) (g:List Np.Span) (v:Value) (xs':List fd),((xs'=xs/\xs[j]?=some (p,g,v))\/(p∉xs.map (·.1)/\xs'=xs ++ [(p,[],.slice none 0 0)]/\j=xs.length/\g = []/\v = .slice none 0 0))->xs'[j]?=some (p,g,v)->MapX base r xs' w'->Turned r w w'->wpList prog ops Q rest (a.put o.dst (.tuple #[v,.int .i64 (j:Int)])) w'):wpList prog ops Q (o::rest) a w:=by
 obtain⟨es,hes,he,kE⟩:=hr.map;have ht:=underlying184;have hl:r<w.heap.size:=(eQ.1 hes).1;have hf:=V7 p w es.toList _ he;have hc:(Instr.checkKey false 10000 186 (pH p)).run prog w = .ok () w:=Vm false p w;refine wpList_plain hg λK' hK'=>?_
 cases fi:(xs.map λx:fd=>(x.1,x.2.2)).lookup p with
 | some v=>
  obtain⟨j,j1,j2,hj⟩:=hf.1 v fi;obtain⟨e,ka,kG⟩:=Option.map_eq_some_iff.1 j1;rw[Array.getElem?_toList] at ka;simp only[Prod.mk.injEq] at kG;rw[List.getElem?_map] at j2;obtain⟨y,rV,mg⟩:=Option.map_eq_some_iff.1 j2;obtain⟨p',g,v'⟩:=y;simp only[Prod.mk.injEq] at mg;obtain⟨rfl,rfl⟩:=mg;have tA:(Instr.keyThatStays (((es[j]?).map (·.key)).getD (pH p')) (pH p')).run prog w = .ok (pH p') w:=by
   rw[ka];simp only[Option.map_some,Option.getD_some];rw[kG.1];exact ZU _ _ w
  have aw:((es[j]?).map (λx=>(x.born:Int))).getD 0=(j:Int):=by
   rw[ka];simp[kE j e ka]
  have El:(es.modify j λe=>{ e with key:=pH p' })=es:=by
   apply Array.ext_getElem?;intro i;rw[Array.getElem?_modify];split
   ·rename_i dD;subst dD;rw[ka];simp[<-kG.1]
   ·rfl
  have cU:(Instr.mapEntry 184 (.map (some r)) (pH p')).run prog w = .ok (.tuple #[v',.int .i64 (j:Int)]) { w with heap:=w.heap.setIfInBounds r (.map es es.size) }:=by
   simp[Instr.mapEntry,run_underlying ht,MapKept.run_getObj_map hes,hc,hj,tA,MapKept.run_setObj_map _ hes,Result.andThen,El,aw,goInt]
  unfold Oper.wp;simp[execOp,jz,hm,hx,cU,Result.andThen];have kK:Turned r w { w with heap:=w.heap.setIfInBounds r (.map es es.size) }:=⟨rfl,rfl,rfl,by simp,λi hi=>by simp[Ne.symm hi]⟩;refine hK' _ _ (hK _ j g v' xs (.inl ⟨rfl,rV⟩) rV ⟨⟨es,by simp[hl],he,kE⟩,λx hx=>(hr.row x hx).turned kK tK,hr.apart⟩ kK)
 | none=>
  have hn:=hf.2 fi;have cU:(Instr.mapEntry 184 (.map (some r)) (pH p)).run prog w = .ok (.tuple #[.slice none 0 0,.int .i64 (es.size:Int)]) { w with heap:=w.heap.setIfInBounds r (.map (es.push { key:=pH p,val:=.slice none 0 0,born:=es.size }) (es.size+1)) }:=by
   simp[Instr.mapEntry,run_underlying ht,MapKept.run_getObj_map hes,hc,hn,MapKept.run_setObj_map _ hes,Result.andThen,goInt]
  have ap:es.size=xs.length:=by
   have:=Qd List.length he
   simpa using this
  have Ym:p∉xs.map (·.1):=by
   have:=abZ _ _ fi
   rw[List.map_map] at this;exact this
  unfold Oper.wp;simp[execOp,jz,hm,hx,cU,Result.andThen];have kK:Turned r w { w with heap:=w.heap.setIfInBounds r (.map (es.push { key:=pH p,val:=.slice none 0 0,born:=es.size }) (es.size+1)) }:=⟨rfl,rfl,rfl,by simp,λi hi=>by simp[Ne.symm hi]⟩;refine hK' _ _ (hK _ es.size [] (.slice none 0 0) (xs ++ [(p,[],.slice none 0 0)]) (.inr ⟨Ym,rfl,ap,rfl,rfl⟩) (by rw[ap];simp) ⟨⟨es.push { key:=pH p,val:=.slice none 0 0,born:=es.size },by simp[hl],by simp[he],λi e hi=>?_⟩,λx hx=>?_,λi j x y b hx hy eR ia=>?_⟩ kK)
  ·rw[Array.getElem?_push] at hi;split at hi
   ·rename_i h1;cases hi;exact h1.symm
   ·exact kE i e hi
  ·rcases List.mem_append.1 hx with hx | hx
   ·exact (hr.row x hx).turned kK tK
   ·rw[List.mem_singleton] at hx;subst hx;exact aK.nil _ _
  ·have get:∀ (k:Nat) (z:fd),(xs ++ [(p,[],Value.slice none 0 0)])[k]?=some z->z.2.2.ownBlock=some b->xs[k]?=some z:=λk z hz mh=>by
    rw[List.getElem?_append] at hz;split at hz
    ·exact hz
    ·have:=gQ hz
     rw[List.mem_singleton] at this;subst this;simp[Value.ownBlock] at mh
   exact hr.apart i j x y b (get i x hx eR) (get j y hy ia) eR ia
end
section
variable {ops:Array Oper} {rest:List Oper} {o:Oper} {a:Act} {Q:Exit->Act->World->Prop}
theorem aJY(w:World)(iA:o.guard=none)(s x:Operand)(ho:o.op = .call { callee:=.builtin .append,args:=#[s,x],argTypes:=#[55,55] })
 (base:Nat) (v:Value) (ps:List Np.Span) (hs:a.eval s=v) (hown:aK base w v ps) (blk:Nat) (f u:Int) (hx:a.eval x = .slice (some ⟨blk,0,none⟩) 1 1) (hc:w.cell? ⟨blk,0,none⟩=some (.int .i64 f)) (bD:w.cell? ⟨blk,1,none⟩=some (.int .i64 u)) (hlen:ps.length<=100000) (dV:base<=w.heap.size)
 (h:∀ v' w',aK base w' v' (ps ++ [⟨f,u⟩])->w.grownBy w' v.ownBlock->(v'.ownBlock=v.ownBlock\/v'.ownBlock=some w.heap.size)->wpList prog ops Q rest (a.put o.dst v') w'):wpList prog ops Q (o::rest) a w:=by
 obtain⟨i0,hi,dZ,bh,aM⟩:=info_parts Tryz.infoSpan;refine wpList_append_own_at w iA s x 55 ho base 110 i0 (.agg #[.int .i64 0,.int .i64 0]) 2 16 underlying55 hi dZ bh aM rfl (by decide) v ps.length (ps.map fC).flatten hs hown ⟨blk,0,none⟩ 1 1 [.int .i64 f,.int .i64 u] hx rfl ?_ (by simp[Value.oneCell']) (by unfold maxLen;omega) (by omega) dV ?_
 ·intro j y hj
  match j,hj with
  | 0,hj=>simp at hj;subst hj;simpa [Addr.add] using hc
  | 1,hj=>simp at hj;subst hj;simpa [Addr.add] using bD
  | j+2,hj=>simp at hj
 ·intro v' w' ho' hg _ hat;refine h v' w' ?_ hg hat;have e:(ps ++ [(⟨f,u⟩:Np.Span)]).length=ps.length+1:=by simp
  unfold aK;rw[e,List.map_append,List.flatten_append];exact ho'
theorem aKZ(w w0:World)(iA:o.guard=none)(m s x:Operand)(jz:o.op=Op.entryStore 184 m s x)(base r:Nat)(xs:List fd)(hX:MapX base r xs w0)(tK:r<base)(j:Nat)(p:Int×List UInt8)(g g':List Np.Span)(v v':Value)
 (hj:xs[j]?=some (p,g,v)) (hg:w0.grownBy w v.ownBlock) (ho:aK base w v' g') (hat:v'.ownBlock=v.ownBlock\/v'.ownBlock=some w0.heap.size) (hm:a.eval m = .map (some r)) (hs:a.eval s = .int .i64 (j:Int)) (hx:a.eval x=v')
 (hK:∀ w',MapX base r (xs.set j (p,g',v')) w'->Turned r w w'->wpList prog ops Q rest (a.put o.dst undef) w'):wpList prog ops Q (o::rest) a w:=by
 obtain⟨es,N3,he,kE⟩:=hX.map;have tB:r<w0.heap.size:=(eQ.1 N3).1;have hv:=hX.row _ (gQ hj);have hes:w.heap[r]?=some (.map es es.size):=(hg.block r tB (λe2=>by have:=(World.ownsRow.lt hv r e2.symm).1;omega)).trans N3;have hl:r<w.heap.size:=(eQ.1 hes).1;have ap:es.size=xs.length:=by
  have:=Qd List.length he
  simpa using this
 have mP:j<xs.length:=(cQ.1 hj).1;have XM:es.findIdx? (λe=>(e.born:Int) == (j:Int))=some j:=by
  rw[Array.findIdx?_eq_some_iff_getElem];refine⟨by omega,?_,λi hi=>?_⟩
  ·have:=kE j _ (pQ (by omega))
   simp[this]
  ·have:=kE i _ (pQ (by omega))
   simp[this];omega
 refine wpList_plain iA λK' hK'=>?_;have cU:(Instr.entryStore 184 (.map (some r)) (.int .i64 (j:Int)) v').run prog w = .ok () { w with heap:=w.heap.setIfInBounds r (.map (es.modify j λe=>{ e with val:=v' }) es.size) }:=by
  simp[Instr.entryStore,MapKept.run_getObj_map hes,XM,asInt,asIntOf,MapKept.run_setObj_map _ hes,Result.andThen]
 unfold Oper.wp;simp[execOp,jz,hm,hs,hx,cU,Result.andThen];have kK:Turned r w { w with heap:=w.heap.setIfInBounds r (.map (es.modify j λe=>{ e with val:=v' }) es.size) }:=⟨rfl,rfl,rfl,by simp,λi hi=>by simp[Ne.symm hi]⟩;refine hK' _ _ (hK _ ⟨⟨es.modify j λe=>{ e with val:=v' },by simp[hl],?_,λi e hi=>?_⟩,λy hy=>?_,λi i' y y' b hy hy' hb hb'=>?_⟩ kK)
 ·apply List.ext_getElem?;intro i;have hi:=Qd (λl=>l[i]?) he;simp only[List.getElem?_map,Array.getElem?_toList] at hi |-;rw[Array.getElem?_modify,List.getElem?_set];by_cases dD:j=i
  ·subst dD;rw[hj] at hi;rw[Qb rfl,Qb rfl,Qb mP];obtain⟨e,ka⟩:∃ e,es[j]?=some e:=⟨_,pQ (by omega)⟩;rw[ka] at hi |-;simp at hi |-;exact hi.1
  ·rw[Qc dD,Qc dD];simpa using hi
 ·rw[Array.getElem?_modify] at hi;split at hi
  ·rename_i dD;subst dD;obtain⟨e',he',rfl⟩:=Option.map_eq_some_iff.1 hi;exact kE j e' he'
  ·exact kE i e hi
 ·obtain⟨i,hi,rfl⟩:=nQ.1 hy;rw[List.length_set] at hi;rw[List.getElem_set];split
  ·exact ho.turned kK tK
  ·rename_i hne;have h1:=hX.row _ (List.getElem_mem hi);have h2:aK base w xs[i].2.2 xs[i].2.1:=gp h1 λb hb=>hg.block b (World.ownsRow.lt h1 b hb).2 λe2=>hne (hX.apart j i _ _ b hj (aQ hi) e2.symm hb);exact h2.turned kK tK
 ·have get:∀ (k:Nat) (z:fd),(xs.set j (p,g',v'))[k]?=some z->(k=j/\z=(p,g',v'))\/(k≠j/\xs[k]?=some z):=λk z hz=>by
   rw[List.getElem?_set] at hz;split at hz
   ·rename_i e;subst e
    first
     | (rw[Qb mP] at hz;cases hz;exact .inl ⟨rfl,rfl⟩)
     | (cases hz;exact .inl ⟨rfl,rfl⟩)
   ·rename_i e;exact .inr ⟨λe2=>e e2.symm,hz⟩
  have clash:∀ (k:Nat) (z:fd),k≠j->xs[k]?=some z->z.2.2.ownBlock=some b->v'.ownBlock=some b->False:=λk z hk hz mh rS=>by
   rcases hat with h1 | h1
   ·rw[rS] at h1;exact hk (hX.apart k j _ _ b hz hj mh h1.symm)
   ·rw[rS] at h1
    have:=(World.ownsRow.lt (hX.row _ (gQ hz)) b mh).2
    simp at h1;omega
  rcases get i y hy with ⟨e1,rfl⟩ | ⟨e1,h1⟩
  ·rcases get i' y' hy' with ⟨e2,rfl⟩ | ⟨e2,h2⟩
   ·rw[e1,e2]
   ·exact (clash i' y' e2 h2 hb' hb).elim
  ·rcases get i' y' hy' with ⟨e2,rfl⟩ | ⟨e2,h2⟩
   ·exact (clash i y e1 h1 hb hb').elim
   ·exact hX.apart i i' y y' b h1 h2 hb hb'
structure RangeX(base r I:Nat)(xs:List fd)(seen:Array Nat)(w:World):Prop where
 mapX:MapX base r xs w
 iter:w.heap[I]?=some (.mapIter (some r) xs.length seen xs.length)
 row:∀ x∈xs,x.2.2.ownBlock≠some I
theorem RangeX.ne{base r I:Nat}{xs:List fd}{seen:Array Nat}{w:World}(h:RangeX base r I xs seen w):I≠r:=by
 obtain⟨es,h1,_⟩:=h.mapX.map;intro e
 have:=h.iter
 rw[e,h1] at this
 cases this
theorem RangeX.lt{base r I:Nat}{xs:List fd}{seen:Array Nat}{w:World}(h:RangeX base r I xs seen w):I<w.heap.size:=(eQ.1 h.iter).1
theorem RangeX.keep{base r I:Nat}{xs:List fd}{seen:Array Nat}{w w':World}(h:RangeX base r I xs seen w)(hb:Below w.heap.size w w'):RangeX base r I xs seen w':=⟨h.mapX.keep hb,(hb.block I h.lt).trans h.iter,h.row⟩
theorem RangeX.changed{base r I:Nat}{xs:List fd}{seen:Array Nat}{w w':World}(h:RangeX base r I xs seen w)(hr:r<base){j:Nat}{p:Int×List UInt8}{g g':List Np.Span}{v:Value}(hj:xs[j]?=some (p,g,v))(hg:w.grownBy w' v.ownBlock)(ho:aK base w' v g'):RangeX base r I (xs.set j (p,g',v)) seen w':=by
 have hv:=h.row _ (gQ hj);refine⟨h.mapX.changed hr hj hg ho,?_,λx hx=>?_⟩
 ·rw[List.length_set];exact (hg.block I h.lt (λe=>hv e.symm)).trans h.iter
 ·obtain⟨i,hi,rfl⟩:=nQ.1 hx;rw[List.length_set] at hi;rw[List.getElem_set];split
  ·exact hv
  ·exact h.row _ (List.getElem_mem hi)
theorem MapX.size{base r:Nat}{xs:List fd}{w:World}(h:MapX base r xs w):∃ es,w.heap[r]?=some (.map es xs.length)/\es.size=xs.length/\es.toList.map (λe=>(e.key,e.val))=(xs.map λx=>(x.1,x.2.2)).map (λp=>(pH p.1,p.2))/\∀ (i:Nat) (e:MapEntry),es[i]?=some e->e.born=i:=by
 obtain⟨es,h1,h2,h3⟩:=h.map;have ap:es.size=xs.length:=by
  have:=Qd List.length h2
  simpa using this
 exact⟨es,by rw[<-ap];exact h1,ap,h2,h3⟩
theorem aKX(w:World)(hg:o.guard=none)(m:Operand)(jz:o.op=Op.range 184 m)(base r:Nat)(xs:List fd)(hm:a.eval m = .map (some r))(hX:MapX base r xs w)
 (hK:∀ w',RangeX base r w.heap.size xs #[] w'->Below w.heap.size w w'->w'.heap.size=w.heap.size+1->wpList prog ops Q rest (a.put o.dst (.pointer (some ⟨w.heap.size,0,none⟩))) w'):wpList prog ops Q (o::rest) a w:=by
 obtain⟨es,hes,ap,_⟩:=hX.size;have cU:=run_range_map (P:=prog) w 184 _ _ r es xs.length underlying184 hes;refine wpList_plain hg λK' hK'=>?_;unfold Oper.wp;simp[execOp,jz,hm,cU,Result.andThen];have hb:Below w.heap.size w (w.alloc (.mapIter (some r) xs.length #[] xs.length)):=(vQ _ _).alloc (bQ _) _;refine hK' _ _ (hK _ ⟨hX.keep hb,heap_alloc_new _ _,λx hx e=>?_⟩ hb (by simp))
 have:=(World.ownsRow.lt (hX.row x hx) _ e).2
 omega
theorem QB{w w':World}{r I:Nat}(h1:w'.heap[r]?=w.heap[r]?)(h2:w'.heap[I]?=w.heap[I]?):w'.rangeLeft r I=w.rangeLeft r I:=by
 unfold World.rangeLeft;rw[h1,h2]
theorem aKK(w:World)(hg:o.guard=none)(it:Operand)(jz:o.op=Op.next it false)(base r I:Nat)(xs:List fd)(seen:Array Nat)(hit:a.eval it = .pointer (some ⟨I,0,none⟩))(h:RangeX base r I xs seen w)
 (WG:(∀ j,j<xs.length->seen.contains j=true)->wpList prog ops Q rest (a.put o.dst (.tuple #[.bool false])) w)
 (WJ:∀ (j:Nat) (p:Int×List UInt8) (g:List Np.Span) (v:Value) (w':World),xs[j]?=some (p,g,v)->RangeX base r I xs (seen.push j) w'->Turned I w w'->w'.rangeLeft r I<w.rangeLeft r I->(Instr.entry (.pointer (some ⟨I,0,none⟩))).run prog w' = .ok (.tuple #[pH p,v]) w'->wpList prog ops Q rest (a.put o.dst (.tuple #[.bool true,pH p,v])) w') :
 wpList prog ops Q (o::rest) a w:=by
 have hne:=h.ne;obtain⟨es,hes,ap,he,kE⟩:=h.mapX.size;have hold:∀ x∈es.toList,x.born<xs.length:=λx hx=>by
  obtain⟨i,hi,rfl⟩:=nQ.1 hx;have hi':i<es.size:=by simpa using hi
  have:=kE i es[i] (pQ hi')
  simp only[Array.getElem_toList];omega
 refine wpList_plain hg λK' hK'=>?_;unfold Oper.wp;rcases run_next_at (P:=prog) w o.type I r xs.length xs.length seen es xs.length h.iter hes hold (bQ _) with ⟨h0,cU⟩ | ⟨e,vT,w1,kD,cU⟩
 ·simp[execOp,jz,hit,cU,Result.andThen];refine hK' _ _ (WG λj hj=>?_);have h1:=all_seen es seen h0 es[j] (by simp);rwa [kE j es[j] (pQ (by omega))] at h1
 ·obtain⟨hem,aTK⟩:=mem_left vT;obtain⟨j,hj,rC⟩:=nQ.1 hem;have hj':j<es.size:=by simpa using hj
  have Oi:es[j]?=some e:=by rw[pQ hj',<-rC];simp
  have Iv:=kE j e Oi;obtain⟨⟨p,g,v⟩,hx⟩:∃ x,xs[j]?=some x:=⟨_,aQ (by omega)⟩;have Yb:e.key=pH p/\e.val=v:=by
   have hi:=Qd (λl=>l[j]?) he;simp only[List.getElem?_map,Array.getElem?_toList] at hi;rw[Oi,hx] at hi;simpa using hi
  obtain⟨bW,jw⟩:=Yb;rw[Iv] at cU;have fJ:w1.heap[I]?=some (.mapIter (some r) xs.length seen xs.length):=by rcases kD with rfl | rfl <;> exact h.iter
  have If:I<w1.heap.size:=(eQ.1 fJ).1;have aw:w1.heap[r]?=some (.map es xs.length):=by rcases kD with rfl | rfl <;> exact hes
  have aL:Below w.heap.size w w1:=by rcases kD with rfl | rfl;exact vQ _ _;exact (vQ _ _).drew
  have qf:w1.heap.size=w.heap.size:=by rcases kD with rfl | rfl <;> rfl
  obtain⟨w2,ae⟩:∃ w2,Go.ChangeMaps.setBlock w1 I (.mapIter (some r) xs.length (seen.push j) xs.length)=w2:=⟨_,rfl⟩;have vL:w2.heap[I]?=some (.mapIter (some r) xs.length (seen.push j) xs.length):=by rw[<-ae];simp[Go.ChangeMaps.setBlock,If]
  have OJ:∀ i,i≠I->w2.heap[i]?=w1.heap[i]?:=λi hi=>by rw[<-ae];simp[Go.ChangeMaps.setBlock,Ne.symm hi]
  have aA:w1.heap=w.heap:=by rcases kD with rfl | rfl <;> rfl
  have kK:Turned I w w2:=⟨by rw[<-ae];exact aL.os,by rw[<-ae];exact aL.tape,by rw[<-ae];exact aL.output,by rw[<-ae];simp[Go.ChangeMaps.setBlock,qf],λi hi=>by rw[OJ i hi,aA]⟩;have ac:w2.heap[r]?=some (.map es xs.length):=(OJ r (Ne.symm hne)).trans aw;rw[ae] at cU;simp[execOp,jz,hit,cU,Result.andThen];rw[bW,jw];refine hK' _ _ (WJ j p g v w2 hx ⟨h.mapX.turned kK hne h.row,vL,h.row⟩ kK ?_ ?_)
  ·have:=left_shrinks es seen e vT
   rw[Iv] at this;unfold World.rangeLeft;rw[ac,vL,hes,h.iter];exact this
  ·have p9:(es.toList.map (·.born)).Nodup:=by
    rw[List.nodup_iff_pairwise_ne,List.pairwise_iff_getElem];intro i k hi hk hik;have hi':i<es.size:=by simpa using hi
    have hk':k<es.size:=by simpa using hk
    have h1:=kE i es[i] (pQ hi');have h2:=kE k es[k] (pQ hk');simp only[List.getElem_map,Array.getElem_toList];omega
   have:=run_entry_at (P:=prog) w2 I r xs.length seen es xs.length e (by rw[Iv];exact vL) ac hem p9
   rw[bW,jw] at this;exact this
end
end
section
open Go.RowKit
theorem adK{x:List UInt8}(h:Np.aG x=true):x≠[]:=by
 rintro rfl;revert h;decide
def Uv(w1:World)(apex:List UInt8)(l:List Np.Signed)(i:Value)(wr:World):Prop:=
 ∃ k:Nat,k<=l.length/\i = .int .i64 k/\Below w1.heap.size w1 wr/\Hid (∀ j x,j<k->l[j]?=some x->Np.dj x.set=true)/\Hid (Np.jm apex none l=Np.jm apex (pr l k) (l.drop k))
theorem aqY(a:ByteArray)(ha:a.size<=140737488355328)(v:Value)(l:List Np.Signed)(bM:l.length<=20000)(w:World)(hd:SlR bk 5 w w.heap.size v l) :
 Calls prog 159 #[.agg #[.string a,v]] w λe w'=>e = .returned (.bool (Np.eF ⟨a.data.toList,l⟩))/\Below w.heap.size w w':=by
 have HD:=jq hd;obtain⟨A,c,rfl,bD,bL,-⟩:=hd;have HW:Hid (∀ o,Below w.heap.size w (w.alloc o)):=jq (λo=>(vQ _ w).alloc (bQ _) _);go_enter func159,ntmps159;go_wp2_with fail;refine (yW _ ha _).mono ?_;rintro e w1 ⟨rfl,hb⟩;have c0:w1.cell? ⟨w.heap.size,0,none⟩=some (.string a):=by rw[hb.cell (by simp)];go_simp
 have c1:w1.cell? ⟨w.heap.size,1,none⟩=some (.slice A l.length c):=by rw[hb.cell (by simp)];go_simp
 have dG:w.heap.size<w1.heap.size:=by have:=hb.size;simp at this;omega
 have ay:=jq ((HW.out _).trans (hb.mono (by simp)));clear hb
 cases qg:Np.aG a.data.toList with
 | false=>
  have HF:Hid (Np.eF ⟨a.data.toList,l⟩=false):=jq (by unfold Np.eF;rw[qg];rfl);clear qg;go_wp2_with fail;go_ret;exact⟨ag HF.out.symm,ay.out⟩
 | true=>
  have xS:=jq qg;have haz:=yP qg;clear qg;go_wp2_with fail;refine (QP a xS.out _).mono ?_;rintro e w0 ⟨rfl,cC⟩;have Ji:=cC.size;replace c0:w0.cell? ⟨w.heap.size,0,none⟩=some (.string a):=(cC.cell (by simpa using dG)).trans c0;replace c1:w0.cell? ⟨w.heap.size,1,none⟩=some (.slice A l.length c):=(cC.cell (by simpa using dG)).trans c1;replace ay:=jq (ay.out.trans (cC.mono (by omega)));replace dG:w.heap.size<w0.heap.size:=by omega
  clear cC Ji;obtain⟨w1,rfl⟩:∃ w1,w1=w0:=⟨_,rfl⟩
  cases mf:Np.eh a.data.toList with
  | true=>
   have HF:Hid (Np.eF ⟨a.data.toList,l⟩=false):=jq (by unfold Np.eF;rw[mf];simp);go_wp2_with (go_at_call 225;refine (E2 a ha _).mono ?_;rintro e w' ⟨rfl,rfl⟩);go_ret;exact⟨ag HF.out.symm,ay.out⟩
  | false=>
   have HF:Hid (Np.eF ⟨a.data.toList,l⟩=Np.jm a.data.toList none l):=jq (by unfold Np.eF;rw[mf,xS.out];simp);go_wp2_with (go_at_call 225;refine (E2 a ha _).mono ?_;rintro e w' ⟨rfl,rfl⟩);clear mf;go_loopw [3] (λi wr=>Uv w1 a.data.toList l i wr) (λi _=>l.length - (intOf i).toNat)
   case atStart=>exact⟨0,jQ _,rfl,vQ _ _,jq (λj x hj=>by omega),jq rfl⟩
   case round=>
    obtain⟨k,hk,rfl,aL,HV,HG⟩:=hrel;have Y8:=aL.size;have d0:wr.cell? ⟨w.heap.size,0,none⟩=some (.string a):=by rw[aL.cell (by simpa using dG)];exact c0
    have d1:wr.cell? ⟨w.heap.size,1,none⟩=some (.slice A l.length c):=by rw[aL.cell (by simpa using dG)];exact c1
    have cK:w.heap.size<wr.heap.size:=by omega
    by_cases aa:k<l.length
    ·have ls:Below w.heap.size w wr:=ay.out.trans (aL.mono (by omega));have ab:=aQ aa;obtain⟨b,o,c',sn,dv,sv,hA,bU,_,aF,ap,aV,aR,e0,e1,e2,e3,e4⟩:=eV (HD.out.keep ba ls) ab
     cases hA
     generalize hx:l[k]=x at *;clear hx;obtain⟨Ad,cd,rfl,ID,Ye⟩:=al aV;have kr:=jq aV;have HX:=jq ab;have tO:(⟨sn.data.toList,x.set.type,x.set.life,x.set.data⟩:Np.DSet)=x.set:=by rw[aF]
     have LJ:=jq tO;have aS:=jq aF;have aU:=jq aL;have xp:=jq ls;have ut:=jq (HG.out.trans (RW ab (pr l k)));clear aV aR ab aF aL ls c0 c1 tO e4;go_wp2_with fail;have fW:Below wr.heap.size wr (wr.alloc (.cells #[.string sn,.int .i64 x.set.type,.int .i64 x.set.life,.slice Ad x.set.data.length cd] 26)):=(vQ _ _).alloc (bQ _) _;have p0:=World.cell?_alloc_new wr #[.string sn,.int .i64 x.set.type,.int .i64 x.set.life,.slice Ad x.set.data.length cd] 26 0;have p1:=World.cell?_alloc_new wr #[.string sn,.int .i64 x.set.type,.int .i64 x.set.life,.slice Ad x.set.data.length cd] 26 1;have p2:=World.cell?_alloc_new wr #[.string sn,.int .i64 x.set.type,.int .i64 x.set.life,.slice Ad x.set.data.length cd] 26 2;have p3:=World.cell?_alloc_new wr #[.string sn,.int .i64 x.set.type,.int .i64 x.set.life,.slice Ad x.set.data.length cd] 26 3;have fL:wr.heap.size<(wr.alloc (.cells #[.string sn,.int .i64 x.set.type,.int .i64 x.set.life,.slice Ad x.set.data.length cd] 26)).heap.size:=by simp
     generalize wr.alloc (.cells #[.string sn,.int .i64 x.set.type,.int .i64 x.set.life,.slice Ad x.set.data.length cd] 26)=wa at fW p0 p1 p2 p3 fL |-;have fB:=jq fW;have ui:=jq (xp.out.trans (fW.mono (by omega)));replace d0:wa.cell? ⟨w.heap.size,0,none⟩=some (.string a):=by rw[fW.cell (by simpa using cK)];exact d0
     replace d1:wa.cell? ⟨w.heap.size,1,none⟩=some (.slice (some ⟨b,o,none⟩) l.length c):=by rw[fW.cell (by simpa using cK)];exact d1
     replace p0:wa.cell? ⟨wr.heap.size,0,none⟩=some (.string sn):=p0;replace p1:wa.cell? ⟨wr.heap.size,1,none⟩=some (.int .i64 x.set.type):=p1;replace p2:wa.cell? ⟨wr.heap.size,2,none⟩=some (.int .i64 x.set.life):=p2;replace p3:wa.cell? ⟨wr.heap.size,3,none⟩=some (.slice Ad x.set.data.length cd):=p3;have tt:∀ (g:bK wa) (p:Addr),p.block<wa.heap.size->g.w.cell? p=wa.cell? p:=λg p h=>g.cell p h;have a2J:w.heap.size<wa.heap.size:=by omega
     have aSQ:b<wa.heap.size:=by omega
     have SN:=jq ((kr.out.keep cH (fB.out.mono (by omega))).more du (show w.heap.size<=wa.heap.size by omega));clear fW e0 e1 e2 e3;have cL:∀ g:bK wa,Calls prog 150 #[.agg #[.string sn,.int .i64 x.set.type,.int .i64 x.set.life,.slice Ad x.set.data.length cd]] g.w λe w'=>e = .returned (.bool (Np.dj x.set))/\Below g.w.heap.size g.w w':=λg=>by
      rw[<-LJ.out];exact QM sn ap _ _ _ x.set.data _ (SN.out.later cH du g.below)
     cases fk:Np.dj x.set with
     | false=>
      rw[fk] at cL;have nv:=jq cL;have jO:=jq fk;clear cL fk;refine f9 (by kernel_rfl) (by kernel_rfl) ?_
      repeat (go_big_quiet_step ((go_at_call 150;exact Calls.grow_of (nv.out _))))
      refine wpQuiet_nil ?_;rintro _ ⟨g,rfl⟩;go_wp2_with fail;go_ret;refine⟨ag ?_,ui.out.trans (g.below.mono (by omega))⟩;rw[HF.out,ut.out,jO.out,Bool.and_false];rfl
     | true=>
      rw[fk] at cL;have nv:=jq cL;have jO:=jq fk;have kM:Np.aG sn.data.toList=true:=by rw[aS.out];exact (Np.sr fk).1
      have gN:=jq kM;have YU:=yP kM;have hin:∀ g:bK wa,Calls prog 222 #[.string sn,.string a] g.w λe w'=>e = .returned (.bool (Np.bq sn.data.toList a.data.toList))/\Below g.w.heap.size g.w w':=λg=>by
       rw[<-Np.Cm (adK xS.out)];exact E0 sn a (by omega) (by omega) _
      have Bb:∀ j y,j<k+1->l[j]?=some y->Np.dj y.set=true:=λj y hj hy=>by
       by_cases e:j=k
       ·subst e;rw[HX.out] at hy;cases hy;exact fk
       ·exact HV.out j y (by omega) hy
      have pw:=jq Bb;clear cL fk kM Bb
      cases dY:Np.bq sn.data.toList a.data.toList with
      | false=>
       rw[dY] at hin;have lN:=jq hin;have zV:=jq dY;clear dY hin;refine f9 (by kernel_rfl) (by kernel_rfl) ?_
       repeat (go_big_quiet_step (first
        | (go_at_call 150;exact Calls.grow_of (nv.out _))
        | (go_at_call 222;exact Calls.grow_of (lN.out _))))
       refine wpQuiet_nil ?_;rintro _ ⟨g,rfl⟩;go_wp2_with fail;go_ret;refine⟨ag ?_,ui.out.trans (g.below.mono (by omega))⟩;rw[HF.out,ut.out,<-aS.out,gN.out,zV.out];rfl
      | true=>
       rw[dY] at hin;have lN:=jq hin;have B5:Np.jm a.data.toList none l=((match pr l k with | none=>true | some q=>decide (Np.gC q x.set<0))&&Np.jm a.data.toList (pr l (k+1)) (l.drop (k+1))):=by
        rw[ut.out,<-aS.out,gN.out,dY,jO.out,Fs HX.out];rfl
       have cN:=jq B5;clear dY hin B5;by_cases bX:k=0
       ·subst bX;refine f9 (by kernel_rfl) (by kernel_rfl) ?_
        repeat (go_big_quiet_step (first
         | (go_at_call 150;exact Calls.grow_of (nv.out _))
         | (go_at_call 222;exact Calls.grow_of (lN.out _))))
        refine wpQuiet_nil ?_;rintro _ ⟨g,rfl⟩;go_wp2_with fail;go_roundw
        case rel=>exact⟨1,by omega,by go_num,aU.out.trans ((fB.out.trans (g.below.mono (by omega))).mono aU.out.size),pw,jq (by rw[cN.out];rfl)⟩
        case measure=>simp[intOf] <;> omega
       ·obtain⟨i,rfl⟩:∃ i,k=i+1:=⟨k - 1,by omega⟩;have ry:=aQ (show i<l.length by omega);obtain⟨b',o',c'',sq,dq,sg,oP,Bf,_,kh,OW,Bq,_,f0,f1,f2,f3,_⟩:=eV ((HD.out.keep ba ui.out)) ry
        cases oP
        generalize hy:l[i]=y at *;clear hy;obtain⟨Aq,cq,rfl,Xv,Ou⟩:=al Bq;have OS:(⟨sq.data.toList,y.set.type,y.set.life,y.set.data⟩:Np.DSet)=y.set:=by rw[kh]
        have O6:Np.aG sq.data.toList=true:=by rw[kh];exact (Np.sr (HV.out i y (by omega) ry)).1
        have OM:pr l (i+1)=some y.set:=Fs ry;have nB:=jq OM;have OI:∀ g:bK wa,Calls prog 234 #[.agg #[.string sq,.int .i64 y.set.type,.int .i64 y.set.life,.slice Aq y.set.data.length cq],.agg #[.string sn,.int .i64 x.set.type,.int .i64 x.set.life,.slice Ad x.set.data.length cd]] g.w λe w'=>e = .returned (.int .i64 (Np.gC y.set x.set))/\Below g.w.heap.size g.w w':=λg=>by
         have:=arJ sq sn y.set.type y.set.life x.set.type x.set.life (.slice Aq y.set.data.length cq) (.slice Ad x.set.data.length cd) y.set.data x.set.data O6 gN.out g.w
         rw[OS,LJ.out] at this;exact this
        have Ln:=jq OI;clear OS OM Bq kh ry OI O6;have nT:(0:Int)<=(i:Int):=by omega
        have rB:(i:Int)<(l.length:Int):=by omega
        have Yu:(0:Int)<(((i+1:Nat)):Int):=by omega
        have aj:IntKind.i64.wrap (((i+1:Nat):Int) - 1)=(i:Int):=by rw[IntWalk.i64_in _ (by omega)];omega
        by_cases fE:Np.gC y.set x.set<0
        ·have kq:=jq (uQ fE);have IF:¬ (0<=Np.gC y.set x.set):=by omega
         refine f9 (by kernel_rfl) (by kernel_rfl) ?_
         repeat (go_big_quiet_step (first
          | (go_at_call 150;exact Calls.grow_of (nv.out _))
          | (go_at_call 222;exact Calls.grow_of (lN.out _))
          | (go_at_call 234;exact Calls.grow_of (Ln.out _))))
         refine wpQuiet_nil ?_;rintro _ ⟨g,rfl⟩;go_wp2_with fail;go_roundw
         case rel=>
          refine⟨i+1+1,by omega,by go_num,aU.out.trans ((fB.out.trans (g.below.mono (by omega))).mono aU.out.size),pw,jq ?_⟩;rw[cN.out,nB.out];simp only[kq.out,Bool.true_and]
         case measure=>simp[intOf] <;> omega
        ·have kq:=jq (tQ fE);have IF:0<=Np.gC y.set x.set:=by omega
         refine f9 (by kernel_rfl) (by kernel_rfl) ?_
         repeat (go_big_quiet_step (first
          | (go_at_call 150;exact Calls.grow_of (nv.out _))
          | (go_at_call 222;exact Calls.grow_of (lN.out _))
          | (go_at_call 234;exact Calls.grow_of (Ln.out _))))
         refine wpQuiet_nil ?_;rintro _ ⟨g,rfl⟩;go_wp2_with fail;go_ret;refine⟨ag ?_,ui.out.trans (g.below.mono (by omega))⟩;rw[HF.out,cN.out,nB.out];simp only[kq.out,Bool.false_and]
    ·go_wp2_with fail;go_ret;refine⟨ag ?_,ay.out.trans (aL.mono (by omega))⟩;rw[HF.out,HG.out,List.drop_eq_nil_of_le (by omega)];rfl
theorem aeQ(a b:ByteArray)(n1 n2 n3 n4 m1 m2 m3 m4:Int)(s1 s2:Int)(w:World):(binOp .neq 50 (.agg #[.string a,.int .i64 n1,.int .i64 n2,.int .i64 n3,.int .i64 n4,.int .u64 s1]) (.agg #[.string b,.int .i64 m1,.int .i64 m2,.int .i64 m3,.int .i64 m4,.int .u64 s2])).run prog w = .ok (.bool (!(a.toList == b.toList&&(n1 == m1&&(n2 == m2&&(n3 == m3&&(n4 == m4&&s1 == s2))))))) w:=by
 have u3:=underlying3;have a3:=isAgg3;have z3:=sizeOf3;have u9:=underlying9;have a9:=isAgg9;have z9:=sizeOf9;have u8:=underlying48;have a8:=isAgg48;have z8:=sizeOf48;have hS:prog.underlying 50=some (.struct (prog.fieldsOf 50)):=by kernel_rfl
 have hp:prog.stoodInHeld 50=false:=by kernel_rfl
 rw[run_neq_struct,show (10000:Nat)=9999+1 from rfl,run_equalIn_agg w 9999 50 _ _ hS hp];simp only[Program.fieldsOf,underlying50];go_simp;by_cases h0:a.toList=b.toList <;> by_cases h1:n1=m1 <;> by_cases h2:n2=m2 <;> by_cases h3:n3=m3 <;> by_cases h4:n4=m4 <;> by_cases h5:s1=s2 <;> simp[h0,h1,h2,h3,h4,h5]
theorem ayX{x y:Np.Sig}{a b:ByteArray}(ha:a.data.toList=x.zone)(hb:b.data.toList=y.zone):(!(a.toList == b.toList&&(x.key == y.key&&(x.alg == y.alg&&(x.frm == y.frm&&(x.til == y.til&&x.sum == y.sum))))))=decide (x≠y):=by
 rw[dQ,dQ,ha,hb];obtain⟨z,k,g,f,t,m⟩:=x;obtain⟨z',k',g',f',t',m'⟩:=y;simp only[ne_eq,Np.Sig.mk.injEq];by_cases h0:z=z' <;> by_cases h1:k=k' <;> by_cases h2:g=g' <;> by_cases h3:f=f' <;> by_cases h4:t=t' <;> by_cases h5:m=m' <;> simp[h0,h1,h2,h3,h4,h5]
theorem axZ(s1 s2:ByteArray)(t1 l1 t2 l2:Int)(v1 v2 u1 u2:Value)(d1 d2:List Np.Datum)(g1 g2:List Np.Sig)(w:World)(gE:SlR bF 3 w w.heap.size v1 d1)(iz:SlR bF 3 w w.heap.size v2 d2)(tr:SlR dm 6 w w.heap.size u1 g1)(Bu:SlR dm 6 w w.heap.size u2 g2) :
 Calls prog 20 #[.agg #[.string s1,.int .i64 t1,.int .i64 l1,v1,u1],.agg #[.string s2,.int .i64 t2,.int .i64 l2,v2,u2]] w
  λe w'=>e = .returned (.bool (decide ((s1=s2/\t1=t2/\l1=l2/\d1=d2)/\g1=g2)))/\Below w.heap.size w w':=by
 obtain⟨r,hr⟩:∃ r,decide ((s1=s2/\t1=t2/\l1=l2/\d1=d2)/\g1=g2)=r:=⟨_,rfl⟩;rw[hr];have HR:=jq hr;have zC:=jq gE;have dz:=jq iz;have xy:=jq tr;have mx:=jq Bu;obtain⟨A1,c1,rfl,_,_⟩:=al gE;obtain⟨A2,c2,rfl,_,_⟩:=al iz;obtain⟨A3,c3,rfl,_,_⟩:=al tr;obtain⟨A4,c4,rfl,_,_⟩:=al Bu;clear gE iz tr Bu hr;obtain⟨d1n,h1⟩:∃ n,d1.length=n:=⟨_,rfl⟩;obtain⟨d2n,h2⟩:∃ n,d2.length=n:=⟨_,rfl⟩;obtain⟨n,h3⟩:∃ n,g1.length=n:=⟨_,rfl⟩;obtain⟨m,h4⟩:∃ n,g2.length=n:=⟨_,rfl⟩;rw[h1,h2,h3,h4];rw[h1] at zC;rw[h2] at dz;rw[h3] at xy;rw[h4] at mx;have H3:=jq h3;have H4:=jq h4;clear h1 h2 h3 h4;obtain⟨X,hX⟩:∃ X,w.heap.size=X:=⟨_,rfl⟩;obtain⟨Y,hY⟩:∃ Y,X+1=Y:=⟨_,rfl⟩;obtain⟨W1,an⟩:∃ W1,(w.alloc (.cells #[.string s1,.int .i64 t1,.int .i64 l1,.slice A1 d1n c1,.slice A3 n c3] 42)).alloc (.cells #[.string s2,.int .i64 t2,.int .i64 l2,.slice A2 d2n c2,.slice A4 m c4] 42)=W1:=⟨_,rfl⟩;have aL:Below w.heap.size w W1:=by rw[<-an];exact ((vQ _ _).alloc (bQ _) _).alloc (by simp) _
 have kP:W1.heap.size=w.heap.size+2:=by rw[<-an];simp
 have k0:W1.cell? ⟨X,0,none⟩=some (.string s1):=by rw[<-an,<-hX];simp[go_sem]
 have k1:W1.cell? ⟨X,1,none⟩=some (.int .i64 t1):=by rw[<-an,<-hX];simp[go_sem]
 have k2:W1.cell? ⟨X,2,none⟩=some (.int .i64 l1):=by rw[<-an,<-hX];simp[go_sem]
 have k3:W1.cell? ⟨X,3,none⟩=some (.slice A1 d1n c1):=by rw[<-an,<-hX];simp[go_sem]
 have k4:W1.cell? ⟨X,4,none⟩=some (.slice A3 n c3):=by rw[<-an,<-hX];simp[go_sem]
 have j0:W1.cell? ⟨Y,0,none⟩=some (.string s2):=by rw[<-an,<-hY,<-hX];simp[go_sem]
 have j1:W1.cell? ⟨Y,1,none⟩=some (.int .i64 t2):=by rw[<-an,<-hY,<-hX];simp[go_sem]
 have j2:W1.cell? ⟨Y,2,none⟩=some (.int .i64 l2):=by rw[<-an,<-hY,<-hX];simp[go_sem]
 have j3:W1.cell? ⟨Y,3,none⟩=some (.slice A2 d2n c2):=by rw[<-an,<-hY,<-hX];simp[go_sem]
 have j4:W1.cell? ⟨Y,4,none⟩=some (.slice A4 m c4):=by rw[<-an,<-hY,<-hX];simp[go_sem]
 rw[hX] at aL kP zC dz xy mx |-;have aU:=jq aL;clear aL;go_enter func20,ntmps20;go_wp2_with fail;refine (axQ s1 s2 t1 l1 t2 l2 _ _ d1 d2 _ ((zC.out.keep cH aU.out).more du (by omega)) ((dz.out.keep cH aU.out).more du (by omega))).mono ?_;rintro e w2 ⟨rfl,ac⟩;have aM:=ac.size;replace k0:=(cl ac (by omega)).trans k0;replace k1:=(cl ac (by omega)).trans k1;replace k2:=(cl ac (by omega)).trans k2;replace k3:=(cl ac (by omega)).trans k3;replace k4:=(cl ac (by omega)).trans k4;replace j0:=(cl ac (by omega)).trans j0;replace j1:=(cl ac (by omega)).trans j1;replace j2:=(cl ac (by omega)).trans j2;replace j3:=(cl ac (by omega)).trans j3;replace j4:=(cl ac (by omega)).trans j4;have ak:=jq (aU.out.trans (ac.mono (by omega)));clear ac an hX;obtain⟨q,hq⟩:∃ q,decide (s1=s2/\t1=t2/\l1=l2/\d1=d2)=q:=⟨_,rfl⟩;rw[hq];have lh:=jq hq;clear hq
 cases q with
 | false=>
  have HX:Hid (r=false):=jq (by rw[<-HR.out];exact tQ λh=>(of_decide_eq_false lh.out) h.1);go_wp2_with fail;go_ret;exact⟨ag HX.out.symm,ak.out⟩
 | true=>
  by_cases nW:n=m
  ·subst nW;go_wp2_with fail;go_loopw [5] (λi wr=>∃ (k:Nat),k<=n/\i = .int .i64 k/\Hid (Below w2.heap.size w2 wr)/\Hid (g1.take k=g2.take k)) (λi _=>n - (intOf i).toNat)
   case atStart=>exact⟨0,jQ _,rfl,jq (vQ _ _),jq rfl⟩
   case round=>
    obtain⟨k,hk,rfl,bH,HT⟩:=hrel;have ap:=bH.out.size;have HB:=jq (ak.out.trans (bH.out.mono (by omega)));have a4:=(cl bH.out (by omega)).trans k4;have b4:=(cl bH.out (by omega)).trans j4;by_cases aa:k<n
    ·obtain⟨x,hx⟩:∃ x,g1[k]?=some x:=⟨_,aQ (by rw[H3.out];exact aa)⟩;obtain⟨y,hy⟩:∃ y,g2[k]?=some y:=⟨_,aQ (by rw[H4.out];exact aa)⟩;obtain⟨b,o,c,sx,hv,bU,qd,_,f0,f1,f2,f3,f4,f5⟩:=om (xy.out.keep dH HB.out) hx;obtain⟨b',o',c',sy,hv',Bf,gm,_,e0,e1,e2,e3,e4,e5⟩:=om (mx.out.keep dH HB.out) hy;simp only[Value.slice.injEq] at hv hv';obtain⟨rfl,_,_⟩:=hv;obtain⟨rfl,_,_⟩:=hv';have gX:Hid (x=y->g1.take (k+1)=g2.take (k+1)):=jq (λe=>by
      obtain⟨q1,q2⟩:=cQ.1 hx;obtain⟨q3,q4⟩:=cQ.1 hy;rw[fQ q1,fQ q3,q2,q4,HT.out,e])
     have ld:Hid (x≠y->r=false):=jq (λe=>by
      rw[<-HR.out];refine tQ λh=>e ?_;have h2:=h.2;subst h2;rw[hx] at hy;simpa using hy)
     have bX:(0:Int)<=(k:Int):=by omega
     have bW:(k:Int)<(n:Int):=by omega
     have heq:=aeQ sx sy x.key x.alg x.frm x.til y.key y.alg y.frm y.til x.sum y.sum;rw[ayX qd gm] at heq;clear hx hy qd gm;by_cases b7:x=y
     ·have HX:=jq (gX.out b7);have kj:decide (x≠y)=false:=by simpa using b7
      rw[kj] at heq;clear kj b7;go_wp2_with fail;go_quiet (fail);go_wp2_with fail;go_roundw
      case rel=>exact⟨k+1,by omega,by go_num,jq (below_drewN bH.out _),HX⟩
      case measure=>simp[intOf] <;> omega
     ·have HX:=jq (ld.out b7);have kj:decide (x≠y)=true:=uQ b7;rw[kj] at heq;clear kj b7;go_wp2_with fail;go_quiet (fail);go_wp2_with fail;go_ret;exact⟨ag HX.out.symm,below_drewN HB.out _⟩
    ·have HX:Hid (r=true):=jq (by
      rw[<-HR.out];refine uQ ⟨of_decide_eq_true lh.out,?_⟩
      have:=HT.out
      rwa [kQ (by rw[H3.out];omega),kQ (by rw[H4.out];omega)] at this)
     go_wp2_with fail;go_ret;exact⟨ag HX.out.symm,HB.out⟩
  ·have hne:(n:Int)≠(m:Int):=by omega
   have hd:decide ((n:Int)=(m:Int))=false:=tQ hne;have hb:((n:Int) == (m:Int))=false:=by simpa using hne
   have HX:Hid (r=false):=jq (by rw[<-HR.out];exact tQ λh=>nW (by rw[<-H3.out,<-H4.out,h.2]));go_wp2_with fail;go_ret;exact⟨ag HX.out.symm,ak.out⟩
end
section
open Go.RowKit Go.Sort Go.Shelf
def Np.pu(l:List Np.Span):Prop:=∀ s∈l,s.frm<s.til
theorem RN(v:Value)(ps:List Np.Span)(s:Np.Span)(bM:ps.length<=20000)(hp:Np.pu ps)(hs:s.frm<s.til)(w:World)(h:SlR cV 2 w w.heap.size v (Np.cP ps)) :
 Calls prog 65 #[v,.agg #[.int .i64 s.frm,.int .i64 s.til]] w (λe w'=>∃ v',e = .returned v'/\aK w.heap.size w' v' (Np.cP (ps ++ [s]))/\Below w.heap.size w w'):=by
 have h1:=aIZ v (Np.cP ps) s (by have:=ql ps;omega) hs w h;rwa [Kh _ _ (Np.wJ hp).1 hs,Np.aIQ hp hs] at h1
theorem UL(v:Value)(l:List Np.Span)(bM:l.length<=20000)(hf:Np.pu l)(w:World)(h:SlR cV 2 w w.heap.size v l) :
 Calls prog 64 #[v] w (λe w'=>∃ v',e = .returned v'/\aK w.heap.size w' v' (Np.cP l)/\Below w.heap.size w w'):=by
 have HD:=jq h;have HF:=jq hf;obtain⟨A,c,rfl,bD,bL⟩:=al h;clear h hf;go_enter func64,ntmps64;go_wp2_with fail;go_loopw [3,4] (λvo i wr=>∃ (k:Nat),k<=l.length/\i = .int .i64 k/\Hid (Below w.heap.size w wr)/\Hid (aK w.heap.size wr vo (Np.cP (l.take k)))) (λ_ i _=>l.length - (intOf i).toNat)
 case atStart=>exact⟨0,jQ _,rfl,jq (vQ _ _),jq (by rw[List.take_zero,Np.afQ];exact aK.nil _ _)⟩
 case round=>
  obtain⟨k,hk,rfl,HB,HO⟩:=hrel;have ap:=HB.out.size;by_cases aa:k<l.length
  ·obtain⟨x,ab⟩:∃ x,l[k]?=some x:=⟨_,aQ aa⟩;have dz:=HD.out.keep dT HB.out;obtain⟨b,o,rfl⟩:=t8 dz aa;obtain⟨bC,hat⟩:=qr dz ab;clear dz;have h0:=hat.c0;have h1:=hat.c1;have HT:Hid (l.take (k+1)=l.take k ++ [x]):=jq (by
    obtain⟨hl,he⟩:=cQ.1 ab;rw[fQ hl,he])
   have HX:Hid (x.frm<x.til):=jq (HF.out x (gQ ab));have uq:Hid (Np.pu (l.take k)):=jq (λy hy=>HF.out y (List.mem_of_mem_take hy));have kZ:Hid ((l.take k).length<=20000):=jq (by rw[List.length_take];omega);have HS:Hid (SlR cV 2 wr wr.heap.size u3 (Np.cP (l.take k))):=jq (HO.out.slr (by have:=ql (l.take k);have:=kZ.out;omega));clear ab hat;go_wp2_with fail;refine (RN _ (l.take k) x kZ.out uq.out HX.out _ HS.out).mono ?_;rintro e w2 ⟨v2,rfl,ig,ac⟩;have H2:=jq (And.intro (ig.weak ap) (HB.out.trans (ac.mono ap)));clear ig ac;go_wp2_with fail;go_roundw
   case rel=>exact⟨k+1,by omega,by go_num,jq H2.out.2,jq (by rw[HT.out];exact H2.out.1)⟩
   case measure=>simp[intOf] <;> omega
  ·have HE':Hid (l.take k=l):=jq (kQ (by omega));go_wp2_with fail;go_ret;exact⟨_,rfl,by have:=HO.out;rw[HE'.out] at this;exact this,HB.out⟩
theorem MV(v v':Value)(l m:List Np.Span)(aVY:l.length<=10000)(aXZ:m.length<=10000)(hf:Np.pu l)(hg:Np.pu m)(w:World)(h:SlR cV 2 w w.heap.size v l)(h':SlR cV 2 w w.heap.size v' m) :
 Calls prog 23 #[v,v'] w (λe w'=>∃ v',e = .returned v'/\aK w.heap.size w' v' (Np.cP (l++m))/\Below w.heap.size w w'):=by
 have HL:=jq h;have HD:=jq h';have zG:=jq hf;have HF:=jq hg;obtain⟨A,c,rfl,bD,bL⟩:=al h;obtain⟨A',c',rfl,NO,BI⟩:=al h';clear h h' hf hg;go_enter func23,ntmps23;go_wp2_with fail;refine (UL _ l (by omega) zG.out _ HL.out).mono ?_;rintro e w1 ⟨v1,rfl,BQ,aw⟩;have Tt:=jq BQ;have ay:=jq aw;clear BQ aw;go_wp2_with fail;go_loopw [5,6] (λvo i wr=>∃ (k:Nat),k<=m.length/\i = .int .i64 k/\Hid (Below w.heap.size w wr)/\Hid (aK w.heap.size wr vo (Np.cP (l++m.take k)))) (λ_ i _=>m.length - (intOf i).toNat)
 case atStart=>exact⟨0,jQ _,rfl,ay,jq (by rw[List.take_zero,List.append_nil];exact Tt.out)⟩
 case round=>
  obtain⟨k,hk,rfl,HB,HO⟩:=hrel;have ap:=HB.out.size;by_cases aa:k<m.length
  ·obtain⟨x,ab⟩:∃ x,m[k]?=some x:=⟨_,aQ aa⟩;have dz:=HD.out.keep dT HB.out;obtain⟨b,o,rfl⟩:=t8 dz aa;obtain⟨bC,hat⟩:=qr dz ab;clear dz;have h0:=hat.c0;have h1:=hat.c1;have HT:Hid (l++m.take (k+1)=(l++m.take k) ++ [x]):=jq (by
    obtain⟨hl,he⟩:=cQ.1 ab;rw[fQ hl,he,List.append_assoc])
   have HX:Hid (x.frm<x.til):=jq (HF.out x (gQ ab));have uq:Hid (Np.pu (l++m.take k)):=jq (λy hy=>(List.mem_append.1 hy).elim (zG.out y) λhy=>HF.out y (List.mem_of_mem_take hy));have kZ:Hid ((l++m.take k).length<=20000):=jq (by rw[List.length_append,List.length_take];omega);have HS:Hid (SlR cV 2 wr wr.heap.size u5 (Np.cP (l++m.take k))):=jq (HO.out.slr (by have:=ql (l++m.take k);have:=kZ.out;omega));clear ab hat;go_wp2_with fail;refine (RN _ (l++m.take k) x kZ.out uq.out HX.out _ HS.out).mono ?_;rintro e w2 ⟨v2,rfl,ig,ac⟩;have H2:=jq (And.intro (ig.weak ap) (HB.out.trans (ac.mono ap)));clear ig ac;go_wp2_with fail;go_roundw
   case rel=>exact⟨k+1,by omega,by go_num,jq H2.out.2,jq (by rw[HT.out];exact H2.out.1)⟩
   case measure=>simp[intOf] <;> omega
  ·have HE':Hid (m.take k=m):=jq (kQ (by omega));go_wp2_with fail;go_ret;exact⟨_,rfl,by have:=HO.out;rw[HE'.out] at this;exact this,HB.out⟩
theorem aeZ(f u f' u':Int)(w:World):(binOp .neq 110 (.agg #[.int .i64 f,.int .i64 u]) (.agg #[.int .i64 f',.int .i64 u'])).run prog w = .ok (.bool (decide ((⟨f,u⟩:Np.Span)≠⟨f',u'⟩))) w:=by
 have u3:=underlying3;have a3:=isAgg3;have z3:=sizeOf3;have hS:prog.underlying 110=some (.struct (prog.fieldsOf 110)):=by kernel_rfl
 have hp:prog.stoodInHeld 110=false:=by kernel_rfl
 rw[run_neq_struct,show (10000:Nat)=9999+1 from rfl,run_equalIn_agg w 9999 110 _ _ hS hp];simp only[Program.fieldsOf,underlying110];go_simp;by_cases h1:f=f' <;> by_cases h2:u=u' <;> simp[h1,h2]
theorem Cx(v v':Value)(l m:List Np.Span)(w:World)(h:SlR cV 2 w w.heap.size v l)(h':SlR cV 2 w w.heap.size v' m) :
 Calls prog 21 #[v,v'] w (λe w'=>e = .returned (.bool (decide (l=m)))/\Below w.heap.size w w'):=by
 have HL:=jq h;have HM:=jq h';obtain⟨A,c,rfl,bD,bL⟩:=al h;obtain⟨A',c',rfl,NO,BI⟩:=al h';clear h h';by_cases hlen:l.length=m.length
 ·have xF:=jq hlen;obtain⟨n,hn⟩:∃ n,m.length=n:=⟨_,rfl⟩;rw[hn] at NO BI hlen;have HN:=jq hn;rw[hlen] at bD bL;rw[hn,hlen];have uA:=jq hlen;clear hlen hn;go_enter func21,ntmps21;go_wp2_with fail;go_loopw [5] (λi wr=>∃ (k:Nat),k<=n/\i = .int .i64 k/\Hid (Below w.heap.size w wr)/\Hid (l.take k=m.take k)) (λi _=>n - (intOf i).toNat)
  case atStart=>exact⟨0,jQ _,rfl,jq (vQ _ _),jq rfl⟩
  case round=>
   obtain⟨k,hk,rfl,HB,HT⟩:=hrel;have ap:=HB.out.size;by_cases aa:k<n
   ·have Ot:=uA.out;have OB:=HN.out;obtain⟨x,hx⟩:∃ x,l[k]?=some x:=⟨_,aQ (by omega)⟩;obtain⟨y,hy⟩:∃ y,m[k]?=some y:=⟨_,aQ (by omega)⟩;have dz:=HL.out.keep dT HB.out;have CR:=HM.out.keep dT HB.out;rw[Ot] at dz;rw[OB] at CR;obtain⟨b,o,rfl⟩:=t8 (k:=k) dz (by omega);obtain⟨b',o',rfl⟩:=t8 (k:=k) CR (by omega);obtain⟨bC,hat⟩:=qr dz hx;obtain⟨yi,yf⟩:=qr CR hy;have h0:=hat.c0;have h1:=hat.c1;have h0':=yf.c0;have h1':=yf.c1;have gX:Hid (x=y->l.take (k+1)=m.take (k+1)):=jq (λe=>by
     obtain⟨q1,q2⟩:=cQ.1 hx;obtain⟨q3,q4⟩:=cQ.1 hy;rw[fQ q1,fQ q3,q2,q4,HT.out,e])
    have ld:Hid (x≠y->decide (l=m)=false):=jq (λe=>tQ (by rintro rfl;rw[hx] at hy;exact e (by simpa using hy)));have bX:(0:Int)<=(k:Int):=by omega
    have bW:(k:Int)<(n:Int):=by omega
    have heq:=aeZ x.frm x.til y.frm y.til;clear dz CR hat yf hx hy Ot OB;by_cases b7:x=y
    ·have HX:=jq (gX.out b7);have kj:decide ((⟨x.frm,x.til⟩:Np.Span)≠⟨y.frm,y.til⟩)=false:=by rw[b7];simp
     rw[kj] at heq;clear kj b7;go_wp2_with fail;go_quiet (fail);go_wp2_with fail;go_roundw
     case rel=>exact⟨k+1,by omega,by go_num,jq (below_drewN HB.out _),HX⟩
     case measure=>simp[intOf] <;> omega
    ·have HX:=jq (ld.out b7);have kj:decide ((⟨x.frm,x.til⟩:Np.Span)≠⟨y.frm,y.til⟩)=true:=uQ b7;rw[kj] at heq;clear kj b7;go_wp2_with fail;go_quiet (fail);go_wp2_with fail;go_ret;exact⟨ag HX.out.symm,below_drewN HB.out _⟩
   ·have HE:Hid (decide (l=m)=true):=jq (uQ (by
     have:=HT.out
     rwa [kQ (by have:=uA.out;omega),kQ (by have:=HN.out;omega)] at this))
    go_wp2_with fail;go_ret;exact⟨ag HE.out.symm,HB.out⟩
 ·have hne:(l.length:Int)≠(m.length:Int):=by omega
  have hd:decide ((l.length:Int)=(m.length:Int))=false:=tQ hne;have HE:Hid (decide (l=m)=false):=jq (tQ (by rintro rfl;exact hlen rfl));have hb:((l.length:Int) == (m.length:Int))=false:=by simpa using hne
  go_enter func21,ntmps21;go_wp2_with fail;go_ret;exact⟨ag HE.out.symm,vQ _ _⟩
end
section
open Go.RowKit
theorem kB.fresh(b:Nat)(r:Option Nat)(W:World)(T:TypeId)(ns:List Int)(hb:b<W.heap.size)(hr:∀ k,r=some k->k<W.heap.size):kB b r (W.alloc (.cells (ns.map (Value.int .i64)).toArray T)) (.slice (some ⟨W.heap.size,0,none⟩) ns.length ns.length) ns:=by
 refine⟨_,_,rfl,bQ _,λi x hx=>⟨W.heap.size,0,rfl,by simp,by omega,λe=>by have:=hr _ e;omega,?_⟩⟩;rw[World.cell?_alloc_new];simp[hx]
structure KeyS(s:Np.Signed):Prop where
 name:s.set.name.length<=1000
 type:0<=s.set.type/\s.set.type<=1000000000
 life:0<=s.set.life/\s.set.life<=1000000000
 few:s.set.data.length<=100
 data:∀ d∈s.set.data,d.text.length<=1000/\(0<=d.n/\d.n<=1000000000)/\0<=d.m/\d.m<=1000000000
 fewS:s.sigs.length<=100
 sigs:∀ g∈s.sigs,g.zone.length<=1000/\(0<=g.key/\g.key<=1000000000)/\(0<=g.alg/\g.alg<=1000000000)/\(0<=g.frm/\g.frm<=1000000000)/\(0<=g.til/\g.til<=1000000000)/\0<=g.sum/\g.sum<18446744073709551616
def gZ(f:List (List UInt8))(d:List Np.Datum):List UInt8:=Np.bZ (f++d.flatMap Np.pN)
def g8(f:List (List UInt8))(g:List Np.Sig):List UInt8:=Np.bZ (f++g.flatMap Np.sk)
theorem Md{f:List (List UInt8)}{d:List Np.Datum}{k:Nat}{x:Np.Datum}(hx:d[k]?=some x):gZ f (d.take (k+1))=gZ f (d.take k)++Np.bZ (x.text :: [x.n,x.m].map Np.aX):=by
 obtain⟨hl,he⟩:=cQ.1 hx;rw[fQ hl,he];unfold gZ;rw[List.flatMap_append,<-List.append_assoc,VR];rfl
theorem Me{f:List (List UInt8)}{d:List Np.Sig}{k:Nat}{x:Np.Sig}(hx:d[k]?=some x):g8 f (d.take (k+1))=g8 f (d.take k)++Np.bZ (x.zone :: [x.key,x.alg,x.frm,x.til].map Np.aX)++Np.bZ (Np.aX x.sum::([]:List Int).map Np.aX):=by
 obtain⟨hl,he⟩:=cQ.1 hx;rw[fQ hl,he];unfold g8;simp[Np.bZ,Np.sk]
theorem DG{s:List UInt8}{ns:List Int}(hs:s.length<=1000)(hn:ns.length<=4)(h:∀ n∈ns,n<=1000000000):(Np.bZ (s::ns.map Np.aX)).length<=1900:=by
 have:=QA ns s (λn hm=>by have:=h n hm;omega)
 rw[JP] at this;omega
theorem aCZ(s:ByteArray)(ty life:Int)(dv sv:Value)(d:List Np.Datum)(g:List Np.Sig)(w:World)(hP:fU w)(hK:KeyS ⟨⟨s.data.toList,ty,life,d⟩,g⟩)(hd:SlR bF 3 w w.heap.size dv d)(hg:SlR dm 6 w w.heap.size sv g) :
 Calls prog 139 #[.agg #[.string s,.int .i64 ty,.int .i64 life,dv,sv]] w λe w'=>e = .returned (aD (Np.dR ⟨⟨s.data.toList,ty,life,d⟩,g⟩))/\Below w.heap.size w w':=by
 have HK:=jq hK;have HD:=jq hd;have HG:=jq hg;have HP:=jq hP;have DX:=hP.lt;have oF:Hid (∀ f,f = [s.data.toList,Np.aX ty,Np.aX life,Np.aX d.length]->g8 (f++d.flatMap Np.pN) g=Np.dR ⟨⟨s.data.toList,ty,life,d⟩,g⟩):=jq (λf hf=>by subst hf;unfold g8 Np.dR Np.x8;rw[List.append_assoc]);have sI:Hid (Np.bZ (s.data.toList :: [ty,life,(d.length:Int)].map Np.aX)=gZ [s.data.toList,Np.aX ty,Np.aX life,Np.aX d.length] []):=jq (by simp[gZ]);have ap:s.size<=1000:=by have:=hK.name;rw[<-aZ];exact this
 have tm:d.length<=100:=hK.few;have Bx:g.length<=100:=hK.fewS;obtain⟨A1,c1,rfl,_,_⟩:=al hd;obtain⟨A2,c2,rfl,_,_⟩:=al hg;obtain⟨n1,bp⟩:∃ n,d.length=n:=⟨_,rfl⟩;obtain⟨n2,bJ⟩:∃ n,g.length=n:=⟨_,rfl⟩;rw[bp] at HD oF sI tm |-;rw[bJ] at HG Bx |-;have gW:=jq bp;have nA:=jq bJ;clear bp bJ hd hg hK hP;obtain⟨f0,kH⟩:∃ f0,[s.data.toList,Np.aX ty,Np.aX life,Np.aX n1]=f0:=⟨_,rfl⟩;have my:=jq (oF.out f0 kH.symm);rw[kH] at sI;clear kH oF;obtain⟨X,hX⟩:∃ X,w.heap.size=X:=⟨_,rfl⟩;obtain⟨Y,hY⟩:∃ Y,X+1=Y:=⟨_,rfl⟩;obtain⟨W0,cS⟩:∃ W0,w.alloc (.cells #[.string s,.int .i64 ty,.int .i64 life,.slice A1 n1 c1,.slice A2 n2 c2] 42)=W0:=⟨_,rfl⟩;have dZ:W0.heap.size=Y:=by rw[<-cS,<-hY,<-hX];simp
 obtain⟨W1,an⟩:∃ W1,W0.alloc (.cells #[.pointer none,.slice none 0 0] 198)=W1:=⟨_,rfl⟩;have cC:Below X w W0:=by rw[<-cS];exact (vQ _ _).alloc (Nat.le_of_eq hX.symm) _
 have aw:Below Y W0 W1:=by rw[<-an];exact (vQ _ _).alloc (Nat.le_of_eq dZ.symm) _
 have bh:W1.heap.size=Y+1:=by rw[<-an,<-dZ];simp
 have Sf:Hid (Bld 198 Y Y none [] W1):=jq (by rw[<-an,<-dZ];exact Bld.fresh _ _);have k0:W1.cell? ⟨X,0,none⟩=some (.string s):=(cl aw (by omega)).trans (by rw[<-cS,<-hX];simp[go_sem]);have k1:W1.cell? ⟨X,1,none⟩=some (.int .i64 ty):=(cl aw (by omega)).trans (by rw[<-cS,<-hX];simp[go_sem]);have k2:W1.cell? ⟨X,2,none⟩=some (.int .i64 life):=(cl aw (by omega)).trans (by rw[<-cS,<-hX];simp[go_sem]);have k3:W1.cell? ⟨X,3,none⟩=some (.slice A1 n1 c1):=(cl aw (by omega)).trans (by rw[<-cS,<-hX];simp[go_sem]);have k4:W1.cell? ⟨X,4,none⟩=some (.slice A2 n2 c2):=(cl aw (by omega)).trans (by rw[<-cS,<-hX];simp[go_sem]);obtain⟨W2,td⟩:∃ W2,W1.alloc (.cells #[.int .i64 ty,.int .i64 life,.int .i64 (n1:Int)] 3)=W2:=⟨_,rfl⟩;have ac:Below W1.heap.size W1 W2:=by rw[<-td];exact (vQ _ _).alloc (bQ _) _
 have C3:Hid (kB Y none W2 (.slice (some ⟨Y+1,0,none⟩) 3 3) [ty,life,(n1:Int)]):=jq (by rw[<-td,<-bh];exact kB.fresh Y none W1 _ [ty,life,(n1:Int)] (by omega) (λk h=>by cases h));have aU:Hid (Below Y W0 W2):=jq (aw.trans (ac.mono (by omega)));have aB:=jq cC;have oC:=jq ac;have Nt:X<W1.heap.size:=by omega
 have WQ:Y<W1.heap.size:=by omega
 clear cC aw ac;rw[hX] at HD HG DX |-;go_enter func139,ntmps139;go_wp2_with fail;have aM:Y+1<=W2.heap.size:=by have:=oC.out.size;omega
 have j3:=(cl oC.out (by omega)).trans k3;have j4:=(cl oC.out (by omega)).trans k4;have oH:Hid (fU W2):=jq (HP.out.keepAt (aB.out.trans (aU.out.mono (by omega))) (by omega));clear k0 k1 k2 k3 k4 cS an td hX Nt WQ;have oL:Hid (∀ n∈[ty,life,(n1:Int)],0<=n/\n<=1000000000):=jq (λn hn=>by
  have h1:=HK.out.type;have h2:=HK.out.life;dsimp only at h1 h2;simp only[List.mem_cons,Qh,or_false] at hn;rcases hn with rfl | rfl | rfl <;> omega)
 refine (EW Y Y none [] s _ _ W2 (Sf.out.keep oC.out) C3.out (λn hn=>by have:=oL.out n hn;omega) (by simp) (by omega) (by simp) (by omega) oH.out (by omega)).mono ?_;rintro e w3 ⟨rfl,r3,mR,cY⟩;rw[sI.out] at mR;have am:Below Y W2 w3:=cY.below (bQ _) (λk h=>by cases h) (by omega);have Tg:Hid (Bld 198 Y Y r3 (gZ f0 []) w3):=jq (by simpa using mR);have dP:=am.size;have i3:=(cl am (by omega)).trans j3;have i4:=(cl am (by omega)).trans j4;have az:Hid (Below X w w3):=jq (aB.out.trans ((aU.out.trans am).mono (by omega)));have sD:Hid ((gZ f0 []).length<=2000):=jq (by
  rw[<-sI.out]
  have:=DG (s:=s.data.toList) (ns:=[ty,life,(n1:Int)]) HK.out.name (by simp) (λn hn=>(oL.out n hn).2)
  omega)
 clear mR cY am j3 j4;go_wp2_with fail;go_loopw [30] (λi wr=>∃ (k:Nat) (r:Option Nat),k<=n1/\i = .int .i64 k/\Y+1<=wr.heap.size/\Hid (Bld 198 Y Y r (gZ f0 (d.take k)) wr)/\Hid (Below Y w3 wr)/\Hid ((gZ f0 (d.take k)).length<=2000 * (k+1))) (λi _=>n1 - (intOf i).toNat)
 case atStart=>exact⟨0,r3,jQ _,rfl,by omega,by simpa using Tg,jq (vQ _ _),by simpa using sD⟩
 case round=>
  obtain⟨k,r,hk,rfl,Nw,HL,bH,HA⟩:=hrel;have HB:=jq (az.out.trans (bH.out.mono (by omega)));have q3:=(cl bH.out (by omega)).trans i3;have q4:=(cl bH.out (by omega)).trans i4;by_cases aa:k<n1
  ·obtain⟨x,ab⟩:∃ x,d[k]?=some x:=⟨_,aQ (by rw[gW.out];exact aa)⟩;obtain⟨b,o,c',t,hA,bU,_,ht,wu,g0,g1,g2⟩:=DF (HD.out.keep cH HB.out) ab;simp only[Value.slice.injEq] at hA;obtain⟨rfl,-,rfl⟩:=hA;have HT:=jq (Md (f:=f0) ab);have HX:=jq (HK.out.data x (gQ ab));have pJ:=jq ht;have mZ:t.size<=1000:=by rw[<-aZ,ht];exact HX.out.1
   clear ab ht wu;have bX:(0:Int)<=(k:Int):=by omega
   have bW:(k:Int)<(n1:Int):=by omega
   obtain⟨w4,bA⟩:∃ w4,wr.alloc (.cells #[.string t,.int .i64 x.n,.int .i64 x.m] 128)=w4:=⟨_,rfl⟩;have eC:w4.heap.size=wr.heap.size+1:=by rw[<-bA];simp
   have ar:Below wr.heap.size wr w4:=by rw[<-bA];exact (vQ _ _).alloc (bQ _) _
   have p0:w4.cell? ⟨wr.heap.size,0,none⟩=some (.string t):=by rw[<-bA];simp[go_sem]
   have p1:w4.cell? ⟨wr.heap.size,1,none⟩=some (.int .i64 x.n):=by rw[<-bA];simp[go_sem]
   have p2:w4.cell? ⟨wr.heap.size,2,none⟩=some (.int .i64 x.m):=by rw[<-bA];simp[go_sem]
   obtain⟨w5,aP⟩:∃ w5,w4.alloc (.cells #[.int .i64 x.n,.int .i64 x.m] 3)=w5:=⟨_,rfl⟩;have aC:Below w4.heap.size w4 w5:=by rw[<-aP];exact (vQ _ _).alloc (bQ _) _
   have oX:Below wr.heap.size wr w5:=ar.trans (aC.mono (by omega));have GD:Hid (kB Y r w5 (.slice (some ⟨wr.heap.size+1,0,none⟩) 2 2) [x.n,x.m]):=jq (by rw[<-aP,<-eC];exact kB.fresh Y r w4 _ [x.n,x.m] (by omega) (λk h=>by have:=(HL.out.row.2.2 k h).2;omega));have sM:=jq (HL.out.keep oX);have mC:Hid (fU w5):=jq (HP.out.keepAt (HB.out.trans (oX.mono (by omega))) DX);have jB:=oX.size;have sF:=jq oX;clear ar aC oX;go_wp2_with fail;clear bA aP p0 p1 p2;refine (EW Y Y r _ t _ _ w5 sM.out GD.out (λn hn=>by
    have h1:=HX.out.2;simp only[List.mem_cons,Qh,or_false] at hn;rcases hn with rfl | rfl <;> omega) (by have:=HA.out;omega) (by omega) (by simp) (by omega) mC.out (by omega)).mono ?_
   rw[pJ.out,<-HT.out];rintro e w6 ⟨rfl,r6,BJ,yC⟩;have aO:Below Y w5 w6:=yC.below (bQ _) (λk h=>(sM.out.row.2.2 k h).1) (by omega);have H6:=jq (And.intro BJ (bH.out.trans ((sF.out.mono (by omega)).trans aO)));have gI:=aO.size;have jc:Hid ((gZ f0 (d.take (k+1))).length<=2000 * (k+1+1)):=jq (by
    rw[HT.out,List.length_append]
    have:=HA.out
    have:=DG (s:=x.text) (ns:=[x.n,x.m]) HX.out.1 (by simp) (λn hn=>by
     have h1:=HX.out.2;simp only[List.mem_cons,Qh,or_false] at hn;rcases hn with rfl | rfl <;> omega)
    omega)
   clear BJ yC aO;go_wp2_with fail;go_roundw
   case rel=>exact⟨k+1,r6,by omega,by go_num,by omega,jq H6.out.1,jq H6.out.2,jc⟩
   case measure=>simp[intOf] <;> omega
  ·have eK:Hid (d.take k=d):=jq (kQ (by rw[gW.out];omega));have FD:Hid ((gZ f0 d).length<=202000):=jq (by have:=HA.out;rw[eK.out] at this;omega);rw[eK.out] at HL;go_wp2_with fail;clear aa hk;obtain⟨wo,rfl⟩:∃ wo,wo=wr:=⟨_,rfl⟩;obtain⟨f1,nS⟩:∃ f1,f0++d.flatMap Np.pN=f1:=⟨_,rfl⟩;have sL:=jq my.out;rw[nS] at sL;have Tj:Hid (Bld 198 Y Y r (g8 f1 []) wo):=jq (by have:=HL.out;unfold gZ at this;rw[nS] at this;simpa [g8] using this);have HAS:Hid ((g8 f1 []).length<=202000):=jq (by have:=FD.out;unfold gZ at this;rw[nS] at this;simpa [g8] using this);clear nS;go_loopw [47] (λi wr=>∃ (k:Nat) (r:Option Nat),k<=n2/\i = .int .i64 k/\Y+1<=wr.heap.size/\Hid (Bld 198 Y Y r (g8 f1 (g.take k)) wr)/\Hid (Below Y wo wr)/\Hid ((g8 f1 (g.take k)).length<=202000+4000 * k)) (λi _=>n2 - (intOf i).toNat)
   case atStart=>exact⟨0,r,jQ _,rfl,by omega,by simpa using Tj,jq (vQ _ _),by simpa using HAS⟩
   case round=>
    obtain⟨k,r,hk,rfl,Nw,HL,je,HA⟩:=hrel;have HC:=jq (HB.out.trans (je.out.mono (by omega)));have s4:=(cl je.out (by omega)).trans q4;by_cases aa:k<n2
    ·obtain⟨x,ab⟩:∃ x,g[k]?=some x:=⟨_,aQ (by rw[nA.out];exact aa)⟩;obtain⟨b,o,c',t,hA,bU,ht,wu,g0,g1,g2,g3,g4,g5⟩:=om (HG.out.keep dH HC.out) ab;simp only[Value.slice.injEq] at hA;obtain⟨rfl,-,rfl⟩:=hA;have HT:=jq (Me (f:=f1) ab);have HX:=jq (HK.out.sigs x (gQ ab));have pJ:=jq ht;have mZ:t.size<=1000:=by rw[<-aZ,ht];exact HX.out.1
     clear ab ht wu;have bX:(0:Int)<=(k:Int):=by omega
     have bW:(k:Int)<(n2:Int):=by omega
     have LV:Hid (∀ n∈[x.key,x.alg,x.frm,x.til],0<=n/\n<=1000000000):=jq (λn hn=>by
      have h1:=HX.out.2;simp only[List.mem_cons,Qh,or_false] at hn;rcases hn with rfl | rfl | rfl | rfl <;> omega)
     obtain⟨w4,bA⟩:∃ w4,wr.alloc (.cells #[.string t,.int .i64 x.key,.int .i64 x.alg,.int .i64 x.frm,.int .i64 x.til,.int .u64 x.sum] 50)=w4:=⟨_,rfl⟩;have eC:w4.heap.size=wr.heap.size+1:=by rw[<-bA];simp
     have ar:Below wr.heap.size wr w4:=by rw[<-bA];exact (vQ _ _).alloc (bQ _) _
     have p0:w4.cell? ⟨wr.heap.size,0,none⟩=some (.string t):=by rw[<-bA];simp[go_sem]
     have p1:w4.cell? ⟨wr.heap.size,1,none⟩=some (.int .i64 x.key):=by rw[<-bA];simp[go_sem]
     have p2:w4.cell? ⟨wr.heap.size,2,none⟩=some (.int .i64 x.alg):=by rw[<-bA];simp[go_sem]
     have p3:w4.cell? ⟨wr.heap.size,3,none⟩=some (.int .i64 x.frm):=by rw[<-bA];simp[go_sem]
     have p4:w4.cell? ⟨wr.heap.size,4,none⟩=some (.int .i64 x.til):=by rw[<-bA];simp[go_sem]
     have p5:w4.cell? ⟨wr.heap.size,5,none⟩=some (.int .u64 x.sum):=by rw[<-bA];simp[go_sem]
     obtain⟨w5,aP⟩:∃ w5,w4.alloc (.cells #[.int .i64 x.key,.int .i64 x.alg,.int .i64 x.frm,.int .i64 x.til] 3)=w5:=⟨_,rfl⟩;have aC:Below w4.heap.size w4 w5:=by rw[<-aP];exact (vQ _ _).alloc (bQ _) _
     have oX:Below wr.heap.size wr w5:=ar.trans (aC.mono (by omega));have GD:Hid (kB Y r w5 (.slice (some ⟨wr.heap.size+1,0,none⟩) 4 4) [x.key,x.alg,x.frm,x.til]):=jq (by rw[<-aP,<-eC];exact kB.fresh Y r w4 _ [x.key,x.alg,x.frm,x.til] (by omega) (λk h=>by have:=(HL.out.row.2.2 k h).2;omega));have o5:=(cl aC (by omega)).trans p5;have li:Hid (∀ k,r=some k->k<wr.heap.size):=jq (λk h=>(HL.out.row.2.2 k h).2);have sM:=jq (HL.out.keep oX);have mC:Hid (fU w5):=jq (HP.out.keepAt (HC.out.trans (oX.mono (by omega))) DX);have jB:=oX.size;have a3Y:=aC.size;have sF:=jq oX;clear ar aC oX;go_wp2_with fail;clear bA aP p0 p1 p2 p3 p4 p5;refine (EW Y Y r _ t _ _ w5 sM.out GD.out (λn hn=>by have:=LV.out n hn;omega) (by have:=HA.out;omega) (by omega) (by simp) (by omega) mC.out (by omega)).mono ?_;rw[pJ.out];rintro e w6 ⟨rfl,r6,BJ,yC⟩;have aO:Below Y w5 w6:=yC.below (bQ _) (λk h=>(sM.out.row.2.2 k h).1) (by omega);have KW:Hid ((Np.bZ (x.zone :: [x.key,x.alg,x.frm,x.til].map Np.aX)).length<=1900):=jq (DG HX.out.1 (by simp) (λn hn=>(LV.out n hn).2));have t5:=(yC.cell (k:=wr.heap.size) (by omega) (by omega) (λe=>by have:=li.out _ e;omega) 5).trans o5;have Gr:=jq BJ;have Xa:=jq (je.out.trans ((sF.out.mono (by omega)).trans aO));have gI:=aO.size;have qV:Hid (fU w6):=jq (mC.out.keepAt aO (by omega));clear BJ yC aO o5;go_wp2_with fail;refine (Nb x.sum HX.out.2.2.2.2.2.1 HX.out.2.2.2.2.2.2 w6 qV.out).mono ?_;rintro e w7 ⟨rfl,eP⟩;have po:=eP.size;have C0:=jq (Gr.out.keep eP);have GL:=jq (qV.out.keep eP);have eI:=jq (Xa.out.trans (eP.mono (by omega)));have ji:Hid ((⟨(Np.aX x.sum).toArray⟩:ByteArray).size<=100):=jq (by rw[<-aZ];have:=vg HX.out.2.2.2.2.2.2;simp;omega);clear eP t5;go_wp2_with fail;refine (EW Y Y r6 _ ⟨(Np.aX x.sum).toArray⟩ _ [] w7 C0.out (kB.nil _ _ _) (λn hn=>by cases hn) (by have:=HA.out;have:=KW.out;rw[List.length_append];omega) (by have:=ji.out;omega) (by simp) (by omega) GL.out (by omega)).mono ?_;rintro e w8 ⟨rfl,r8,On,OR⟩;have gh:Below Y w7 w8:=OR.below (bQ _) (λk h=>(C0.out.row.2.2 k h).1) (by omega);have ww:=gh.size;have H8:Hid (Bld 198 Y Y r8 (g8 f1 (g.take (k+1))) w8/\Below Y wo w8):=jq ⟨by rw[HT.out];simpa using On,eI.out.trans gh⟩;have R6:Hid ((g8 f1 (g.take (k+1))).length<=202000+4000 * (k+1)):=jq (by
      rw[HT.out,List.length_append,List.length_append]
      have:=HA.out
      have:=KW.out
      have:=DG (s:=Np.aX x.sum) (ns:=[]) (by have:=vg HX.out.2.2.2.2.2.2;omega) (by simp) (λn hn=>by cases hn)
      omega)
     clear On OR gh;go_wp2_with fail;go_roundw
     case rel=>exact⟨k+1,r8,by omega,by go_num,by omega,jq H8.out.1,jq H8.out.2,R6⟩
     case measure=>simp[intOf] <;> omega
    ·have eK:Hid (g.take k=g):=jq (kQ (by rw[nA.out];omega));rw[eK.out] at HL;go_wp2_with fail;refine (Rm Y Y _ wr HL.out.read).mono ?_;rw[sL.out];rintro e w9 ⟨rfl,_,dK⟩;have gK:=jq (HC.out.trans (dK.mono (by omega)));clear dK;go_wp2_with fail;go_ret;exact⟨rfl,gK.out⟩
end
end Go.Proofs.YtfnopgdcaanaiaaGreatDoor
