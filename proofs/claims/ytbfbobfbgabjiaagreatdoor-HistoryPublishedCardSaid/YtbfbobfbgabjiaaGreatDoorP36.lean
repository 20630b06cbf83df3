/- Parts of the proof. No condition. -/
import Derived.Test.YtbfbobfbgabjiaaGreatDoorP25
import Derived.Test.YtbfbobfbgabjiaaGreatDoorP32
import Derived.Test.YtbfbobfbgabjiaaGreatDoorP33
set_option linter.all false
set_option maxRecDepth 100000
set_option maxHeartbeats 8000000
namespace Go.Proofs.YtbfbobfbgabjiaaGreatDoor
open Go.Proofs.Tryz
section
open Go.RowKit Go.MapKept Go.Shelf
theorem aMZ{k:Int}{l:List UInt8}(h:Np.xq k l=true):l.length<=60:=by
 unfold Np.xq at h;split at h
 ·simp only[Bool.and_eq_true] at h; exact (Np.yX h.1).1
 ·split at h
  ·exact (Np.yX h).1
  ·split at h
   ·unfold Np.kc at h;simp only[Bool.and_eq_true,Qa] at h;omega
   ·have:l = []:=by simpa using h
    rw[this]; simp
theorem aAK(k:Int):(Np.bX k).mostN<=1000000/\(Np.bX k).mostM<=1000000:=by
 unfold Np.bX;generalize k.toNat=n;by_cases h:n<9
 ·have:∀ m,m<9->(Np.rules.getD m ⟨0,0,0,0,0,false,false,false⟩).mostN<=1000000/\(Np.rules.getD m ⟨0,0,0,0,0,false,false,false⟩).mostM<=1000000:=by decide
  exact this n h
 ·have e:Np.rules[n]?=none:=List.getElem?_eq_none (by simp[Np.rules]; omega);rw[List.getD_eq_getElem?_getD,e];decide
theorem aRK{z:Np.Zone}(v:Np.VZone z){x:Np.Signed}(hx:x∈z.sets)(hs:Np.x7 x):KeyS x:=by
 obtain⟨ha,hv⟩:=Np.Lj v;obtain⟨h1,h2,h3,h4,h5,h6,h7,h8⟩:=Np.zq (hv x hx);have hf:=v.form x hx;refine⟨by have:=(Np.yX h1).1; omega,by omega,by omega,by omega,λd hd=>?_,by have:=hf.1; omega,λg hg=>?_⟩
 ·have hd':=Np.IH h8 d hd;have hd'':=hd';unfold Np.kj at hd'';simp only[Bool.and_eq_true,Qa] at hd'';obtain⟨⟨⟨⟨a1,a2⟩,a3,a4⟩,_⟩,a5⟩:=hd'';have b1:=Np.Rf x.set.type;have b2:=aAK x.set.type;have b3:=aMZ a5;exact⟨by omega,by omega,by omega⟩
 ·obtain⟨i,hi⟩:=List.mem_iff_getElem?.1 hg
  have:=hf.2 i g hi
  have DW:=(Np.yX ha).1;have k1:=this.key;have k2:=this.alg;have k3:=this.win;exact⟨by rw[this.zone]; omega,by omega,by omega,by omega,by omega,hs g hg⟩
theorem aBK{P:Program}(w:World)(t kt et:TypeId)(ht:P.underlying t=some (.map kt et))(hk:P.underlying kt=some .string)(r:Nat)(kvs:List (List UInt8×Value))(hr:dM r kvs w)(key:List UInt8)(z:Value)(hz:(zeroValue et).run P w = .ok z w) :
 (Instr.lookup t (.map (some r)) (aA key) true).run P w = .ok (.tuple #[(kvs.lookup key).getD z,.bool (kvs.lookup key).isSome]) w:=by
 obtain⟨es,c,hr,he⟩:=hr;have hf:=DP key es.toList kvs 0 he;have hc:∀ b,(Instr.checkKey b 10000 kt (aA key)).run P w = .ok () w:=λb=>MapKept.run_checkKey (k:=aA key) hk (by simp[MapKept.IsKey]) b 9999
 cases hl:kvs.lookup key with
 | none=>simp[Instr.lookup,run_underlying ht,MapKept.run_getObj_map hr,hc,MapKept.run_findKey hk (hf.2 hl),Result.andThen,hz]
 | some v=>
  obtain⟨j,hj⟩:=hf.1 v hl;simp[Instr.lookup,run_underlying ht,MapKept.run_getObj_map hr,hc,MapKept.run_findKey hk hj,Result.andThen]
theorem aBY{P:Program}(w:World)(t kt et:TypeId)(ht:P.underlying t=some (.map kt et))(hk:P.underlying kt=some .string)
 (r:Nat) (kvs:List (List UInt8×Value)) (hr:dM r kvs w) (key:List UInt8) (val:Value) (ig:kvs.lookup key=none) :
 ∃ w',(Instr.mapUpdate t (.map (some r)) (aA key) val).run P w = .ok () w'/\dM r (kvs ++ [(key,val)]) w'/\Turned r w w':=by
 obtain⟨es,c,hr,he⟩:=hr;have hf:=(DP key es.toList kvs 0 he).2 ig;have hc:(Instr.checkKey false 10000 kt (aA key)).run P w = .ok () w:=MapKept.run_checkKey (k:=aA key) hk (by simp[MapKept.IsKey]) false 9999;have dp:(Instr.mapUpdate t (.map (some r)) (aA key) val).run P w = .ok () { w with heap:=w.heap.setIfInBounds r (.map (es.push { key:=aA key,val:=val,born:=c }) (c+1)) }:=by
  simp[Instr.mapUpdate,run_underlying ht,MapKept.run_getObj_map hr,hc,MapKept.run_findKey hk hf,MapKept.run_setObj_map _ hr,Result.andThen]
 have hl:r<w.heap.size:=(eQ.1 hr).1;exact⟨_,dp,⟨_,_,by simp[hl]; exact⟨rfl,rfl⟩,by simp[he]⟩,⟨rfl,rfl,rfl,by simp,λi hi=>by simp[Ne.symm hi]⟩⟩
theorem dM.stays{r:Nat}{kvs:List (List UInt8×Value)}{w w':World}(h:dM r kvs w)(hb:w'.heap[r]?=w.heap[r]?):dM r kvs w':=by
 obtain⟨es,c,h,h2⟩:=h;exact⟨es,c,hb.trans h,h2⟩
abbrev PT:=Np.Signed×List Np.Span×Value
def qo(zn:ByteArray)(w:World)(B:Nat)(r:List Value)(x:PT):Prop:=∃ (s:ByteArray) (dv sv:Value) (A:Option Addr) (n c:Nat),r = [.string zn,.string s,.int .i64 x.1.set.type,.int .i64 x.1.set.life,dv,sv,x.2.2,.slice none 0 0]/\x.2.2 = .slice A n c/\s.data.toList=x.1.set.name/\s.size<=140737488355328/\
 SlR cr 3 w B dv x.1.set.data/\SlR fj 6 w B sv x.1.sigs
theorem Fu(zn:ByteArray):dw (qo zn):=λ_ _ _ _ _ ⟨s,dv,sv,A,n,c,h0,h1,h2,h3,h4,h5⟩ hb=>⟨s,dv,sv,A,n,c,h0,h1,h2,h3,h4.keep cB hb,h5.keep el hb⟩
theorem Fv(zn:ByteArray):dN (qo zn):=λ_ _ _ _ _ ⟨s,dv,sv,A,n,c,h0,h1,h2,h3,h4,h5⟩ hb=>⟨s,dv,sv,A,n,c,h0,h1,h2,h3,h4.more cZ hb,h5.more fx hb⟩
theorem Fw(zn:ByteArray):eH (qo zn):=λ_ _ _ _ _ _ hM ⟨s,dv,sv,A,n,c,h0,h1,h2,h3,h4,h5⟩=>⟨s,dv,sv,A,n,c,h0,h1,h2,h3,h4.sans xl hM,h5.sans zh hM⟩
theorem aAZ(zn:ByteArray):∀ (w:World) (B:Nat) (r:List Value) (y:PT),qo zn w B r y->∀ u∈r,u.oneCell'=true:=λw B r y ⟨s,dv,sv,A,n,c,h0,h1,_,_,h4,h5⟩ u hu=>by
 obtain⟨_,_,rfl,_⟩:=ah h4;obtain⟨_,_,rfl,_⟩:=ah h5;rw[h0,h1] at hu;simp only[List.mem_cons,Qh,or_false] at hu;rcases hu with rfl | rfl | rfl | rfl | rfl | rfl | rfl | rfl <;> rfl
abbrev yu:TypeId:=70
structure PubR(base:Nat)(M:Nat->Prop)(zn:ByteArray)(xs:List PT)(ov:Value)(w:World):Prop where
 row:bU (qo zn) 8 yu base M w ov xs
 fresh:∀ x∈xs,aK base w x.2.2 x.2.1
 apart:∀ (i j:Nat) (x y:PT) (g:Nat),xs[i]?=some x->xs[j]?=some y->x.2.2.ownBlock=some g->y.2.2.ownBlock=some g->i=j
 off:∀ x∈xs,∀ g,x.2.2.ownBlock=some g->ov.ownBlock≠some g/\M g
def tm(xs:List PT)(ov:Value)(k:Nat):Prop:=ov.ownBlock=some k\/∃ x∈xs,x.2.2.ownBlock=some k
theorem bU.inM{α:Type}{R:World->Nat->List Value->α->Prop}{sz:Nat}{e:TypeId}{base:Nat}{M:Nat->Prop}{w:World}{v:Value}{xs:List α}(h:bU R sz e base M w v xs):∀ g,v.ownBlock=some g->M g:=by
 obtain⟨rows,h1,h2,h3,h4⟩:=h;exact h3
section
variable {base:Nat} {M:Nat->Prop} {zn:ByteArray} {xs:List PT} {ov:Value} {w:World}
theorem PubR.lt(h:PubR base M zn xs ov w){k:Nat}(hk:tm xs ov k):base<=k/\k<w.heap.size/\M k:=by
 rcases hk with hk | ⟨x,hx,hk⟩
 ·have:=h.row.lt k hk; exact⟨this.1,this.2,h.row.inM k hk⟩
 ·have:=World.ownsRow.lt (h.fresh x hx) k hk; exact⟨this.1,this.2,(h.off x hx k hk).2⟩
theorem PubR.leaves(h:PubR base M zn xs ov w){M':Nat->Prop}{w':World}(hl:Leaves' M w w' M')(hk:∀ g,tm xs ov g->w'.heap[g]?=w.heap[g]?/\M' g):PubR base M' zn xs ov w':=
 ⟨h.row.leaves (Fu zn) (Fw zn) (Fv zn) hl (λg hg=>hk g (.inl hg)),λx hx=>fU (h.fresh x hx) (λg hg=>(hk g (.inr ⟨x,hx,hg⟩)).1),h.apart,λx hx g hg=>⟨(h.off x hx g hg).1,(hk g (.inr ⟨x,hx,hg⟩)).2⟩⟩
theorem PubR.keep(h:PubR base M zn xs ov w){w':World}(hb:Below w.heap.size w w'):PubR base M zn xs ov w':=
 h.leaves (Leaves'.of_below hb) (λg hg=>⟨hb.block g (h.lt hg).2.1,(h.lt hg).2.2⟩)
theorem PubR.trim(h:PubR base M zn xs ov w):PubR base (λk=>M k/\k<w.heap.size) zn xs ov w:=
 h.leaves ((Leaves'.refl M w).more (λ_ e=>.inl e.1)) (λ_ hg=>⟨rfl,(h.lt hg).2.2,(h.lt hg).2.1⟩)
theorem PubR.nil(base:Nat)(M:Nat->Prop)(zn:ByteArray)(w:World):PubR base M zn [] (.slice none 0 0) w:=
 ⟨bU.nil w,(λx hx=>by cases hx),(λi j x y g h=>by simp at h),(λx hx=>by cases hx)⟩
theorem PubR.pushed(h:PubR base M zn xs ov w){s:Np.Signed}{v':Value}{w':World}(ho:bU (qo zn) 8 yu base (λk=>M k\/v'.ownBlock=some k) w' v' (xs ++ [(s,[],.slice none 0 0)]))(hg:w.grownBy w' ov.ownBlock)(hat:v'.ownBlock=ov.ownBlock\/v'.ownBlock=some w.heap.size) :
 PubR base (λk=>M k\/v'.ownBlock=some k) zn (xs ++ [(s,[],.slice none 0 0)]) v' w':=by
 have get:∀ (k:Nat) (z:PT) (b:Nat),(xs ++ [((s,[],Value.slice none 0 0):PT)])[k]?=some z->z.2.2.ownBlock=some b->xs[k]?=some z:=λk z b hz kK=>by
  rw[List.getElem?_append] at hz;split at hz
  ·exact hz
  ·have:=gQ hz
   rw[List.mem_singleton] at this; subst this;simp[Value.ownBlock] at kK
 refine⟨ho,λx hx=>?_,λi j x y b hx hy ek iE=>h.apart i j x y b (get i x b hx ek) (get j y b hy iE) ek iE,λx hx g wv=>?_⟩
 ·rcases List.mem_append.1 hx with hx | hx
  ·exact fU (h.fresh x hx) (λg wv=>hg.block g (World.ownsRow.lt (h.fresh x hx) g wv).2 (λe=>(h.off x hx g wv).1 e.symm))
  ·rw[List.mem_singleton] at hx; subst hx;exact aK.nil _ _
 ·rcases List.mem_append.1 hx with hx | hx
  ·refine⟨λe=>?_,.inl (h.off x hx g wv).2⟩;rcases hat with e' | e'
   ·exact (h.off x hx g wv).1 (e' ▸ e)
   ·rw[e'] at e
    have:=(World.ownsRow.lt (h.fresh x hx) g wv).2
    have:=Option.some.inj e
    omega
  ·rw[List.mem_singleton] at hx; subst hx;simp[Value.ownBlock] at wv
theorem PubR.changed{g0 n cap:Nat}(h:PubR base M zn xs (.slice (some ⟨g0,0,none⟩) n cap) w)(hn:xs.length=n){i:Nat}{x:PT}(hi:xs[i]?=some x){v':Value}{ps':List Np.Span}{w':World}(ij:w'.os=w.os)(ZL:w'.tape=w.tape)(Ze:w'.output=w.output)(am:w.heap.size<=w'.heap.size)
 (Eo:∀ k,k<w.heap.size->x.2.2.ownBlock≠some k->w'.heap[k]?=w.heap[k]?) (ho:aK base w' v' ps') (hat:∀ k,v'.ownBlock=some k->x.2.2.ownBlock=some k\/w.heap.size<=k) :
 PubR base (λk=>M k\/v'.ownBlock=some k) zn (xs.set i (x.1,ps',v')) (.slice (some ⟨g0,0,none⟩) n cap) (w'.setCell ⟨g0,i * 8+6,none⟩ v'):=by
 have hx:=gQ hi;have dV:=(cQ.1 hi).1;have hg0:=h.row.lt g0 rfl;have wJ:Leaves' M w w' (λk=>M k\/v'.ownBlock=some k):=⟨ij,ZL,Ze,am,λk hk hm=>⟨λe=>by
  rcases e with e | e
  ·exact hm e
  ·rcases hat k e with e | e
   ·exact hm (h.off x hx k e).2
   ·omega,Eo k hk (λe=>hm (h.off x hx k e).2)⟩⟩
 have Zv:=h.row.leaves (Fu zn) (Fw zn) (Fv zn) wJ (λg hg=>⟨Eo g (h.row.lt g hg).2 (λe=>(h.off x hx g e).1 hg),.inl (h.row.inM g hg)⟩);have Zw:=bU.stored (Fu zn) (Fw zn) (Fv zn) (y:=(x.1,ps',v')) Zv hn hi (c:=6) (by omega) v' (λr hr hR=>by
  obtain⟨s,dv,sv,A,n,c,rfl,h1,h2,h3,h4,h5⟩:=hR;obtain⟨A',c',rfl⟩:=yZ ho;exact⟨s,dv,sv,A',_,c',rfl,rfl,h2,h3,h4,h5⟩)
 have PH:v'.ownBlock≠some g0:=λe=>by
  rcases hat g0 e with e | e
  ·exact (h.off x hx g0 e).1 rfl
  ·omega
 have ue:∀ k,k≠g0->(w'.setCell ⟨g0,i * 8+6,none⟩ v').heap[k]?=w'.heap[k]?:=λk hk=>wQ _ _ _ _ hk;refine⟨Zw,λy hy=>?_,λa b y z g hy hz cj gM=>?_,λy hy g cj=>?_⟩
 ·obtain⟨j,hj,rfl⟩:=nQ.1 hy;rw[List.length_set] at hj;rw[List.getElem_set];split
  ·exact fU ho (λg hg=>ue g (λe=>PH (e ▸ hg)))
  ·rename_i hne;have hj':=List.getElem_mem hj;refine fU (h.fresh _ hj') (λg hg=>(ue g (λe=>(h.off _ hj' g hg).1 (by rw[e]; rfl))).trans (Eo g (World.ownsRow.lt (h.fresh _ hj') g hg).2 (λe=>hne (h.apart i j _ _ g hi (aQ hj) e hg))))
 ·have get:∀ (k:Nat) (z:PT),(xs.set i (x.1,ps',v'))[k]?=some z->(k=i/\z.2.2=v')\/(k≠i/\xs[k]?=some z):=λk z hz=>by
   rw[List.getElem?_set] at hz;split at hz
   ·rename_i e; subst e
    first | rw[Qb dV] at hz | skip
    cases hz
    exact .inl ⟨rfl,rfl⟩
   ·rename_i e;exact .inr ⟨λe'=>e e'.symm,hz⟩
  rcases get a y hy with ⟨rfl,ey⟩ | ⟨na,hy'⟩
  ·rcases get b z hz with ⟨rfl,_⟩ | ⟨nb,hz'⟩
   ·rfl
   ·rw[ey] at cj;rcases hat g cj with e | e
    ·exact h.apart a b _ _ g hi hz' e gM
    ·have:=(World.ownsRow.lt (h.fresh z (gQ hz')) g gM).2
     omega
  ·rcases get b z hz with ⟨rfl,ez⟩ | ⟨nb,hz'⟩
   ·rw[ez] at gM;rcases hat g gM with e | e
    ·exact h.apart a b _ _ g hy' hi cj e
    ·have:=(World.ownsRow.lt (h.fresh y (gQ hy')) g cj).2
     omega
   ·exact h.apart a b _ _ g hy' hz' cj gM
 ·obtain⟨j,hj,rfl⟩:=nQ.1 hy;rw[List.length_set] at hj;rw[List.getElem_set] at cj;split at cj
  ·exact⟨λe=>PH (by rw[cj]; exact e.symm ▸ rfl),.inr cj⟩
  ·exact⟨(h.off _ (List.getElem_mem hj) g cj).1,.inl (h.off _ (List.getElem_mem hj) g cj).2⟩
theorem PubR.slr(h:PubR base M zn xs ov w)(hz:zn.size<=140737488355328)(hl:xs.length<=140737488355328)(wt:∀ x∈xs,x.2.1.length<=140737488355328){Mq:Nat->Prop}(hM:∀ k,Mq k->M k/\¬ tm xs ov k):SlR oh 8 (bj w Mq) w.heap.size ov (xs.map λx=>⟨zn.data.toList,x.1,x.2.1,[]⟩):=by
 obtain⟨rows,h1,h2,h3,h4⟩:=h.row;have h5:bl oh 8 yu base w.heap.size (bj w Mq) ov (xs.map λx=>(⟨zn.data.toList,x.1,x.2.1,[]⟩:Np.Held)):=by
  refine⟨rows,by simp[h1],?_,λi r y hr hy=>?_⟩
  ·rw[List.length_map];exact fU h2 (λg hg=>lF (λhm=>(hM g hm).2 (.inl hg)))
  ·rw[List.getElem?_map] at hy;obtain⟨x,hx,rfl⟩:=Option.map_eq_some_iff.1 hy;obtain⟨h6,s,dv,sv,A,n,c,rfl,e1,e2,e3,e4,e5⟩:=h4 i r x hr hx;have yO:=gQ hx;have h7:aK base (bj w Mq) x.2.2 x.2.1:=fU (h.fresh x yO) (λg hg=>lF (λhm=>(hM g hm).2 (.inr ⟨x,yO,hg⟩)));have h8:=h7.slr (wt x yO);rw[gU] at h8;exact⟨h6,zn,s,dv,sv,x.2.2,.slice none 0 0,rfl,rfl,hz,e2,e3,e4.sans xl (λk hk=>(hM k hk).1),e5.sans zh (λk hk=>(hM k hk).1),h8,⟨none,0,rfl,by simp,by simp,λi x hx=>by simp at hx⟩⟩
 have h6:=h5.slr kg (by rw[gU]; exact bQ _) (by rw[List.length_map]; exact hl);rwa [gU] at h6
end
structure PubK(S:Nat->Prop)(w2:World)(base:Nat)(zn:ByteArray)(M:Nat->Prop)(xs:List PT)(ov:Value)(w:World):Prop where
 rows:PubR base M zn xs ov w
 lt:∀ k,M k->k<w.heap.size
 ex:∀ k,k<w2.heap.size->¬ S k->M k
 own:∀ k,tm xs ov k->S k\/w2.heap.size<=k
 rd:RdStep S w2 w
section
variable {S:Nat->Prop} {w2:World} {base:Nat} {M:Nat->Prop} {zn:ByteArray} {xs:List PT} {ov:Value} {w:World}
theorem PubK.start(h:PubR base M zn xs ov w)(hex:∀ k,¬ S k->M k)(hown:∀ k,tm xs ov k->S k):PubK S w base zn (λk=>M k/\k<w.heap.size) xs ov w:=
 ⟨h.trim,λ_ e=>e.2,λk hk hs=>⟨hex k hs,hk⟩,λk e=>.inl (hown k e),RdStep.refl _ _⟩
theorem PubK.keep(h:PubK S w2 base zn M xs ov w){w':World}(hb:Below w.heap.size w w'):PubK S w2 base zn M xs ov w':=
 ⟨h.rows.keep hb,λk e=>lQ (h.lt k e) hb.size,h.ex,h.own,h.rd.then_below hb⟩
theorem PubK.touch(h:PubK S w2 base zn M xs ov w){b:Nat}(hM:M b)(hS:S b\/w2.heap.size<=b)(hn:¬ tm xs ov b){w':World}(ht:Turned b w w'):PubK S w2 base zn M xs ov w':=
 ⟨h.rows.leaves ⟨ht.os,ht.tape,ht.output,Nat.le_of_eq ht.size.symm,λk hk hm=>⟨hm,ht.block k (λe=>hm (e ▸ hM))⟩⟩ (λg hg=>⟨ht.block g (λe=>hn (e ▸ hg)),(h.rows.lt hg).2.2⟩),λk e=>by rw[ht.size]; exact h.lt k e,h.ex,h.own,
  ⟨ht.os.trans h.rd.os,ht.tape.trans h.rd.tape,ht.output.trans h.rd.output,by rw[ht.size]; exact h.rd.size,λk hk hs=>(ht.block k (λe=>by
   subst e;rcases hS with hS | hS
   ·exact hs hS
   ·omega)).trans (h.rd.keep k hk hs)⟩⟩
theorem PubK.push(h:PubK S w2 base zn M xs ov w){s:Np.Signed}{v':Value}{w':World}(ho:bU (qo zn) 8 yu base (λk=>M k\/v'.ownBlock=some k) w' v' (xs ++ [(s,[],.slice none 0 0)]))(hg:w.grownBy w' ov.ownBlock)(hat:v'.ownBlock=ov.ownBlock\/v'.ownBlock=some w.heap.size) :
 PubK S w2 base zn (λk=>M k\/v'.ownBlock=some k) (xs ++ [(s,[],.slice none 0 0)]) v' w':=by
 refine⟨h.rows.pushed ho hg hat,λk e=>?_,λk hk hs=>.inl (h.ex k hk hs),λk e=>?_,h.rd.grown hg (λk e=>h.own k (.inl e))⟩
 ·rcases e with e | e
  ·exact lQ (h.lt k e) hg.size
  ·exact (ho.lt k e).2
 ·rcases e with e | ⟨x,hx,e⟩
  ·rcases hat with e' | e'
   ·exact h.own k (.inl (e' ▸ e))
   ·rw[e'] at e
    have:=Option.some.inj e
    have:=h.rd.size
    exact .inr (by omega)
  ·rcases List.mem_append.1 hx with hx | hx
   ·exact h.own k (.inr ⟨x,hx,e⟩)
   ·rw[List.mem_singleton] at hx; subst hx;simp[Value.ownBlock] at e
theorem PubK.changed{g0 n cap:Nat}(h:PubK S w2 base zn M xs (.slice (some ⟨g0,0,none⟩) n cap) w)(hn:xs.length=n){i:Nat}{x:PT}(hi:xs[i]?=some x){v':Value}{ps':List Np.Span}{w':World}(hg:w.grownBy w' x.2.2.ownBlock)(ho:aK base w' v' ps')(hat:v'.ownBlock=x.2.2.ownBlock\/v'.ownBlock=some w.heap.size) :
 PubK S w2 base zn (λk=>M k\/v'.ownBlock=some k) (xs.set i (x.1,ps',v')) (.slice (some ⟨g0,0,none⟩) n cap) (w'.setCell ⟨g0,i * 8+6,none⟩ v'):=by
 have hx:=gQ hi;have yn:∀ k,v'.ownBlock=some k->x.2.2.ownBlock=some k\/w.heap.size<=k:=λk e=>by
  rcases hat with e' | e'
  ·exact .inl (e' ▸ e)
  ·rw[e'] at e; exact .inr (Nat.le_of_eq (Option.some.inj e))
 have hr:=h.rows.changed hn hi hg.os hg.tape hg.output hg.size (λk hk hne=>hg.block k hk (λe=>hne e.symm)) ho yn;have hz:(w'.setCell ⟨g0,i * 8+6,none⟩ v').heap.size=w'.heap.size:=by simp[World.setCell]
 refine⟨hr,λk e=>?_,λk hk hs=>.inl (h.ex k hk hs),λk e=>?_,(h.rd.grown hg (λk e=>h.own k (.inr ⟨x,hx,e⟩))).setCell (h.own g0 (.inl rfl)) _⟩
 ·rw[hz];rcases e with e | e
  ·exact lQ (h.lt k e) hg.size
  ·exact (World.ownsRow.lt ho k e).2
 ·rcases e with e | ⟨y,hy,e⟩
  ·exact h.own k (.inl e)
  ·rcases List.mem_or_eq_of_mem_set hy with hy | rfl
   ·exact h.own k (.inr ⟨y,hy,e⟩)
   ·rcases yn k e with e | e
    ·exact h.own k (.inr ⟨x,hx,e⟩)
    ·have:=h.rd.size
     exact .inr (by omega)
theorem PubK.stop(h:PubK S w2 base zn M xs ov w):PubR base (λk=>M k\/¬ (S k\/(w2.heap.size<=k/\k<w.heap.size))) zn xs ov w/\(∀ k,tm xs ov k->S k\/(w2.heap.size<=k/\k<w.heap.size)):=by
 refine⟨h.rows.leaves ⟨rfl,rfl,rfl,bQ _,λk hk hm=>⟨λe=>?_,rfl⟩⟩ (λg hg=>⟨rfl,.inl (h.rows.lt hg).2.2⟩),λk e=>(h.own k e).imp id (λe2=>⟨e2,(h.rows.lt e).2.1⟩)⟩;rcases e with e | e
 ·exact hm e
 ·by_cases hs:S k
  ·exact e (.inl hs)
  ·by_cases kA:k<w2.heap.size
   ·exact hm (h.ex k kA hs)
   ·exact e (.inr ⟨by omega,hk⟩)
end
theorem R4(w:World){o:Oper}{a:Act}{K:Act->World->Prop}{Q:Exit->Act->World->Prop}(s x:Operand)(ho:o.op = .call { callee:=.builtin .append,args:=#[s,x],argTypes:=#[46,46] })
 (base:Nat) (v:Value) (ps:List Np.Span) (hs:a.eval s=v) (hown:aK base w v ps) (blk:Nat) (f u:Int) (hx:a.eval x = .slice (some ⟨blk,0,none⟩) 1 1) (hc:w.cell? ⟨blk,0,none⟩=some (.int .i64 f)) (aV:w.cell? ⟨blk,1,none⟩=some (.int .i64 u)) (hlen:ps.length<=100000) (ej:base<=w.heap.size)
 (h:∀ v' w',aK base w' v' (ps ++ [⟨f,u⟩])->w.grownBy w' v.ownBlock->(v'.ownBlock=v.ownBlock\/v'.ownBlock=some w.heap.size)->K (a.put o.dst v') w'):o.wp prog a w K Q:=by
 obtain⟨i0,hi,fS,bL,aM⟩:=info_parts Tryz.infoSpan;obtain⟨v',w',dp,r1,r2,_,r4⟩:=run_append_own_at (P:=prog) w base 46 o.type 114 i0 (.agg #[.int .i64 0,.int .i64 0]) 2 16 underlying46 hi fS bL aM rfl (by decide) v ps.length (ps.map fM).flatten hown ⟨blk,0,none⟩ 1 1 [.int .i64 f,.int .i64 u] rfl (by
  intro j y hj
  match j,hj with
  | 0,hj=>simp at hj; subst hj; simpa [Addr.add] using hc
  | 1,hj=>simp at hj; subst hj; simpa [Addr.add] using aV) (by simp[Value.oneCell']) (by unfold maxLen; omega) (by omega) ej
 unfold Oper.wp execOp;simp only[ho,resolve,invoke,builtin,Sem.run_bind,Sem.run_pure,Result.andThen_ok,List.map_toArray,List.map_cons,List.map_nil,hs,hx,dp];refine h v' w' ?_ r2 r4;have e:(List.map fM (ps ++ [(⟨f,u⟩:Np.Span)])).flatten=(ps.map fM).flatten ++ [.int .i64 f,.int .i64 u]:=by simp[fM]
 unfold aK;rw[List.length_append,List.length_singleton,e];exact r1
theorem aiY{us:List PT}{ps:List (Np.Span×Np.Signed)}(h:us.map (λx=>(x.1,x.2.1))=Np.ew ps){i:Nat}{s:Np.Signed}(hs:(Np.cx (ps.map (·.2)))[i]?=some s):∃ v,us[i]?=some (s,Np.fX ps s,v):=by
 have h1:(us.map (λx=>(x.1,x.2.1)))[i]?=(Np.ew ps)[i]?:=by rw[h]
 unfold Np.ew at h1;rw[List.getElem?_map,List.getElem?_map,hs,Option.map_some] at h1;obtain⟨⟨a,b,v⟩,hx,he⟩:=Option.map_eq_some_iff.1 h1;simp only[Prod.mk.injEq] at he;obtain⟨rfl,rfl⟩:=he;exact⟨v,hx⟩
theorem E9{us:List PT}{ps:List (Np.Span×Np.Signed)}(h:us.map (λx=>(x.1,x.2.1))=Np.ew ps):us.map (·.1)=Np.cx (ps.map (·.2)):=by
 rw[<-Np.aiQ,<-h,List.map_map];rfl
theorem Qv{us:List PT}{ps:List (Np.Span×Np.Signed)}(h:us.map (λx=>(x.1,x.2.1))=Np.ew ps):us.length<=ps.length:=by
 have h1:=Qd List.length h;rw[List.length_map,Np.aiJ] at h1;have h2:=Np.zp (ps.map (·.2));rw[List.length_map] at h2;omega
theorem ajZ{us:List PT}{ps:List (Np.Span×Np.Signed)}(h:us.map (λx=>(x.1,x.2.1))=Np.ew ps){i:Nat}{s:Np.Signed}(hs:(Np.cx (ps.map (·.2)))[i]?=some s)(sp:Np.Span)(v':Value):(us.set i (s,Np.fX ps s ++ [sp],v')).map (λx=>(x.1,x.2.1))=Np.ew (ps ++ [(sp,s)]):=by
 rw[List.map_set,h,Np.aiX (p:=(sp,s)) hs]
theorem ajQ{us:List PT}{ps:List (Np.Span×Np.Signed)}(h:us.map (λx=>(x.1,x.2.1))=Np.ew ps){s:Np.Signed}(hs:s∉Np.cx (ps.map (·.2)))(sp:Np.Span)(v0 v':Value):((us ++ [((s,[],v0):PT)]).set us.length (s,[] ++ [sp],v')).map (λx=>(x.1,x.2.1))=Np.ew (ps ++ [(sp,s)]):=by
 rw[List.set_append_right _ _ (bQ _),Nat.sub_self,List.set_cons_zero,List.map_append,h,Np.aiK (p:=(sp,s)) hs];rfl
theorem Rn{us:List PT}{i:Nat}{x y:PT}(h:us[i]?=some x)(hy:y.1=x.1):(us.set i y).map (·.1)=us.map (·.1):=by
 rw[List.map_set];apply List.ext_getElem?;intro j;rw[List.getElem?_set];split
 ·rename_i e; subst e;have hl:=(cQ.1 h).1
  first | rw[List.length_map,Qb hl,List.getElem?_map,h,Option.map_some,hy] | (rw[List.getElem?_map,h,Option.map_some,hy])
 ·rfl
theorem Jn{base:Nat}{M:Nat->Prop}{zn:ByteArray}{w:World}{g n cap:Nat}{xs:List PT}(h:bU (qo zn) 8 yu base M w (.slice (some ⟨g,0,none⟩) n cap) xs){k:Nat}{x:PT}(hx:xs[k]?=some x):w.cell? ⟨g,k * 8+6,none⟩=some x.2.2:=by
 obtain⟨rows,h1,h2,h3,h4⟩:=h;have hl:=bl.rows_len (w:=bj w M) (B:=w.heap.size) h1 h4;have hk:=(cQ.1 hx).1;have hr:=aQ (show k<rows.length by omega);obtain⟨r,hr'⟩:∃ r,rows[k]?=some r:=⟨_,hr⟩;obtain⟨h5,s,dv,sv,A,n',c,he,_⟩:=h4 k r x hr' hx;have h6:rows.flatten[k * 8+6]?=some x.2.2:=by
  have h7:=IE rows k 6 x.2.2 r hl (by omega) hr';have h8:r.set 6 x.2.2=r:=by rw[he]; rfl
  rw[h8] at h7;have h9:rows.set k r=rows:=by
   apply List.ext_getElem?;intro i;rw[List.getElem?_set];split
   ·rename_i e; subst e;rw[Qb (by omega),hr']
   ·rfl
  rw[h9] at h7;rw[<-h7,List.getElem?_set,Qb rfl,Qb];rw[h2.1];omega
 have h7:=h2.cells (g:=g) rfl _ _ h6;simpa [Addr.add] using h7
def qT(l:List (Np.Signed×List Np.Span))(i:Nat):List (Np.Signed×List Np.Span):=(l.take i).map (λx=>(x.1,Np.eL x.2))++l.drop i
theorem alX(l:List (Np.Signed×List Np.Span)):qT l 0=l:=by simp[qT]
theorem alJ{l:List (Np.Signed×List Np.Span)}{i:Nat}(h:l.length=i):qT l i=l.map λx=>(x.1,Np.eL x.2):=by
 unfold qT;rw[kQ (by omega),List.drop_of_length_le (by omega),List.append_nil]
theorem QC{us:List PT}{l:List (Np.Signed×List Np.Span)}{i:Nat}(h:us.map (λx=>(x.1,x.2.1))=qT l i)(hi:i<l.length):∃ x,us[i]?=some x/\l[i]?=some (x.1,x.2.1):=by
 have h1:(us.map (λx=>(x.1,x.2.1)))[i]?=l[i]?:=by
  rw[h];unfold qT;rw[oQ (by simp only[List.length_map,List.length_take]; omega),List.length_map,List.length_take,List.getElem?_drop];congr 1;omega
 rw[List.getElem?_map,aQ hi] at h1;obtain⟨x,hx,he⟩:=Option.map_eq_some_iff.1 h1;exact⟨x,hx,by rw[aQ hi,he]⟩
theorem alK{us:List PT}{l:List (Np.Signed×List Np.Span)}{i:Nat}(h:us.map (λx=>(x.1,x.2.1))=qT l i)(hi:i<l.length){x:PT}(hx:us[i]?=some x)(v':Value):(us.set i (x.1,Np.eL x.2.1,v')).map (λx=>(x.1,x.2.1))=qT l (i+1):=by
 obtain⟨y,hy,hl⟩:=QC h hi;rw[hx] at hy
 cases hy
 rw[List.map_set,h];obtain⟨hi',he⟩:=cQ.1 hl;unfold qT;rw[List.set_append_right _ _ (by simp only[List.length_map,List.length_take]; omega),List.length_map,List.length_take,show i - min i l.length=0 by omega,sQ hi',List.set_cons_zero,fQ hi',List.map_append,List.map_singleton,he,List.append_assoc];rfl
section
variable {S:Nat->Prop} {w2:World} {base:Nat} {M:Nat->Prop} {zn:ByteArray} {xs:List PT} {w:World}
theorem PubK.normed{g0 n cap:Nat}(h:PubK S w2 base zn M xs (.slice (some ⟨g0,0,none⟩) n cap) w)(hn:xs.length=n){i:Nat}{x:PT}(hi:xs[i]?=some x){v':Value}{ps':List Np.Span}{w':World}(hb:Below w.heap.size w w')(ho:aK w.heap.size w' v' ps')(ic:base<=w.heap.size) :
 PubK S w2 base zn (λk=>M k\/v'.ownBlock=some k) (xs.set i (x.1,ps',v')) (.slice (some ⟨g0,0,none⟩) n cap) (w'.setCell ⟨g0,i * 8+6,none⟩ v'):=by
 have hx:=gQ hi;have hr:=h.rows.changed hn hi hb.os hb.tape hb.output hb.size (λk hk _=>hb.block k hk) (ho.weak ic) (λk e=>.inr (ho.lt k e).1);have hz:(w'.setCell ⟨g0,i * 8+6,none⟩ v').heap.size=w'.heap.size:=by simp[World.setCell]
 have h2:=h.rd.size;refine⟨hr,λk e=>?_,λk hk hs=>.inl (h.ex k hk hs),λk e=>?_,(h.rd.then_below hb).setCell (h.own g0 (.inl rfl)) _⟩
 ·rw[hz];rcases e with e | e
  ·exact lQ (h.lt k e) hb.size
  ·exact (ho.lt k e).2
 ·rcases e with e | ⟨y,hy,e⟩
  ·exact h.own k (.inl e)
  ·rcases List.mem_or_eq_of_mem_set hy with hy | rfl
   ·exact h.own k (.inr ⟨y,hy,e⟩)
   ·have:=(ho.lt k e).1
    exact .inr (by omega)
theorem PubK.calm{ov:Value}(h:PubK S w2 base zn M xs ov w){T:Nat->Prop}(hT:∀ k,T k->k<w2.heap.size/\¬ S k){w':World}(hl:w'.os=w.os/\w'.tape=w.tape/\w'.output=w.output)(hz:w'.heap.size=w.heap.size)(hk:∀ k,¬ T k->w'.heap[k]?=w.heap[k]?):PubR base M zn xs ov w':=
 h.rows.leaves ⟨hl.1,hl.2.1,hl.2.2,Nat.le_of_eq hz.symm,λk _ hm=>⟨hm,hk k (λe=>hm (h.ex k (hT k e).1 (hT k e).2))⟩⟩ (λg hg=>⟨hk g (λe=>by
  have h1:=hT g e;rcases h.own g hg with h2 | h2
  ·exact h1.2 h2
  ·omega),(h.rows.lt hg).2.2⟩)
end
theorem Np.arY{h:Np.Hist}{zone:List UInt8}{s:Np.Signed}{p:Np.Span}(hp:p∈Np.fX (Np.dt h.copies zone) s)(hv:Np.VHist h):Np.Dw p:=by
 unfold Np.fX at hp;obtain⟨q,hq,rfl⟩:=List.mem_map.1 hp;have hq:=(List.mem_filter.1 hq).1;obtain⟨c,hc,_,_,he⟩:=Np.xb.1 hq;have h1:=(hv.each c hc).times;have h2:=hv.stop;rw[he];exact⟨h1.1,h1.2.1,by show c.til<=20000000; omega⟩
theorem Np.KZ(ps:List (Np.Span×Np.Signed))(s:Np.Signed):(Np.fX ps s).length<=ps.length:=by
 unfold Np.fX;rw[List.length_map];exact List.length_filter_le _ _
theorem Np.Qw{ps:List (Np.Span×Np.Signed)}{i:Nat}{s:Np.Signed}{l:List Np.Span}(h:(Np.ew ps)[i]?=some (s,l)):l=Np.fX ps s:=by
 unfold Np.ew at h;rw[List.getElem?_map] at h;obtain⟨x,_,he⟩:=Option.map_eq_some_iff.1 h
 cases he
 rfl
end
section
open Go.RowKit
structure Np.Use(h:Np.Hist):Prop where
 copies:h.copies.length<=21
 hosts:h.hosts.length<=70
 hints:h.hints.length<=20
 data:h.anchor.data.length<=20
 each:∀ c∈h.copies,Np.oU c.zone.sets
theorem Np.mT.use{h:Np.Hist}(k:Np.mT h):Np.Use h:=
 ⟨by have:=k.1.1; omega,k.1.2.1,k.1.2.2.1,k.1.2.2.2,λc hc=>(k.2.1 c hc).1⟩
theorem Np.Use.withC{h:Np.Hist}(k:Np.Use h){l:List Np.Copy}(hl:l.length<=21)(hz:∀ d∈l,∃ c∈h.copies,d.zone=c.zone):Np.Use (Np.withC h l):=
 ⟨hl,k.hosts,k.hints,k.data,λd hd=>by
  obtain⟨c,hc,e⟩:=hz d hd;rw[e];exact k.each c hc⟩
theorem Np.lj.withC{h:Np.Hist}(k:Np.lj h){l:List Np.Copy}(hz:∀ d∈l,∃ c∈h.copies,d.zone=c.zone):Np.lj (Np.withC h l):=λd hd s hs=>by
 obtain⟨c,hc,e⟩:=hz d hd;rw[e] at hs;exact k c hc s hs
theorem Np.Use.fewH{h:Np.Hist}(k:Np.Use h):Np.sR h:=
 ⟨by have:=k.copies; omega,λc hc=>by have:=(k.each c hc).1; omega⟩
theorem Np.Use.big{h:Np.Hist}(k:Np.Use h):h.hosts.length<=100000/\h.hints.length<=100000/\h.anchor.data.length<=100000:=by
 have h1:=k.hosts;have h2:=k.hints;have h3:=k.data;omega
theorem Np.Use.sets{h:Np.Hist}(k:Np.Use h):∀ c∈h.copies,∀ x∈c.zone.sets,x.set.data.length<=100000/\x.sigs.length<=100000:=λc hc x hx=>by
 have:=(k.each c hc).2 x hx
 omega
theorem Np.anY{l:List Np.Copy}{n:Nat}(h:∀ c∈l,c.zone.sets.length<=n)(zone:List UInt8):(Np.dt l zone).length<=l.length * n:=by
 induction l with
 | nil=>simp[Np.dt,Np.nj]
 | cons c l ih=>
  have h1:=ih (λd hd=>h d (mQ _ hd));have h2:=h c (by simp);have e:=Np.Cw [c] l zone;rw[List.singleton_append] at e;rw[e,List.length_append,List.length_cons,Nat.add_mul,Nat.one_mul];have h3:(Np.dt [c] zone).length<=n:=by
   unfold Np.dt Np.nj;rw[List.filter_cons,List.filter_nil];split
   ·simp[Np.oN]; exact h2
   ·simp
  omega
theorem Np.Use.pairs{h:Np.Hist}(k:Np.Use h)(zone:List UInt8):(Np.dt h.copies zone).length<=5000:=by
 have h1:=Np.anY (λc hc=>(k.each c hc).1) zone;have h2:=Nat.mul_le_mul_right 100 k.copies;omega
theorem Np.Use.cut{h:Np.Hist}(k:Np.mT h)(j:Nat)(a:Int):Np.Use (Np.withC h (Np.cU h.copies j a)):=
 k.use.withC (by have h1:=Np.Nv h.copies j a; have h2:=k.1.1; omega) (λd hd=>by
  obtain⟨c,hc,_,h2,_⟩:=Np.DK hd;exact⟨c,hc,h2⟩)
theorem Np.lj.cut{h:Np.Hist}(k:Np.lj h)(j:Nat)(a:Int):Np.lj (Np.withC h (Np.cU h.copies j a)):=
 k.withC (λd hd=>by
  obtain⟨c,hc,_,h2,_⟩:=Np.DK hd;exact⟨c,hc,h2⟩)
theorem Np.Use.rev{h:Np.Hist}(k:Np.mT h):Np.Use (Np.withC h h.copies.reverse):=
 k.use.withC (by rw[List.length_reverse]; have h2:=k.1.1; omega) (λd hd=>⟨d,List.mem_reverse.1 hd,rfl⟩)
theorem Np.lj.rev{h:Np.Hist}(k:Np.lj h):Np.lj (Np.withC h h.copies.reverse):=
 k.withC (λd hd=>⟨d,List.mem_reverse.1 hd,rfl⟩)
end
end Go.Proofs.YtbfbobfbgabjiaaGreatDoor
