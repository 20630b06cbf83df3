/- Parts of the proof. No condition. -/
import Derived.Deep.RegionHeld3
import Derived.Test.YtfnopgdcaanaiaaGreatDoorT22
import Derived.Test.YtfnopgdcaanaiaaGreatDoorT23
set_option linter.all false
set_option maxRecDepth 100000
set_option maxHeartbeats 8000000
namespace Go.Proofs.YtfnopgdcaanaiaaGreatDoor
open Go.Proofs.Tryz
section
open Go.RowKit Go.MapKept Go.Shelf
theorem Me{k:Int}{l:List UInt8}(h:Np.tM k l=true):l.length<=60:=by
 unfold Np.tM at h;split at h
 ·simp only[Bool.and_eq_true] at h;exact (Np.tt h.1).1
 ·split at h
  ·exact (Np.tt h).1
  ·split at h
   ·unfold Np.ir at h;simp only[Bool.and_eq_true,Qa] at h;omega
   ·have:l = []:=by simpa using h
    rw[this];simp
theorem WQ(k:Int):(Np.bN k).mostN<=1000000/\(Np.bN k).mostM<=1000000:=by
 unfold Np.bN;generalize k.toNat=n;by_cases h:n<9
 ·have:∀ m,m<9->(Np.rules.getD m ⟨0,0,0,0,0,false,false,false⟩).mostN<=1000000/\(Np.rules.getD m ⟨0,0,0,0,0,false,false,false⟩).mostM<=1000000:=by decide
  exact this n h
 ·have e:Np.rules[n]?=none:=List.getElem?_eq_none (by simp[Np.rules];omega);rw[List.getD_eq_getElem?_getD,e];decide
theorem YQ{z:Np.Zone}(v:Np.VZone z){x:Np.Signed}(hx:x∈z.sets)(hs:Np.C0 x):KeyS x:=by
 obtain⟨ha,hv⟩:=Np.rG v;obtain⟨h1,h2,h3,h4,h5,h6,h7,h8⟩:=Np.tN (hv x hx);have hf:=v.form x hx;refine⟨by have:=(Np.tt h1).1;omega,by omega,by omega,by omega,λd hd=>?_,by have:=hf.1;omega,λg hg=>?_⟩
 ·have hd':=Np.Dp h8 d hd;have hd'':=hd';unfold Np.jt at hd'';simp only[Bool.and_eq_true,Qa] at hd'';obtain⟨⟨⟨⟨a1,a2⟩,a3,a4⟩,_⟩,a5⟩:=hd'';have b1:=Np.Lt x.set.type;have b2:=WQ x.set.type;have b3:=Me a5;exact⟨by omega,by omega,by omega⟩
 ·obtain⟨i,hi⟩:=List.mem_iff_getElem?.1 hg
  have:=hf.2 i g hi
  have Rz:=(Np.tt ha).1;have k1:=this.key;have k2:=this.alg;have k3:=this.win;exact⟨by rw[this.zone];omega,by omega,by omega,by omega,by omega,hs g hg⟩
theorem WW{P:Program}(w:World)(t kt et:TypeId)(ht:P.underlying t=some (.map kt et))(hk:P.underlying kt=some .string)(r:Nat)(kvs:List (List UInt8×Value))(hr:bR r kvs w)(key:List UInt8)(z:Value)(hz:(zeroValue et).run P w = .ok z w) :
 (Instr.lookup t (.map (some r)) (aM key) true).run P w = .ok (.tuple #[(kvs.lookup key).getD z,.bool (kvs.lookup key).isSome]) w:=by
 obtain⟨es,c,hr,he⟩:=hr;have hf:=zk key es.toList kvs 0 he;have hc:∀ b,(Instr.checkKey b 10000 kt (aM key)).run P w = .ok () w:=λb=>MapKept.run_checkKey (k:=aM key) hk (by simp[MapKept.IsKey]) b 9999
 cases hl:kvs.lookup key with
 | none=>simp[Instr.lookup,run_underlying ht,MapKept.run_getObj_map hr,hc,MapKept.run_findKey hk (hf.2 hl),Result.andThen,hz]
 | some v=>
  obtain⟨j,hj⟩:=hf.1 v hl;simp[Instr.lookup,run_underlying ht,MapKept.run_getObj_map hr,hc,MapKept.run_findKey hk hj,Result.andThen]
theorem WY{P:Program}(w:World)(t kt et:TypeId)(ht:P.underlying t=some (.map kt et))(hk:P.underlying kt=some .string)
 (r:Nat) (kvs:List (List UInt8×Value)) (hr:bR r kvs w) (key:List UInt8) (val:Value) (gG:kvs.lookup key=none) :
 ∃ w',(Instr.mapUpdate t (.map (some r)) (aM key) val).run P w = .ok () w'/\bR r (kvs ++ [(key,val)]) w'/\Turned r w w':=by
 obtain⟨es,c,hr,he⟩:=hr;have hf:=(zk key es.toList kvs 0 he).2 gG;have hc:(Instr.checkKey false 10000 kt (aM key)).run P w = .ok () w:=MapKept.run_checkKey (k:=aM key) hk (by simp[MapKept.IsKey]) false 9999;have bj:(Instr.mapUpdate t (.map (some r)) (aM key) val).run P w = .ok () { w with heap:=w.heap.setIfInBounds r (.map (es.push { key:=aM key,val:=val,born:=c }) (c+1)) }:=by
  simp[Instr.mapUpdate,run_underlying ht,MapKept.run_getObj_map hr,hc,MapKept.run_findKey hk hf,MapKept.run_setObj_map _ hr,Result.andThen]
 have hl:r<w.heap.size:=(eQ.1 hr).1;exact⟨_,bj,⟨_,_,by simp[hl];exact⟨rfl,rfl⟩,by simp[he]⟩,⟨rfl,rfl,rfl,by simp,λi hi=>by simp[Ne.symm hi]⟩⟩
theorem bR.stays{r:Nat}{kvs:List (List UInt8×Value)}{w w':World}(h:bR r kvs w)(hb:w'.heap[r]?=w.heap[r]?):bR r kvs w':=by
 obtain⟨es,c,h,h2⟩:=h;exact⟨es,c,hb.trans h,h2⟩
abbrev PT:=Np.Signed×List Np.Span×Value
def ml(zn:ByteArray)(w:World)(B:Nat)(r:List Value)(x:PT):Prop:=∃ (s:ByteArray) (dv sv:Value) (A:Option Addr) (n c:Nat),r = [.string zn,.string s,.int .i64 x.1.set.type,.int .i64 x.1.set.life,dv,sv,x.2.2,.slice none 0 0]/\x.2.2 = .slice A n c/\s.data.toList=x.1.set.name/\s.size<=140737488355328/\
 SlR bI 3 w B dv x.1.set.data/\SlR cr 6 w B sv x.1.sigs
theorem Bn(zn:ByteArray):cj (ml zn):=λ_ _ _ _ _ ⟨s,dv,sv,A,n,c,h0,h1,h2,h3,h4,h5⟩ hb=>⟨s,dv,sv,A,n,c,h0,h1,h2,h3,h4.keep bq hb,h5.keep cC hb⟩
theorem Bo(zn:ByteArray):cB (ml zn):=λ_ _ _ _ _ ⟨s,dv,sv,A,n,c,h0,h1,h2,h3,h4,h5⟩ hb=>⟨s,dv,sv,A,n,c,h0,h1,h2,h3,h4.more bD hb,h5.more cZ hb⟩
theorem Bp(zn:ByteArray):ef (ml zn):=λ_ _ _ _ _ _ hM ⟨s,dv,sv,A,n,c,h0,h1,h2,h3,h4,h5⟩=>⟨s,dv,sv,A,n,c,h0,h1,h2,h3,h4.sans gO hM,h5.sans jO hM⟩
theorem WM(zn:ByteArray):∀ (w:World) (B:Nat) (r:List Value) (y:PT),ml zn w B r y->∀ u∈r,u.oneCell'=true:=λw B r y ⟨s,dv,sv,A,n,c,h0,h1,_,_,h4,h5⟩ u hu=>by
 obtain⟨_,_,rfl,_⟩:=ar h4;obtain⟨_,_,rfl,_⟩:=ar h5;rw[h0,h1] at hu;simp only[List.mem_cons,Qh,or_false] at hu;rcases hu with rfl | rfl | rfl | rfl | rfl | rfl | rfl | rfl <;> rfl
abbrev sF:TypeId:=57
structure PubR(base:Nat)(M:Nat->Prop)(zn:ByteArray)(xs:List PT)(ov:Value)(w:World):Prop where
 row:bh (ml zn) 8 sF base M w ov xs
 fresh:∀ x∈xs,av base w x.2.2 x.2.1
 apart:∀ (i j:Nat) (x y:PT) (g:Nat),xs[i]?=some x->xs[j]?=some y->x.2.2.ownBlock=some g->y.2.2.ownBlock=some g->i=j
 off:∀ x∈xs,∀ g,x.2.2.ownBlock=some g->ov.ownBlock≠some g/\M g
def oR(xs:List PT)(ov:Value)(k:Nat):Prop:=ov.ownBlock=some k\/∃ x∈xs,x.2.2.ownBlock=some k
theorem bh.inM{α:Type}{R:agJ α}{sz:Nat}{e:TypeId}{base:Nat}{M:Nat->Prop}{w:World}{v:Value}{xs:List α}(h:bh R sz e base M w v xs):∀ g,v.ownBlock=some g->M g:=by
 obtain⟨rows,h1,h2,h3,h4⟩:=h;exact h3
section
variable {base:Nat} {M:Nat->Prop} {zn:ByteArray} {xs:List PT} {ov:Value} {w:World}
theorem PubR.lt(h:PubR base M zn xs ov w){k:Nat}(hk:oR xs ov k):base<=k/\k<w.heap.size/\M k:=by
 rcases hk with hk | ⟨x,hx,hk⟩
 ·have:=h.row.lt k hk;exact⟨this.1,this.2,h.row.inM k hk⟩
 ·have:=World.ownsRow.lt (h.fresh x hx) k hk;exact⟨this.1,this.2,(h.off x hx k hk).2⟩
theorem PubR.leaves(h:PubR base M zn xs ov w){M':Nat->Prop}{w':World}(hl:Leaves' M w w' M')(hk:∀ g,oR xs ov g->w'.heap[g]?=w.heap[g]?/\M' g):PubR base M' zn xs ov w':=
 ⟨h.row.leaves (Bn zn) (Bp zn) (Bo zn) hl (λg hg=>hk g (.inl hg)),λx hx=>bY (h.fresh x hx) (λg hg=>(hk g (.inr ⟨x,hx,hg⟩)).1),h.apart,λx hx g hg=>⟨(h.off x hx g hg).1,(hk g (.inr ⟨x,hx,hg⟩)).2⟩⟩
theorem PubR.keep(h:PubR base M zn xs ov w){w':World}(hb:Below w.heap.size w w'):PubR base M zn xs ov w':=
 h.leaves (Leaves'.of_below hb) (λg hg=>⟨hb.block g (h.lt hg).2.1,(h.lt hg).2.2⟩)
theorem PubR.trim(h:PubR base M zn xs ov w):PubR base (λk=>M k/\k<w.heap.size) zn xs ov w:=
 h.leaves ((Leaves'.refl M w).more (λ_ e=>.inl e.1)) (λ_ hg=>⟨rfl,(h.lt hg).2.2,(h.lt hg).2.1⟩)
theorem PubR.nil(base:Nat)(M:Nat->Prop)(zn:ByteArray)(w:World):PubR base M zn [] (.slice none 0 0) w:=
 ⟨bh.nil w,(λx hx=>by cases hx),(λi j x y g h=>by simp at h),(λx hx=>by cases hx)⟩
theorem PubR.pushed(h:PubR base M zn xs ov w){s:Np.Signed}{v':Value}{w':World}(ho:bh (ml zn) 8 sF base (λk=>M k\/v'.ownBlock=some k) w' v' (xs ++ [(s,[],.slice none 0 0)]))(hg:w.grownBy w' ov.ownBlock)(hat:v'.ownBlock=ov.ownBlock\/v'.ownBlock=some w.heap.size) :
 PubR base (λk=>M k\/v'.ownBlock=some k) zn (xs ++ [(s,[],.slice none 0 0)]) v' w':=by
 have get:∀ (k:Nat) (z:PT) (b:Nat),(xs ++ [((s,[],Value.slice none 0 0):PT)])[k]?=some z->z.2.2.ownBlock=some b->xs[k]?=some z:=λk z b hz lW=>by
  rw[List.getElem?_append] at hz;split at hz
  ·exact hz
  ·have:=gQ hz
   rw[List.mem_singleton] at this;subst this;simp[Value.ownBlock] at lW
 refine⟨ho,λx hx=>?_,λi j x y b hx hy dX dY=>h.apart i j x y b (get i x b hx dX) (get j y b hy dY) dX dY,λx hx g eF=>?_⟩
 ·rcases List.mem_append.1 hx with hx | hx
  ·exact bY (h.fresh x hx) (λg eF=>hg.block g (World.ownsRow.lt (h.fresh x hx) g eF).2 (λe=>(h.off x hx g eF).1 e.symm))
  ·rw[List.mem_singleton] at hx;subst hx;exact av.nil _ _
 ·rcases List.mem_append.1 hx with hx | hx
  ·refine⟨λe=>?_,.inl (h.off x hx g eF).2⟩;rcases hat with e' | e'
   ·exact (h.off x hx g eF).1 (e' ▸ e)
   ·rw[e'] at e
    have:=(World.ownsRow.lt (h.fresh x hx) g eF).2
    have:=Option.some.inj e
    omega
  ·rw[List.mem_singleton] at hx;subst hx;simp[Value.ownBlock] at eF
theorem PubR.changed{g0 n cap:Nat}(h:PubR base M zn xs (.slice (some ⟨g0,0,none⟩) n cap) w)(hn:xs.length=n){i:Nat}{x:PT}(hi:xs[i]?=some x){v':Value}{ps':List Np.Span}{w':World}(pC:w'.os=w.os)(TF:w'.tape=w.tape)(Tm:w'.output=w.output)(ag:w.heap.size<=w'.heap.size)
 (z8:∀ k,k<w.heap.size->x.2.2.ownBlock≠some k->w'.heap[k]?=w.heap[k]?) (ho:av base w' v' ps') (hat:∀ k,v'.ownBlock=some k->x.2.2.ownBlock=some k\/w.heap.size<=k) :
 PubR base (λk=>M k\/v'.ownBlock=some k) zn (xs.set i (x.1,ps',v')) (.slice (some ⟨g0,0,none⟩) n cap) (w'.setCell ⟨g0,i * 8+6,none⟩ v'):=by
 have hx:=gQ hi;have eG:=(cQ.1 hi).1;have kK:=h.row.lt g0 rfl;have qU:Leaves' M w w' (λk=>M k\/v'.ownBlock=some k):=⟨pC,TF,Tm,ag,λk hk hm=>⟨λe=>by
  rcases e with e | e
  ·exact hm e
  ·rcases hat k e with e | e
   ·exact hm (h.off x hx k e).2
   ·omega,z8 k hk (λe=>hm (h.off x hx k e).2)⟩⟩
 have Tt:=h.row.leaves (Bn zn) (Bp zn) (Bo zn) qU (λg hg=>⟨z8 g (h.row.lt g hg).2 (λe=>(h.off x hx g e).1 hg),.inl (h.row.inM g hg)⟩);have Et:=bh.stored (Bn zn) (Bp zn) (Bo zn) (y:=(x.1,ps',v')) Tt hn hi (c:=6) (by omega) v' (λr hr hR=>by
  obtain⟨s,dv,sv,A,n,c,rfl,h1,h2,h3,h4,h5⟩:=hR;obtain⟨A',c',rfl⟩:=jr ho;exact⟨s,dv,sv,A',_,c',rfl,rfl,h2,h3,h4,h5⟩)
 have Kf:v'.ownBlock≠some g0:=λe=>by
  rcases hat g0 e with e | e
  ·exact (h.off x hx g0 e).1 rfl
  ·omega
 have qZ:∀ k,k≠g0->(w'.setCell ⟨g0,i * 8+6,none⟩ v').heap[k]?=w'.heap[k]?:=λk hk=>wQ _ _ _ _ hk;refine⟨Et,λy hy=>?_,λa b y z g hy hz eR vC=>?_,λy hy g eR=>?_⟩
 ·obtain⟨j,hj,rfl⟩:=nQ.1 hy;rw[List.length_set] at hj;rw[List.getElem_set];split
  ·exact bY ho (λg hg=>qZ g (λe=>Kf (e ▸ hg)))
  ·rename_i hne;have hj':=List.getElem_mem hj;refine bY (h.fresh _ hj') (λg hg=>(qZ g (λe=>(h.off _ hj' g hg).1 (by rw[e];rfl))).trans (z8 g (World.ownsRow.lt (h.fresh _ hj') g hg).2 (λe=>hne (h.apart i j _ _ g hi (aQ hj) e hg))))
 ·have get:∀ (k:Nat) (z:PT),(xs.set i (x.1,ps',v'))[k]?=some z->(k=i/\z.2.2=v')\/(k≠i/\xs[k]?=some z):=λk z hz=>by
   rw[List.getElem?_set] at hz;split at hz
   ·rename_i e;subst e
    first | rw[Qb eG] at hz | skip
    cases hz
    exact .inl ⟨rfl,rfl⟩
   ·rename_i e;exact .inr ⟨λe'=>e e'.symm,hz⟩
  rcases get a y hy with ⟨rfl,ey⟩ | ⟨na,hy'⟩
  ·rcases get b z hz with ⟨rfl,_⟩ | ⟨nb,hz'⟩
   ·rfl
   ·rw[ey] at eR;rcases hat g eR with e | e
    ·exact h.apart a b _ _ g hi hz' e vC
    ·have:=(World.ownsRow.lt (h.fresh z (gQ hz')) g vC).2
     omega
  ·rcases get b z hz with ⟨rfl,ez⟩ | ⟨nb,hz'⟩
   ·rw[ez] at vC;rcases hat g vC with e | e
    ·exact h.apart a b _ _ g hy' hi eR e
    ·have:=(World.ownsRow.lt (h.fresh y (gQ hy')) g eR).2
     omega
   ·exact h.apart a b _ _ g hy' hz' eR vC
 ·obtain⟨j,hj,rfl⟩:=nQ.1 hy;rw[List.length_set] at hj;rw[List.getElem_set] at eR;split at eR
  ·exact⟨λe=>Kf (by rw[eR];exact e.symm ▸ rfl),.inr eR⟩
  ·exact⟨(h.off _ (List.getElem_mem hj) g eR).1,.inl (h.off _ (List.getElem_mem hj) g eR).2⟩
theorem PubR.slr(h:PubR base M zn xs ov w)(hz:zn.size<=140737488355328)(hl:xs.length<=140737488355328)(sG:∀ x∈xs,x.2.1.length<=140737488355328){Mq:Nat->Prop}(hM:∀ k,Mq k->M k/\¬ oR xs ov k):SlR fU 8 (aR w Mq) w.heap.size ov (xs.map λx=>⟨zn.data.toList,x.1,x.2.1,[]⟩):=by
 obtain⟨rows,h1,h2,h3,h4⟩:=h.row;have h5:aO fU 8 sF base w.heap.size (aR w Mq) ov (xs.map λx=>(⟨zn.data.toList,x.1,x.2.1,[]⟩:Np.Held)):=by
  refine⟨rows,by simp[h1],?_,λi r y hr hy=>?_⟩
  ·rw[List.length_map];exact bY h2 (λg hg=>iU (λhm=>(hM g hm).2 (.inl hg)))
  ·rw[List.getElem?_map] at hy;obtain⟨x,hx,rfl⟩:=Option.map_eq_some_iff.1 hy;obtain⟨h6,s,dv,sv,A,n,c,rfl,e1,e2,e3,e4,e5⟩:=h4 i r x hr hx;have EI:=gQ hx;have h7:av base (aR w Mq) x.2.2 x.2.1:=bY (h.fresh x EI) (λg hg=>iU (λhm=>(hM g hm).2 (.inr ⟨x,EI,hg⟩)));have h8:=h7.slr (sG x EI);rw[eW] at h8;exact⟨h6,zn,s,dv,sv,x.2.2,.slice none 0 0,rfl,rfl,hz,e2,e3,e4.sans gO (λk hk=>(hM k hk).1),e5.sans jO (λk hk=>(hM k hk).1),h8,⟨none,0,rfl,by simp,by simp,λi x hx=>by simp at hx⟩⟩
 have h6:=h5.slr mW (by rw[eW];exact bQ _) (by rw[List.length_map];exact hl);rwa [eW] at h6
end
structure PubK(S:Nat->Prop)(w2:World)(base:Nat)(zn:ByteArray)(M:Nat->Prop)(xs:List PT)(ov:Value)(w:World):Prop where
 rows:PubR base M zn xs ov w
 lt:∀ k,M k->k<w.heap.size
 ex:∀ k,k<w2.heap.size->¬ S k->M k
 own:∀ k,oR xs ov k->S k\/w2.heap.size<=k
 rd:RdStep S w2 w
section
variable {S:Nat->Prop} {w2:World} {base:Nat} {M:Nat->Prop} {zn:ByteArray} {xs:List PT} {ov:Value} {w:World}
theorem PubK.start(h:PubR base M zn xs ov w)(hex:∀ k,¬ S k->M k)(hown:∀ k,oR xs ov k->S k):PubK S w base zn (λk=>M k/\k<w.heap.size) xs ov w:=
 ⟨h.trim,λ_ e=>e.2,λk hk hs=>⟨hex k hs,hk⟩,λk e=>.inl (hown k e),RdStep.refl _ _⟩
theorem PubK.keep(h:PubK S w2 base zn M xs ov w){w':World}(hb:Below w.heap.size w w'):PubK S w2 base zn M xs ov w':=
 ⟨h.rows.keep hb,λk e=>lQ (h.lt k e) hb.size,h.ex,h.own,h.rd.then_below hb⟩
theorem PubK.touch(h:PubK S w2 base zn M xs ov w){b:Nat}(hM:M b)(hS:S b\/w2.heap.size<=b)(hn:¬ oR xs ov b){w':World}(ht:Turned b w w'):PubK S w2 base zn M xs ov w':=
 ⟨h.rows.leaves ⟨ht.os,ht.tape,ht.output,Nat.le_of_eq ht.size.symm,λk hk hm=>⟨hm,ht.block k (λe=>hm (e ▸ hM))⟩⟩ (λg hg=>⟨ht.block g (λe=>hn (e ▸ hg)),(h.rows.lt hg).2.2⟩),λk e=>by rw[ht.size];exact h.lt k e,h.ex,h.own,
  ⟨ht.os.trans h.rd.os,ht.tape.trans h.rd.tape,ht.output.trans h.rd.output,by rw[ht.size];exact h.rd.size,λk hk hs=>(ht.block k (λe=>by
   subst e;rcases hS with hS | hS
   ·exact hs hS
   ·omega)).trans (h.rd.keep k hk hs)⟩⟩
theorem PubK.push(h:PubK S w2 base zn M xs ov w){s:Np.Signed}{v':Value}{w':World}(ho:bh (ml zn) 8 sF base (λk=>M k\/v'.ownBlock=some k) w' v' (xs ++ [(s,[],.slice none 0 0)]))(hg:w.grownBy w' ov.ownBlock)(hat:v'.ownBlock=ov.ownBlock\/v'.ownBlock=some w.heap.size) :
 PubK S w2 base zn (λk=>M k\/v'.ownBlock=some k) (xs ++ [(s,[],.slice none 0 0)]) v' w':=by
 refine⟨h.rows.pushed ho hg hat,λk e=>?_,λk hk hs=>.inl (h.ex k hk hs),λk e=>?_,h.rd.grown hg (λk e=>h.own k (.inl e))⟩
 ·rcases e with e | e
  ·exact lQ (h.lt k e) hg.size
  ·exact (ho.lt k e).2
 ·rcases e with e | ⟨x,hx,e⟩
  ·rcases hat with e' | e'
   ·exact h.own k (.inl (e' ▸ e))
   ·rw[e'] at e
    have:=Option.some.inj e
    have:=h.rd.size
    exact .inr (by omega)
  ·rcases List.mem_append.1 hx with hx | hx
   ·exact h.own k (.inr ⟨x,hx,e⟩)
   ·rw[List.mem_singleton] at hx;subst hx;simp[Value.ownBlock] at e
theorem PubK.changed{g0 n cap:Nat}(h:PubK S w2 base zn M xs (.slice (some ⟨g0,0,none⟩) n cap) w)(hn:xs.length=n){i:Nat}{x:PT}(hi:xs[i]?=some x){v':Value}{ps':List Np.Span}{w':World}(hg:w.grownBy w' x.2.2.ownBlock)(ho:av base w' v' ps')(hat:v'.ownBlock=x.2.2.ownBlock\/v'.ownBlock=some w.heap.size) :
 PubK S w2 base zn (λk=>M k\/v'.ownBlock=some k) (xs.set i (x.1,ps',v')) (.slice (some ⟨g0,0,none⟩) n cap) (w'.setCell ⟨g0,i * 8+6,none⟩ v'):=by
 have hx:=gQ hi;have sw:∀ k,v'.ownBlock=some k->x.2.2.ownBlock=some k\/w.heap.size<=k:=λk e=>by
  rcases hat with e' | e'
  ·exact .inl (e' ▸ e)
  ·rw[e'] at e;exact .inr (Nat.le_of_eq (Option.some.inj e))
 have hr:=h.rows.changed hn hi hg.os hg.tape hg.output hg.size (λk hk hne=>hg.block k hk (λe=>hne e.symm)) ho sw;have hz:(w'.setCell ⟨g0,i * 8+6,none⟩ v').heap.size=w'.heap.size:=by simp[World.setCell]
 refine⟨hr,λk e=>?_,λk hk hs=>.inl (h.ex k hk hs),λk e=>?_,(h.rd.grown hg (λk e=>h.own k (.inr ⟨x,hx,e⟩))).setCell (h.own g0 (.inl rfl)) _⟩
 ·rw[hz];rcases e with e | e
  ·exact lQ (h.lt k e) hg.size
  ·exact (World.ownsRow.lt ho k e).2
 ·rcases e with e | ⟨y,hy,e⟩
  ·exact h.own k (.inl e)
  ·rcases List.mem_or_eq_of_mem_set hy with hy | rfl
   ·exact h.own k (.inr ⟨y,hy,e⟩)
   ·rcases sw k e with e | e
    ·exact h.own k (.inr ⟨x,hx,e⟩)
    ·have:=h.rd.size
     exact .inr (by omega)
theorem PubK.stop(h:PubK S w2 base zn M xs ov w):PubR base (λk=>M k\/¬ (S k\/(w2.heap.size<=k/\k<w.heap.size))) zn xs ov w/\(∀ k,oR xs ov k->S k\/(w2.heap.size<=k/\k<w.heap.size)):=by
 refine⟨h.rows.leaves ⟨rfl,rfl,rfl,bQ _,λk hk hm=>⟨λe=>?_,rfl⟩⟩ (λg hg=>⟨rfl,.inl (h.rows.lt hg).2.2⟩),λk e=>(h.own k e).imp id (λe2=>⟨e2,(h.rows.lt e).2.1⟩)⟩;rcases e with e | e
 ·exact hm e
 ·by_cases hs:S k
  ·exact e (.inl hs)
  ·by_cases fi:k<w2.heap.size
   ·exact hm (h.ex k fi hs)
   ·exact e (.inr ⟨by omega,hk⟩)
end
theorem Ml(w:World){o:Oper}{a:Act}{K:Act->World->Prop}{Q:Exit->Act->World->Prop}(s x:Operand)(ho:o.op = .call { callee:=.builtin .append,args:=#[s,x],argTypes:=#[55,55] })
 (base:Nat) (v:Value) (ps:List Np.Span) (hs:a.eval s=v) (hown:av base w v ps) (blk:Nat) (f u:Int) (hx:a.eval x = .slice (some ⟨blk,0,none⟩) 1 1) (hc:w.cell? ⟨blk,0,none⟩=some (.int .i64 f)) (aT:w.cell? ⟨blk,1,none⟩=some (.int .i64 u)) (hlen:ps.length<=100000) (bL:base<=w.heap.size)
 (h:∀ v' w',av base w' v' (ps ++ [⟨f,u⟩])->w.grownBy w' v.ownBlock->(v'.ownBlock=v.ownBlock\/v'.ownBlock=some w.heap.size)->K (a.put o.dst v') w'):o.wp prog a w K Q:=by
 obtain⟨i0,hi,bd,aK,aC⟩:=info_parts Tryz.infoSpan;obtain⟨v',w',bj,r1,r2,_,r4⟩:=run_append_own_at (P:=prog) w base 55 o.type 110 i0 (.agg #[.int .i64 0,.int .i64 0]) 2 16 underlying55 hi bd aK aC rfl (by decide) v ps.length (ps.map dU).flatten hown ⟨blk,0,none⟩ 1 1 [.int .i64 f,.int .i64 u] rfl (by
  intro j y hj
  match j,hj with
  | 0,hj=>simp at hj;subst hj;simpa [Addr.add] using hc
  | 1,hj=>simp at hj;subst hj;simpa [Addr.add] using aT) (by simp[Value.oneCell']) (by unfold maxLen;omega) (by omega) bL
 unfold Oper.wp execOp;simp only[ho,resolve,invoke,builtin,Sem.run_bind,Sem.run_pure,Result.andThen_ok,List.map_toArray,List.map_cons,List.map_nil,hs,hx,bj];refine h v' w' ?_ r2 r4;have e:(List.map dU (ps ++ [(⟨f,u⟩:Np.Span)])).flatten=(ps.map dU).flatten ++ [.int .i64 f,.int .i64 u]:=by simp[dU]
 unfold av;rw[List.length_append,List.length_singleton,e];exact r1
theorem Vf{us:List PT}{ps:List (Np.Span×Np.Signed)}(h:us.map (λx=>(x.1,x.2.1))=Np.cY ps){i:Nat}{s:Np.Signed}(hs:(Np.bZ (ps.map (·.2)))[i]?=some s):∃ v,us[i]?=some (s,Np.eB ps s,v):=by
 have h1:(us.map (λx=>(x.1,x.2.1)))[i]?=(Np.cY ps)[i]?:=by rw[h]
 unfold Np.cY at h1;rw[List.getElem?_map,List.getElem?_map,hs,Option.map_some] at h1;obtain⟨⟨a,b,v⟩,hx,he⟩:=Option.map_eq_some_iff.1 h1;simp only[Prod.mk.injEq] at he;obtain⟨rfl,rfl⟩:=he;exact⟨v,hx⟩
theorem Bb{us:List PT}{ps:List (Np.Span×Np.Signed)}(h:us.map (λx=>(x.1,x.2.1))=Np.cY ps):us.map (·.1)=Np.bZ (ps.map (·.2)):=by
 rw[<-Np.Va,<-h,List.map_map];rfl
theorem KI{us:List PT}{ps:List (Np.Span×Np.Signed)}(h:us.map (λx=>(x.1,x.2.1))=Np.cY ps):us.length<=ps.length:=by
 have h1:=Qd List.length h;rw[List.length_map,Np.Vc] at h1;have h2:=Np.tL (ps.map (·.2));rw[List.length_map] at h2;omega
theorem Vh{us:List PT}{ps:List (Np.Span×Np.Signed)}(h:us.map (λx=>(x.1,x.2.1))=Np.cY ps){i:Nat}{s:Np.Signed}(hs:(Np.bZ (ps.map (·.2)))[i]?=some s)(sp:Np.Span)(v':Value):(us.set i (s,Np.eB ps s ++ [sp],v')).map (λx=>(x.1,x.2.1))=Np.cY (ps ++ [(sp,s)]):=by
 rw[List.map_set,h,Np.Ve (p:=(sp,s)) hs]
theorem Vg{us:List PT}{ps:List (Np.Span×Np.Signed)}(h:us.map (λx=>(x.1,x.2.1))=Np.cY ps){s:Np.Signed}(hs:s∉Np.bZ (ps.map (·.2)))(sp:Np.Span)(v0 v':Value):((us ++ [((s,[],v0):PT)]).set us.length (s,[] ++ [sp],v')).map (λx=>(x.1,x.2.1))=Np.cY (ps ++ [(sp,s)]):=by
 rw[List.set_append_right _ _ (bQ _),Nat.sub_self,List.set_cons_zero,List.map_append,h,Np.Vd (p:=(sp,s)) hs];rfl
theorem LD{us:List PT}{i:Nat}{x y:PT}(h:us[i]?=some x)(hy:y.1=x.1):(us.set i y).map (·.1)=us.map (·.1):=by
 rw[List.map_set];apply List.ext_getElem?;intro j;rw[List.getElem?_set];split
 ·rename_i e;subst e;have hl:=(cQ.1 h).1
  first | rw[List.length_map,Qb hl,List.getElem?_map,h,Option.map_some,hy] | (rw[List.getElem?_map,h,Option.map_some,hy])
 ·rfl
theorem D8{base:Nat}{M:Nat->Prop}{zn:ByteArray}{w:World}{g n cap:Nat}{xs:List PT}(h:bh (ml zn) 8 sF base M w (.slice (some ⟨g,0,none⟩) n cap) xs){k:Nat}{x:PT}(hx:xs[k]?=some x):w.cell? ⟨g,k * 8+6,none⟩=some x.2.2:=by
 obtain⟨rows,h1,h2,h3,h4⟩:=h;have hl:=aO.rows_len (w:=aR w M) (B:=w.heap.size) h1 h4;have hk:=(cQ.1 hx).1;have hr:=aQ (show k<rows.length by omega);obtain⟨r,hr'⟩:∃ r,rows[k]?=some r:=⟨_,hr⟩;obtain⟨h5,s,dv,sv,A,n',c,he,_⟩:=h4 k r x hr' hx;have h6:rows.flatten[k * 8+6]?=some x.2.2:=by
  have h7:=Dl rows k 6 x.2.2 r hl (by omega) hr';have h8:r.set 6 x.2.2=r:=by rw[he];rfl
  rw[h8] at h7;have h9:rows.set k r=rows:=by
   apply List.ext_getElem?;intro i;rw[List.getElem?_set];split
   ·rename_i e;subst e;rw[Qb (by omega),hr']
   ·rfl
  rw[h9] at h7;rw[<-h7,List.getElem?_set,Qb rfl,Qb];rw[h2.1];omega
 have h7:=h2.cells (g:=g) rfl _ _ h6;simpa [Addr.add] using h7
def mM(l:List (Np.Signed×List Np.Span))(i:Nat):List (Np.Signed×List Np.Span):=(l.take i).map (λx=>(x.1,Np.fO x.2))++l.drop i
theorem VB(l:List (Np.Signed×List Np.Span)):mM l 0=l:=by simp[mM]
theorem Vy{l:List (Np.Signed×List Np.Span)}{i:Nat}(h:l.length=i):mM l i=l.map λx=>(x.1,Np.fO x.2):=by
 unfold mM;rw[kQ (by omega),List.drop_of_length_le (by omega),List.append_nil]
theorem KS{us:List PT}{l:List (Np.Signed×List Np.Span)}{i:Nat}(h:us.map (λx=>(x.1,x.2.1))=mM l i)(hi:i<l.length):∃ x,us[i]?=some x/\l[i]?=some (x.1,x.2.1):=by
 have h1:(us.map (λx=>(x.1,x.2.1)))[i]?=l[i]?:=by
  rw[h];unfold mM;rw[oQ (by simp only[List.length_map,List.length_take];omega),List.length_map,List.length_take,List.getElem?_drop];congr 1;omega
 rw[List.getElem?_map,aQ hi] at h1;obtain⟨x,hx,he⟩:=Option.map_eq_some_iff.1 h1;exact⟨x,hx,by rw[aQ hi,he]⟩
theorem Vz{us:List PT}{l:List (Np.Signed×List Np.Span)}{i:Nat}(h:us.map (λx=>(x.1,x.2.1))=mM l i)(hi:i<l.length){x:PT}(hx:us[i]?=some x)(v':Value):(us.set i (x.1,Np.fO x.2.1,v')).map (λx=>(x.1,x.2.1))=mM l (i+1):=by
 obtain⟨y,hy,hl⟩:=KS h hi;rw[hx] at hy
 cases hy
 rw[List.map_set,h];obtain⟨hi',he⟩:=cQ.1 hl;unfold mM;rw[List.set_append_right _ _ (by simp only[List.length_map,List.length_take];omega),List.length_map,List.length_take,show i - min i l.length=0 by omega,sQ hi',List.set_cons_zero,fQ hi',List.map_append,List.map_singleton,he,List.append_assoc];rfl
section
variable {S:Nat->Prop} {w2:World} {base:Nat} {M:Nat->Prop} {zn:ByteArray} {xs:List PT} {w:World}
theorem PubK.normed{g0 n cap:Nat}(h:PubK S w2 base zn M xs (.slice (some ⟨g0,0,none⟩) n cap) w)(hn:xs.length=n){i:Nat}{x:PT}(hi:xs[i]?=some x){v':Value}{ps':List Np.Span}{w':World}(hb:Below w.heap.size w w')(ho:av w.heap.size w' v' ps')(vl:base<=w.heap.size) :
 PubK S w2 base zn (λk=>M k\/v'.ownBlock=some k) (xs.set i (x.1,ps',v')) (.slice (some ⟨g0,0,none⟩) n cap) (w'.setCell ⟨g0,i * 8+6,none⟩ v'):=by
 have hx:=gQ hi;have hr:=h.rows.changed hn hi hb.os hb.tape hb.output hb.size (λk hk _=>hb.block k hk) (ho.weak vl) (λk e=>.inr (ho.lt k e).1);have hz:(w'.setCell ⟨g0,i * 8+6,none⟩ v').heap.size=w'.heap.size:=by simp[World.setCell]
 have h2:=h.rd.size;refine⟨hr,λk e=>?_,λk hk hs=>.inl (h.ex k hk hs),λk e=>?_,(h.rd.then_below hb).setCell (h.own g0 (.inl rfl)) _⟩
 ·rw[hz];rcases e with e | e
  ·exact lQ (h.lt k e) hb.size
  ·exact (ho.lt k e).2
 ·rcases e with e | ⟨y,hy,e⟩
  ·exact h.own k (.inl e)
  ·rcases List.mem_or_eq_of_mem_set hy with hy | rfl
   ·exact h.own k (.inr ⟨y,hy,e⟩)
   ·have:=(ho.lt k e).1
    exact .inr (by omega)
theorem PubK.calm{ov:Value}(h:PubK S w2 base zn M xs ov w){T:Nat->Prop}(hT:∀ k,T k->k<w2.heap.size/\¬ S k){w':World}(hl:w'.os=w.os/\w'.tape=w.tape/\w'.output=w.output)(hz:w'.heap.size=w.heap.size)(hk:∀ k,¬ T k->w'.heap[k]?=w.heap[k]?):PubR base M zn xs ov w':=
 h.rows.leaves ⟨hl.1,hl.2.1,hl.2.2,Nat.le_of_eq hz.symm,λk _ hm=>⟨hm,hk k (λe=>hm (h.ex k (hT k e).1 (hT k e).2))⟩⟩ (λg hg=>⟨hk g (λe=>by
  have h1:=hT g e;rcases h.own g hg with h2 | h2
  ·exact h1.2 h2
  ·omega),(h.rows.lt hg).2.2⟩)
end
theorem Np.Wv{h:Np.Hist}{zone:List UInt8}{s:Np.Signed}{p:Np.Span}(hp:p∈Np.eB (Np.ci h.copies zone) s)(hv:Np.VHist h):Np.uD p:=by
 unfold Np.eB at hp;obtain⟨q,hq,rfl⟩:=List.mem_map.1 hp;have hq:=(List.mem_filter.1 hq).1;obtain⟨c,hc,_,_,he⟩:=Np.ro.1 hq;have h1:=(hv.each c hc).times;have h2:=hv.stop;rw[he];exact⟨h1.1,h1.2.1,by show c.til<=20000000;omega⟩
theorem Np.Fe(ps:List (Np.Span×Np.Signed))(s:Np.Signed):(Np.eB ps s).length<=ps.length:=by
 unfold Np.eB;rw[List.length_map];exact List.length_filter_le _ _
theorem Np.KJ{ps:List (Np.Span×Np.Signed)}{i:Nat}{s:Np.Signed}{l:List Np.Span}(h:(Np.cY ps)[i]?=some (s,l)):l=Np.eB ps s:=by
 unfold Np.cY at h;rw[List.getElem?_map] at h;obtain⟨x,_,he⟩:=Option.map_eq_some_iff.1 h
 cases he
 rfl
end
section
open Go.RowKit
namespace Np
theorem Md{l:List UInt8}(h:aG l=true):l.length<=60:=by
 unfold aG at h;split at h
 ·rename_i h1;subst h1;simp
 ·split at h
  ·cases h
  ·omega
def xx(r:Rule):Bool:=decide (0<=r.leastN)&&decide (0<=r.leastM)&&decide (r.mostN<=1000000)&&decide (r.mostM<=1000000)
theorem WP(k:Int):xx (bN k)=true:=by
 have h:∀ i:Nat,xx (rules.getD i ⟨0,0,0,0,0,false,false,false⟩)=true:=by
  intro i;by_cases hi:i<9
  ·rcases (by omega:i=0\/i=1\/i=2\/i=3\/i=4\/i=5\/i=6\/i=7\/i=8) with rfl | rfl | rfl | rfl | rfl | rfl | rfl | rfl | rfl <;> rfl
  ·rw[List.getD_eq_getElem?_getD,List.getElem?_eq_none (by simp[rules];omega)];rfl
 exact h _
structure DatumOk(d:Datum):Prop where
 text:d.text.length<=60
 n0:0<=d.n
 n1:d.n<=1000000
 m0:0<=d.m
 m1:d.m<=1000000
theorem X6{r:Rule}{d:Datum}(hr:xx r=true)(h:jt r d=true):DatumOk d:=by
 simp[xx] at hr;simp only[jt,Bool.and_eq_true,Qa] at h;exact⟨Me h.2,by omega,by omega,by omega,by omega⟩
theorem IB{r:Rule}(hr:xx r=true):∀ {ds:List Datum} {p:Option Datum},gU r p ds=true->∀ d∈ds,DatumOk d
 | [],_,_=>by simp
 | d::ds,p,h=>by
   simp only[gU,Bool.and_eq_true] at h;intro x hx;rcases List.mem_cons.1 hx with rfl | hx
   ·exact X6 hr h.1.1
   ·exact IB hr h.2 x hx
structure SetOk(s:DSet):Prop where
 name:s.name.length<=60
 ty0:1<=s.type
 ty1:s.type<=8
 li0:0<=s.life
 li1:s.life<=100000
 len:s.data.length<=8
 data:∀ d∈s.data,DatumOk d
theorem Fm{s:DSet}(h:bO s=true):SetOk s:=by
 simp only[bO,Bool.and_eq_true,Qa] at h;obtain⟨⟨⟨⟨⟨⟨h1,h2⟩,h3⟩,h4⟩,_⟩,_⟩,h7⟩:=h;exact⟨Md h1,h2.1,h2.2,h3.1,h3.2,h4.2,IB (WP _) h7⟩
def text(l:List UInt8):List UInt8:=UInt8.ofNat l.length::l
def num(n:Int):List UInt8:=(List.range 8).map λi=>UInt8.ofNat (n.toNat / 2 ^ (56 - 8 * i))
def qC(d:Datum):List UInt8:=text d.text++num d.n++num d.m
def D7(s:DSet):List UInt8:=text s.name++num s.type++num s.life ++ [UInt8.ofNat s.data.length]
def tB(s:DSet):List UInt8:=D7 s++s.data.flatMap qC
theorem tu(n:Int):(num n).length=8:=by simp[num]
theorem QA{d:Datum}(h:DatumOk d):(qC d).length<=80:=by
 have:=h.text
 simp[qC,text,tu];omega
theorem Di:∀ {ds:List Datum},(∀ d∈ds,DatumOk d)->(ds.flatMap qC).length<=80 * ds.length
 | [],_=>by simp
 | d::ds,h=>by
   have h1:=QA (h d (by simp));have h2:=Di (ds:=ds) (λx hx=>h x (by simp[hx]));simp only[List.flatMap_cons,List.length_append,List.length_cons];omega
end Np
theorem Hi(base:Nat)(v:Value)(bs:List UInt8)(s:ByteArray)(hl:bs.length<=1000000)(hs:s.data.toList.length<=60)(w:World)(hb:base<=w.heap.size)(h:fq w base v bs) :
 Calls prog 315 #[v,.string s] w (ow base v (bs++Np.text s.data.toList) w):=by
 have:=PL base v bs s hl (by simp at hs;omega) w hb h
 simpa [Np.text] using this
theorem yX(base:Nat)(v:Value)(bs:List UInt8)(n:Int)(hl:bs.length<=1000000)(h0:0<=n)(h1:n<=1000000)(w:World)(hb:base<=w.heap.size)(h:fq w base v bs) :
 Calls prog 316 #[v,.int .i64 n] w (ow base v (bs++Np.num n) w):=by
 obtain⟨m,rfl⟩:=Int.eq_ofNat_of_zero_le h0;exact PK base v bs m hl (by omega) w hb h
theorem fq.bytes{w:World}{base:Nat}{v:Value}{bs:List UInt8}(h:fq w base v bs)(hl:bs.length<=1000000):mb w w.heap.size v (bs.map λc=>(c.toNat:Int)):=by
 rcases h.2 with ⟨rfl,h0⟩ | ⟨g,cap,cur,rfl,hb,hg,ik,_,_,Ew⟩
 ·have:bs = []:=rQ h0
  subst this;exact⟨none,0,rfl,by simp,by simp,λi x hx=>by simp at hx⟩
 ·refine⟨some ⟨g,0,none⟩,cap,by simp,by simp;omega,by simpa using ik,λi x hx=>⟨g,0,rfl,?_,(eQ.1 hg).1,?_⟩⟩
  ·have:=(eQ.1 hg).1;omega
  ·have:=h.cells (g:=g) rfl i (.int .u8 x) (by simp at hx |-;exact hx)
   by_cases hi:i=0
   ·subst hi;simpa [Addr.add] using this
   ·simpa [Addr.add,hi] using this
theorem sf(w:World)(o:Obj):Below w.heap.size w (w.alloc o):=(vQ _ w).alloc (bQ _) _
theorem VK(w:World)(base:Nat):fq w base (.slice none 0 0) []:=⟨rfl,.inl ⟨rfl,rfl⟩⟩
theorem fq.weaken{w:World}{base b:Nat}{v:Value}{bs:List UInt8}(h:fq w base v bs)(hb:b<=base):fq w b v bs:=by
 refine⟨h.1,?_⟩;rcases h.2 with h1 | ⟨g,cap,cur,h1,h2,h3⟩
 ·exact .inl h1
 ·exact .inr ⟨g,cap,cur,h1,yQ hb h2,h3⟩
theorem ow.step{base:Nat}{v:Value}{bs bs':List UInt8}{w w':World}{e:Ending}(h:ow base v bs' w e w')(ho:fq w base v bs)(hb:base<=w.heap.size):∃ A c b',e = .returned (.slice A (List.length b') c)/\Hid (b'=bs')/\fq w' base (.slice A (List.length b') c) b'/\Below base w w':=by
 obtain⟨v',rfl,h1,h2⟩:=h;obtain⟨A,c,rfl⟩:=jr h1;exact⟨A,c,bs',rfl,jq rfl,h1,h2.below ho (bQ _) hb⟩
theorem ow.step2{base g:Nat}{v:Value}{bs bs':List UInt8}{w w':World}{e:Ending}(h:ow base v bs' w e w')(ho:fq w base v bs)(hb:base<=w.heap.size)(hg:v.ownBlock≠some g)(nM:g<w.heap.size) :
 ∃ A c b',e = .returned (.slice A (List.length b') c)/\Hid (b'=bs')/\fq w' base (.slice A (List.length b') c) b'/\Below base w w'/\(Value.slice A (List.length b') c).ownBlock≠some g/\w'.heap[g]?=w.heap[g]?:=by
 obtain⟨v',rfl,h1,h2⟩:=h;obtain⟨A,c,rfl⟩:=jr h1;refine⟨A,c,bs',rfl,jq rfl,h1,h2.below ho (bQ _) hb,?_,h2.grown.block g nM (λe=>hg e.symm)⟩;rcases h2.at_ with e | ⟨k,hk,e⟩
 ·rw[e];exact hg
 ·rw[e];simp;omega
def MA(w5:World)(base:Nat)(b5:List UInt8)(ds:List Np.Datum)(vb i:Value)(wr:World):Prop:=
 ∃ (k:Nat) (A:Option Addr) (c:Nat) (bk:List UInt8),k<=ds.length/\i = .int .i64 k/\vb = .slice A bk.length c/\Hid (bk=b5++(ds.take k).flatMap Np.qC)/\Hid (fq wr base vb bk)/\Hid (Below base w5 wr)
theorem WC(s:ByteArray)(hs:s.size<=140737488355328)(ty life:Int)(v:Value)(ds:List Np.Datum)(w:World)(hR:dS w w.heap.size)(hd:SlR bI 3 w w.heap.size v ds)(hval:Np.bO ⟨s.data.toList,ty,life,ds⟩=true) :
 Calls prog 243 #[.agg #[.string s,.int .i64 ty,.int .i64 life,v]] w
  λe w'=>Below w.heap.size w w'/\∃ v',e = .returned (.tuple #[v',.int .i64 0])/\fq w' w.heap.size v' (Np.tB ⟨s.data.toList,ty,life,ds⟩):=by
 have HR:=jq hR;have HD:=jq hd;have OK:=jq (Np.Fm hval);have HV:=jq hval;obtain⟨A,c,rfl,aT,cu,ej⟩:=hd;clear hR ej hval;obtain⟨i0,hi,bd,aK,aC⟩:=info_parts Tryz.infoByteSg;have ZM:ds.length<=8:=OK.out.len;go_enter func243,ntmps243;go_wp2_with (first
  | (go_at_call 152;have hv:=HV.out;clear HV;refine (Bk s hs ty life _ ds _ ((HR.out.keep (sf w _)).more (by simp)) ((HD.out.keep bq (sf w _)).more bD (by simp))).mono ?_;rintro e w1 ⟨rfl,aq⟩;rw[hv];have aN:=aq.size;simp only[World.size_alloc] at aN aq;have c10:w1.cell? ⟨w.heap.size,0,none⟩=some (.string s):=by { rw[aq.cell (by simp)];go_simp };have c11:w1.cell? ⟨w.heap.size,1,none⟩=some (.int .i64 ty):=by { rw[aq.cell (by simp)];go_simp };have c12:w1.cell? ⟨w.heap.size,2,none⟩=some (.int .i64 life):=by { rw[aq.cell (by simp)];go_simp };have c13:w1.cell? ⟨w.heap.size,3,none⟩=some (.slice A ds.length c):=by { rw[aq.cell (by simp)];go_simp };have aD:=jq aq;have yy:=jq (VK w1 (w.heap.size+1));clear aq hv)
  | (go_at_call 315;have ho:=yy.out;clear yy;refine (Hi (w.heap.size+1) _ [] s (by simp) OK.out.name _ (by omega) ho).mono ?_;rintro e w2 nL;obtain⟨A2,p2,b2,rfl,oN,dK,ab⟩:=nL.step ho (by omega);have fj:=ab.size;have c20:w2.cell? ⟨w.heap.size,0,none⟩=some (.string s):=by { rw[ab.cell (by simp)];exact c10 };have c21:w2.cell? ⟨w.heap.size,1,none⟩=some (.int .i64 ty):=by { rw[ab.cell (by simp)];exact c11 };have c22:w2.cell? ⟨w.heap.size,2,none⟩=some (.int .i64 life):=by { rw[ab.cell (by simp)];exact c12 };have c23:w2.cell? ⟨w.heap.size,3,none⟩=some (.slice A ds.length c):=by { rw[ab.cell (by simp)];exact c13 };have ai:=jq ab;have bV:=jq dK;clear nL ab dK ho)
  | (go_at_call 316;have ho:=bV.out;clear bV;refine (yX (w.heap.size+1) _ b2 ty (by rw[oN.out];have:=OK.out.name;simp[Np.text];simp at this;omega) (by have:=OK.out.ty0;simp at this;omega) (by have:=OK.out.ty1;simp at this;omega) _ (by omega) ho).mono ?_;rintro e w3 kL;obtain⟨A3,p3,b3,rfl,qk,gb,ae⟩:=kL.step ho (by omega);have bM:=ae.size;have c30:w3.cell? ⟨w.heap.size,0,none⟩=some (.string s):=by { rw[ae.cell (by simp)];exact c20 };have c31:w3.cell? ⟨w.heap.size,1,none⟩=some (.int .i64 ty):=by { rw[ae.cell (by simp)];exact c21 };have c32:w3.cell? ⟨w.heap.size,2,none⟩=some (.int .i64 life):=by { rw[ae.cell (by simp)];exact c22 };have c33:w3.cell? ⟨w.heap.size,3,none⟩=some (.slice A ds.length c):=by { rw[ae.cell (by simp)];exact c23 };have ay:=jq ae;have fp:=jq gb;clear kL ae gb ho)
  | (go_at_call 316;have ho:=fp.out;clear fp;refine (yX (w.heap.size+1) _ b3 life (by rw[qk.out,oN.out];have:=OK.out.name;simp[Np.text,Np.tu];simp at this;omega) (by have:=OK.out.li0;simpa using this) (by have:=OK.out.li1;simp at this;omega) _ (by omega) ho).mono ?_;rintro e w4 vw;obtain⟨A4,p4,b4,rfl,Cv,iR,ah⟩:=vw.step ho (by omega);have sZ:=ah.size;have c40:w4.cell? ⟨w.heap.size,0,none⟩=some (.string s):=by { rw[ah.cell (by simp)];exact c30 };have c41:w4.cell? ⟨w.heap.size,1,none⟩=some (.int .i64 ty):=by { rw[ah.cell (by simp)];exact c31 };have c42:w4.cell? ⟨w.heap.size,2,none⟩=some (.int .i64 life):=by { rw[ah.cell (by simp)];exact c32 };have c43:w4.cell? ⟨w.heap.size,3,none⟩=some (.slice A ds.length c):=by { rw[ah.cell (by simp)];exact c33 };have bl:=jq ah;have mi:=jq iR;clear vw ah iR ho)
  | (at_builtin;have ho:=mi.out;clear mi;have gW:b4.length<=100:=by { rw[Cv.out,qk.out,oN.out];have:=OK.out.name;simp[Np.text,Np.tu];simp at this;omega };refine wpList_append_own_at _ rfl _ _ 196 rfl (w.heap.size+1) 5 i0 (.int .u8 0) 1 1 underlying196 hi bd aK aC rfl (by decide) _ _ _ rfl (World.ownsRow.alloc ho _) ⟨w4.heap.size,0,none⟩ 1 1 [_] rfl rfl (cell_one_new _ _ _) (by simp[Value.oneCell']) (by unfold maxLen;omega) (by omega) (by simp;omega) ?_;intro v5 w5 El vB SK I7;clear SK;have aA:Below (w.heap.size+1) w4 w5:=((lJ vB I7).of_below (sf w4 _)).below ho (bQ _) (by omega);obtain⟨A5,p5,rfl⟩:=jr (mO (c:=UInt8.ofNat ds.length) (by simp;omega) El);have kw:=jq (mO (c:=UInt8.ofNat ds.length) (by simp;omega) El);have hs5:=aA.size;have c53:w5.cell? ⟨w.heap.size,3,none⟩=some (.slice A ds.length c):=by { rw[aA.cell (by simp)];exact c43 };have db:=jq aA;clear El vB I7 ho aA))
 generalize aA:b4 ++ [UInt8.ofNat ds.length]=b5 at kw;have Cw:=jq aA;clear aA;have G0:Hid (Below w.heap.size w w5):=jq ((sf w _).trans ((((aD.out.trans ai.out).trans ay.out).trans (bl.out.trans db.out)).acJ));go_loopw [4,32] (λvb i wr=>MA w5 (w.heap.size+1) b5 ds vb i wr) (λ_ i _=>ds.length - (intOf i).toNat)
 case atStart=>
  have e5:b4.length+1=b5.length:=by rw[<-Cw.out];simp
  rw[e5];exact⟨0,A5,p5,b5,jQ _,rfl,rfl,jq (by simp),kw,jq (vQ _ _)⟩
 case round=>
  obtain⟨k,Ak,ck,bk,hk,rfl,rfl,HQ,HO,HB⟩:=hrel;have AF:=HB.out.size;by_cases aa:k<ds.length
  ·obtain⟨A',c',hA',_,_,aL⟩:=HD.out.keep bq (G0.out.trans (HB.out.acJ))
   cases hA'
   obtain⟨g,o,e,rfl,nM,hlen,hce,sd,pE,AE,rfl⟩:=aL k _ (aQ aa);have e0:wr.cell? ⟨g,o+k * 3,none⟩=some (.string sd):=hce 0 _ rfl;have e1:wr.cell? ⟨g,o+k * 3+1,none⟩=some (.int .i64 ds[k].n):=hce 1 _ rfl;have e2:wr.cell? ⟨g,o+k * 3+2,none⟩=some (.int .i64 ds[k].m):=hce 2 _ rfl;have DK:=jq (OK.out.data ds[k] (List.getElem_mem aa));have iM:bk.length<=1000:=by
    rw[HQ.out,<-Cw.out,Cv.out,qk.out,oN.out];have h1:=OK.out.name;have h2:=Np.Di (ds:=ds.take k) (λd hd=>OK.out.data d (List.mem_of_mem_take hd));simp at h1;simp only[List.length_append,Np.tu,Np.text,List.length_cons,List.length_nil,List.length_take] at h2 |-;simp only[Array.length_toList,ByteArray.size_data];omega
   have gG:(Value.slice Ak bk.length ck).ownBlock≠some wr.heap.size:=λe=>by have:=(tw HO.out _ e).2;omega
   have Tg:=jq gG;have nv:=jq pE;clear hce aL gG pE;go_wp2_with (first
    | (go_at_call 315;have ho:=HO.out;clear HO;refine (Hi (w.heap.size+1) _ bk sd (by omega) (by rw[nv.out];exact DK.out.text) _ (by simp;omega) (World.ownsRow.alloc ho _)).mono ?_;rintro e w6 Js;obtain⟨A6,p6,b6,rfl,ut,mD,aI,qW,Jy⟩:=Js.step2 (g:=wr.heap.size) (World.ownsRow.alloc ho _) (by simp;omega) Tg.out (by simp);have kU:=aI.size;simp only[World.size_alloc] at kU;have th:w6.heap[wr.heap.size]?=some (.cells #[.string sd,.int .i64 ds[k].n,.int .i64 ds[k].m] 128):=Jy.trans (World.alloc_heap_new _ _);have q61:w6.cell? ⟨wr.heap.size,1,none⟩=some (.int .i64 ds[k].n):=by { unfold World.cell?;rw[th];rfl };have q62:w6.cell? ⟨wr.heap.size,2,none⟩=some (.int .i64 ds[k].m):=by { unfold World.cell?;rw[th];rfl };have Pi:=jq th;clear th Jy;have dB:=jq aI;have oL:=jq mD;clear Js aI mD ho)
    | (go_at_call 316;have ho:=oL.out;clear oL;refine (yX (w.heap.size+1) _ b6 ds[k].n (by rw[ut.out];have:=DK.out.text;rw[<-nv.out] at this;simp[Np.text];simp at this;omega) DK.out.n0 DK.out.n1 _ (by omega) ho).mono ?_;rintro e w7 Jt;obtain⟨A7,p7,b7,rfl,yD,nV,cF,sP,Jz⟩:=Jt.step2 (g:=wr.heap.size) ho (by omega) qW (by omega);have hs7:=cF.size;have tj:w7.heap[wr.heap.size]?=some (.cells #[.string sd,.int .i64 ds[k].n,.int .i64 ds[k].m] 128):=Jz.trans Pi.out;have q71:w7.cell? ⟨wr.heap.size,1,none⟩=some (.int .i64 ds[k].n):=by { unfold World.cell?;rw[tj];rfl };have q72:w7.cell? ⟨wr.heap.size,2,none⟩=some (.int .i64 ds[k].m):=by { unfold World.cell?;rw[tj];rfl };have Y3:=jq tj;clear tj Jz;have fD:=jq cF;have yz:=jq nV;clear Jt cF nV ho)
    | (go_at_call 316;have ho:=yz.out;clear yz;refine (yX (w.heap.size+1) _ b7 ds[k].m (by rw[yD.out,ut.out];have:=DK.out.text;rw[<-nv.out] at this;simp[Np.text,Np.tu];simp at this;omega) DK.out.m0 DK.out.m1 _ (by omega) ho).mono ?_;rintro e w8 bX;obtain⟨A8,p8,b8,rfl,Cx,eH,dW,Eh,ZR⟩:=bX.step2 (g:=wr.heap.size) ho (by omega) sP (by omega);have Eu:=dW.size;skip;have eX:=jq dW;have OI:=jq eH;clear bX dW eH ho))
   refine⟨⟨k+1,A8,p8,b8,by omega,rfl,rfl,jq ?_,OI,jq (HB.out.trans (((sf wr _).acJ).trans ((dB.out.trans fD.out).trans eX.out)))⟩,by simp[intOf];omega⟩;rw[Cx.out,yD.out,ut.out,HQ.out,List.take_add_one,aQ aa,nv.out,List.flatMap_append];show _=b5++(_++(Np.qC ds[k] ++ []));simp[Np.qC,List.append_assoc]
  ·have:k=ds.length:=by omega
   subst this;go_wp2_with fail;go_ret2;refine⟨G0.out.trans (HB.out.acJ),_,rfl,?_⟩
   have:=HO.out.weaken (Nat.le_succ w.heap.size)
   have hq:bk=Np.tB ⟨s.data.toList,ty,life,ds⟩:=by
    rw[HQ.out,<-Cw.out,Cv.out,qk.out,oN.out];simp[Np.tB,Np.D7]
   rw[<-hq];exact this
def Np.rE(n a:Int):Bool:=decide (1<=n)&&decide (n<=1000000)&&(decide (1<=a)&&decide (a<=3))
def Np.pT(f u:Int):Bool:=decide (0<=f)&&decide (f<=u)&&decide (u<=20000000)
theorem Mf(f u:Int)(w:World) :
 Calls prog 167 #[.int .i64 f,.int .i64 u] w λe w'=>e = .returned (.bool (Np.pT f u))/\w'=w:=by
 by_cases h1:0<=f <;> by_cases h2:f<=u <;> by_cases h3:u<=20000000
 all_goals
  go_enter func167,ntmps167;go_wp2_with fail;go_ret;exact⟨by simp_all [Np.pT],rfl⟩
theorem Mc(n a:Int)(w:World) :
 Calls prog 168 #[.agg #[.int .i64 n,.int .i64 a]] w (agQ w.heap.size w (.bool (Np.rE n a))):=by
 go_enter func168,ntmps168;go_wp2_with fail
 all_goals
  go_ret;go_light;refine⟨aj ?_,sf _ _⟩;simp_all [Np.rE] <;> omega

def Np.oq(s:Np.DSet)(sn z:ByteArray)(n a f u:Int):Bool:=Np.rE n a&&(Np.pT f u&&(Np.aG z.data.toList&&(!Np.eU z.data.toList&&(Np.bO s&&Np.under sn z))))
def Np.xy(s:Np.DSet)(z:ByteArray)(n a f u:Int):Int:=Np.sum ((Np.tB s).map λc=>(c.toNat:Int)) z n a f u
theorem RX(s:ByteArray)(hs:s.size<=140737488355328)(w:World) :
 Calls prog 242 #[.string s,.string ⟨#[42]⟩] w (agZ w (.bool (Np.eU s.data.toList))):=by
 have h1:1<=s.size->((s.extract 0 1).toList == [42])=Np.eU s.data.toList:=EP s;have h2:s.size<1->Np.eU s.data.toList=false:=λh=>by
  have:s.data.toList = []:=rQ (by rw[bG];omega)
  rw[this];rfl
 have H1:=jq h1;have H2:=jq h2;clear h1 h2;go_enter func242,ntmps242;go_wp2
 ·go_ret;exact⟨aj (H1.out (by omega)),rfl⟩
 ·go_ret;exact⟨aj (H2.out (by omega)).symm,rfl⟩
theorem Xc(s:ByteArray)(hs:s.size<=140737488355328)(ty life:Int)(v:Value)(ds:List Np.Datum)(z:ByteArray)(hz:z.size<=140737488355328)(n a f u:Int)(w:World)(hR:dS w w.heap.size)(hd:SlR bI 3 w w.heap.size v ds)
 (jh:Np.oq ⟨s.data.toList,ty,life,ds⟩ s z n a f u=true) :
 Calls prog 172 #[.agg #[.string s,.int .i64 ty,.int .i64 life,v],.string z,.agg #[.int .i64 n,.int .i64 a],.int .i64 f,.int .i64 u] w
  λe w'=>e = .returned (.tuple #[.agg #[.string z,.int .i64 n,.int .i64 a,.int .i64 f,.int .i64 u,.int .u64 (Np.xy ⟨s.data.toList,ty,life,ds⟩ z n a f u)],.int .i64 0])/\Below w.heap.size w w':=by
 have HR:=jq hR;have HD:=jq hd;simp only[Np.oq,Bool.and_eq_true,Bool.not_eq_true'] at jh;obtain⟨k1,k2,k3,k4,k5,k6⟩:=jh;have OK:=jq (Np.Fm k5);have rj:=Np.Md k3;have HZ:=jq rj;have K1:=jq k1;have K2:=jq k2;have K3:=jq k3;have K4:=jq k4;have K5:=jq k5;have K6:=jq k6;obtain⟨A,c,rfl,aT,cu,ej⟩:=hd;clear hR ej k1 k2 k3 k4 k5 k6 rj;go_enter func172,ntmps172;go_wp2_with fail;refine (Mc n a _).mono ?_;rintro e w1 ⟨rfl,hb⟩;rw[K1.out];obtain⟨c1,f1⟩:=oU hb;have HB:=jq hb;have z1:=hb.size;simp only[World.size_alloc] at z1;clear hb;go_wp2_with fail;refine (Mf f u _).mono ?_;rintro e w' ⟨rfl,rfl⟩;rw[K2.out];go_wp2_with fail;refine (nameValid_any z hz _).mono ?_;rintro e w2 ⟨rfl,hb⟩;rw[K3.out];replace hb:=HB.out.trans (hb.mono (by simp;omega));clear HB c1 f1 z1;obtain⟨c1,f1⟩:=oU hb;have HB:=jq hb;have z1:=hb.size;simp only[World.size_alloc] at z1;clear hb;go_wp2_with fail;refine (RX z hz _).mono ?_;rintro e w' ⟨rfl,rfl⟩;rw[K4.out];go_wp2_with fail;refine (WC s hs ty life _ ds _ ?_ ?_ K5.out).mono ?_
 ·exact (HR.out.keep (((((vQ _ w).alloc (bQ _) _).alloc (by simp) _).alloc (by simp;omega) _).trans (HB.out.mono (by simp;omega)))).more (by omega)
 ·exact (HD.out.keep bq (((((vQ _ w).alloc (bQ _) _).alloc (by simp) _).alloc (by simp;omega) _).trans (HB.out.mono (by simp;omega)))).more bD (by omega)
 rintro e w3 ⟨hb,v',rfl,hown⟩;replace hb:=HB.out.trans (hb.mono (by simp;omega));clear HB c1 f1 z1;obtain⟨c1,f1⟩:=oU hb;have HB:=jq hb;have z1:=hb.size;simp only[World.size_alloc] at z1;have HO:=jq hown;clear hb hown;go_wp2_with fail;refine (BD s z hs hz _ ?_ K3.out).mono ?_
 ·have:=K5.out;simp only[Np.bO,Bool.and_eq_true] at this;exact this.1.1.1.1.1.1
 rintro e w4 ⟨rfl,hb⟩;rw[<-Fg,K6.out];have bl:=jq hb;replace hb:=HB.out.trans (hb.mono (by simp;omega));clear HB c1 f1 z1;obtain⟨c1,f1⟩:=oU hb;have HB:=jq hb;have z1:=hb.size;simp only[World.size_alloc] at z1;clear hb;go_wp2_with fail;have HY:Hid (mb w4 w4.heap.size v' ((Np.tB ⟨s.data.toList,ty,life,ds⟩).map λc=>(c.toNat:Int))):=jq ((HO.out.bytes (by
  have h1:=Np.Di OK.out.data;have h2:=OK.out.len;have h3:=OK.out.name;simp only[Np.tB,Np.D7,List.length_append,Np.text,Np.tu,List.length_cons,List.length_nil] at *;omega)).grow bl.out (bl.out.size))
 have TU:z.size<=255:=by have:=HZ.out;simp at this;omega
 have k0:w4.cell? ⟨w.heap.size+1,0,none⟩=some (.int .i64 n):=by rw[c1 _ _ (by simp)];go_simp
 have k1:w4.cell? ⟨w.heap.size+1,1,none⟩=some (.int .i64 a):=by rw[c1 _ _ (by simp)];go_simp
 clear c1 f1;go_region_held3 (λw'=>w'.cell? ⟨w.heap.size+1,0,none⟩=some (.int .i64 n)/\w'.cell? ⟨w.heap.size+1,1,none⟩=some (.int .i64 a))
  (go_keep)
  (first
    | (go_at_call 244;refine (Xt _ _ z TU n a f u _ (HY.out.grow (Below.drew (vQ _ _)) (bQ _))).mono ?_;rintro e w5 ⟨rfl,aA⟩;obtain⟨c5,f5⟩:=oU (HB.out.drew.trans (aA.mono (by simp;omega)));have db:=jq aA;clear aA))
 go_wp2_with fail;refine bodyPost_ret (v:=.tuple #[.agg #[.string z,.int .i64 n,.int .i64 a,.int .i64 f,.int .i64 u,.int .u64 (Np.xy ⟨s.data.toList,ty,life,ds⟩ z n a f u)],.int .i64 0]) (by simp[results,results172,go_sem,c5];rfl) rfl ⟨rfl,?_⟩;have aV:Below w.heap.size w w5:=((((vQ _ w).alloc (bQ _) _).alloc (by simp) _).alloc (by simp;omega) _).trans ((HB.out.drew.trans (db.out.mono (by simp;omega))).mono (by simp;omega))
 repeat refine Below.setCell ?_ (by simp <;> omega) _
 exact aV
theorem U2(w:World):Calls prog 260 #[.int .u64 1] w λe w'=>e = .returned (.int .i64 1)/\w'=w:=by
 go_enter func260,ntmps260;go_wp2_with fail;go_ret;exact⟨by kernel_rfl,rfl⟩
theorem U1(w:World):Calls prog 186 #[.int .u64 1] w λe w'=>e = .returned (.int .i64 1)/\w'=w:=by
 go_enter func186,ntmps186;go_wp2_with fail;refine (U2 w).mono ?_;rintro e w' ⟨rfl,rfl⟩;go_wp2_with fail;go_ret;exact⟨rfl,rfl⟩
theorem Uj(v f:Value)(w:World):Calls prog 306 #[v,.int .i64 0,.int .i64 1,f] w λe w'=>(∃ v,e = .returned v)/\w'=w:=by
 go_enter func306,ntmps306;go_wp2_with fail;go_loopw [8] (λv wr=>v = .int .i64 1/\wr=w) (λ_ _=>0)
 case atStart=>exact⟨rfl,rfl⟩
 case round=>
  obtain⟨rfl,rfl⟩:=hrel;go_wp2_with fail;go_end0;exact⟨⟨_,rfl⟩,rfl⟩
theorem VR(v f L:Value)(w:World):Calls prog 241 #[v,.int .i64 0,.int .i64 1,L,f] w λe w'=>(∃ v,e = .returned v)/\w'=w:=by
 go_enter func241,ntmps241;go_wp2_with fail;go_loopw [1,2] (λa b wr=>a = .int .i64 0/\b = .int .i64 1/\wr=w) (λ_ _ _=>0)
 case atStart=>exact⟨rfl,rfl,rfl⟩
 case round=>
  obtain⟨rfl,rfl,rfl⟩:=hrel;go_wp2_with fail;refine (Uj _ _ _).mono ?_;rintro e w' ⟨⟨v,rfl⟩,rfl⟩;go_wp2_with fail;refine bodyPost_ret (results_none rfl _ _ _) rfl ?_;exact⟨⟨_,rfl⟩,rfl⟩
theorem Xg(A:Option Addr)(c:Nat)(f:Value)(w:World):Calls prog 169 #[.slice A 1 c,f] w λe w'=>(∃ v,e = .returned v)/\w'=w:=by
 go_enter func169,ntmps169;go_wp2_with fail;refine (U1 _).mono ?_;rintro e w' ⟨rfl,rfl⟩;go_wp2_with fail;refine (VR _ _ _ _).mono ?_;rintro e w' ⟨⟨v,rfl⟩,rfl⟩;go_wp2_with fail;go_end0;exact⟨⟨_,rfl⟩,rfl⟩
end
section
open Go.RowKit Go.Shelf
attribute [local go_sem] Oper.semAt_some
theorem Xr(a:ByteArray):aM a.data.toList = .string a:=by cases a;simp[aM]
theorem VJ(a:ByteArray)(v:Value)(l:List Np.Signed)(gE:l.length=3)(hn:∀ s∈l,s.set.name=a.data.toList)(w:World)(hd:SlR cU 5 w w.heap.size v l) :
 Calls prog 171 #[.agg #[.string a,v]] w λe w'=>∃ g,e = .returned (.slice (some ⟨g,0,none⟩) 3 3)/\w.heap.size<=g/\w'.heap[g]?=some (.cells #[.bool true,.bool true,.bool true] 4 (0,0))/\Below w.heap.size w w':=by
 have HD:=jq hd;have HN:=jq hn;obtain⟨A,n,c,rfl,Ao,ik,_⟩:=ko hd;obtain rfl:n=3:=by omega
 have HL:=jq gE;obtain⟨X,hX⟩:=abY w.heap.size;have sO:∀ (w:World),(Instr.makeMap 111 none).run prog w = .ok (.map (some w.heap.size)) (w.alloc (.map #[] 0)):=λw=>by
  simp[Instr.makeMap,Result.andThen]
 have f9:∀ (w:World),(Instr.makeSlice 237 (.int .i64 3) (.int .i64 3)).run prog w = .ok (.slice (some ⟨w.heap.size,0,none⟩) 3 3) (w.alloc (.cells #[.bool false,.bool false,.bool false] 4)):=λw=>by
  have:=U5 3 (by omega) w
  have e:madeCells #[Value.bool false] 3 = #[.bool false,.bool false,.bool false]:=by kernel_rfl
  rw[e] at this;simpa using this
 obtain⟨w2,az⟩:=abY ((w.alloc (.cells #[.string a,.slice A 3 c] 44)).alloc (.map #[] 0));have aC:w2.heap.size=X+2:=by rw[<-az,<-hX];simp
 have ab:Below w.heap.size w w2:=by rw[<-az];exact ((vQ _ _).alloc (bQ _) _).alloc (by simp) _
 have Gn:Hid (bR (X+1) [] w2):=jq (by
  rw[<-az,<-hX]
  have:=bR.made (w.alloc (.cells #[.string a,.slice A 3 c] 44))
  simpa using this)
 have ai:=jq ab;have de:Hid (dM w2 X [.string a,.slice A 3 c]):=jq (by
  rw[<-az,<-hX];exact (ft [.string a,.slice A 3 c] 44 rfl rfl).keep ((vQ _ _).alloc (bQ _) _) (by simp))
 have k0:=de.out 0 _ rfl;have k1:=de.out 1 _ rfl;clear hd hn Ao ab gE;go_enter func171,ntmps171;go_wp2_with fail;clear az;have ZD:(a.toList == a.toList)=true:=by simp
 go_loopw [16] (λi wr=>∃ k:Nat,k<=3/\i = .int .i64 k/\Hid (Below w2.heap.size w2 wr)) (λi _=>3 - (intOf i).toNat)
 case atStart=>exact⟨0,by omega,rfl,jq (vQ _ _)⟩
 case round=>
  obtain⟨k,hk,rfl,HB⟩:=hrel;have ag:=HB.out.size;have eY:=jq (de.out.keep HB.out (by omega));clear k0 k1;have k0:=eY.out 0 _ rfl;have k1:=eY.out 1 _ rfl;have Zy:X<wr.heap.size:=by omega
  have Zz:¬ X=wr.heap.size:=by omega
  by_cases aa:k<3
  ·obtain⟨x,ac⟩:∃ x,l[k]?=some x:=⟨_,aQ (by rw[HL.out];exact aa)⟩;obtain⟨b,o,c',s,dv,sv,hA,bC,_,aP,_,be,aY,e0,e1,e2,e3,e4⟩:=iV (HD.out.later da gm (ai.out.trans (HB.out.acJ))) ac;simp only[Value.slice.injEq] at hA;obtain⟨rfl,-,rfl⟩:=hA;obtain⟨dA,dn,dc,rfl,_,_,_⟩:=ko be;obtain⟨gA,gn,gc,rfl,_,_,_⟩:=ko aY;clear be aY;obtain rfl:s=a:=mY (by rw[aP];exact HN.out x (gQ ac));have cN:(0:Int)<=(k:Int):=by omega
   have cO:(k:Int)<3:=by omega
   have cg:b<wr.heap.size:=bC;obtain⟨ty,gH⟩:=abY x.set.type;rw[gH] at e1;clear gH ac aP;by_cases ht:ty=2
   ·subst ht;go_wp2_with fail;go_roundw
    case rel=>exact⟨k+1,by omega,by go_num,jq (HB.out.alloc HB.out.size _)⟩
    case measure=>simp[intOf] <;> omega
   ·have mG:(ty == 2)=false:=by simpa using ht
    go_wp2_with fail;go_roundw
    case rel=>exact⟨k+1,by omega,by go_num,jq (HB.out.alloc HB.out.size _)⟩
    case measure=>simp[intOf] <;> omega
  ·have uq:Hid (bR (X+1) [] wr):=jq (Gn.out.keep HB.out (by omega));obtain⟨G,hG⟩:=abY wr.heap.size;obtain⟨w3,br⟩:=abY (wr.alloc (.cells #[.bool false,.bool false,.bool false] 4));have gh:w3.heap.size=G+1:=by rw[<-br,<-hG];simp
   have ae:Below wr.heap.size wr w3:=by rw[<-br];exact (vQ _ _).alloc (bQ _) _
   have NW:Hid (w3.heap[G]?=some (.cells #[.bool false,.bool false,.bool false] 4 (0,0))):=jq (by rw[<-br,<-hG];exact heap_alloc_new _ _);have ay:=jq (ai.out.trans ((HB.out.trans (ae.acJ)).acJ));have mf:=jq (eY.out.keep ae (by omega));have ku:=jq (uq.out.keep ae (by omega));clear k0 k1 ae;have k0:=eY.out 0 _ rfl;have k1:=eY.out 1 _ rfl;have j0:=mf.out 0 _ rfl;have j1:=mf.out 1 _ rfl;go_wp2_with fail;clear br k0 k1 aa hk;go_loopw [7,44] (λvc vi wz=>∃ k:Nat,k<=3/\vi = .int .i64 k/\vc = .string ⟨#[]⟩/\Hid (wz.heap[G]?=some (.cells #[.bool (decide (0<k)),.bool (decide (1<k)),.bool (decide (2<k))] 4 (0,0)))/\Hid (Below G w3 wz)) (λ_ vi _=>3 - (intOf vi).toNat)
   case atStart=>exact⟨0,by omega,rfl,rfl,NW,jq (vQ _ _)⟩
   case round=>
    obtain⟨k,hk,rfl,rfl,HG,rK⟩:=hrel;have adY:=rK.out.size;have FW:=jq (mf.out.keep rK.out (by omega));clear j0 j1;have j0:=FW.out 0 _ rfl;have j1:=FW.out 1 _ rfl;have Oy:Hid (bR (X+1) [] wr):=jq (ku.out.keep rK.out (by omega));by_cases aa:k<3
    ·obtain⟨x,ac⟩:∃ x,l[k]?=some x:=⟨_,aQ (by rw[HL.out];exact aa)⟩;obtain⟨b,o,c',s,dv,sv,hA,bC,_,aP,_,be,aY,e0,e1,e2,e3,e4⟩:=iV (HD.out.later da gm (ay.out.trans (rK.out.acJ))) ac;simp only[Value.slice.injEq] at hA;obtain⟨rfl,-,rfl⟩:=hA;obtain⟨dA,dn,dc,rfl,_,_,_⟩:=ko be;obtain⟨gA,gn,gc,rfl,_,_,_⟩:=ko aY;clear be aY;obtain rfl:s=a:=mY (by rw[aP];exact HN.out x (gQ ac));have cN:(0:Int)<=(k:Int):=by omega
     have cO:(k:Int)<3:=by omega
     have cg:b<wr.heap.size:=bC;obtain⟨E,hE⟩:=abY wr.heap.size;obtain⟨wa,gg⟩:=abY (wr.alloc (.cells #[.string s,.int .i64 x.set.type,.int .i64 x.set.life,.slice dA dn dc,.slice gA gn gc] 42));have eO:Below wr.heap.size wr wa:=by rw[<-gg];exact (vQ _ _).alloc (bQ _) _
     have wW:wa.heap.size=E+1:=by rw[<-gg,<-hE];simp
     have uc:=jq (ft _ _ hE gg);have x9:=jq eO;have Ox:Hid (bR (X+1) [] wa):=jq (Oy.out.keep eO (by omega));have gd:=Br (P:=prog) wa 111 9 4 underlying111 underlying9 (X+1) _ Ox.out s.data.toList (.bool false) (by kernel_rfl);rw[Xr] at gd;simp only[List.lookup_nil,Option.getD_none] at gd;have zx:wa.heap[G]?=some (.cells #[.bool (decide (0<k)),.bool (decide (1<k)),.bool (decide (2<k))] 4 (0,0)):=(eO.block G (by omega)).trans HG.out;have y0:=uc.out 0 _ rfl;have y1:=uc.out 1 _ rfl;have IS:∀ q:Nat,q<3->wa.frozen? ⟨G,q,none⟩=false:=λq hq=>by simp[World.frozen?,zx]
     have kK:wa.frozen? ⟨G,k,none⟩=false:=IS k aa;have SA:∃ u,wa.cell? ⟨G,k,none⟩=some u:=by
      simp only[World.cell?,zx];rcases (by omega:k=0\/k=1\/k=2) with rfl | rfl | rfl <;> exact⟨_,rfl⟩
     obtain⟨u,hu⟩:=SA;have NY:=jq zx;clear ac aP eO IS zx;go_wp2_with fail;go_roundw
     case rel=>
      refine⟨k+1,by omega,by go_num,rfl,jq ?_,jq ((rK.out.trans (x9.out.acJ)).setCell (by simp) _)⟩
      have:=NY.out
      rcases (by omega:k=0\/k=1\/k=2) with rfl | rfl | rfl <;> simp[World.setCell,Array.getElem?_modify,this]
     case measure=>simp[intOf] <;> omega
    ·obtain rfl:k=3:=by omega
     go_wp2_with fail;go_ret;exact⟨G,rfl,by omega,by have:=HG.out;simpa using this,ay.out.trans (rK.out.acJ)⟩
end
section
open Go.RowKit Go.Shelf
attribute [local go_sem] Oper.semAt_some
def Np.l5(a:ByteArray)(f u:Int)(x:Np.Signed):Np.Signed:=⟨x.set,[⟨a.data.toList,1,1,f,u,Np.xy x.set a 1 1 f u⟩]⟩
theorem Tryz.infoKey1:(prog.info? 161).map (λi=>(i.zero,i.size,i.bytes))=some (some (.agg #[.int .i64 0,.int .i64 0]),2,16):=by kernel_rfl
theorem Tryz.infoSgn3:(prog.info? 42).map (λi=>(i.zero,i.size,i.bytes))=some (some (.agg #[.string ⟨#[]⟩,.int .i64 0,.int .i64 0,.slice none 0 0,.slice none 0 0]),5,80):=by kernel_rfl
theorem U6(w:World):(Instr.makeSlice 162 (.int .i64 1) (.int .i64 1)).run prog w = .ok (.slice (some ⟨w.heap.size,0,none⟩) 1 1) (w.alloc (.cells #[.int .i64 0,.int .i64 0] 161)):=by
 obtain⟨i,hi,hp⟩:=Option.map_eq_some_iff.1 Tryz.infoKey1;simp only[Prod.mk.injEq] at hp;obtain⟨hz,hs,hb⟩:=hp
 have:=run_make (P:=prog) w 162 161 i (.agg #[.int .i64 0,.int .i64 0]) underlying162 hi hz .i64 .i64 1 1 (by omega) (Int.le_refl _) (by rw[hb];omega) (by omega)
 rw[hs] at this;have e:madeCells #[Value.int .i64 0,.int .i64 0] 2 = #[.int .i64 0,.int .i64 0]:=by kernel_rfl
 simpa [Value.cells,e] using this
theorem U7(w:World):(Instr.makeSlice 36 (.int .i64 3) (.int .i64 3)).run prog w = .ok (.slice (some ⟨w.heap.size,0,none⟩) 3 3) (w.alloc (.cells #[.string ⟨#[]⟩,.int .i64 0,.int .i64 0,.slice none 0 0,.slice none 0 0,.string ⟨#[]⟩,.int .i64 0,.int .i64 0,.slice none 0 0,.slice none 0 0,.string ⟨#[]⟩,.int .i64 0,.int .i64 0,.slice none 0 0,.slice none 0 0] 42)):=by
 obtain⟨i,hi,hp⟩:=Option.map_eq_some_iff.1 Tryz.infoSgn3;simp only[Prod.mk.injEq] at hp;obtain⟨hz,hs,hb⟩:=hp
 have:=run_make (P:=prog) w 36 42 i (.agg #[.string ⟨#[]⟩,.int .i64 0,.int .i64 0,.slice none 0 0,.slice none 0 0]) underlying36 hi hz .i64 .i64 3 3 (by omega) (Int.le_refl _) (by rw[hb];omega) (by omega)
 rw[hs] at this;have e:madeCells #[Value.string ⟨#[]⟩,.int .i64 0,.int .i64 0,.slice none 0 0,.slice none 0 0] 15 = #[.string ⟨#[]⟩,.int .i64 0,.int .i64 0,.slice none 0 0,.slice none 0 0,.string ⟨#[]⟩,.int .i64 0,.int .i64 0,.slice none 0 0,.slice none 0 0,.string ⟨#[]⟩,.int .i64 0,.int .i64 0,.slice none 0 0,.slice none 0 0]:=by kernel_rfl
 simpa [Value.cells,e] using this
theorem WT(w:World)(g kb:Nat)(ty:TypeId)(hg:w.heap[g]?=some (.cells #[.int .i64 0,.int .i64 0] 161 (0,0)))(h0:w.cell? ⟨kb,0,none⟩=some (.int .i64 1))(h1:w.cell? ⟨kb,1,none⟩=some (.int .i64 1)) :
 (Builtin.copy_ #[162,162] ty #[.slice (some ⟨g,0,none⟩) 1 1,.slice (some ⟨kb,0,none⟩) 1 1]).run prog w = .ok (.int .i64 1) (w.setRow g #[.int .i64 1,.int .i64 1]):=by
 have hl:=run_loadCells_list (P:=prog) w ⟨kb,0,none⟩ [.int .i64 1,.int .i64 1] (λj v hj=>by
  match j,hj with
  | 0,hj=>simp at hj;subst hj;simpa [Addr.add] using h0
  | 1,hj=>simp at hj;subst hj;simpa [Addr.add] using h1
  | j+2,hj=>simp at hj)
 have ak:=run_storeCells_at prog g 0 161 [.int .i64 1,.int .i64 1] 0 #[.int .i64 0,.int .i64 0] w hg (by simp) (by simp[Value.oneCell']);obtain⟨i,hi,hp⟩:=Option.map_eq_some_iff.1 Tryz.infoKey1;simp only[Prod.mk.injEq] at hp;obtain⟨hz,hs,hb⟩:=hp;simp at hl ak;simp[Builtin.copy_,run_underlying underlying162,Builtin.lenOf,Builtin.firstCells,sizeOf,typeInfo,hi,hs,hl,ak,goInt]
end
end Go.Proofs.YtfnopgdcaanaiaaGreatDoor
