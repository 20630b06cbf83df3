/- Parts of the proof. No condition. -/
import Derived.Test.YtfnopgdcaanaiaaGreatDoorH25
import Derived.Test.YtfnopgdcaanaiaaGreatDoorH27
import Derived.Test.YtfnopgdcaanaiaaGreatDoorH32
set_option linter.all false
set_option maxRecDepth 100000
set_option maxHeartbeats 8000000
namespace Go.Proofs.YtfnopgdcaanaiaaGreatDoor
open Go.Proofs.Tryz
section
open Go.RowKit Go.MapKept Go.Shelf
theorem ZC{k:Int}{l:List UInt8}(h:Np.tU k l=true):l.length<=60:=by
 unfold Np.tU at h;split at h
 ·simp only[Bool.and_eq_true] at h;exact (Np.vx h.1).1
 ·split at h
  ·exact (Np.vx h).1
  ·split at h
   ·unfold Np.iY at h;simp only[Bool.and_eq_true,Qa] at h;omega
   ·have:l = []:=by simpa using h
    rw[this];simp
theorem Yx(k:Int):(Np.bH k).mostN<=1000000/\(Np.bH k).mostM<=1000000:=by
 unfold Np.bH;generalize k.toNat=n;by_cases h:n<9
 ·have:∀ m,m<9->(Np.rules.getD m ⟨0,0,0,0,0,false,false,false⟩).mostN<=1000000/\(Np.rules.getD m ⟨0,0,0,0,0,false,false,false⟩).mostM<=1000000:=by decide
  exact this n h
 ·have e:Np.rules[n]?=none:=List.getElem?_eq_none (by simp[Np.rules];omega);rw[List.getD_eq_getElem?_getD,e];decide
theorem OD{z:Np.Zone}(v:Np.VZone z){x:Np.Signed}(hx:x∈z.sets)(hs:Np.ux x):KeyS x:=by
 obtain⟨ha,hv⟩:=Np.zH v;obtain⟨h1,h2,h3,h4,h5,h6,h7,h8⟩:=Np.tV (hv x hx);have hf:=v.form x hx;refine⟨by have:=(Np.vx h1).1;omega,by omega,by omega,by omega,λd hd=>?_,by have:=hf.1;omega,λg hg=>?_⟩
 ·have hd':=Np.EF h8 d hd;have hd'':=hd';unfold Np.je at hd'';simp only[Bool.and_eq_true,Qa] at hd'';obtain⟨⟨⟨⟨a1,a2⟩,a3,a4⟩,_⟩,a5⟩:=hd'';have b1:=Np.Nq x.set.type;have b2:=Yx x.set.type;have b3:=ZC a5;exact⟨by omega,by omega,by omega⟩
 ·obtain⟨i,hi⟩:=List.mem_iff_getElem?.1 hg
  have:=hf.2 i g hi
  have Bb:=(Np.vx ha).1;have k1:=this.key;have k2:=this.alg;have k3:=this.win;exact⟨by rw[this.zone];omega,by omega,by omega,by omega,by omega,hs g hg⟩
theorem YD{P:Program}(w:World)(t kt et:TypeId)(ht:P.underlying t=some (.map kt et))(hk:P.underlying kt=some .string)(r:Nat)(kvs:List (List UInt8×Value))(hr:cA r kvs w)(key:List UInt8)(z:Value)(hz:(zeroValue et).run P w = .ok z w) :
 (Instr.lookup t (.map (some r)) (aB key) true).run P w = .ok (.tuple #[(kvs.lookup key).getD z,.bool (kvs.lookup key).isSome]) w:=by
 obtain⟨es,c,hr,he⟩:=hr;have hf:=AV key es.toList kvs 0 he;have hc:∀ b,(Instr.checkKey b 10000 kt (aB key)).run P w = .ok () w:=λb=>MapKept.run_checkKey (k:=aB key) hk (by simp[MapKept.IsKey]) b 9999
 cases hl:kvs.lookup key with
 | none=>simp[Instr.lookup,run_underlying ht,MapKept.run_getObj_map hr,hc,MapKept.run_findKey hk (hf.2 hl),Result.andThen,hz]
 | some v=>
  obtain⟨j,hj⟩:=hf.1 v hl;simp[Instr.lookup,run_underlying ht,MapKept.run_getObj_map hr,hc,MapKept.run_findKey hk hj,Result.andThen]
theorem Nu{P:Program}(w:World)(t kt et:TypeId)(ht:P.underlying t=some (.map kt et))(hk:P.underlying kt=some .string)
 (r:Nat) (kvs:List (List UInt8×Value)) (hr:cA r kvs w) (key:List UInt8) (val:Value) (fN:kvs.lookup key=none) :
 ∃ w',(Instr.mapUpdate t (.map (some r)) (aB key) val).run P w = .ok () w'/\cA r (kvs ++ [(key,val)]) w'/\Turned r w w':=by
 obtain⟨es,c,hr,he⟩:=hr;have hf:=(AV key es.toList kvs 0 he).2 fN;have hc:(Instr.checkKey false 10000 kt (aB key)).run P w = .ok () w:=MapKept.run_checkKey (k:=aB key) hk (by simp[MapKept.IsKey]) false 9999;have cI:(Instr.mapUpdate t (.map (some r)) (aB key) val).run P w = .ok () { w with heap:=w.heap.setIfInBounds r (.map (es.push { key:=aB key,val:=val,born:=c }) (c+1)) }:=by
  simp[Instr.mapUpdate,run_underlying ht,MapKept.run_getObj_map hr,hc,MapKept.run_findKey hk hf,MapKept.run_setObj_map _ hr,Result.andThen]
 have hl:r<w.heap.size:=(eQ.1 hr).1;exact⟨_,cI,⟨_,_,by simp[hl];exact⟨rfl,rfl⟩,by simp[he]⟩,⟨rfl,rfl,rfl,by simp,λi hi=>by simp[Ne.symm hi]⟩⟩
theorem cA.stays{r:Nat}{kvs:List (List UInt8×Value)}{w w':World}(h:cA r kvs w)(hb:w'.heap[r]?=w.heap[r]?):cA r kvs w':=by
 obtain⟨es,c,h,h2⟩:=h;exact⟨es,c,hb.trans h,h2⟩
abbrev PT:=Np.Signed×List Np.Span×Value
def oe(zn:ByteArray)(w:World)(B:Nat)(r:List Value)(x:PT):Prop:=∃ (s:ByteArray) (dv sv:Value) (A:Option Addr) (n c:Nat),r = [.string zn,.string s,.int .i64 x.1.set.type,.int .i64 x.1.set.life,dv,sv,x.2.2,.slice none 0 0]/\x.2.2 = .slice A n c/\s.data.toList=x.1.set.name/\s.size<=140737488355328/\
 SlR bn 3 w B dv x.1.set.data/\SlR dj 6 w B sv x.1.sigs
theorem Cu(zn:ByteArray):cY (oe zn):=λ_ _ _ _ _ ⟨s,dv,sv,A,n,c,h0,h1,h2,h3,h4,h5⟩ hb=>⟨s,dv,sv,A,n,c,h0,h1,h2,h3,h4.keep de hb,h5.keep ep hb⟩
theorem Cv(zn:ByteArray):dw (oe zn):=λ_ _ _ _ _ ⟨s,dv,sv,A,n,c,h0,h1,h2,h3,h4,h5⟩ hb=>⟨s,dv,sv,A,n,c,h0,h1,h2,h3,h4.more eN hb,h5.more gp hb⟩
theorem Cw(zn:ByteArray):fV (oe zn):=λ_ _ _ _ _ _ hM ⟨s,dv,sv,A,n,c,h0,h1,h2,h3,h4,h5⟩=>⟨s,dv,sv,A,n,c,h0,h1,h2,h3,h4.sans zt hM,h5.sans zx hM⟩
theorem Yu(zn:ByteArray):∀ (w:World) (B:Nat) (r:List Value) (y:PT),oe zn w B r y->∀ u∈r,u.oneCell'=true:=λw B r y ⟨s,dv,sv,A,n,c,h0,h1,_,_,h4,h5⟩ u hu=>by
 obtain⟨_,_,rfl,_⟩:=al h4;obtain⟨_,_,rfl,_⟩:=al h5;rw[h0,h1] at hu;simp only[List.mem_cons,Qh,or_false] at hu;rcases hu with rfl | rfl | rfl | rfl | rfl | rfl | rfl | rfl <;> rfl
abbrev uT:TypeId:=57
structure PubR(base:Nat)(M:Nat->Prop)(zn:ByteArray)(xs:List PT)(ov:Value)(w:World):Prop where
 row:br (oe zn) 8 uT base M w ov xs
 fresh:∀ x∈xs,aK base w x.2.2 x.2.1
 apart:∀ (i j:Nat) (x y:PT) (g:Nat),xs[i]?=some x->xs[j]?=some y->x.2.2.ownBlock=some g->y.2.2.ownBlock=some g->i=j
 off:∀ x∈xs,∀ g,x.2.2.ownBlock=some g->ov.ownBlock≠some g/\M g
def qG(xs:List PT)(ov:Value)(k:Nat):Prop:=ov.ownBlock=some k\/∃ x∈xs,x.2.2.ownBlock=some k
theorem br.inM{α:Type}{R:World->Nat->List Value->α->Prop}{sz:Nat}{e:TypeId}{base:Nat}{M:Nat->Prop}{w:World}{v:Value}{xs:List α}(h:br R sz e base M w v xs):∀ g,v.ownBlock=some g->M g:=by
 obtain⟨rows,h1,h2,h3,h4⟩:=h;exact h3
section
variable {base:Nat} {M:Nat->Prop} {zn:ByteArray} {xs:List PT} {ov:Value} {w:World}
theorem PubR.lt(h:PubR base M zn xs ov w){k:Nat}(hk:qG xs ov k):base<=k/\k<w.heap.size/\M k:=by
 rcases hk with hk | ⟨x,hx,hk⟩
 ·have:=h.row.lt k hk;exact⟨this.1,this.2,h.row.inM k hk⟩
 ·have:=World.ownsRow.lt (h.fresh x hx) k hk;exact⟨this.1,this.2,(h.off x hx k hk).2⟩
theorem PubR.leaves(h:PubR base M zn xs ov w){M':Nat->Prop}{w':World}(hl:Leaves' M w w' M')(hk:∀ g,qG xs ov g->w'.heap[g]?=w.heap[g]?/\M' g):PubR base M' zn xs ov w':=
 ⟨h.row.leaves (Cu zn) (Cw zn) (Cv zn) hl (λg hg=>hk g (.inl hg)),λx hx=>ga (h.fresh x hx) (λg hg=>(hk g (.inr ⟨x,hx,hg⟩)).1),h.apart,λx hx g hg=>⟨(h.off x hx g hg).1,(hk g (.inr ⟨x,hx,hg⟩)).2⟩⟩
theorem PubR.keep(h:PubR base M zn xs ov w){w':World}(hb:Below w.heap.size w w'):PubR base M zn xs ov w':=
 h.leaves (Leaves'.of_below hb) (λg hg=>⟨hb.block g (h.lt hg).2.1,(h.lt hg).2.2⟩)
theorem PubR.trim(h:PubR base M zn xs ov w):PubR base (λk=>M k/\k<w.heap.size) zn xs ov w:=
 h.leaves ((Leaves'.refl M w).more (λ_ e=>.inl e.1)) (λ_ hg=>⟨rfl,(h.lt hg).2.2,(h.lt hg).2.1⟩)
theorem PubR.nil(base:Nat)(M:Nat->Prop)(zn:ByteArray)(w:World):PubR base M zn [] (.slice none 0 0) w:=
 ⟨br.nil w,(λx hx=>by cases hx),(λi j x y g h=>by simp at h),(λx hx=>by cases hx)⟩
theorem PubR.pushed(h:PubR base M zn xs ov w){s:Np.Signed}{v':Value}{w':World}(ho:br (oe zn) 8 uT base (λk=>M k\/v'.ownBlock=some k) w' v' (xs ++ [(s,[],.slice none 0 0)]))(hg:w.grownBy w' ov.ownBlock)(hat:v'.ownBlock=ov.ownBlock\/v'.ownBlock=some w.heap.size) :
 PubR base (λk=>M k\/v'.ownBlock=some k) zn (xs ++ [(s,[],.slice none 0 0)]) v' w':=by
 have get:∀ (k:Nat) (z:PT) (b:Nat),(xs ++ [((s,[],Value.slice none 0 0):PT)])[k]?=some z->z.2.2.ownBlock=some b->xs[k]?=some z:=λk z b hz vu=>by
  rw[List.getElem?_append] at hz;split at hz
  ·exact hz
  ·have:=gQ hz
   rw[List.mem_singleton] at this;subst this;simp[Value.ownBlock] at vu
 refine⟨ho,λx hx=>?_,λi j x y b hx hy eF gG=>h.apart i j x y b (get i x b hx eF) (get j y b hy gG) eF gG,λx hx g nB=>?_⟩
 ·rcases List.mem_append.1 hx with hx | hx
  ·exact ga (h.fresh x hx) (λg nB=>hg.block g (World.ownsRow.lt (h.fresh x hx) g nB).2 (λe=>(h.off x hx g nB).1 e.symm))
  ·rw[List.mem_singleton] at hx;subst hx;exact aK.nil _ _
 ·rcases List.mem_append.1 hx with hx | hx
  ·refine⟨λe=>?_,.inl (h.off x hx g nB).2⟩;rcases hat with e' | e'
   ·exact (h.off x hx g nB).1 (e' ▸ e)
   ·rw[e'] at e
    have:=(World.ownsRow.lt (h.fresh x hx) g nB).2
    have:=Option.some.inj e
    omega
  ·rw[List.mem_singleton] at hx;subst hx;simp[Value.ownBlock] at nB
theorem PubR.changed{g0 n cap:Nat}(h:PubR base M zn xs (.slice (some ⟨g0,0,none⟩) n cap) w)(hn:xs.length=n){i:Nat}{x:PT}(hi:xs[i]?=some x){v':Value}{ps':List Np.Span}{w':World}(rq:w'.os=w.os)(Vb:w'.tape=w.tape)(UF:w'.output=w.output)(an:w.heap.size<=w'.heap.size)
 (BC:∀ k,k<w.heap.size->x.2.2.ownBlock≠some k->w'.heap[k]?=w.heap[k]?) (ho:aK base w' v' ps') (hat:∀ k,v'.ownBlock=some k->x.2.2.ownBlock=some k\/w.heap.size<=k) :
 PubR base (λk=>M k\/v'.ownBlock=some k) zn (xs.set i (x.1,ps',v')) (.slice (some ⟨g0,0,none⟩) n cap) (w'.setCell ⟨g0,i * 8+6,none⟩ v'):=by
 have hx:=gQ hi;have dt:=(cQ.1 hi).1;have uV:=h.row.lt g0 rfl;have tq:Leaves' M w w' (λk=>M k\/v'.ownBlock=some k):=⟨rq,Vb,UF,an,λk hk hm=>⟨λe=>by
  rcases e with e | e
  ·exact hm e
  ·rcases hat k e with e | e
   ·exact hm (h.off x hx k e).2
   ·omega,BC k hk (λe=>hm (h.off x hx k e).2)⟩⟩
 have US:=h.row.leaves (Cu zn) (Cw zn) (Cv zn) tq (λg hg=>⟨BC g (h.row.lt g hg).2 (λe=>(h.off x hx g e).1 hg),.inl (h.row.inM g hg)⟩);have UT:=br.stored (Cu zn) (Cw zn) (Cv zn) (y:=(x.1,ps',v')) US hn hi (c:=6) (by omega) v' (λr hr hR=>by
  obtain⟨s,dv,sv,A,n,c,rfl,h1,h2,h3,h4,h5⟩:=hR;obtain⟨A',c',rfl⟩:=vC ho;exact⟨s,dv,sv,A',_,c',rfl,rfl,h2,h3,h4,h5⟩)
 have rD:v'.ownBlock≠some g0:=λe=>by
  rcases hat g0 e with e | e
  ·exact (h.off x hx g0 e).1 rfl
  ·omega
 have ry:∀ k,k≠g0->(w'.setCell ⟨g0,i * 8+6,none⟩ v').heap[k]?=w'.heap[k]?:=λk hk=>wQ _ _ _ _ hk;refine⟨UT,λy hy=>?_,λa b y z g hy hz eH gU=>?_,λy hy g eH=>?_⟩
 ·obtain⟨j,hj,rfl⟩:=nQ.1 hy;rw[List.length_set] at hj;rw[List.getElem_set];split
  ·exact ga ho (λg hg=>ry g (λe=>rD (e ▸ hg)))
  ·rename_i hne;have hj':=List.getElem_mem hj;refine ga (h.fresh _ hj') (λg hg=>(ry g (λe=>(h.off _ hj' g hg).1 (by rw[e];rfl))).trans (BC g (World.ownsRow.lt (h.fresh _ hj') g hg).2 (λe=>hne (h.apart i j _ _ g hi (aQ hj) e hg))))
 ·have get:∀ (k:Nat) (z:PT),(xs.set i (x.1,ps',v'))[k]?=some z->(k=i/\z.2.2=v')\/(k≠i/\xs[k]?=some z):=λk z hz=>by
   rw[List.getElem?_set] at hz;split at hz
   ·rename_i e;subst e
    first | rw[Qb dt] at hz | skip
    cases hz
    exact .inl ⟨rfl,rfl⟩
   ·rename_i e;exact .inr ⟨λe'=>e e'.symm,hz⟩
  rcases get a y hy with ⟨rfl,ey⟩ | ⟨na,hy'⟩
  ·rcases get b z hz with ⟨rfl,_⟩ | ⟨nb,hz'⟩
   ·rfl
   ·rw[ey] at eH;rcases hat g eH with e | e
    ·exact h.apart a b _ _ g hi hz' e gU
    ·have:=(World.ownsRow.lt (h.fresh z (gQ hz')) g gU).2
     omega
  ·rcases get b z hz with ⟨rfl,ez⟩ | ⟨nb,hz'⟩
   ·rw[ez] at gU;rcases hat g gU with e | e
    ·exact h.apart a b _ _ g hy' hi eH e
    ·have:=(World.ownsRow.lt (h.fresh y (gQ hy')) g eH).2
     omega
   ·exact h.apart a b _ _ g hy' hz' eH gU
 ·obtain⟨j,hj,rfl⟩:=nQ.1 hy;rw[List.length_set] at hj;rw[List.getElem_set] at eH;split at eH
  ·exact⟨λe=>rD (by rw[eH];exact e.symm ▸ rfl),.inr eH⟩
  ·exact⟨(h.off _ (List.getElem_mem hj) g eH).1,.inl (h.off _ (List.getElem_mem hj) g eH).2⟩
theorem PubR.slr(h:PubR base M zn xs ov w)(hz:zn.size<=140737488355328)(hl:xs.length<=140737488355328)(uU:∀ x∈xs,x.2.1.length<=140737488355328){Mq:Nat->Prop}(hM:∀ k,Mq k->M k/\¬ qG xs ov k):SlR ii 8 (bd w Mq) w.heap.size ov (xs.map λx=>⟨zn.data.toList,x.1,x.2.1,[]⟩):=by
 obtain⟨rows,h1,h2,h3,h4⟩:=h.row;have h5:bL ii 8 uT base w.heap.size (bd w Mq) ov (xs.map λx=>(⟨zn.data.toList,x.1,x.2.1,[]⟩:Np.Held)):=by
  refine⟨rows,by simp[h1],?_,λi r y hr hy=>?_⟩
  ·rw[List.length_map];exact ga h2 (λg hg=>kh (λhm=>(hM g hm).2 (.inl hg)))
  ·rw[List.getElem?_map] at hy;obtain⟨x,hx,rfl⟩:=Option.map_eq_some_iff.1 hy;obtain⟨h6,s,dv,sv,A,n,c,rfl,e1,e2,e3,e4,e5⟩:=h4 i r x hr hx;have F8:=gQ hx;have h7:aK base (bd w Mq) x.2.2 x.2.1:=ga (h.fresh x F8) (λg hg=>kh (λhm=>(hM g hm).2 (.inr ⟨x,F8,hg⟩)));have h8:=h7.slr (uU x F8);rw[jH] at h8;exact⟨h6,zn,s,dv,sv,x.2.2,.slice none 0 0,rfl,rfl,hz,e2,e3,e4.sans zt (λk hk=>(hM k hk).1),e5.sans zx (λk hk=>(hM k hk).1),h8,⟨none,0,rfl,by simp,by simp,λi x hx=>by simp at hx⟩⟩
 have h6:=h5.slr vH (by rw[jH];exact bQ _) (by rw[List.length_map];exact hl);rwa [jH] at h6
end
structure PubK(S:Nat->Prop)(w2:World)(base:Nat)(zn:ByteArray)(M:Nat->Prop)(xs:List PT)(ov:Value)(w:World):Prop where
 rows:PubR base M zn xs ov w
 lt:∀ k,M k->k<w.heap.size
 ex:∀ k,k<w2.heap.size->¬ S k->M k
 own:∀ k,qG xs ov k->S k\/w2.heap.size<=k
 rd:RdStep S w2 w
section
variable {S:Nat->Prop} {w2:World} {base:Nat} {M:Nat->Prop} {zn:ByteArray} {xs:List PT} {ov:Value} {w:World}
theorem PubK.start(h:PubR base M zn xs ov w)(hex:∀ k,¬ S k->M k)(hown:∀ k,qG xs ov k->S k):PubK S w base zn (λk=>M k/\k<w.heap.size) xs ov w:=
 ⟨h.trim,λ_ e=>e.2,λk hk hs=>⟨hex k hs,hk⟩,λk e=>.inl (hown k e),RdStep.refl _ _⟩
theorem PubK.keep(h:PubK S w2 base zn M xs ov w){w':World}(hb:Below w.heap.size w w'):PubK S w2 base zn M xs ov w':=
 ⟨h.rows.keep hb,λk e=>lQ (h.lt k e) hb.size,h.ex,h.own,h.rd.then_below hb⟩
theorem PubK.touch(h:PubK S w2 base zn M xs ov w){b:Nat}(hM:M b)(hS:S b\/w2.heap.size<=b)(hn:¬ qG xs ov b){w':World}(ht:Turned b w w'):PubK S w2 base zn M xs ov w':=
 ⟨h.rows.leaves ⟨ht.os,ht.tape,ht.output,Nat.le_of_eq ht.size.symm,λk hk hm=>⟨hm,ht.block k (λe=>hm (e ▸ hM))⟩⟩ (λg hg=>⟨ht.block g (λe=>hn (e ▸ hg)),(h.rows.lt hg).2.2⟩),λk e=>by rw[ht.size];exact h.lt k e,h.ex,h.own,
  ⟨ht.os.trans h.rd.os,ht.tape.trans h.rd.tape,ht.output.trans h.rd.output,by rw[ht.size];exact h.rd.size,λk hk hs=>(ht.block k (λe=>by
   subst e;rcases hS with hS | hS
   ·exact hs hS
   ·omega)).trans (h.rd.keep k hk hs)⟩⟩
theorem PubK.push(h:PubK S w2 base zn M xs ov w){s:Np.Signed}{v':Value}{w':World}(ho:br (oe zn) 8 uT base (λk=>M k\/v'.ownBlock=some k) w' v' (xs ++ [(s,[],.slice none 0 0)]))(hg:w.grownBy w' ov.ownBlock)(hat:v'.ownBlock=ov.ownBlock\/v'.ownBlock=some w.heap.size) :
 PubK S w2 base zn (λk=>M k\/v'.ownBlock=some k) (xs ++ [(s,[],.slice none 0 0)]) v' w':=by
 refine⟨h.rows.pushed ho hg hat,λk e=>?_,λk hk hs=>.inl (h.ex k hk hs),λk e=>?_,h.rd.grown hg (λk e=>h.own k (.inl e))⟩
 ·rcases e with e | e
  ·exact lQ (h.lt k e) hg.size
  ·exact (ho.lt k e).2
 ·rcases e with e | ⟨x,hx,e⟩
  ·rcases hat with e' | e'
   ·exact h.own k (.inl (e' ▸ e))
   ·rw[e'] at e
    have:=Option.some.inj e
    have:=h.rd.size
    exact .inr (by omega)
  ·rcases List.mem_append.1 hx with hx | hx
   ·exact h.own k (.inr ⟨x,hx,e⟩)
   ·rw[List.mem_singleton] at hx;subst hx;simp[Value.ownBlock] at e
theorem PubK.changed{g0 n cap:Nat}(h:PubK S w2 base zn M xs (.slice (some ⟨g0,0,none⟩) n cap) w)(hn:xs.length=n){i:Nat}{x:PT}(hi:xs[i]?=some x){v':Value}{ps':List Np.Span}{w':World}(hg:w.grownBy w' x.2.2.ownBlock)(ho:aK base w' v' ps')(hat:v'.ownBlock=x.2.2.ownBlock\/v'.ownBlock=some w.heap.size) :
 PubK S w2 base zn (λk=>M k\/v'.ownBlock=some k) (xs.set i (x.1,ps',v')) (.slice (some ⟨g0,0,none⟩) n cap) (w'.setCell ⟨g0,i * 8+6,none⟩ v'):=by
 have hx:=gQ hi;have uL:∀ k,v'.ownBlock=some k->x.2.2.ownBlock=some k\/w.heap.size<=k:=λk e=>by
  rcases hat with e' | e'
  ·exact .inl (e' ▸ e)
  ·rw[e'] at e;exact .inr (Nat.le_of_eq (Option.some.inj e))
 have hr:=h.rows.changed hn hi hg.os hg.tape hg.output hg.size (λk hk hne=>hg.block k hk (λe=>hne e.symm)) ho uL;have hz:(w'.setCell ⟨g0,i * 8+6,none⟩ v').heap.size=w'.heap.size:=by simp[World.setCell]
 refine⟨hr,λk e=>?_,λk hk hs=>.inl (h.ex k hk hs),λk e=>?_,(h.rd.grown hg (λk e=>h.own k (.inr ⟨x,hx,e⟩))).setCell (h.own g0 (.inl rfl)) _⟩
 ·rw[hz];rcases e with e | e
  ·exact lQ (h.lt k e) hg.size
  ·exact (World.ownsRow.lt ho k e).2
 ·rcases e with e | ⟨y,hy,e⟩
  ·exact h.own k (.inl e)
  ·rcases List.mem_or_eq_of_mem_set hy with hy | rfl
   ·exact h.own k (.inr ⟨y,hy,e⟩)
   ·rcases uL k e with e | e
    ·exact h.own k (.inr ⟨x,hx,e⟩)
    ·have:=h.rd.size
     exact .inr (by omega)
theorem PubK.stop(h:PubK S w2 base zn M xs ov w):PubR base (λk=>M k\/¬ (S k\/(w2.heap.size<=k/\k<w.heap.size))) zn xs ov w/\(∀ k,qG xs ov k->S k\/(w2.heap.size<=k/\k<w.heap.size)):=by
 refine⟨h.rows.leaves ⟨rfl,rfl,rfl,bQ _,λk hk hm=>⟨λe=>?_,rfl⟩⟩ (λg hg=>⟨rfl,.inl (h.rows.lt hg).2.2⟩),λk e=>(h.own k e).imp id (λe2=>⟨e2,(h.rows.lt e).2.1⟩)⟩;rcases e with e | e
 ·exact hm e
 ·by_cases hs:S k
  ·exact e (.inl hs)
  ·by_cases iR:k<w2.heap.size
   ·exact hm (h.ex k iR hs)
   ·exact e (.inr ⟨by omega,hk⟩)
end
theorem Ou(w:World){o:Oper}{a:Act}{K:Act->World->Prop}{Q:Exit->Act->World->Prop}(s x:Operand)(ho:o.op = .call { callee:=.builtin .append,args:=#[s,x],argTypes:=#[55,55] })
 (base:Nat) (v:Value) (ps:List Np.Span) (hs:a.eval s=v) (hown:aK base w v ps) (blk:Nat) (f u:Int) (hx:a.eval x = .slice (some ⟨blk,0,none⟩) 1 1) (hc:w.cell? ⟨blk,0,none⟩=some (.int .i64 f)) (bw:w.cell? ⟨blk,1,none⟩=some (.int .i64 u)) (hlen:ps.length<=100000) (dD:base<=w.heap.size)
 (h:∀ v' w',aK base w' v' (ps ++ [⟨f,u⟩])->w.grownBy w' v.ownBlock->(v'.ownBlock=v.ownBlock\/v'.ownBlock=some w.heap.size)->K (a.put o.dst v') w'):o.wp prog a w K Q:=by
 obtain⟨i0,hi,eM,bj,aJ⟩:=info_parts Tryz.infoSpan;obtain⟨v',w',cI,r1,r2,_,r4⟩:=run_append_own_at (P:=prog) w base 55 o.type 110 i0 (.agg #[.int .i64 0,.int .i64 0]) 2 16 underlying55 hi eM bj aJ rfl (by decide) v ps.length (ps.map eZ).flatten hown ⟨blk,0,none⟩ 1 1 [.int .i64 f,.int .i64 u] rfl (by
  intro j y hj
  match j,hj with
  | 0,hj=>simp at hj;subst hj;simpa [Addr.add] using hc
  | 1,hj=>simp at hj;subst hj;simpa [Addr.add] using bw) (by simp[Value.oneCell']) (by unfold maxLen;omega) (by omega) dD
 unfold Oper.wp execOp;simp only[ho,resolve,invoke,builtin,Sem.run_bind,Sem.run_pure,Result.andThen_ok,List.map_toArray,List.map_cons,List.map_nil,hs,hx,cI];refine h v' w' ?_ r2 r4;have e:(List.map eZ (ps ++ [(⟨f,u⟩:Np.Span)])).flatten=(ps.map eZ).flatten ++ [.int .i64 f,.int .i64 u]:=by simp[eZ]
 unfold aK;rw[List.length_append,List.length_singleton,e];exact r1
theorem WC{us:List PT}{ps:List (Np.Span×Np.Signed)}(h:us.map (λx=>(x.1,x.2.1))=Np.dN ps){i:Nat}{s:Np.Signed}(hs:(Np.cE (ps.map (·.2)))[i]?=some s):∃ v,us[i]?=some (s,Np.fq ps s,v):=by
 have h1:(us.map (λx=>(x.1,x.2.1)))[i]?=(Np.dN ps)[i]?:=by rw[h]
 unfold Np.dN at h1;rw[List.getElem?_map,List.getElem?_map,hs,Option.map_some] at h1;obtain⟨⟨a,b,v⟩,hx,he⟩:=Option.map_eq_some_iff.1 h1;simp only[Prod.mk.injEq] at he;obtain⟨rfl,rfl⟩:=he;exact⟨v,hx⟩
theorem Cb{us:List PT}{ps:List (Np.Span×Np.Signed)}(h:us.map (λx=>(x.1,x.2.1))=Np.dN ps):us.map (·.1)=Np.cE (ps.map (·.2)):=by
 rw[<-Np.Wx,<-h,List.map_map];rfl
theorem Mu{us:List PT}{ps:List (Np.Span×Np.Signed)}(h:us.map (λx=>(x.1,x.2.1))=Np.dN ps):us.length<=ps.length:=by
 have h1:=Qd List.length h;rw[List.length_map,Np.Wz] at h1;have h2:=Np.rM (ps.map (·.2));rw[List.length_map] at h2;omega
theorem WE{us:List PT}{ps:List (Np.Span×Np.Signed)}(h:us.map (λx=>(x.1,x.2.1))=Np.dN ps){i:Nat}{s:Np.Signed}(hs:(Np.cE (ps.map (·.2)))[i]?=some s)(sp:Np.Span)(v':Value):(us.set i (s,Np.fq ps s ++ [sp],v')).map (λx=>(x.1,x.2.1))=Np.dN (ps ++ [(sp,s)]):=by
 rw[List.map_set,h,Np.WB (p:=(sp,s)) hs]
theorem WD{us:List PT}{ps:List (Np.Span×Np.Signed)}(h:us.map (λx=>(x.1,x.2.1))=Np.dN ps){s:Np.Signed}(hs:s∉Np.cE (ps.map (·.2)))(sp:Np.Span)(v0 v':Value):((us ++ [((s,[],v0):PT)]).set us.length (s,[] ++ [sp],v')).map (λx=>(x.1,x.2.1))=Np.dN (ps ++ [(sp,s)]):=by
 rw[List.set_append_right _ _ (bQ _),Nat.sub_self,List.set_cons_zero,List.map_append,h,Np.WA (p:=(sp,s)) hs];rfl
theorem Ny{us:List PT}{i:Nat}{x y:PT}(h:us[i]?=some x)(hy:y.1=x.1):(us.set i y).map (·.1)=us.map (·.1):=by
 rw[List.map_set];apply List.ext_getElem?;intro j;rw[List.getElem?_set];split
 ·rename_i e;subst e;have hl:=(cQ.1 h).1
  first | rw[List.length_map,Qb hl,List.getElem?_map,h,Option.map_some,hy] | (rw[List.getElem?_map,h,Option.map_some,hy])
 ·rfl
theorem Fo{base:Nat}{M:Nat->Prop}{zn:ByteArray}{w:World}{g n cap:Nat}{xs:List PT}(h:br (oe zn) 8 uT base M w (.slice (some ⟨g,0,none⟩) n cap) xs){k:Nat}{x:PT}(hx:xs[k]?=some x):w.cell? ⟨g,k * 8+6,none⟩=some x.2.2:=by
 obtain⟨rows,h1,h2,h3,h4⟩:=h;have hl:=bL.rows_len (w:=bd w M) (B:=w.heap.size) h1 h4;have hk:=(cQ.1 hx).1;have hr:=aQ (show k<rows.length by omega);obtain⟨r,hr'⟩:∃ r,rows[k]?=some r:=⟨_,hr⟩;obtain⟨h5,s,dv,sv,A,n',c,he,_⟩:=h4 k r x hr' hx;have h6:rows.flatten[k * 8+6]?=some x.2.2:=by
  have h7:=EC rows k 6 x.2.2 r hl (by omega) hr';have h8:r.set 6 x.2.2=r:=by rw[he];rfl
  rw[h8] at h7;have h9:rows.set k r=rows:=by
   apply List.ext_getElem?;intro i;rw[List.getElem?_set];split
   ·rename_i e;subst e;rw[Qb (by omega),hr']
   ·rfl
  rw[h9] at h7;rw[<-h7,List.getElem?_set,Qb rfl,Qb];rw[h2.1];omega
 have h7:=h2.cells (g:=g) rfl _ _ h6;simpa [Addr.add] using h7
def oK(l:List (Np.Signed×List Np.Span))(i:Nat):List (Np.Signed×List Np.Span):=(l.take i).map (λx=>(x.1,Np.f9 x.2))++l.drop i
theorem WT(l:List (Np.Signed×List Np.Span)):oK l 0=l:=by simp[oK]
theorem WR{l:List (Np.Signed×List Np.Span)}{i:Nat}(h:l.length=i):oK l i=l.map λx=>(x.1,Np.f9 x.2):=by
 unfold oK;rw[kQ (by omega),List.drop_of_length_le (by omega),List.append_nil]
theorem MB{us:List PT}{l:List (Np.Signed×List Np.Span)}{i:Nat}(h:us.map (λx=>(x.1,x.2.1))=oK l i)(hi:i<l.length):∃ x,us[i]?=some x/\l[i]?=some (x.1,x.2.1):=by
 have h1:(us.map (λx=>(x.1,x.2.1)))[i]?=l[i]?:=by
  rw[h];unfold oK;rw[oQ (by simp only[List.length_map,List.length_take];omega),List.length_map,List.length_take,List.getElem?_drop];congr 1;omega
 rw[List.getElem?_map,aQ hi] at h1;obtain⟨x,hx,he⟩:=Option.map_eq_some_iff.1 h1;exact⟨x,hx,by rw[aQ hi,he]⟩
theorem WS{us:List PT}{l:List (Np.Signed×List Np.Span)}{i:Nat}(h:us.map (λx=>(x.1,x.2.1))=oK l i)(hi:i<l.length){x:PT}(hx:us[i]?=some x)(v':Value):(us.set i (x.1,Np.f9 x.2.1,v')).map (λx=>(x.1,x.2.1))=oK l (i+1):=by
 obtain⟨y,hy,hl⟩:=MB h hi;rw[hx] at hy
 cases hy
 rw[List.map_set,h];obtain⟨hi',he⟩:=cQ.1 hl;unfold oK;rw[List.set_append_right _ _ (by simp only[List.length_map,List.length_take];omega),List.length_map,List.length_take,show i - min i l.length=0 by omega,sQ hi',List.set_cons_zero,fQ hi',List.map_append,List.map_singleton,he,List.append_assoc];rfl
section
variable {S:Nat->Prop} {w2:World} {base:Nat} {M:Nat->Prop} {zn:ByteArray} {xs:List PT} {w:World}
theorem PubK.normed{g0 n cap:Nat}(h:PubK S w2 base zn M xs (.slice (some ⟨g0,0,none⟩) n cap) w)(hn:xs.length=n){i:Nat}{x:PT}(hi:xs[i]?=some x){v':Value}{ps':List Np.Span}{w':World}(hb:Below w.heap.size w w')(ho:aK w.heap.size w' v' ps')(yj:base<=w.heap.size) :
 PubK S w2 base zn (λk=>M k\/v'.ownBlock=some k) (xs.set i (x.1,ps',v')) (.slice (some ⟨g0,0,none⟩) n cap) (w'.setCell ⟨g0,i * 8+6,none⟩ v'):=by
 have hx:=gQ hi;have hr:=h.rows.changed hn hi hb.os hb.tape hb.output hb.size (λk hk _=>hb.block k hk) (ho.weak yj) (λk e=>.inr (ho.lt k e).1);have hz:(w'.setCell ⟨g0,i * 8+6,none⟩ v').heap.size=w'.heap.size:=by simp[World.setCell]
 have h2:=h.rd.size;refine⟨hr,λk e=>?_,λk hk hs=>.inl (h.ex k hk hs),λk e=>?_,(h.rd.then_below hb).setCell (h.own g0 (.inl rfl)) _⟩
 ·rw[hz];rcases e with e | e
  ·exact lQ (h.lt k e) hb.size
  ·exact (ho.lt k e).2
 ·rcases e with e | ⟨y,hy,e⟩
  ·exact h.own k (.inl e)
  ·rcases List.mem_or_eq_of_mem_set hy with hy | rfl
   ·exact h.own k (.inr ⟨y,hy,e⟩)
   ·have:=(ho.lt k e).1
    exact .inr (by omega)
theorem PubK.calm{ov:Value}(h:PubK S w2 base zn M xs ov w){T:Nat->Prop}(hT:∀ k,T k->k<w2.heap.size/\¬ S k){w':World}(hl:w'.os=w.os/\w'.tape=w.tape/\w'.output=w.output)(hz:w'.heap.size=w.heap.size)(hk:∀ k,¬ T k->w'.heap[k]?=w.heap[k]?):PubR base M zn xs ov w':=
 h.rows.leaves ⟨hl.1,hl.2.1,hl.2.2,Nat.le_of_eq hz.symm,λk _ hm=>⟨hm,hk k (λe=>hm (h.ex k (hT k e).1 (hT k e).2))⟩⟩ (λg hg=>⟨hk g (λe=>by
  have h1:=hT g e;rcases h.own g hg with h2 | h2
  ·exact h1.2 h2
  ·omega),(h.rows.lt hg).2.2⟩)
end
theorem Np.Xz{h:Np.Hist}{zone:List UInt8}{s:Np.Signed}{p:Np.Span}(hp:p∈Np.fq (Np.cV h.copies zone) s)(hv:Np.VHist h):Np.xy p:=by
 unfold Np.fq at hp;obtain⟨q,hq,rfl⟩:=List.mem_map.1 hp;have hq:=(List.mem_filter.1 hq).1;obtain⟨c,hc,_,_,he⟩:=Np.tI.1 hq;have h1:=(hv.each c hc).times;have h2:=hv.stop;rw[he];exact⟨h1.1,h1.2.1,by show c.til<=20000000;omega⟩
theorem Np.GN(ps:List (Np.Span×Np.Signed))(s:Np.Signed):(Np.fq ps s).length<=ps.length:=by
 unfold Np.fq;rw[List.length_map];exact List.length_filter_le _ _
theorem Np.Mv{ps:List (Np.Span×Np.Signed)}{i:Nat}{s:Np.Signed}{l:List Np.Span}(h:(Np.dN ps)[i]?=some (s,l)):l=Np.fq ps s:=by
 unfold Np.dN at h;rw[List.getElem?_map] at h;obtain⟨x,_,he⟩:=Option.map_eq_some_iff.1 h
 cases he
 rfl
end
section
open Go.RowKit Go.Shelf
attribute [local go_sem] Oper.semAt_some
structure HC where
 z:ByteArray
 s:ByteArray
 ty:Int
 lf:Int
 dA:Option Addr
 dn:Nat
 dc:Nat
 gA:Option Addr
 gn:Nat
 gc:Nat
 fA:Option Addr
 fn:Nat
 fc:Nat
 pA:Option Addr
 pn:Nat
 pc:Nat
def HC.cells(x:HC):Array Value:=#[.string x.z,.string x.s,.int .i64 x.ty,.int .i64 x.lf,.slice x.dA x.dn x.dc,.slice x.gA x.gn x.gc,.slice x.fA x.fn x.fc,.slice x.pA x.pn x.pc]
structure uc(w:World)(B:Nat)(x:HC)(h:Np.Held):Prop where
 zone:x.z.data.toList=h.zone
 name:x.s.data.toList=h.signed.set.name
 short:x.s.size<=140737488355328
 type:x.ty=h.signed.set.type
 life:x.lf=h.signed.set.life
 data:SlR bn 3 w B (.slice x.dA x.dn x.dc) h.signed.set.data
 sigs:SlR dj 6 w B (.slice x.gA x.gn x.gc) h.signed.sigs
 spans:SlR dU 2 w B (.slice x.pA x.pn x.pc) h.spans
theorem uc.keep{w w':World}{B:Nat}{x:HC}{h:Np.Held}(k:uc w B x h)(hb:Below B w w'):uc w' B x h:=⟨k.zone,k.name,k.short,k.type,k.life,k.data.keep de hb,k.sigs.keep ep hb,k.spans.keep iw hb⟩
theorem TV{w:World}{B n c:Nat}{A:Option Addr}{xs:List Np.Held}(h:SlR ii 8 w B (.slice A n c) xs){k:Nat}{x:Np.Held}(hx:xs[k]?=some x):∃ (b o:Nat) (z s:ByteArray) (dv sv fv pv:Value),A=some ⟨b,o,none⟩/\b<B/\z.data.toList=x.zone/\s.data.toList=x.signed.set.name/\s.size<=140737488355328/\
 SlR bn 3 w B dv x.signed.set.data/\SlR dj 6 w B sv x.signed.sigs/\SlR dU 2 w B fv x.fresh/\SlR dU 2 w B pv x.spans/\
 ag w b (o+k * 8) [.string z,.string s,.int .i64 x.signed.set.type,.int .i64 x.signed.set.life,dv,sv,fv,pv]:=by
 obtain⟨A',c',hA',_,_,bK⟩:=h
 cases hA'
 obtain⟨b,o,e,hA,bG,hlen,hce,z,s,dv,sv,fv,pv,he,h1,_,h3,h4,h5,h6,h7,h8⟩:=bK k _ hx;subst he;exact⟨b,o,z,s,dv,sv,fv,pv,hA,bG,h1,h3,h4,h5,h6,h7,h8,hce⟩
theorem TH{w:World}{B n c:Nat}{A:Option Addr}{xs:List Np.Held}(h:SlR ii 8 w B (.slice A n c) xs):∃ L:List (HC×Np.Held),L.map (·.2)=xs/\L.length=n/\∀ i x,L[i]?=some x->uc w B x.1 x.2/\∃ b o,A=some ⟨b,o,none⟩/\b<B/\ag w b (o+i * 8) x.1.cells.toList:=by
 have hn:n=xs.length:=by
  obtain⟨A',c',hA,_,_,_⟩:=h;simp only[Value.slice.injEq] at hA;exact hA.2.1
 have aH:∀ k,k<=xs.length->∃ L:List (HC×Np.Held),L.map (·.2)=xs.take k/\∀ i x,L[i]?=some x->uc w B x.1 x.2/\∃ b o,A=some ⟨b,o,none⟩/\b<B/\ag w b (o+i * 8) x.1.cells.toList:=by
  intro k
  induction k with
  | zero=>exact λ_=>⟨[],by simp,λi x hx=>by simp at hx⟩
  | succ k ih=>
   intro hk;obtain⟨L,h1,h2⟩:=ih (by omega);have hlen:L.length=k:=by have:=Qd List.length h1;simp at this;omega
   obtain⟨b,o,z,s,dv,sv,fv,pv,hA,hb,hz,hs,j8,aW,aM,pC,pO,hce⟩:=TV h (aQ (by omega:k<xs.length));obtain⟨d1,d2,rfl,_⟩:=al aW;obtain⟨g1,g2,rfl,_⟩:=al aM;obtain⟨t1,t2,rfl,_⟩:=al pC;obtain⟨p1,p2,rfl,_⟩:=al pO;refine⟨L ++ [(⟨z,s,xs[k].signed.set.type,xs[k].signed.set.life,d1,xs[k].signed.set.data.length,d2,g1,xs[k].signed.sigs.length,g2,t1,xs[k].fresh.length,t2,p1,xs[k].spans.length,p2⟩,xs[k])],by rw[List.map_append,h1,fQ (by omega)];rfl,λi x hx=>?_⟩;rcases Nat.lt_or_ge i L.length with aa | lP
   ·rw[List.getElem?_append_left aa] at hx;exact h2 i x hx
   ·rw[oQ lP] at hx;have h0:i - L.length=0:=by have:=(cQ.1 hx).1;simp at this;omega
    rw[h0] at hx;simp at hx;subst hx;obtain rfl:i=k:=by omega
    exact⟨⟨hz,hs,j8,rfl,rfl,aW,aM,pO⟩,b,o,hA,hb,hce⟩
 obtain⟨L,h1,h2⟩:=aH xs.length (bQ _);rw[List.take_length] at h1;exact⟨L,h1,by rw[hn,<-h1,List.length_map],h2⟩
theorem Tn(v:Value)(A:Option Addr)(n c:Nat)(hv:v = .slice A n c)(t:Int)(w:World) :
 Calls prog 58 #[v,.int .i64 t] w λe w'=>e = .returned (.func (.func 127) #[] #[.pointer (some ⟨w.heap.size,0,none⟩),.pointer (some ⟨w.heap.size+1,0,none⟩)])/\w'=(w.alloc (.cells #[v] 52)).alloc (.cells #[.int .i64 t] 3):=by
 subst hv;go_enter func58,ntmps58;go_wp2_with fail;go_ret;exact⟨rfl,rfl⟩
theorem Sa:∀ args w,(callFunc 127 args).run prog w = .ok (.enter 127 args) w:=enters_of func127 (by kernel_rfl) rfl
theorem To(L:List (HC×Np.Held))(t:Int)(X Tb n c:Nat)(Dr:Nat->Prop)(A:Option Addr)(w:World)(hX:Dr X)(hT:Dr Tb)(kX:w.cell? ⟨X,0,none⟩=some (.slice A n c))(kT:w.cell? ⟨Tb,0,none⟩=some (.int .i64 t))(xX:L.length=n)(FB:n<=20000)
 (hL:∀ i x,L[i]?=some x->∃ b o,A=some ⟨b,o,none⟩/\Dr b/\ag w b (o+i * 8) x.1.cells.toList)
 (hp:∀ x∈L,∀ W,dH Dr w W->SlR dU 2 W W.heap.size (.slice x.1.pA x.1.pn x.1.pc) x.2.spans) :
 xr prog 127 (λy=>#[y,.pointer (some ⟨X,0,none⟩),.pointer (some ⟨Tb,0,none⟩)]) (λx:HC×Np.Held=>#[.agg x.1.cells]) (L.filter λx=>Np.zz x.2.spans t) Dr w:=by
 intro l J Jx S W hW hJ Bi hY hS hS' h0;have k1:=(hW.cell (p:=⟨X,0,none⟩) hX).trans kX;have HW:=jq hW;have HL:=jq hL;have HP:=jq hp;have kl:=jq xX;have KT:=jq kT;have uK:=hW.1;obtain⟨p,FH⟩:∃ p:HC×Np.Held->Bool,(λx=>Np.zz x.2.spans t)=p:=⟨_,rfl⟩;have P0:=jq (λx:HC×Np.Held=>congrFun FH x);rw[FH] at hY |-;clear hW hL hp kX xX kT FH;refine callsIn_of_wp func127 rfl trivial ?_ rfl;simp only[ntmps127,List.size_toArray,List.length_cons,List.length_nil,Nat.reduceAdd,Nat.reduceSub,Array.replicate_succ,Array.replicate_zero,List.push_toArray,List.append_toArray,List.nil_append,List.cons_append];gi_wp2_with fail;gi_loopw [8] (λi wr=>∃ (k:Nat) (S1:Nat->Prop),k<=n/\i = .int .i64 k/\J ((L.take k).filter p) S1 wr/\(∀ k,S1 k->k<wr.heap.size)/\(∀ k,S1 k->S k\/W.heap.size<=k)/\Hid (dH Dr w wr)/\W.heap.size<=wr.heap.size) (λi _=>n - (intOf i).toNat)
 case atStart=>exact⟨0,S,jQ _,rfl,by simpa using h0,hS',λ_ e=>.inl e,HW,bQ _⟩
 case round=>
  obtain⟨k,S1,hk,rfl,hj,du,aV,bD,an⟩:=hrel;by_cases aa:k<n
  ·obtain⟨x,ab⟩:∃ x,L[k]?=some x:=⟨_,aQ (by rw[kl.out];exact aa)⟩;obtain⟨b,o,rfl,hb,hce⟩:=HL.out k x ab;have fo:dH Dr w wr:=bD.out;have DC:=jq (gQ ab);obtain⟨⟨xz,xs,xty,xlf,dA,dn,dc,gA,gn,gc,fA,fn,fc,pA,pn,pc⟩,cc⟩:=x;have f0:wr.cell? ⟨b,o+k * 8,none⟩=some (.string xz):=(fo.cell (p:=⟨b,o+k * 8,none⟩) hb).trans (hce 0 _ rfl);have f1:wr.cell? ⟨b,o+k * 8+1,none⟩=some (.string xs):=(fo.cell (p:=⟨b,o+k * 8+1,none⟩) hb).trans (hce 1 _ rfl);have f2:wr.cell? ⟨b,o+k * 8+2,none⟩=some (.int .i64 xty):=(fo.cell (p:=⟨b,o+k * 8+2,none⟩) hb).trans (hce 2 _ rfl);have f3:wr.cell? ⟨b,o+k * 8+3,none⟩=some (.int .i64 xlf):=(fo.cell (p:=⟨b,o+k * 8+3,none⟩) hb).trans (hce 3 _ rfl);have f4:wr.cell? ⟨b,o+k * 8+4,none⟩=some (.slice dA dn dc):=(fo.cell (p:=⟨b,o+k * 8+4,none⟩) hb).trans (hce 4 _ rfl);have f5:wr.cell? ⟨b,o+k * 8+5,none⟩=some (.slice gA gn gc):=(fo.cell (p:=⟨b,o+k * 8+5,none⟩) hb).trans (hce 5 _ rfl);have f6:wr.cell? ⟨b,o+k * 8+6,none⟩=some (.slice fA fn fc):=(fo.cell (p:=⟨b,o+k * 8+6,none⟩) hb).trans (hce 6 _ rfl);have f7:wr.cell? ⟨b,o+k * 8+7,none⟩=some (.slice pA pn pc):=(fo.cell (p:=⟨b,o+k * 8+7,none⟩) hb).trans (hce 7 _ rfl);have qr:=jq ab;clear hce ab;have bO:(0:Int)<=(k:Int):=by omega
   have bM:(k:Int)<(n:Int):=by omega
   obtain⟨w2,ai⟩:∃ w2,wr.alloc (.cells #[.string xz,.string xs,.int .i64 xty,.int .i64 xlf,.slice dA dn dc,.slice gA gn gc,.slice fA fn fc,.slice pA pn pc] 57)=w2:=⟨_,rfl⟩;have aJ:w2.heap.size=wr.heap.size+1:=by rw[<-ai];simp
   have ac:Below wr.heap.size wr w2:=by rw[<-ai];exact (vQ _ _).alloc (bQ _) _
   have ji:=jq (ku _ _ rfl ai);have p0:=ji.out 0 _ rfl;have p1:=ji.out 1 _ rfl;have p2:=ji.out 2 _ rfl;have p3:=ji.out 3 _ rfl;have p4:=ji.out 4 _ rfl;have p5:=ji.out 5 _ rfl;have p6:=ji.out 6 _ rfl;have p7:=ji.out 7 _ rfl;have tE:dH Dr w w2:=fo.of_below ac;have qT:=(tE.cell (p:=⟨Tb,0,none⟩) hT).trans KT.out;have aj:=jq ac;have dT:=jq tE;clear fo ac tE;gi_wp2_with fail;refine⟨trivial,rfl,?_⟩;refine (callsIn_wide.2 (Tl _ cc.spans t w2 (HP.out _ DC.out w2 dT.out))).mono ?_;rw[P0.out ((⟨xz,xs,xty,xlf,dA,dn,dc,gA,gn,gc,fA,fn,fc,pA,pn,pc⟩:HC),cc)];rintro e w3 ⟨rfl,ak⟩;have bF:=jq (ji.out.keep ak (by omega));replace p0:=bF.out 0 _ rfl;replace p1:=bF.out 1 _ rfl;replace p2:=bF.out 2 _ rfl;replace p3:=bF.out 3 _ rfl;replace p4:=bF.out 4 _ rfl;replace p5:=bF.out 5 _ rfl;replace p6:=bF.out 6 _ rfl;replace p7:=bF.out 7 _ rfl;have el:=ak.size;have pt:Below wr.heap.size wr w3:=aj.out.trans (ak.mono (by omega));have th:=hJ _ _ _ _ hj (ItStep.of_below pt);have ar:=jq (bD.out.of_below pt);have HT:=jq (NV (p:=p) qr.out);clear ai ak hj qT
   cases bp:p (⟨xz,xs,xty,xlf,dA,dn,dc,gA,gn,gc,fA,fn,fc,pA,pn,pc⟩,cc) with
   | false=>
    have HX:=jq bp;clear bp pt;gi_wp2_with fail;refine⟨λ_ _=>trivial,?_⟩;gi_wp2_with fail;go_roundw
    case rel=>exact⟨k+1,S1,by omega,by go_num,by rw[HT.out,HX.out];exact th,λk e=>by have:=du k e;omega,aV,ar,by omega⟩
    case measure=>simp[intOf] <;> omega
   | true=>
    have HX:=jq bp;have fD:(L.take k).filter p ++ [(⟨xz,xs,xty,xlf,dA,dn,dc,gA,gn,gc,fA,fn,fc,pA,pn,pc⟩,cc)] <+: L.filter p:=by
     have h1:=HT.out;rw[HX.out,Qb rfl] at h1;rw[<-h1];exact NW p L (k+1)
    obtain⟨fn',tmps,assign,body,hy,hR⟩:=hY ((L.take k).filter p) (⟨xz,xs,xty,xlf,dA,dn,dc,gA,gn,gc,fA,fn,fc,pA,pn,pc⟩,cc) S1 w3 fD th (λk e=>by have:=du k e;omega) (by omega);have lq:Sem.run prog (Instr.yield l #[.agg #[.string xz,.string xs,.int .i64 xty,.int .i64 xlf,.slice dA dn dc,.slice gA gn gc,.slice fA fn fc,.slice pA pn pc]]) w3 = .ok (.round l fn' tmps assign body) w3:=hy;have Aw:=jq fD;clear hy fD bp pt;gi_wp2_with fail;refine⟨rfl,hR.mono ?_⟩;rintro e w4 ⟨S4,aN,yW,Fz,(⟨rfl,EQ⟩ | ⟨rfl,ER⟩)⟩
    ·have ba:Hid (dH Dr w w4):=jq (ar.out.round aN (λk e hd=>by
      rcases aV k e with e | e
      ·exact hS k e hd
      ·have:=(HW.out.2 k hd).1;omega))
     have em:=aN.size;clear aN lq hR;gi_wp2_with fail;go_roundw
     case rel=>
      refine⟨k+1,S4,by omega,by go_num,by rw[HT.out,HX.out];exact EQ,Fz,λk e=>?_,ba,by omega⟩;rcases yW k e with e | e
      ·exact aV k e
      ·right;omega
     case measure=>simp[intOf] <;> omega
    ·have em:=aN.size;clear aN lq hR;gi_wp2_with fail;refine bodyPost_ret (results_none rfl _ _ _) rfl ?_;refine⟨⟨_,rfl⟩,.inr ⟨_,S4,Aw.out,ER,λk e=>?_⟩⟩;rcases yW k e with e | e
     ·exact aV k e
     ·right;omega
  ·have fL:Hid (L.take k=L):=jq (kQ (by rw[kl.out];omega));rw[fL.out] at hj;gi_wp2_with fail;go_end0;exact⟨⟨_,rfl⟩,.inl ⟨S1,hj,aV⟩⟩
end
end Go.Proofs.YtfnopgdcaanaiaaGreatDoor
