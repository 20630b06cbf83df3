/- Parts of the proof. No condition. -/
import Derived.Test.YtfnopgdcaanaiaaGreatDoorW16
import Derived.Test.YtfnopgdcaanaiaaGreatDoorW17
import Derived.Test.YtfnopgdcaanaiaaGreatDoorW18
import Derived.Test.YtfnopgdcaanaiaaGreatDoorW19
set_option linter.all false
set_option maxRecDepth 100000
set_option maxHeartbeats 8000000
namespace Go.Proofs.YtfnopgdcaanaiaaGreatDoor
open Go.Proofs.Tryz
section
open Go.RowKit


def ie(W:World)(B:Nat)(e:List Value)(x:Np.Held):Prop:=∃ (z s:ByteArray) (dv sv fv pv:Value),e = [.string z,.string s,.int .i64 x.signed.set.type,.int .i64 x.signed.set.life,dv,sv,fv,pv]/\z.data.toList=x.zone/\z.size<=140737488355328/\s.data.toList=x.signed.set.name/\s.size<=140737488355328/\
 SlR bK 3 W B dv x.signed.set.data/\SlR dl 6 W B sv x.signed.sigs/\SlR eJ 2 W B fv x.fresh/\SlR eJ 2 W B pv x.spans
theorem sf:dL ie:=λ_ _ _ _ _ ⟨z,s,dv,sv,fv,pv,h0,h1,h2,h3,h4,h5,h6,h7,h8⟩ hb=>⟨z,s,dv,sv,fv,pv,h0,h1,h2,h3,h4,h5.keep cM hb,h6.keep dD hb,h7.keep iu hb,h8.keep iu hb⟩
theorem sh:dZ ie:=λ_ _ _ _ _ ⟨z,s,dv,sv,fv,pv,h0,h1,h2,h3,h4,h5,h6,h7,h8⟩ hb=>⟨z,s,dv,sv,fv,pv,h0,h1,h2,h3,h4,h5.more dt hb,h6.more eu hb,h7.more pW hb,h8.more pW hb⟩
theorem Ia{w:World}{B n c:Nat}{A:Option Addr}{xs:List Np.Held}(h:SlR ie 8 w B (.slice A n c) xs){k:Nat}{x:Np.Held}(hx:xs[k]?=some x):∃ (b o:Nat) (z s:ByteArray) (dv sv fv pv:Value),A=some ⟨b,o,none⟩/\b<B/\z.data.toList=x.zone/\s.data.toList=x.signed.set.name/\
 SlR bK 3 w B dv x.signed.set.data/\SlR dl 6 w B sv x.signed.sigs/\SlR eJ 2 w B fv x.fresh/\SlR eJ 2 w B pv x.spans/\
 w.cell? ⟨b,o+k * 8,none⟩=some (.string z)/\w.cell? ⟨b,o+k * 8+1,none⟩=some (.string s)/\w.cell? ⟨b,o+k * 8+2,none⟩=some (.int .i64 x.signed.set.type)/\w.cell? ⟨b,o+k * 8+3,none⟩=some (.int .i64 x.signed.set.life)/\w.cell? ⟨b,o+k * 8+4,none⟩=some dv/\w.cell? ⟨b,o+k * 8+5,none⟩=some sv/\w.cell? ⟨b,o+k * 8+6,none⟩=some fv/\w.cell? ⟨b,o+k * 8+7,none⟩=some pv:=by
 obtain⟨A',c',hA',_,_,bX⟩:=h
 cases hA'
 obtain⟨b,o,e,hA,bD,hlen,hce,z,s,dv,sv,fv,pv,he,h1,_,h3,_,h5,h6,h7,h8⟩:=bX k _ hx;subst he;exact⟨b,o,z,s,dv,sv,fv,pv,hA,bD,h1,h3,h5,h6,h7,h8,hce 0 _ rfl,hce 1 _ rfl,hce 2 _ rfl,hce 3 _ rfl,hce 4 _ rfl,hce 5 _ rfl,hce 6 _ rfl,hce 7 _ rfl⟩
theorem GN{sz:Nat} : ∀ (rows:List (List Value)) (i c:Nat) (u:Value) (r:List Value),(∀ q∈rows,q.length=sz)->c<sz->rows[i]?=some r->rows.flatten.set (i * sz+c) u=(rows.set i (r.set c u)).flatten
 | [],i,c,u,r,_,_,h=>by simp at h
 | q::rows,0,c,u,r,hl,hc,h=>by
   have e:q=r:=by simpa using h
   subst e;rw[List.flatten_cons,Nat.zero_mul,Nat.zero_add,List.set_append_left _ _ (by rw[hl q (by simp)];exact hc),List.set_cons_zero,List.flatten_cons]
 | q::rows,i+1,c,u,r,hl,hc,h=>by
   have hq:=hl q (by simp);have ih:=GN rows i c u r (λx hx=>hl x (mQ _ hx)) hc (by simpa using h);rw[List.flatten_cons,List.set_append_right _ _ (by rw[hq,Nat.succ_mul];omega),hq,show (i+1) * sz+c - sz=i * sz+c by rw[Nat.succ_mul];omega,ih,List.set_cons_succ,List.flatten_cons]
theorem bF.stored{α:Type}{R:aFJ α}(hk:dL R)(hs:gP R)(hm:dZ R){sz:Nat}{e:TypeId}{base:Nat}{M:Nat->Prop}{w:World}{g n cap:Nat}{xs:List α}(h:bF R sz e base M w (.slice (some ⟨g,0,none⟩) n cap) xs)(hn:xs.length=n){i c:Nat}{x y:α}(hi:xs[i]?=some x)(hc:c<sz)(u:Value)
 (hR:∀ r,r.length=sz->R (bA w M) w.heap.size r x->R (bA w M) w.heap.size (r.set c u) y):bF R sz e base M (w.setCell ⟨g,i * sz+c,none⟩ u) (.slice (some ⟨g,0,none⟩) n cap) (xs.set i y):=by
 obtain⟨rows,h1,h2,h3,h4⟩:=h;subst hn;have ed:=(cQ.1 hi).1;have hr:=aQ (show i<rows.length by omega);obtain⟨r,hr'⟩:∃ r,rows[i]?=some r:=⟨_,hr⟩;have hlen:=ct.rows_len (w:=bA w M) (B:=w.heap.size) h1 h4;have vt:M g:=h3 g rfl;have vD:Leaves' M w (w.setCell ⟨g,i * sz+c,none⟩ u) M:=Leaves'.setCell M w vt u;refine⟨rows.set i (r.set c u),by simp[h1],?_,h3,λj q z hq hz=>?_⟩
 ·rw[List.length_set,<-GN rows i c u r hlen hc hr'];exact (World.ownsRow.stored h2 (i * sz+c) u).1
 ·rw[List.getElem?_set] at hq hz;by_cases dp:i=j
  ·subst dp;rw[Qb rfl,Qb (by omega)] at hq;rw[Qb rfl,Qb ed] at hz
   cases hq;cases hz
   obtain⟨h5,h6⟩:=h4 i r x hr' hi;exact⟨by rw[List.length_set];exact h5,vD.read hk hs hm (hR r h5 h6)⟩
  ·rw[Qc dp] at hq hz;obtain⟨h5,h6⟩:=h4 j q z hq hz;exact⟨h5,vD.read hk hs hm h6⟩
theorem bF.frozenAt{α:Type}{R:aFJ α}{sz:Nat}{e:TypeId}{base:Nat}{M:Nat->Prop}{w:World}{g n cap:Nat}{xs:List α}(h:bF R sz e base M w (.slice (some ⟨g,0,none⟩) n cap) xs)(hn:xs.length=n)(j:Nat):w.frozen? ⟨g,j,none⟩=false:=by
 obtain⟨rows,h1,h2,_⟩:=h;subst hn;exact World.ownsRow.frozenAt h2 j
theorem qU:gP ie:=λ_ _ _ _ _ _ hM ⟨z,s,dv,sv,fv,pv,h0,h1,h2,h3,h4,h5,h6,h7,h8⟩=>⟨z,s,dv,sv,fv,pv,h0,h1,h2,h3,h4,h5.sans yu hM,h6.sans yz hM,h7.sans (λ_ _ _ _ _ _ _ h=>h) hM,h8.sans (λ_ _ _ _ _ _ _ h=>h) hM⟩
theorem aiZ:∀ (w:World) (B:Nat) (r:List Value) (y:Np.Held),ie w B r y->∀ u∈r,u.oneCell'=true:=λw B r y ⟨z,s,dv,sv,fv,pv,h0,_,_,_,_,h5,h6,h7,h8⟩ u hu=>by
 obtain⟨_,_,rfl,_⟩:=ak h5;obtain⟨_,_,rfl,_⟩:=ak h6;obtain⟨_,_,rfl,_⟩:=ak h7;obtain⟨_,_,rfl,_⟩:=ak h8;rw[h0] at hu;simp only[List.mem_cons,Qh,or_false] at hu;rcases hu with rfl | rfl | rfl | rfl | rfl | rfl | rfl | rfl <;> rfl
theorem bF.formSome{α:Type}{R:aFJ α}{sz:Nat}{e:TypeId}{base:Nat}{M:Nat->Prop}{w:World}{v:Value}{xs:List α}{n:Nat}(h:bF R sz e base M w v xs)(hn:xs.length=n)(h0:0<n):∃ g cap,v = .slice (some ⟨g,0,none⟩) n cap/\base<=g/\g<w.heap.size/\M g:=by
 obtain⟨rows,h1,h2,h3,h4⟩:=h;subst hn;rcases h2.2 with ⟨rfl,h⟩ | ⟨g,cap,cur,rfl,hb,hg,_⟩
 ·omega
 ·exact⟨g,cap,rfl,hb,(eQ.1 hg).1,h3 g rfl⟩
def Q7(ps:List (Np.Span×Np.Signed)):Prop:=∀ p∈ps,p.1.frm<p.1.til
theorem EJ{ps:List (Np.Span×Np.Signed)}(h:Q7 ps)(s:Np.Signed):Np.Q8 (Np.gl ps s):=λ_ ht=>h _ (Np.Eh.1 ht)
theorem QA(ps:List (Np.Span×Np.Signed))(s:Np.Signed):(Np.gl ps s).length<=ps.length:=by
 unfold Np.gl;rw[List.length_map];exact List.length_filter_le _ _
end
section
open Go.RowKit Go.MapKept Go.Shelf
theorem QN{k:Int}{l:List UInt8}(h:Np.wN k l=true):l.length<=60:=by
 unfold Np.wN at h;split at h
 ·simp only[Bool.and_eq_true] at h;exact (Np.tT h.1).1
 ·split at h
  ·exact (Np.tT h).1
  ·split at h
   ·unfold Np.jS at h;simp only[Bool.and_eq_true,Qa] at h;omega
   ·have:l = []:=by simpa using h
    rw[this];simp
theorem PX(k:Int):(Np.bY k).mostN<=1000000/\(Np.bY k).mostM<=1000000:=by
 unfold Np.bY;generalize k.toNat=n;by_cases h:n<9
 ·have:∀ m,m<9->(Np.rules.getD m ⟨0,0,0,0,0,false,false,false⟩).mostN<=1000000/\(Np.rules.getD m ⟨0,0,0,0,0,false,false,false⟩).mostM<=1000000:=by decide
  exact this n h
 ·have e:Np.rules[n]?=none:=List.getElem?_eq_none (by simp[Np.rules];omega);rw[List.getD_eq_getElem?_getD,e];decide
theorem Q5{z:Np.Zone}(v:Np.VZone z){x:Np.Signed}(hx:x∈z.sets)(hs:Np.qr x):KeyS x:=by
 obtain⟨ha,hv⟩:=Np.B7 v;obtain⟨h1,h2,h3,h4,h5,h6,h7,h8⟩:=Np.qY (hv x hx);have hf:=v.form x hx;refine⟨by have:=(Np.tT h1).1;omega,by omega,by omega,by omega,λd hd=>?_,by have:=hf.1;omega,λg hg=>?_⟩
 ·have hd':=Np.Af h8 d hd;have hd'':=hd';unfold Np.jt at hd'';simp only[Bool.and_eq_true,Qa] at hd'';obtain⟨⟨⟨⟨a1,a2⟩,a3,a4⟩,_⟩,a5⟩:=hd'';have b1:=Np.Jt x.set.type;have b2:=PX x.set.type;have b3:=QN a5;exact⟨by omega,by omega,by omega⟩
 ·obtain⟨i,hi⟩:=List.mem_iff_getElem?.1 hg
  have:=hf.2 i g hi
  have Ai:=(Np.tT ha).1;have k1:=this.key;have k2:=this.alg;have k3:=this.win;exact⟨by rw[this.zone];omega,by omega,by omega,by omega,by omega,hs g hg⟩
theorem akX{P:Program}(w:World)(t kt et:TypeId)(ht:P.underlying t=some (.map kt et))(hk:P.underlying kt=some .string)(r:Nat)(kvs:List (List UInt8×Value))(hr:dj r kvs w)(key:List UInt8)(z:Value)(hz:(zeroValue et).run P w = .ok z w) :
 (Instr.lookup t (.map (some r)) (av key) true).run P w = .ok (.tuple #[(kvs.lookup key).getD z,.bool (kvs.lookup key).isSome]) w:=by
 obtain⟨es,c,hr,he⟩:=hr;have hf:=C6 key es.toList kvs 0 he;have hc:∀ b,(Instr.checkKey b 10000 kt (av key)).run P w = .ok () w:=λb=>MapKept.run_checkKey (k:=av key) hk (by simp[MapKept.IsKey]) b 9999
 cases hl:kvs.lookup key with
 | none=>simp[Instr.lookup,run_underlying ht,MapKept.run_getObj_map hr,hc,MapKept.run_findKey hk (hf.2 hl),Result.andThen,hz]
 | some v=>
  obtain⟨j,hj⟩:=hf.1 v hl;simp[Instr.lookup,run_underlying ht,MapKept.run_getObj_map hr,hc,MapKept.run_findKey hk hj,Result.andThen]
theorem P1{P:Program}(w:World)(t kt et:TypeId)(ht:P.underlying t=some (.map kt et))(hk:P.underlying kt=some .string)
 (r:Nat) (kvs:List (List UInt8×Value)) (hr:dj r kvs w) (key:List UInt8) (val:Value) (gI:kvs.lookup key=none) :
 ∃ w',(Instr.mapUpdate t (.map (some r)) (av key) val).run P w = .ok () w'/\dj r (kvs ++ [(key,val)]) w'/\Turned r w w':=by
 obtain⟨es,c,hr,he⟩:=hr;have hf:=(C6 key es.toList kvs 0 he).2 gI;have hc:(Instr.checkKey false 10000 kt (av key)).run P w = .ok () w:=MapKept.run_checkKey (k:=av key) hk (by simp[MapKept.IsKey]) false 9999;have dz:(Instr.mapUpdate t (.map (some r)) (av key) val).run P w = .ok () { w with heap:=w.heap.setIfInBounds r (.map (es.push { key:=av key,val:=val,born:=c }) (c+1)) }:=by
  simp[Instr.mapUpdate,run_underlying ht,MapKept.run_getObj_map hr,hc,MapKept.run_findKey hk hf,MapKept.run_setObj_map _ hr,Result.andThen]
 have hl:r<w.heap.size:=(eQ.1 hr).1;exact⟨_,dz,⟨_,_,by simp[hl];exact⟨rfl,rfl⟩,by simp[he]⟩,⟨rfl,rfl,rfl,by simp,λi hi=>by simp[Ne.symm hi]⟩⟩
theorem dj.stays{r:Nat}{kvs:List (List UInt8×Value)}{w w':World}(h:dj r kvs w)(hb:w'.heap[r]?=w.heap[r]?):dj r kvs w':=by
 obtain⟨es,c,h,h2⟩:=h;exact⟨es,c,hb.trans h,h2⟩
abbrev PT:=Np.Signed×List Np.Span×Value
def qq(zn:ByteArray)(w:World)(B:Nat)(r:List Value)(x:PT):Prop:=∃ (s:ByteArray) (dv sv:Value) (A:Option Addr) (n c:Nat),r = [.string zn,.string s,.int .i64 x.1.set.type,.int .i64 x.1.set.life,dv,sv,x.2.2,.slice none 0 0]/\x.2.2 = .slice A n c/\s.data.toList=x.1.set.name/\s.size<=140737488355328/\
 SlR bK 3 w B dv x.1.set.data/\SlR dl 6 w B sv x.1.sigs
theorem Ez(zn:ByteArray):dL (qq zn):=λ_ _ _ _ _ ⟨s,dv,sv,A,n,c,h0,h1,h2,h3,h4,h5⟩ hb=>⟨s,dv,sv,A,n,c,h0,h1,h2,h3,h4.keep cM hb,h5.keep dD hb⟩
theorem EA(zn:ByteArray):dZ (qq zn):=λ_ _ _ _ _ ⟨s,dv,sv,A,n,c,h0,h1,h2,h3,h4,h5⟩ hb=>⟨s,dv,sv,A,n,c,h0,h1,h2,h3,h4.more dt hb,h5.more eu hb⟩
theorem EB(zn:ByteArray):gP (qq zn):=λ_ _ _ _ _ _ hM ⟨s,dv,sv,A,n,c,h0,h1,h2,h3,h4,h5⟩=>⟨s,dv,sv,A,n,c,h0,h1,h2,h3,h4.sans yu hM,h5.sans yz hM⟩
theorem ajQ(zn:ByteArray):∀ (w:World) (B:Nat) (r:List Value) (y:PT),qq zn w B r y->∀ u∈r,u.oneCell'=true:=λw B r y ⟨s,dv,sv,A,n,c,h0,h1,_,_,h4,h5⟩ u hu=>by
 obtain⟨_,_,rfl,_⟩:=ak h4;obtain⟨_,_,rfl,_⟩:=ak h5;rw[h0,h1] at hu;simp only[List.mem_cons,Qh,or_false] at hu;rcases hu with rfl | rfl | rfl | rfl | rfl | rfl | rfl | rfl <;> rfl
abbrev xY:TypeId:=57
structure PubR(base:Nat)(M:Nat->Prop)(zn:ByteArray)(xs:List PT)(ov:Value)(w:World):Prop where
 row:bF (qq zn) 8 xY base M w ov xs
 fresh:∀ x∈xs,aN base w x.2.2 x.2.1
 apart:∀ (i j:Nat) (x y:PT) (g:Nat),xs[i]?=some x->xs[j]?=some y->x.2.2.ownBlock=some g->y.2.2.ownBlock=some g->i=j
 off:∀ x∈xs,∀ g,x.2.2.ownBlock=some g->ov.ownBlock≠some g/\M g
def sU(xs:List PT)(ov:Value)(k:Nat):Prop:=ov.ownBlock=some k\/∃ x∈xs,x.2.2.ownBlock=some k
theorem bF.inM{α:Type}{R:aFJ α}{sz:Nat}{e:TypeId}{base:Nat}{M:Nat->Prop}{w:World}{v:Value}{xs:List α}(h:bF R sz e base M w v xs):∀ g,v.ownBlock=some g->M g:=by
 obtain⟨rows,h1,h2,h3,h4⟩:=h;exact h3
section
variable {base:Nat} {M:Nat->Prop} {zn:ByteArray} {xs:List PT} {ov:Value} {w:World}
theorem PubR.lt(h:PubR base M zn xs ov w){k:Nat}(hk:sU xs ov k):base<=k/\k<w.heap.size/\M k:=by
 rcases hk with hk | ⟨x,hx,hk⟩
 ·have:=h.row.lt k hk;exact⟨this.1,this.2,h.row.inM k hk⟩
 ·have:=World.ownsRow.lt (h.fresh x hx) k hk;exact⟨this.1,this.2,(h.off x hx k hk).2⟩
theorem PubR.leaves(h:PubR base M zn xs ov w){M':Nat->Prop}{w':World}(hl:Leaves' M w w' M')(hk:∀ g,sU xs ov g->w'.heap[g]?=w.heap[g]?/\M' g):PubR base M' zn xs ov w':=
 ⟨h.row.leaves (Ez zn) (EB zn) (EA zn) hl (λg hg=>hk g (.inl hg)),λx hx=>gY (h.fresh x hx) (λg hg=>(hk g (.inr ⟨x,hx,hg⟩)).1),h.apart,λx hx g hg=>⟨(h.off x hx g hg).1,(hk g (.inr ⟨x,hx,hg⟩)).2⟩⟩
theorem PubR.keep(h:PubR base M zn xs ov w){w':World}(hb:Below w.heap.size w w'):PubR base M zn xs ov w':=
 h.leaves (Leaves'.of_below hb) (λg hg=>⟨hb.block g (h.lt hg).2.1,(h.lt hg).2.2⟩)
theorem PubR.trim(h:PubR base M zn xs ov w):PubR base (λk=>M k/\k<w.heap.size) zn xs ov w:=
 h.leaves ((Leaves'.refl M w).more (λ_ e=>.inl e.1)) (λ_ hg=>⟨rfl,(h.lt hg).2.2,(h.lt hg).2.1⟩)
theorem PubR.nil(base:Nat)(M:Nat->Prop)(zn:ByteArray)(w:World):PubR base M zn [] (.slice none 0 0) w:=
 ⟨bF.nil w,(λx hx=>by cases hx),(λi j x y g h=>by simp at h),(λx hx=>by cases hx)⟩
theorem PubR.pushed(h:PubR base M zn xs ov w){s:Np.Signed}{v':Value}{w':World}(ho:bF (qq zn) 8 xY base (λk=>M k\/v'.ownBlock=some k) w' v' (xs ++ [(s,[],.slice none 0 0)]))(hg:w.grownBy w' ov.ownBlock)(hat:v'.ownBlock=ov.ownBlock\/v'.ownBlock=some w.heap.size) :
 PubR base (λk=>M k\/v'.ownBlock=some k) zn (xs ++ [(s,[],.slice none 0 0)]) v' w':=by
 have get:∀ (k:Nat) (z:PT) (b:Nat),(xs ++ [((s,[],Value.slice none 0 0):PT)])[k]?=some z->z.2.2.ownBlock=some b->xs[k]?=some z:=λk z b hz ym=>by
  rw[List.getElem?_append] at hz;split at hz
  ·exact hz
  ·have:=gQ hz
   rw[List.mem_singleton] at this;subst this;simp[Value.ownBlock] at ym
 refine⟨ho,λx hx=>?_,λi j x y b hx hy fE iF=>h.apart i j x y b (get i x b hx fE) (get j y b hy iF) fE iF,λx hx g rG=>?_⟩
 ·rcases List.mem_append.1 hx with hx | hx
  ·exact gY (h.fresh x hx) (λg rG=>hg.block g (World.ownsRow.lt (h.fresh x hx) g rG).2 (λe=>(h.off x hx g rG).1 e.symm))
  ·rw[List.mem_singleton] at hx;subst hx;exact aN.nil _ _
 ·rcases List.mem_append.1 hx with hx | hx
  ·refine⟨λe=>?_,.inl (h.off x hx g rG).2⟩;rcases hat with e' | e'
   ·exact (h.off x hx g rG).1 (e' ▸ e)
   ·rw[e'] at e
    have:=(World.ownsRow.lt (h.fresh x hx) g rG).2
    have:=Option.some.inj e
    omega
  ·rw[List.mem_singleton] at hx;subst hx;simp[Value.ownBlock] at rG
theorem PubR.changed{g0 n cap:Nat}(h:PubR base M zn xs (.slice (some ⟨g0,0,none⟩) n cap) w)(hn:xs.length=n){i:Nat}{x:PT}(hi:xs[i]?=some x){v':Value}{ps':List Np.Span}{w':World}(tA:w'.os=w.os)(XJ:w'.tape=w.tape)(Xd:w'.output=w.output)(an:w.heap.size<=w'.heap.size)
 (DI:∀ k,k<w.heap.size->x.2.2.ownBlock≠some k->w'.heap[k]?=w.heap[k]?) (ho:aN base w' v' ps') (hat:∀ k,v'.ownBlock=some k->x.2.2.ownBlock=some k\/w.heap.size<=k) :
 PubR base (λk=>M k\/v'.ownBlock=some k) zn (xs.set i (x.1,ps',v')) (.slice (some ⟨g0,0,none⟩) n cap) (w'.setCell ⟨g0,i * 8+6,none⟩ v'):=by
 have hx:=gQ hi;have ed:=(cQ.1 hi).1;have Ib:=h.row.lt g0 rfl;have vD:Leaves' M w w' (λk=>M k\/v'.ownBlock=some k):=⟨tA,XJ,Xd,an,λk hk hm=>⟨λe=>by
  rcases e with e | e
  ·exact hm e
  ·rcases hat k e with e | e
   ·exact hm (h.off x hx k e).2
   ·omega,DI k hk (λe=>hm (h.off x hx k e).2)⟩⟩
 have Xq:=h.row.leaves (Ez zn) (EB zn) (EA zn) vD (λg hg=>⟨DI g (h.row.lt g hg).2 (λe=>(h.off x hx g e).1 hg),.inl (h.row.inM g hg)⟩);have Xr:=bF.stored (Ez zn) (EB zn) (EA zn) (y:=(x.1,ps',v')) Xq hn hi (c:=6) (by omega) v' (λr hr hR=>by
  obtain⟨s,dv,sv,A,n,c,rfl,h1,h2,h3,h4,h5⟩:=hR;obtain⟨A',c',rfl⟩:=yr ho;exact⟨s,dv,sv,A',_,c',rfl,rfl,h2,h3,h4,h5⟩)
 have tJ:v'.ownBlock≠some g0:=λe=>by
  rcases hat g0 e with e | e
  ·exact (h.off x hx g0 e).1 rfl
  ·omega
 have oS:∀ k,k≠g0->(w'.setCell ⟨g0,i * 8+6,none⟩ v').heap[k]?=w'.heap[k]?:=λk hk=>wQ _ _ _ _ hk;refine⟨Xr,λy hy=>?_,λa b y z g hy hz eq ji=>?_,λy hy g eq=>?_⟩
 ·obtain⟨j,hj,rfl⟩:=nQ.1 hy;rw[List.length_set] at hj;rw[List.getElem_set];split
  ·exact gY ho (λg hg=>oS g (λe=>tJ (e ▸ hg)))
  ·rename_i hne;have hj':=List.getElem_mem hj;refine gY (h.fresh _ hj') (λg hg=>(oS g (λe=>(h.off _ hj' g hg).1 (by rw[e];rfl))).trans (DI g (World.ownsRow.lt (h.fresh _ hj') g hg).2 (λe=>hne (h.apart i j _ _ g hi (aQ hj) e hg))))
 ·have get:∀ (k:Nat) (z:PT),(xs.set i (x.1,ps',v'))[k]?=some z->(k=i/\z.2.2=v')\/(k≠i/\xs[k]?=some z):=λk z hz=>by
   rw[List.getElem?_set] at hz;split at hz
   ·rename_i e;subst e
    first | rw[Qb ed] at hz | skip
    cases hz
    exact .inl ⟨rfl,rfl⟩
   ·rename_i e;exact .inr ⟨λe'=>e e'.symm,hz⟩
  rcases get a y hy with ⟨rfl,ey⟩ | ⟨na,hy'⟩
  ·rcases get b z hz with ⟨rfl,_⟩ | ⟨nb,hz'⟩
   ·rfl
   ·rw[ey] at eq;rcases hat g eq with e | e
    ·exact h.apart a b _ _ g hi hz' e ji
    ·have:=(World.ownsRow.lt (h.fresh z (gQ hz')) g ji).2
     omega
  ·rcases get b z hz with ⟨rfl,ez⟩ | ⟨nb,hz'⟩
   ·rw[ez] at ji;rcases hat g ji with e | e
    ·exact h.apart a b _ _ g hy' hi eq e
    ·have:=(World.ownsRow.lt (h.fresh y (gQ hy')) g eq).2
     omega
   ·exact h.apart a b _ _ g hy' hz' eq ji
 ·obtain⟨j,hj,rfl⟩:=nQ.1 hy;rw[List.length_set] at hj;rw[List.getElem_set] at eq;split at eq
  ·exact⟨λe=>tJ (by rw[eq];exact e.symm ▸ rfl),.inr eq⟩
  ·exact⟨(h.off _ (List.getElem_mem hj) g eq).1,.inl (h.off _ (List.getElem_mem hj) g eq).2⟩
theorem PubR.slr(h:PubR base M zn xs ov w)(hz:zn.size<=140737488355328)(hl:xs.length<=140737488355328)(xZ:∀ x∈xs,x.2.1.length<=140737488355328){Mq:Nat->Prop}(hM:∀ k,Mq k->M k/\¬ sU xs ov k):SlR ie 8 (bA w Mq) w.heap.size ov (xs.map λx=>⟨zn.data.toList,x.1,x.2.1,[]⟩):=by
 obtain⟨rows,h1,h2,h3,h4⟩:=h.row;have h5:ct ie 8 xY base w.heap.size (bA w Mq) ov (xs.map λx=>(⟨zn.data.toList,x.1,x.2.1,[]⟩:Np.Held)):=by
  refine⟨rows,by simp[h1],?_,λi r y hr hy=>?_⟩
  ·rw[List.length_map];exact gY h2 (λg hg=>ls (λhm=>(hM g hm).2 (.inl hg)))
  ·rw[List.getElem?_map] at hy;obtain⟨x,hx,rfl⟩:=Option.map_eq_some_iff.1 hy;obtain⟨h6,s,dv,sv,A,n,c,rfl,e1,e2,e3,e4,e5⟩:=h4 i r x hr hx;have I1:=gQ hx;have h7:aN base (bA w Mq) x.2.2 x.2.1:=gY (h.fresh x I1) (λg hg=>ls (λhm=>(hM g hm).2 (.inr ⟨x,I1,hg⟩)));have h8:=h7.slr (xZ x I1);rw[kB] at h8;exact⟨h6,zn,s,dv,sv,x.2.2,.slice none 0 0,rfl,rfl,hz,e2,e3,e4.sans yu (λk hk=>(hM k hk).1),e5.sans yz (λk hk=>(hM k hk).1),h8,⟨none,0,rfl,by simp,by simp,λi x hx=>by simp at hx⟩⟩
 have h6:=h5.slr sh (by rw[kB];exact bQ _) (by rw[List.length_map];exact hl);rwa [kB] at h6
end
structure PubK(S:Nat->Prop)(w2:World)(base:Nat)(zn:ByteArray)(M:Nat->Prop)(xs:List PT)(ov:Value)(w:World):Prop where
 rows:PubR base M zn xs ov w
 lt:∀ k,M k->k<w.heap.size
 ex:∀ k,k<w2.heap.size->¬ S k->M k
 own:∀ k,sU xs ov k->S k\/w2.heap.size<=k
 rd:RdStep S w2 w
section
variable {S:Nat->Prop} {w2:World} {base:Nat} {M:Nat->Prop} {zn:ByteArray} {xs:List PT} {ov:Value} {w:World}
theorem PubK.start(h:PubR base M zn xs ov w)(hex:∀ k,¬ S k->M k)(hown:∀ k,sU xs ov k->S k):PubK S w base zn (λk=>M k/\k<w.heap.size) xs ov w:=
 ⟨h.trim,λ_ e=>e.2,λk hk hs=>⟨hex k hs,hk⟩,λk e=>.inl (hown k e),RdStep.refl _ _⟩
theorem PubK.keep(h:PubK S w2 base zn M xs ov w){w':World}(hb:Below w.heap.size w w'):PubK S w2 base zn M xs ov w':=
 ⟨h.rows.keep hb,λk e=>lQ (h.lt k e) hb.size,h.ex,h.own,h.rd.then_below hb⟩
theorem PubK.touch(h:PubK S w2 base zn M xs ov w){b:Nat}(hM:M b)(hS:S b\/w2.heap.size<=b)(hn:¬ sU xs ov b){w':World}(ht:Turned b w w'):PubK S w2 base zn M xs ov w':=
 ⟨h.rows.leaves ⟨ht.os,ht.tape,ht.output,Nat.le_of_eq ht.size.symm,λk hk hm=>⟨hm,ht.block k (λe=>hm (e ▸ hM))⟩⟩ (λg hg=>⟨ht.block g (λe=>hn (e ▸ hg)),(h.rows.lt hg).2.2⟩),λk e=>by rw[ht.size];exact h.lt k e,h.ex,h.own,
  ⟨ht.os.trans h.rd.os,ht.tape.trans h.rd.tape,ht.output.trans h.rd.output,by rw[ht.size];exact h.rd.size,λk hk hs=>(ht.block k (λe=>by
   subst e;rcases hS with hS | hS
   ·exact hs hS
   ·omega)).trans (h.rd.keep k hk hs)⟩⟩
theorem PubK.push(h:PubK S w2 base zn M xs ov w){s:Np.Signed}{v':Value}{w':World}(ho:bF (qq zn) 8 xY base (λk=>M k\/v'.ownBlock=some k) w' v' (xs ++ [(s,[],.slice none 0 0)]))(hg:w.grownBy w' ov.ownBlock)(hat:v'.ownBlock=ov.ownBlock\/v'.ownBlock=some w.heap.size) :
 PubK S w2 base zn (λk=>M k\/v'.ownBlock=some k) (xs ++ [(s,[],.slice none 0 0)]) v' w':=by
 refine⟨h.rows.pushed ho hg hat,λk e=>?_,λk hk hs=>.inl (h.ex k hk hs),λk e=>?_,h.rd.grown hg (λk e=>h.own k (.inl e))⟩
 ·rcases e with e | e
  ·exact lQ (h.lt k e) hg.size
  ·exact (ho.lt k e).2
 ·rcases e with e | ⟨x,hx,e⟩
  ·rcases hat with e' | e'
   ·exact h.own k (.inl (e' ▸ e))
   ·rw[e'] at e
    have:=Option.some.inj e
    have:=h.rd.size
    exact .inr (by omega)
  ·rcases List.mem_append.1 hx with hx | hx
   ·exact h.own k (.inr ⟨x,hx,e⟩)
   ·rw[List.mem_singleton] at hx;subst hx;simp[Value.ownBlock] at e
theorem PubK.changed{g0 n cap:Nat}(h:PubK S w2 base zn M xs (.slice (some ⟨g0,0,none⟩) n cap) w)(hn:xs.length=n){i:Nat}{x:PT}(hi:xs[i]?=some x){v':Value}{ps':List Np.Span}{w':World}(hg:w.grownBy w' x.2.2.ownBlock)(ho:aN base w' v' ps')(hat:v'.ownBlock=x.2.2.ownBlock\/v'.ownBlock=some w.heap.size) :
 PubK S w2 base zn (λk=>M k\/v'.ownBlock=some k) (xs.set i (x.1,ps',v')) (.slice (some ⟨g0,0,none⟩) n cap) (w'.setCell ⟨g0,i * 8+6,none⟩ v'):=by
 have hx:=gQ hi;have xT:∀ k,v'.ownBlock=some k->x.2.2.ownBlock=some k\/w.heap.size<=k:=λk e=>by
  rcases hat with e' | e'
  ·exact .inl (e' ▸ e)
  ·rw[e'] at e;exact .inr (Nat.le_of_eq (Option.some.inj e))
 have hr:=h.rows.changed hn hi hg.os hg.tape hg.output hg.size (λk hk hne=>hg.block k hk (λe=>hne e.symm)) ho xT;have hz:(w'.setCell ⟨g0,i * 8+6,none⟩ v').heap.size=w'.heap.size:=by simp[World.setCell]
 refine⟨hr,λk e=>?_,λk hk hs=>.inl (h.ex k hk hs),λk e=>?_,(h.rd.grown hg (λk e=>h.own k (.inr ⟨x,hx,e⟩))).setCell (h.own g0 (.inl rfl)) _⟩
 ·rw[hz];rcases e with e | e
  ·exact lQ (h.lt k e) hg.size
  ·exact (World.ownsRow.lt ho k e).2
 ·rcases e with e | ⟨y,hy,e⟩
  ·exact h.own k (.inl e)
  ·rcases List.mem_or_eq_of_mem_set hy with hy | rfl
   ·exact h.own k (.inr ⟨y,hy,e⟩)
   ·rcases xT k e with e | e
    ·exact h.own k (.inr ⟨x,hx,e⟩)
    ·have:=h.rd.size
     exact .inr (by omega)
theorem PubK.stop(h:PubK S w2 base zn M xs ov w):PubR base (λk=>M k\/¬ (S k\/(w2.heap.size<=k/\k<w.heap.size))) zn xs ov w/\(∀ k,sU xs ov k->S k\/(w2.heap.size<=k/\k<w.heap.size)):=by
 refine⟨h.rows.leaves ⟨rfl,rfl,rfl,bQ _,λk hk hm=>⟨λe=>?_,rfl⟩⟩ (λg hg=>⟨rfl,.inl (h.rows.lt hg).2.2⟩),λk e=>(h.own k e).imp id (λe2=>⟨e2,(h.rows.lt e).2.1⟩)⟩;rcases e with e | e
 ·exact hm e
 ·by_cases hs:S k
  ·exact e (.inl hs)
  ·by_cases jK:k<w2.heap.size
   ·exact hm (h.ex k jK hs)
   ·exact e (.inr ⟨by omega,hk⟩)
end
theorem QV(w:World){o:Oper}{a:Act}{K:Act->World->Prop}{Q:Exit->Act->World->Prop}(s x:Operand)(ho:o.op = .call { callee:=.builtin .append,args:=#[s,x],argTypes:=#[55,55] })
 (base:Nat) (v:Value) (ps:List Np.Span) (hs:a.eval s=v) (hown:aN base w v ps) (blk:Nat) (f u:Int) (hx:a.eval x = .slice (some ⟨blk,0,none⟩) 1 1) (hc:w.cell? ⟨blk,0,none⟩=some (.int .i64 f)) (bq:w.cell? ⟨blk,1,none⟩=some (.int .i64 u)) (hlen:ps.length<=100000) (eC:base<=w.heap.size)
 (h:∀ v' w',aN base w' v' (ps ++ [⟨f,u⟩])->w.grownBy w' v.ownBlock->(v'.ownBlock=v.ownBlock\/v'.ownBlock=some w.heap.size)->K (a.put o.dst v') w'):o.wp prog a w K Q:=by
 obtain⟨i0,hi,db,bk,aK⟩:=info_parts Tryz.infoSpan;obtain⟨v',w',dz,r1,r2,_,r4⟩:=run_append_own_at (P:=prog) w base 55 o.type 110 i0 (.agg #[.int .i64 0,.int .i64 0]) 2 16 underlying55 hi db bk aK rfl (by decide) v ps.length (ps.map fW).flatten hown ⟨blk,0,none⟩ 1 1 [.int .i64 f,.int .i64 u] rfl (by
  intro j y hj
  match j,hj with
  | 0,hj=>simp at hj;subst hj;simpa [Addr.add] using hc
  | 1,hj=>simp at hj;subst hj;simpa [Addr.add] using bq) (by simp[Value.oneCell']) (by unfold maxLen;omega) (by omega) eC
 unfold Oper.wp execOp;simp only[ho,resolve,invoke,builtin,Sem.run_bind,Sem.run_pure,Result.andThen_ok,List.map_toArray,List.map_cons,List.map_nil,hs,hx,dz];refine h v' w' ?_ r2 r4;have e:(List.map fW (ps ++ [(⟨f,u⟩:Np.Span)])).flatten=(ps.map fW).flatten ++ [.int .i64 f,.int .i64 u]:=by simp[fW]
 unfold aN;rw[List.length_append,List.length_singleton,e];exact r1
theorem Zd{us:List PT}{ps:List (Np.Span×Np.Signed)}(h:us.map (λx=>(x.1,x.2.1))=Np.eO ps){i:Nat}{s:Np.Signed}(hs:(Np.dg (ps.map (·.2)))[i]?=some s):∃ v,us[i]?=some (s,Np.gl ps s,v):=by
 have h1:(us.map (λx=>(x.1,x.2.1)))[i]?=(Np.eO ps)[i]?:=by rw[h]
 unfold Np.eO at h1;rw[List.getElem?_map,List.getElem?_map,hs,Option.map_some] at h1;obtain⟨⟨a,b,v⟩,hx,he⟩:=Option.map_eq_some_iff.1 h1;simp only[Prod.mk.injEq] at he;obtain⟨rfl,rfl⟩:=he;exact⟨v,hx⟩
theorem Ei{us:List PT}{ps:List (Np.Span×Np.Signed)}(h:us.map (λx=>(x.1,x.2.1))=Np.eO ps):us.map (·.1)=Np.dg (ps.map (·.2)):=by
 rw[<-Np.Y8,<-h,List.map_map];rfl
theorem O4{us:List PT}{ps:List (Np.Span×Np.Signed)}(h:us.map (λx=>(x.1,x.2.1))=Np.eO ps):us.length<=ps.length:=by
 have h1:=Qd List.length h;rw[List.length_map,Np.Za] at h1;have h2:=Np.ua (ps.map (·.2));rw[List.length_map] at h2;omega
theorem Zf{us:List PT}{ps:List (Np.Span×Np.Signed)}(h:us.map (λx=>(x.1,x.2.1))=Np.eO ps){i:Nat}{s:Np.Signed}(hs:(Np.dg (ps.map (·.2)))[i]?=some s)(sp:Np.Span)(v':Value):(us.set i (s,Np.gl ps s ++ [sp],v')).map (λx=>(x.1,x.2.1))=Np.eO (ps ++ [(sp,s)]):=by
 rw[List.map_set,h,Np.Zc (p:=(sp,s)) hs]
theorem Ze{us:List PT}{ps:List (Np.Span×Np.Signed)}(h:us.map (λx=>(x.1,x.2.1))=Np.eO ps){s:Np.Signed}(hs:s∉Np.dg (ps.map (·.2)))(sp:Np.Span)(v0 v':Value):((us ++ [((s,[],v0):PT)]).set us.length (s,[] ++ [sp],v')).map (λx=>(x.1,x.2.1))=Np.eO (ps ++ [(sp,s)]):=by
 rw[List.set_append_right _ _ (bQ _),Nat.sub_self,List.set_cons_zero,List.map_append,h,Np.Zb (p:=(sp,s)) hs];rfl
theorem P6{us:List PT}{i:Nat}{x y:PT}(h:us[i]?=some x)(hy:y.1=x.1):(us.set i y).map (·.1)=us.map (·.1):=by
 rw[List.map_set];apply List.ext_getElem?;intro j;rw[List.getElem?_set];split
 ·rename_i e;subst e;have hl:=(cQ.1 h).1
  first | rw[List.length_map,Qb hl,List.getElem?_map,h,Option.map_some,hy] | (rw[List.getElem?_map,h,Option.map_some,hy])
 ·rfl
theorem H7{base:Nat}{M:Nat->Prop}{zn:ByteArray}{w:World}{g n cap:Nat}{xs:List PT}(h:bF (qq zn) 8 xY base M w (.slice (some ⟨g,0,none⟩) n cap) xs){k:Nat}{x:PT}(hx:xs[k]?=some x):w.cell? ⟨g,k * 8+6,none⟩=some x.2.2:=by
 obtain⟨rows,h1,h2,h3,h4⟩:=h;have hl:=ct.rows_len (w:=bA w M) (B:=w.heap.size) h1 h4;have hk:=(cQ.1 hx).1;have hr:=aQ (show k<rows.length by omega);obtain⟨r,hr'⟩:∃ r,rows[k]?=some r:=⟨_,hr⟩;obtain⟨h5,s,dv,sv,A,n',c,he,_⟩:=h4 k r x hr' hx;have h6:rows.flatten[k * 8+6]?=some x.2.2:=by
  have h7:=GN rows k 6 x.2.2 r hl (by omega) hr';have h8:r.set 6 x.2.2=r:=by rw[he];rfl
  rw[h8] at h7;have h9:rows.set k r=rows:=by
   apply List.ext_getElem?;intro i;rw[List.getElem?_set];split
   ·rename_i e;subst e;rw[Qb (by omega),hr']
   ·rfl
  rw[h9] at h7;rw[<-h7,List.getElem?_set,Qb rfl,Qb];rw[h2.1];omega
 have h7:=h2.cells (g:=g) rfl _ _ h6;simpa [Addr.add] using h7
def qN(l:List (Np.Signed×List Np.Span))(i:Nat):List (Np.Signed×List Np.Span):=(l.take i).map (λx=>(x.1,Np.gX x.2))++l.drop i
theorem Zs(l:List (Np.Signed×List Np.Span)):qN l 0=l:=by simp[qN]
theorem Zq{l:List (Np.Signed×List Np.Span)}{i:Nat}(h:l.length=i):qN l i=l.map λx=>(x.1,Np.gX x.2):=by
 unfold qN;rw[kQ (by omega),List.drop_of_length_le (by omega),List.append_nil]
theorem Pc{us:List PT}{l:List (Np.Signed×List Np.Span)}{i:Nat}(h:us.map (λx=>(x.1,x.2.1))=qN l i)(hi:i<l.length):∃ x,us[i]?=some x/\l[i]?=some (x.1,x.2.1):=by
 have h1:(us.map (λx=>(x.1,x.2.1)))[i]?=l[i]?:=by
  rw[h];unfold qN;rw[oQ (by simp only[List.length_map,List.length_take];omega),List.length_map,List.length_take,List.getElem?_drop];congr 1;omega
 rw[List.getElem?_map,aQ hi] at h1;obtain⟨x,hx,he⟩:=Option.map_eq_some_iff.1 h1;exact⟨x,hx,by rw[aQ hi,he]⟩
theorem Zr{us:List PT}{l:List (Np.Signed×List Np.Span)}{i:Nat}(h:us.map (λx=>(x.1,x.2.1))=qN l i)(hi:i<l.length){x:PT}(hx:us[i]?=some x)(v':Value):(us.set i (x.1,Np.gX x.2.1,v')).map (λx=>(x.1,x.2.1))=qN l (i+1):=by
 obtain⟨y,hy,hl⟩:=Pc h hi;rw[hx] at hy
 cases hy
 rw[List.map_set,h];obtain⟨hi',he⟩:=cQ.1 hl;unfold qN;rw[List.set_append_right _ _ (by simp only[List.length_map,List.length_take];omega),List.length_map,List.length_take,show i - min i l.length=0 by omega,sQ hi',List.set_cons_zero,fQ hi',List.map_append,List.map_singleton,he,List.append_assoc];rfl
section
variable {S:Nat->Prop} {w2:World} {base:Nat} {M:Nat->Prop} {zn:ByteArray} {xs:List PT} {w:World}
theorem PubK.normed{g0 n cap:Nat}(h:PubK S w2 base zn M xs (.slice (some ⟨g0,0,none⟩) n cap) w)(hn:xs.length=n){i:Nat}{x:PT}(hi:xs[i]?=some x){v':Value}{ps':List Np.Span}{w':World}(hb:Below w.heap.size w w')(ho:aN w.heap.size w' v' ps')(xW:base<=w.heap.size) :
 PubK S w2 base zn (λk=>M k\/v'.ownBlock=some k) (xs.set i (x.1,ps',v')) (.slice (some ⟨g0,0,none⟩) n cap) (w'.setCell ⟨g0,i * 8+6,none⟩ v'):=by
 have hx:=gQ hi;have hr:=h.rows.changed hn hi hb.os hb.tape hb.output hb.size (λk hk _=>hb.block k hk) (ho.weak xW) (λk e=>.inr (ho.lt k e).1);have hz:(w'.setCell ⟨g0,i * 8+6,none⟩ v').heap.size=w'.heap.size:=by simp[World.setCell]
 have h2:=h.rd.size;refine⟨hr,λk e=>?_,λk hk hs=>.inl (h.ex k hk hs),λk e=>?_,(h.rd.then_below hb).setCell (h.own g0 (.inl rfl)) _⟩
 ·rw[hz];rcases e with e | e
  ·exact lQ (h.lt k e) hb.size
  ·exact (ho.lt k e).2
 ·rcases e with e | ⟨y,hy,e⟩
  ·exact h.own k (.inl e)
  ·rcases List.mem_or_eq_of_mem_set hy with hy | rfl
   ·exact h.own k (.inr ⟨y,hy,e⟩)
   ·have:=(ho.lt k e).1
    exact .inr (by omega)
theorem PubK.calm{ov:Value}(h:PubK S w2 base zn M xs ov w){T:Nat->Prop}(hT:∀ k,T k->k<w2.heap.size/\¬ S k){w':World}(hl:w'.os=w.os/\w'.tape=w.tape/\w'.output=w.output)(hz:w'.heap.size=w.heap.size)(hk:∀ k,¬ T k->w'.heap[k]?=w.heap[k]?):PubR base M zn xs ov w':=
 h.rows.leaves ⟨hl.1,hl.2.1,hl.2.2,Nat.le_of_eq hz.symm,λk _ hm=>⟨hm,hk k (λe=>hm (h.ex k (hT k e).1 (hT k e).2))⟩⟩ (λg hg=>⟨hk g (λe=>by
  have h1:=hT g e;rcases h.own g hg with h2 | h2
  ·exact h1.2 h2
  ·omega),(h.rows.lt hg).2.2⟩)
end
theorem Np.Z3{h:Np.Hist}{zone:List UInt8}{s:Np.Signed}{p:Np.Span}(hp:p∈Np.gl (Np.dR h.copies zone) s)(hv:Np.VHist h):Np.zP p:=by
 unfold Np.gl at hp;obtain⟨q,hq,rfl⟩:=List.mem_map.1 hp;have hq:=(List.mem_filter.1 hq).1;obtain⟨c,hc,_,_,he⟩:=Np.wn.1 hq;have h1:=(hv.each c hc).times;have h2:=hv.stop;rw[he];exact⟨h1.1,h1.2.1,by show c.til<=20000000;omega⟩
theorem Np.JJ(ps:List (Np.Span×Np.Signed))(s:Np.Signed):(Np.gl ps s).length<=ps.length:=by
 unfold Np.gl;rw[List.length_map];exact List.length_filter_le _ _
theorem Np.O5{ps:List (Np.Span×Np.Signed)}{i:Nat}{s:Np.Signed}{l:List Np.Span}(h:(Np.eO ps)[i]?=some (s,l)):l=Np.gl ps s:=by
 unfold Np.eO at h;rw[List.getElem?_map] at h;obtain⟨x,_,he⟩:=Option.map_eq_some_iff.1 h
 cases he
 rfl
end
section
open Go.RowKit Go.Shelf
attribute [local go_sem] Oper.semAt_some CV.cells
theorem ct.weakR{α:Type}{R:aFJ α}{sz:Nat}{e:TypeId}{base B base':Nat}{w:World}{v:Value}{xs:List α}(h:ct R sz e base B w v xs)(hb:base'<=base)(hr:∀ r x,R w B r x->R w base' r x):ct R sz e base' base' w v xs:=by
 obtain⟨rows,h1,h2,h3⟩:=h;exact⟨rows,h1,⟨h2.1,by
  rcases h2.2 with h | ⟨g,cap,cur,h4,h5,h6⟩
  ·exact .inl h
  ·exact .inr ⟨g,cap,cur,h4,yQ hb h5,h6⟩⟩,λi r x hr' hx=>⟨(h3 i r x hr' hx).1,hr _ _ (h3 i r x hr' hx).2⟩⟩
theorem ct.ltR{α:Type}{R:aFJ α}{sz:Nat}{e:TypeId}{base B:Nat}{w:World}{v:Value}{xs:List α}(h:ct R sz e base B w v xs):∀ g,v.ownBlock=some g->base<=g/\g<w.heap.size:=by
 obtain⟨rows,h1,h2,h3⟩:=h;exact h2.lt
structure At3Inv(h:Np.Hist)(Zt n1 n4:Nat)(w2:World)(A:List Nat)(e:Nat->Value)(u:World):Prop where
 below:Below Zt w2 u
 lt:Zt<=u.heap.size
 hosts:2∈A->∃ A5 c5,e 2 = .slice A5 n1 c5/\ct kf 3 101 Zt Zt u (e 2) h.hosts
 hints:7∈A->∃ A6 c6,e 7 = .slice A6 n4 c6/\ct kP 1 3 Zt Zt u (e 7) h.hints
 box:9∈A->∃ b,e 9 = .pointer (some ⟨b,0,none⟩)/\Zt<=b/\b<u.heap.size/\u.heap[b]?=some (.cells #[.slice none 0 0,.slice none 0 0,.string ⟨#[]⟩,.int .i64 0,.int .i64 0,.slice none 0 0,.slice none 0 0] 68)/\(2∈A->(e 2).ownBlock≠some b)/\(7∈A->(e 7).ownBlock≠some b)
theorem At3Inv.keep{h:Np.Hist}{Zt n1 n4:Nat}{w2:World}{A:List Nat}{e:Nat->Value}{u u':World}(k:At3Inv h Zt n1 n4 w2 A e u)(hb:Below u.heap.size u u'):At3Inv h Zt n1 n4 w2 A e u':=
 ⟨k.below.trans (hb.mono k.lt),yQ k.lt hb.size,λh=>(k.hosts h).imp λ_ h=>h.imp λ_ h=>⟨h.1,h.2.keep o6 hb k.lt⟩,λh=>(k.hints h).imp λ_ h=>h.imp λ_ h=>⟨h.1,h.2.keep qV hb k.lt⟩,λh=>(k.box h).imp λb h=>⟨h.1,h.2.1,lQ h.2.2.1 hb.size,(hb.block b h.2.2.1).trans h.2.2.2.1,h.2.2.2.2⟩⟩
theorem At3Inv.host{h:Np.Hist}{Zt n1 n4:Nat}{w2:World}{A:List Nat}{e:Nat->Value}{u u':World}(k:At3Inv h Zt n1 n4 w2 A e u)(_:2∉A)(hb:Below u.heap.size u u'){A5:Option Addr}{c5:Nat}(ho:ct kf 3 101 u.heap.size u.heap.size u' (.slice A5 n1 c5) h.hosts):At3Inv h Zt n1 n4 w2 (2::A) (QH e 2 (.slice A5 n1 c5)) u':=by
 have k2:=k.keep hb;refine⟨k2.below,k2.lt,λ_=>⟨A5,c5,rfl,ho.weakR k.lt (λ_ _ h=>h)⟩,λh7=>k2.hints (by simpa using h7),λh9=>?_⟩;obtain⟨b,h1,h2,h3,h4,h5,h6⟩:=k2.box (by simpa using h9);obtain⟨b',h1',_,h3',_⟩:=k.box (by simpa using h9);rw[h1] at h1'
 cases h1'
 exact⟨b,h1,h2,h3,h4,(λ_=>λe=>by have:=(ho.ltR _ e).1;omega),λh7=>h6 (by simpa using h7)⟩
theorem At3Inv.made{h:Np.Hist}{Zt n1 n4:Nat}{w2:World}{A:List Nat}{e:Nat->Value}{u:World}(k:At3Inv h Zt n1 n4 w2 A e u):At3Inv h Zt n1 n4 w2 (9::A) (QH e 9 (.pointer (some ⟨u.heap.size,0,none⟩))) (u.alloc (.cells #[.slice none 0 0,.slice none 0 0,.string ⟨#[]⟩,.int .i64 0,.int .i64 0,.slice none 0 0,.slice none 0 0] 68)):=by
 have hb:Below u.heap.size u (u.alloc (.cells #[.slice none 0 0,.slice none 0 0,.string ⟨#[]⟩,.int .i64 0,.int .i64 0,.slice none 0 0,.slice none 0 0] 68)):=(vQ _ _).alloc (bQ _) _;have k2:=k.keep hb;refine⟨k2.below,k2.lt,λh2=>k2.hosts (by simpa using h2),λh7=>k2.hints (by simpa using h7),λ_=>⟨u.heap.size,rfl,k.lt,by simp,heap_alloc_new _ _,λh2=>?_,λh7=>?_⟩⟩
 ·obtain⟨A5,c5,h3,h4⟩:=k.hosts (by simpa using h2);exact λe=>by have:=(h4.ltR _ e).2;omega
 ·obtain⟨A6,c6,h3,h4⟩:=k.hints (by simpa using h7);exact λe=>by have:=(h4.ltR _ e).2;omega
end
section
open Go.RowKit

theorem Qj{α:Type}{R:aFJ α}{sz:Nat}{w:World}{B n c:Nat}{A:Option Addr}{xs:List α}(h:SlR R sz w B (.slice A n c) xs):xs.length=n:=by
 obtain⟨A',c',h1,_⟩:=ak h;simp only[Value.slice.injEq] at h1;exact h1.2.1.symm
end
end Go.Proofs.YtfnopgdcaanaiaaGreatDoor
