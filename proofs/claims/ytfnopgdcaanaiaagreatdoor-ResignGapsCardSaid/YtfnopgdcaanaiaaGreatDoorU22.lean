/- Parts of the proof. No condition. -/
import Derived.Test.YtfnopgdcaanaiaaGreatDoorU18
import Derived.Test.YtfnopgdcaanaiaaGreatDoorU19
import Derived.Test.YtfnopgdcaanaiaaGreatDoorU20
import Derived.Test.YtfnopgdcaanaiaaGreatDoorU21
set_option linter.all false
set_option maxRecDepth 100000
set_option maxHeartbeats 8000000
namespace Go.Proofs.YtfnopgdcaanaiaaGreatDoor
open Go.Proofs.Tryz
section
open Go.RowKit


def ea(W:World)(B:Nat)(e:List Value)(x:Np.Held):Prop:=∃ (z s:ByteArray) (dv sv fv pv:Value),e = [.string z,.string s,.int .i64 x.signed.set.type,.int .i64 x.signed.set.life,dv,sv,fv,pv]/\z.data.toList=x.zone/\z.size<=140737488355328/\s.data.toList=x.signed.set.name/\s.size<=140737488355328/\
 SlR bW 3 W B dv x.signed.set.data/\SlR cV 6 W B sv x.signed.sigs/\SlR cB 2 W B fv x.fresh/\SlR cB 2 W B pv x.spans
theorem jA:cL ea:=λ_ _ _ _ _ ⟨z,s,dv,sv,fv,pv,h0,h1,h2,h3,h4,h5,h6,h7,h8⟩ hb=>⟨z,s,dv,sv,fv,pv,h0,h1,h2,h3,h4,h5.keep cu hb,h6.keep cT hb,h7.keep bR hb,h8.keep bR hb⟩
theorem iD:dD ea:=λ_ _ _ _ _ ⟨z,s,dv,sv,fv,pv,h0,h1,h2,h3,h4,h5,h6,h7,h8⟩ hb=>⟨z,s,dv,sv,fv,pv,h0,h1,h2,h3,h4,h5.more cS hb,h6.more dU hb,h7.more dZ hb,h8.more dZ hb⟩
theorem yK{w:World}{B n c:Nat}{A:Option Addr}{xs:List Np.Held}(h:SlR ea 8 w B (.slice A n c) xs){k:Nat}{x:Np.Held}(hx:xs[k]?=some x):∃ (b o:Nat) (z s:ByteArray) (dv sv fv pv:Value),A=some ⟨b,o,none⟩/\b<B/\z.data.toList=x.zone/\s.data.toList=x.signed.set.name/\
 SlR bW 3 w B dv x.signed.set.data/\SlR cV 6 w B sv x.signed.sigs/\SlR cB 2 w B fv x.fresh/\SlR cB 2 w B pv x.spans/\
 w.cell? ⟨b,o+k * 8,none⟩=some (.string z)/\w.cell? ⟨b,o+k * 8+1,none⟩=some (.string s)/\w.cell? ⟨b,o+k * 8+2,none⟩=some (.int .i64 x.signed.set.type)/\w.cell? ⟨b,o+k * 8+3,none⟩=some (.int .i64 x.signed.set.life)/\w.cell? ⟨b,o+k * 8+4,none⟩=some dv/\w.cell? ⟨b,o+k * 8+5,none⟩=some sv/\w.cell? ⟨b,o+k * 8+6,none⟩=some fv/\w.cell? ⟨b,o+k * 8+7,none⟩=some pv:=by
 obtain⟨A',c',hA',_,_,aC⟩:=h
 cases hA'
 obtain⟨b,o,e,hA,bq,hlen,hce,z,s,dv,sv,fv,pv,he,h1,_,h3,_,h5,h6,h7,h8⟩:=aC k _ hx;subst he;exact⟨b,o,z,s,dv,sv,fv,pv,hA,bq,h1,h3,h5,h6,h7,h8,hce 0 _ rfl,hce 1 _ rfl,hce 2 _ rfl,hce 3 _ rfl,hce 4 _ rfl,hce 5 _ rfl,hce 6 _ rfl,hce 7 _ rfl⟩
theorem YI(u v:Value)(xs:List Np.Held)(w:World)(hu:SlR ea 8 w w.heap.size u xs)(hv:SlR ea 8 w w.heap.size v xs) :
 Calls prog 32 #[u,v] w (aeJ w.heap.size w (.bool true)):=by
 have HU:=jq hu;have HV:=jq hv;obtain⟨A,c,rfl,aW,bh⟩:=aj hu;obtain⟨A2,c2,rfl,db,cY⟩:=aj hv;clear hu hv;have hnn:((xs.length:Int) != (xs.length:Int))=false:=by simp
 go_enter func32,ntmps32;go_wp2_with fail;go_loopw [5] (λi wr=>∃ k:Nat,k<=xs.length/\i = .int .i64 k/\Hid (Below w.heap.size w wr)) (λi _=>xs.length - (intOf i).toNat)
 case atStart=>exact⟨0,jQ _,rfl,jq (vQ _ _)⟩
 case round=>
  obtain⟨k,hk,rfl,HB⟩:=hrel;by_cases aa:k<xs.length
  ·obtain⟨b,o,z,s,dv,sv,fv,pv,rfl,hb,hz,hs,aR,aN,jY,kA,e0,e1,e2,e3,e4,e5,e6,e7⟩:=yK (HU.out.later jA iD HB.out) (aQ aa);obtain⟨b',o',z',s',dv',sv',fv',pv',rfl,hb',hz',hs',tq,tO,yL,zk,f0,f1,f2,f3,f4,f5,f6,f7⟩:=yK (HV.out.later jA iD HB.out) (aQ aa);have j8:s'=s:=jD (by rw[hs,hs']);subst j8;have lF:z'=z:=jD (by rw[hz,hz']);subst lF;generalize xs[k]=x at *;have kV:=jq aR;have DW:=jq tq;have ot:=jq aN;have EG:=jq tO;have wP:=jq jY;have PE:=jq yL;have pE:=jq kA;have Qj:=jq zk;obtain⟨S1,m1,rfl,_,_⟩:=aj aN;obtain⟨S2,m2,rfl,_,_⟩:=aj tO;obtain⟨D1,n1,rfl,_,_⟩:=aj aR;obtain⟨D2,n2,rfl,_,_⟩:=aj tq;obtain⟨F1,p1,rfl,_,_⟩:=aj jY;obtain⟨F2,p2,rfl,_,_⟩:=aj yL;obtain⟨G1,q1,rfl,_,_⟩:=aj kA;obtain⟨G2,q2,rfl,_,_⟩:=aj zk;have bL:(0:Int)<=(k:Int):=by omega
   have bY:(k:Int)<(xs.length:Int):=by omega
   have mY:(z'.toList == z'.toList)=true:=by simp
   have nP:∀ (g:bi wr) (p:Addr),p.block<wr.heap.size->g.w.cell? p=wr.cell? p:=λg p h=>g.cell p h;have bE:∀ g:bi wr,Calls prog 20 #[.agg #[.string s',.int .i64 x.signed.set.type,.int .i64 x.signed.set.life,.slice D1 x.signed.set.data.length n1,.slice S1 x.signed.sigs.length m1],.agg #[.string s',.int .i64 x.signed.set.type,.int .i64 x.signed.set.life,.slice D2 x.signed.set.data.length n2,.slice S2 x.signed.sigs.length m2]] g.w λe w'=>e = .returned (.bool true)/\Below g.w.heap.size g.w w':=λg=>
    (NL s' s' _ _ _ _ _ _ _ _ x.signed.set.data x.signed.set.data x.signed.sigs x.signed.sigs g.w (kV.out.later cu cS g.below) (DW.out.later cu cS g.below) (ot.out.later cT dU g.below) (EG.out.later cT dU g.below)).mono λe w' h=>⟨by rw[h.1];simp,h.2⟩
   have yB:∀ g:bi wr,Calls prog 21 #[.slice F1 x.fresh.length p1,.slice F2 x.fresh.length p2] g.w λe w'=>e = .returned (.bool true)/\Below g.w.heap.size g.w w':=λg=>
    (vU _ _ x.fresh x.fresh g.w (wP.out.later bR dZ g.below) (PE.out.later bR dZ g.below)).mono λe w' h=>⟨by rw[h.1];simp,h.2⟩
   have yC:∀ g:bi wr,Calls prog 21 #[.slice G1 x.spans.length q1,.slice G2 x.spans.length q2] g.w λe w'=>e = .returned (.bool true)/\Below g.w.heap.size g.w w':=λg=>
    (vU _ _ x.spans x.spans g.w (pE.out.later bR dZ g.below) (Qj.out.later bR dZ g.below)).mono λe w' h=>⟨by rw[h.1];simp,h.2⟩
   have jH:=jq bE;have DQ:=jq yB;have DR:=jq yC;clear bE yB yC hs hs' hz hz' aN tO aR tq jY yL kA zk;go_wp2_with fail;refine adX ?_
   repeat (go_big_quiet_step (fail))
   go_big_quiet_step ((go_at_call 20;exact Calls.grow_of (jH.out _)))
   repeat (go_big_quiet_step (fail))
   go_big_quiet_step ((go_at_call 21;exact Calls.grow_of (DQ.out _)))
   repeat (go_big_quiet_step (fail))
   go_big_quiet_step ((go_at_call 21;exact Calls.grow_of (DR.out _)))
   repeat (go_big_quiet_step (fail))
   refine wpQuiet_nil ?_;rintro _ ⟨g,rfl⟩;go_wp2_with fail;go_roundw
   case rel=>exact⟨k+1,by omega,by go_num,jq (HB.out.trans (g.below.mono HB.out.size))⟩
   case measure=>simp[intOf] <;> omega
  ·go_wp2_with fail;go_ret;exact⟨rfl,HB.out⟩
theorem Fe{sz:Nat} : ∀ (rows:List (List Value)) (i c:Nat) (u:Value) (r:List Value),(∀ q∈rows,q.length=sz)->c<sz->rows[i]?=some r->rows.flatten.set (i * sz+c) u=(rows.set i (r.set c u)).flatten
 | [],i,c,u,r,_,_,h=>by simp at h
 | q::rows,0,c,u,r,hl,hc,h=>by
   have e:q=r:=by simpa using h
   subst e;rw[List.flatten_cons,Nat.zero_mul,Nat.zero_add,List.set_append_left _ _ (by rw[hl q (by simp)];exact hc),List.set_cons_zero,List.flatten_cons]
 | q::rows,i+1,c,u,r,hl,hc,h=>by
   have hq:=hl q (by simp);have ih:=Fe rows i c u r (λx hx=>hl x (mQ _ hx)) hc (by simpa using h);rw[List.flatten_cons,List.set_append_right _ _ (by rw[hq,Nat.succ_mul];omega),hq,show (i+1) * sz+c - sz=i * sz+c by rw[Nat.succ_mul];omega,ih,List.set_cons_succ,List.flatten_cons]
theorem bN.stored{α:Type}{R:afQ α}(hk:cL R)(hs:gb R)(hm:dD R){sz:Nat}{e:TypeId}{base:Nat}{M:Nat->Prop}{w:World}{g n cap:Nat}{xs:List α}(h:bN R sz e base M w (.slice (some ⟨g,0,none⟩) n cap) xs)(hn:xs.length=n){i c:Nat}{x y:α}(hi:xs[i]?=some x)(hc:c<sz)(u:Value)
 (hR:∀ r,r.length=sz->R (be w M) w.heap.size r x->R (be w M) w.heap.size (r.set c u) y):bN R sz e base M (w.setCell ⟨g,i * sz+c,none⟩ u) (.slice (some ⟨g,0,none⟩) n cap) (xs.set i y):=by
 obtain⟨rows,h1,h2,h3,h4⟩:=h;subst hn;have dB:=(cQ.1 hi).1;have hr:=aQ (show i<rows.length by omega);obtain⟨r,hr'⟩:∃ r,rows[i]?=some r:=⟨_,hr⟩;have hlen:=bj.rows_len (w:=be w M) (B:=w.heap.size) h1 h4;have tv:M g:=h3 g rfl;have tD:Leaves' M w (w.setCell ⟨g,i * sz+c,none⟩ u) M:=Leaves'.setCell M w tv u;refine⟨rows.set i (r.set c u),by simp[h1],?_,h3,λj q z hq hz=>?_⟩
 ·rw[List.length_set,<-Fe rows i c u r hlen hc hr'];exact (World.ownsRow.stored h2 (i * sz+c) u).1
 ·rw[List.getElem?_set] at hq hz;by_cases dz:i=j
  ·subst dz;rw[Qb rfl,Qb (by omega)] at hq;rw[Qb rfl,Qb dB] at hz
   cases hq;cases hz
   obtain⟨h5,h6⟩:=h4 i r x hr' hi;exact⟨by rw[List.length_set];exact h5,tD.read hk hs hm (hR r h5 h6)⟩
  ·rw[Qc dz] at hq hz;obtain⟨h5,h6⟩:=h4 j q z hq hz;exact⟨h5,tD.read hk hs hm h6⟩
theorem bN.frozenAt{α:Type}{R:afQ α}{sz:Nat}{e:TypeId}{base:Nat}{M:Nat->Prop}{w:World}{g n cap:Nat}{xs:List α}(h:bN R sz e base M w (.slice (some ⟨g,0,none⟩) n cap) xs)(hn:xs.length=n)(j:Nat):w.frozen? ⟨g,j,none⟩=false:=by
 obtain⟨rows,h1,h2,_⟩:=h;subst hn;exact World.ownsRow.frozenAt h2 j
theorem nk:gb ea:=λ_ _ _ _ _ _ hM ⟨z,s,dv,sv,fv,pv,h0,h1,h2,h3,h4,h5,h6,h7,h8⟩=>⟨z,s,dv,sv,fv,pv,h0,h1,h2,h3,h4,h5.sans zY hM,h6.sans Ae hM,h7.sans (λ_ _ _ _ _ _ _ h=>h) hM,h8.sans (λ_ _ _ _ _ _ _ h=>h) hM⟩
theorem ND:gb cB:=λ_ _ _ _ _ _ _ h=>h
theorem Nx:∀ (w:World) (B:Nat) (r:List Value) (y:Np.Held),ea w B r y->∀ u∈r,u.oneCell'=true:=λw B r y ⟨z,s,dv,sv,fv,pv,h0,_,_,_,_,h5,h6,h7,h8⟩ u hu=>by
 obtain⟨_,_,rfl,_⟩:=aj h5;obtain⟨_,_,rfl,_⟩:=aj h6;obtain⟨_,_,rfl,_⟩:=aj h7;obtain⟨_,_,rfl,_⟩:=aj h8;rw[h0] at hu;simp only[List.mem_cons,Qh,or_false] at hu;rcases hu with rfl | rfl | rfl | rfl | rfl | rfl | rfl | rfl <;> rfl
theorem bN.formSome{α:Type}{R:afQ α}{sz:Nat}{e:TypeId}{base:Nat}{M:Nat->Prop}{w:World}{v:Value}{xs:List α}{n:Nat}(h:bN R sz e base M w v xs)(hn:xs.length=n)(h0:0<n):∃ g cap,v = .slice (some ⟨g,0,none⟩) n cap/\base<=g/\g<w.heap.size/\M g:=by
 obtain⟨rows,h1,h2,h3,h4⟩:=h;subst hn;rcases h2.2 with ⟨rfl,h⟩ | ⟨g,cap,cur,rfl,hb,hg,_⟩
 ·omega
 ·exact⟨g,cap,rfl,hb,(eQ.1 hg).1,h3 g rfl⟩
def OU(ps:List (Np.Span×Np.Signed)):Prop:=∀ p∈ps,p.1.frm<p.1.til
theorem Dj{ps:List (Np.Span×Np.Signed)}(h:OU ps)(s:Np.Signed):Np.OV (Np.eG ps s):=λ_ ht=>h _ (Np.CP.1 ht)
theorem Dk(ps:List (Np.Span×Np.Signed))(s:Np.Signed):(Np.eG ps s).length<=ps.length:=by
 unfold Np.eG;rw[List.length_map];exact List.length_filter_le _ _
end
section
open Go.RowKit Go.MapKept Go.Shelf
theorem ZE{k:Int}{l:List UInt8}(h:Np.ue k l=true):l.length<=60:=by
 unfold Np.ue at h;split at h
 ·simp only[Bool.and_eq_true] at h;exact (Np.vL h.1).1
 ·split at h
  ·exact (Np.vL h).1
  ·split at h
   ·unfold Np.iV at h;simp only[Bool.and_eq_true,Qa] at h;omega
   ·have:l = []:=by simpa using h
    rw[this];simp
theorem Yv(k:Int):(Np.bD k).mostN<=1000000/\(Np.bD k).mostM<=1000000:=by
 unfold Np.bD;generalize k.toNat=n;by_cases h:n<9
 ·have:∀ m,m<9->(Np.rules.getD m ⟨0,0,0,0,0,false,false,false⟩).mostN<=1000000/\(Np.rules.getD m ⟨0,0,0,0,0,false,false,false⟩).mostM<=1000000:=by decide
  exact this n h
 ·have e:Np.rules[n]?=none:=List.getElem?_eq_none (by simp[Np.rules];omega);rw[List.getD_eq_getElem?_getD,e];decide
theorem Z9{z:Np.Zone}(v:Np.VZone z){x:Np.Signed}(hx:x∈z.sets)(hs:Np.uH x):KeyS x:=by
 obtain⟨ha,hv⟩:=Np.ug v;obtain⟨h1,h2,h3,h4,h5,h6,h7,h8⟩:=Np.rY (hv x hx);have hf:=v.form x hx;refine⟨by have:=(Np.vL h1).1;omega,by omega,by omega,by omega,λd hd=>?_,by have:=hf.1;omega,λg hg=>?_⟩
 ·have hd':=Np.Fh h8 d hd;have hd'':=hd';unfold Np.iZ at hd'';simp only[Bool.and_eq_true,Qa] at hd'';obtain⟨⟨⟨⟨a1,a2⟩,a3,a4⟩,_⟩,a5⟩:=hd'';have b1:=Np.NH x.set.type;have b2:=Yv x.set.type;have b3:=ZE a5;exact⟨by omega,by omega,by omega⟩
 ·obtain⟨i,hi⟩:=List.mem_iff_getElem?.1 hg
  have:=hf.2 i g hi
  have BR:=(Np.vL ha).1;have k1:=this.key;have k2:=this.alg;have k3:=this.win;exact⟨by rw[this.zone];omega,by omega,by omega,by omega,by omega,hs g hg⟩
theorem YB{P:Program}(w:World)(t kt et:TypeId)(ht:P.underlying t=some (.map kt et))(hk:P.underlying kt=some .string)(r:Nat)(kvs:List (List UInt8×Value))(hr:di r kvs w)(key:List UInt8)(z:Value)(hz:(zeroValue et).run P w = .ok z w) :
 (Instr.lookup t (.map (some r)) (ay key) true).run P w = .ok (.tuple #[(kvs.lookup key).getD z,.bool (kvs.lookup key).isSome]) w:=by
 obtain⟨es,c,hr,he⟩:=hr;have hf:=BI key es.toList kvs 0 he;have hc:∀ b,(Instr.checkKey b 10000 kt (ay key)).run P w = .ok () w:=λb=>MapKept.run_checkKey (k:=ay key) hk (by simp[MapKept.IsKey]) b 9999
 cases hl:kvs.lookup key with
 | none=>simp[Instr.lookup,run_underlying ht,MapKept.run_getObj_map hr,hc,MapKept.run_findKey hk (hf.2 hl),Result.andThen,hz]
 | some v=>
  obtain⟨j,hj⟩:=hf.1 v hl;simp[Instr.lookup,run_underlying ht,MapKept.run_getObj_map hr,hc,MapKept.run_findKey hk hj,Result.andThen]
theorem YD{P:Program}(w:World)(t kt et:TypeId)(ht:P.underlying t=some (.map kt et))(hk:P.underlying kt=some .string)
 (r:Nat) (kvs:List (List UInt8×Value)) (hr:di r kvs w) (key:List UInt8) (val:Value) (fw:kvs.lookup key=none) :
 ∃ w',(Instr.mapUpdate t (.map (some r)) (ay key) val).run P w = .ok () w'/\di r (kvs ++ [(key,val)]) w'/\Turned r w w':=by
 obtain⟨es,c,hr,he⟩:=hr;have hf:=(BI key es.toList kvs 0 he).2 fw;have hc:(Instr.checkKey false 10000 kt (ay key)).run P w = .ok () w:=MapKept.run_checkKey (k:=ay key) hk (by simp[MapKept.IsKey]) false 9999;have cH:(Instr.mapUpdate t (.map (some r)) (ay key) val).run P w = .ok () { w with heap:=w.heap.setIfInBounds r (.map (es.push { key:=ay key,val:=val,born:=c }) (c+1)) }:=by
  simp[Instr.mapUpdate,run_underlying ht,MapKept.run_getObj_map hr,hc,MapKept.run_findKey hk hf,MapKept.run_setObj_map _ hr,Result.andThen]
 have hl:r<w.heap.size:=(eQ.1 hr).1;exact⟨_,cH,⟨_,_,by simp[hl];exact⟨rfl,rfl⟩,by simp[he]⟩,⟨rfl,rfl,rfl,by simp,λi hi=>by simp[Ne.symm hi]⟩⟩
theorem di.stays{r:Nat}{kvs:List (List UInt8×Value)}{w w':World}(h:di r kvs w)(hb:w'.heap[r]?=w.heap[r]?):di r kvs w':=by
 obtain⟨es,c,h,h2⟩:=h;exact⟨es,c,hb.trans h,h2⟩
abbrev PT:=Np.Signed×List Np.Span×Value
def oy(zn:ByteArray)(w:World)(B:Nat)(r:List Value)(x:PT):Prop:=∃ (s:ByteArray) (dv sv:Value) (A:Option Addr) (n c:Nat),r = [.string zn,.string s,.int .i64 x.1.set.type,.int .i64 x.1.set.life,dv,sv,x.2.2,.slice none 0 0]/\x.2.2 = .slice A n c/\s.data.toList=x.1.set.name/\s.size<=140737488355328/\
 SlR bW 3 w B dv x.1.set.data/\SlR cV 6 w B sv x.1.sigs
theorem C8(zn:ByteArray):cL (oy zn):=λ_ _ _ _ _ ⟨s,dv,sv,A,n,c,h0,h1,h2,h3,h4,h5⟩ hb=>⟨s,dv,sv,A,n,c,h0,h1,h2,h3,h4.keep cu hb,h5.keep cT hb⟩
theorem C9(zn:ByteArray):dD (oy zn):=λ_ _ _ _ _ ⟨s,dv,sv,A,n,c,h0,h1,h2,h3,h4,h5⟩ hb=>⟨s,dv,sv,A,n,c,h0,h1,h2,h3,h4.more cS hb,h5.more dU hb⟩
theorem Da(zn:ByteArray):gb (oy zn):=λ_ _ _ _ _ _ hM ⟨s,dv,sv,A,n,c,h0,h1,h2,h3,h4,h5⟩=>⟨s,dv,sv,A,n,c,h0,h1,h2,h3,h4.sans zY hM,h5.sans Ae hM⟩
theorem Yt(zn:ByteArray):∀ (w:World) (B:Nat) (r:List Value) (y:PT),oy zn w B r y->∀ u∈r,u.oneCell'=true:=λw B r y ⟨s,dv,sv,A,n,c,h0,h1,_,_,h4,h5⟩ u hu=>by
 obtain⟨_,_,rfl,_⟩:=aj h4;obtain⟨_,_,rfl,_⟩:=aj h5;rw[h0,h1] at hu;simp only[List.mem_cons,Qh,or_false] at hu;rcases hu with rfl | rfl | rfl | rfl | rfl | rfl | rfl | rfl <;> rfl
abbrev u7:TypeId:=57
structure PubR(base:Nat)(M:Nat->Prop)(zn:ByteArray)(xs:List PT)(ov:Value)(w:World):Prop where
 row:bN (oy zn) 8 u7 base M w ov xs
 fresh:∀ x∈xs,aG base w x.2.2 x.2.1
 apart:∀ (i j:Nat) (x y:PT) (g:Nat),xs[i]?=some x->xs[j]?=some y->x.2.2.ownBlock=some g->y.2.2.ownBlock=some g->i=j
 off:∀ x∈xs,∀ g,x.2.2.ownBlock=some g->ov.ownBlock≠some g/\M g
def qS(xs:List PT)(ov:Value)(k:Nat):Prop:=ov.ownBlock=some k\/∃ x∈xs,x.2.2.ownBlock=some k
theorem bN.inM{α:Type}{R:afQ α}{sz:Nat}{e:TypeId}{base:Nat}{M:Nat->Prop}{w:World}{v:Value}{xs:List α}(h:bN R sz e base M w v xs):∀ g,v.ownBlock=some g->M g:=by
 obtain⟨rows,h1,h2,h3,h4⟩:=h;exact h3
section
variable {base:Nat} {M:Nat->Prop} {zn:ByteArray} {xs:List PT} {ov:Value} {w:World}
theorem PubR.lt(h:PubR base M zn xs ov w){k:Nat}(hk:qS xs ov k):base<=k/\k<w.heap.size/\M k:=by
 rcases hk with hk | ⟨x,hx,hk⟩
 ·have:=h.row.lt k hk;exact⟨this.1,this.2,h.row.inM k hk⟩
 ·have:=World.ownsRow.lt (h.fresh x hx) k hk;exact⟨this.1,this.2,(h.off x hx k hk).2⟩
theorem PubR.leaves(h:PubR base M zn xs ov w){M':Nat->Prop}{w':World}(hl:Leaves' M w w' M')(hk:∀ g,qS xs ov g->w'.heap[g]?=w.heap[g]?/\M' g):PubR base M' zn xs ov w':=
 ⟨h.row.leaves (C8 zn) (Da zn) (C9 zn) hl (λg hg=>hk g (.inl hg)),λx hx=>cM (h.fresh x hx) (λg hg=>(hk g (.inr ⟨x,hx,hg⟩)).1),h.apart,λx hx g hg=>⟨(h.off x hx g hg).1,(hk g (.inr ⟨x,hx,hg⟩)).2⟩⟩
theorem PubR.keep(h:PubR base M zn xs ov w){w':World}(hb:Below w.heap.size w w'):PubR base M zn xs ov w':=
 h.leaves (Leaves'.of_below hb) (λg hg=>⟨hb.block g (h.lt hg).2.1,(h.lt hg).2.2⟩)
theorem PubR.trim(h:PubR base M zn xs ov w):PubR base (λk=>M k/\k<w.heap.size) zn xs ov w:=
 h.leaves ((Leaves'.refl M w).more (λ_ e=>.inl e.1)) (λ_ hg=>⟨rfl,(h.lt hg).2.2,(h.lt hg).2.1⟩)
theorem PubR.nil(base:Nat)(M:Nat->Prop)(zn:ByteArray)(w:World):PubR base M zn [] (.slice none 0 0) w:=
 ⟨bN.nil w,(λx hx=>by cases hx),(λi j x y g h=>by simp at h),(λx hx=>by cases hx)⟩
theorem PubR.pushed(h:PubR base M zn xs ov w){s:Np.Signed}{v':Value}{w':World}(ho:bN (oy zn) 8 u7 base (λk=>M k\/v'.ownBlock=some k) w' v' (xs ++ [(s,[],.slice none 0 0)]))(hg:w.grownBy w' ov.ownBlock)(hat:v'.ownBlock=ov.ownBlock\/v'.ownBlock=some w.heap.size) :
 PubR base (λk=>M k\/v'.ownBlock=some k) zn (xs ++ [(s,[],.slice none 0 0)]) v' w':=by
 have get:∀ (k:Nat) (z:PT) (b:Nat),(xs ++ [((s,[],Value.slice none 0 0):PT)])[k]?=some z->z.2.2.ownBlock=some b->xs[k]?=some z:=λk z b hz mY=>by
  rw[List.getElem?_append] at hz;split at hz
  ·exact hz
  ·have:=gQ hz
   rw[List.mem_singleton] at this;subst this;simp[Value.ownBlock] at mY
 refine⟨ho,λx hx=>?_,λi j x y b hx hy eN gw=>h.apart i j x y b (get i x b hx eN) (get j y b hy gw) eN gw,λx hx g ft=>?_⟩
 ·rcases List.mem_append.1 hx with hx | hx
  ·exact cM (h.fresh x hx) (λg ft=>hg.block g (World.ownsRow.lt (h.fresh x hx) g ft).2 (λe=>(h.off x hx g ft).1 e.symm))
  ·rw[List.mem_singleton] at hx;subst hx;exact aG.nil _ _
 ·rcases List.mem_append.1 hx with hx | hx
  ·refine⟨λe=>?_,.inl (h.off x hx g ft).2⟩;rcases hat with e' | e'
   ·exact (h.off x hx g ft).1 (e' ▸ e)
   ·rw[e'] at e
    have:=(World.ownsRow.lt (h.fresh x hx) g ft).2
    have:=Option.some.inj e
    omega
  ·rw[List.mem_singleton] at hx;subst hx;simp[Value.ownBlock] at ft
theorem PubR.changed{g0 n cap:Nat}(h:PubR base M zn xs (.slice (some ⟨g0,0,none⟩) n cap) w)(hn:xs.length=n){i:Nat}{x:PT}(hi:xs[i]?=some x){v':Value}{ps':List Np.Span}{w':World}(rC:w'.os=w.os)(U8:w'.tape=w.tape)(UH:w'.output=w.output)(al:w.heap.size<=w'.heap.size)
 (Cj:∀ k,k<w.heap.size->x.2.2.ownBlock≠some k->w'.heap[k]?=w.heap[k]?) (ho:aG base w' v' ps') (hat:∀ k,v'.ownBlock=some k->x.2.2.ownBlock=some k\/w.heap.size<=k) :
 PubR base (λk=>M k\/v'.ownBlock=some k) zn (xs.set i (x.1,ps',v')) (.slice (some ⟨g0,0,none⟩) n cap) (w'.setCell ⟨g0,i * 8+6,none⟩ v'):=by
 have hx:=gQ hi;have dB:=(cQ.1 hi).1;have kw:=h.row.lt g0 rfl;have tD:Leaves' M w w' (λk=>M k\/v'.ownBlock=some k):=⟨rC,U8,UH,al,λk hk hm=>⟨λe=>by
  rcases e with e | e
  ·exact hm e
  ·rcases hat k e with e | e
   ·exact hm (h.off x hx k e).2
   ·omega,Cj k hk (λe=>hm (h.off x hx k e).2)⟩⟩
 have UT:=h.row.leaves (C8 zn) (Da zn) (C9 zn) tD (λg hg=>⟨Cj g (h.row.lt g hg).2 (λe=>(h.off x hx g e).1 hg),.inl (h.row.inM g hg)⟩);have Gm:=bN.stored (C8 zn) (Da zn) (C9 zn) (y:=(x.1,ps',v')) UT hn hi (c:=6) (by omega) v' (λr hr hR=>by
  obtain⟨s,dv,sv,A,n,c,rfl,h1,h2,h3,h4,h5⟩:=hR;obtain⟨A',c',rfl⟩:=qz ho;exact⟨s,dv,sv,A',_,c',rfl,rfl,h2,h3,h4,h5⟩)
 have Ma:v'.ownBlock≠some g0:=λe=>by
  rcases hat g0 e with e | e
  ·exact (h.off x hx g0 e).1 rfl
  ·omega
 have oM:∀ k,k≠g0->(w'.setCell ⟨g0,i * 8+6,none⟩ v').heap[k]?=w'.heap[k]?:=λk hk=>wQ _ _ _ _ hk;refine⟨Gm,λy hy=>?_,λa b y z g hy hz cn iq=>?_,λy hy g cn=>?_⟩
 ·obtain⟨j,hj,rfl⟩:=nQ.1 hy;rw[List.length_set] at hj;rw[List.getElem_set];split
  ·exact cM ho (λg hg=>oM g (λe=>Ma (e ▸ hg)))
  ·rename_i hne;have hj':=List.getElem_mem hj;refine cM (h.fresh _ hj') (λg hg=>(oM g (λe=>(h.off _ hj' g hg).1 (by rw[e];rfl))).trans (Cj g (World.ownsRow.lt (h.fresh _ hj') g hg).2 (λe=>hne (h.apart i j _ _ g hi (aQ hj) e hg))))
 ·have get:∀ (k:Nat) (z:PT),(xs.set i (x.1,ps',v'))[k]?=some z->(k=i/\z.2.2=v')\/(k≠i/\xs[k]?=some z):=λk z hz=>by
   rw[List.getElem?_set] at hz;split at hz
   ·rename_i e;subst e
    first | rw[Qb dB] at hz | skip
    cases hz
    exact .inl ⟨rfl,rfl⟩
   ·rename_i e;exact .inr ⟨λe'=>e e'.symm,hz⟩
  rcases get a y hy with ⟨rfl,ey⟩ | ⟨na,hy'⟩
  ·rcases get b z hz with ⟨rfl,_⟩ | ⟨nb,hz'⟩
   ·rfl
   ·rw[ey] at cn;rcases hat g cn with e | e
    ·exact h.apart a b _ _ g hi hz' e iq
    ·have:=(World.ownsRow.lt (h.fresh z (gQ hz')) g iq).2
     omega
  ·rcases get b z hz with ⟨rfl,ez⟩ | ⟨nb,hz'⟩
   ·rw[ez] at iq;rcases hat g iq with e | e
    ·exact h.apart a b _ _ g hy' hi cn e
    ·have:=(World.ownsRow.lt (h.fresh y (gQ hy')) g cn).2
     omega
   ·exact h.apart a b _ _ g hy' hz' cn iq
 ·obtain⟨j,hj,rfl⟩:=nQ.1 hy;rw[List.length_set] at hj;rw[List.getElem_set] at cn;split at cn
  ·exact⟨λe=>Ma (by rw[cn];exact e.symm ▸ rfl),.inr cn⟩
  ·exact⟨(h.off _ (List.getElem_mem hj) g cn).1,.inl (h.off _ (List.getElem_mem hj) g cn).2⟩
theorem PubR.slr(h:PubR base M zn xs ov w)(hz:zn.size<=140737488355328)(hl:xs.length<=140737488355328)(vd:∀ x∈xs,x.2.1.length<=140737488355328){Mq:Nat->Prop}(hM:∀ k,Mq k->M k/\¬ qS xs ov k):SlR ea 8 (be w Mq) w.heap.size ov (xs.map λx=>⟨zn.data.toList,x.1,x.2.1,[]⟩):=by
 obtain⟨rows,h1,h2,h3,h4⟩:=h.row;have h5:bj ea 8 u7 base w.heap.size (be w Mq) ov (xs.map λx=>(⟨zn.data.toList,x.1,x.2.1,[]⟩:Np.Held)):=by
  refine⟨rows,by simp[h1],?_,λi r y hr hy=>?_⟩
  ·rw[List.length_map];exact cM h2 (λg hg=>kf (λhm=>(hM g hm).2 (.inl hg)))
  ·rw[List.getElem?_map] at hy;obtain⟨x,hx,rfl⟩:=Option.map_eq_some_iff.1 hy;obtain⟨h6,s,dv,sv,A,n,c,rfl,e1,e2,e3,e4,e5⟩:=h4 i r x hr hx;have GF:=gQ hx;have h7:aG base (be w Mq) x.2.2 x.2.1:=cM (h.fresh x GF) (λg hg=>kf (λhm=>(hM g hm).2 (.inr ⟨x,GF,hg⟩)));have h8:=h7.slr (vd x GF);rw[gl] at h8;exact⟨h6,zn,s,dv,sv,x.2.2,.slice none 0 0,rfl,rfl,hz,e2,e3,e4.sans zY (λk hk=>(hM k hk).1),e5.sans Ae (λk hk=>(hM k hk).1),h8,⟨none,0,rfl,by simp,by simp,λi x hx=>by simp at hx⟩⟩
 have h6:=h5.slr iD (by rw[gl];exact bQ _) (by rw[List.length_map];exact hl);rwa [gl] at h6
end
structure PubK(S:Nat->Prop)(w2:World)(base:Nat)(zn:ByteArray)(M:Nat->Prop)(xs:List PT)(ov:Value)(w:World):Prop where
 rows:PubR base M zn xs ov w
 lt:∀ k,M k->k<w.heap.size
 ex:∀ k,k<w2.heap.size->¬ S k->M k
 own:∀ k,qS xs ov k->S k\/w2.heap.size<=k
 rd:RdStep S w2 w
section
variable {S:Nat->Prop} {w2:World} {base:Nat} {M:Nat->Prop} {zn:ByteArray} {xs:List PT} {ov:Value} {w:World}
theorem PubK.start(h:PubR base M zn xs ov w)(hex:∀ k,¬ S k->M k)(hown:∀ k,qS xs ov k->S k):PubK S w base zn (λk=>M k/\k<w.heap.size) xs ov w:=
 ⟨h.trim,λ_ e=>e.2,λk hk hs=>⟨hex k hs,hk⟩,λk e=>.inl (hown k e),RdStep.refl _ _⟩
theorem PubK.keep(h:PubK S w2 base zn M xs ov w){w':World}(hb:Below w.heap.size w w'):PubK S w2 base zn M xs ov w':=
 ⟨h.rows.keep hb,λk e=>lQ (h.lt k e) hb.size,h.ex,h.own,h.rd.then_below hb⟩
theorem PubK.touch(h:PubK S w2 base zn M xs ov w){b:Nat}(hM:M b)(hS:S b\/w2.heap.size<=b)(hn:¬ qS xs ov b){w':World}(ht:Turned b w w'):PubK S w2 base zn M xs ov w':=
 ⟨h.rows.leaves ⟨ht.os,ht.tape,ht.output,Nat.le_of_eq ht.size.symm,λk hk hm=>⟨hm,ht.block k (λe=>hm (e ▸ hM))⟩⟩ (λg hg=>⟨ht.block g (λe=>hn (e ▸ hg)),(h.rows.lt hg).2.2⟩),λk e=>by rw[ht.size];exact h.lt k e,h.ex,h.own,
  ⟨ht.os.trans h.rd.os,ht.tape.trans h.rd.tape,ht.output.trans h.rd.output,by rw[ht.size];exact h.rd.size,λk hk hs=>(ht.block k (λe=>by
   subst e;rcases hS with hS | hS
   ·exact hs hS
   ·omega)).trans (h.rd.keep k hk hs)⟩⟩
theorem PubK.push(h:PubK S w2 base zn M xs ov w){s:Np.Signed}{v':Value}{w':World}(ho:bN (oy zn) 8 u7 base (λk=>M k\/v'.ownBlock=some k) w' v' (xs ++ [(s,[],.slice none 0 0)]))(hg:w.grownBy w' ov.ownBlock)(hat:v'.ownBlock=ov.ownBlock\/v'.ownBlock=some w.heap.size) :
 PubK S w2 base zn (λk=>M k\/v'.ownBlock=some k) (xs ++ [(s,[],.slice none 0 0)]) v' w':=by
 refine⟨h.rows.pushed ho hg hat,λk e=>?_,λk hk hs=>.inl (h.ex k hk hs),λk e=>?_,h.rd.grown hg (λk e=>h.own k (.inl e))⟩
 ·rcases e with e | e
  ·exact lQ (h.lt k e) hg.size
  ·exact (ho.lt k e).2
 ·rcases e with e | ⟨x,hx,e⟩
  ·rcases hat with e' | e'
   ·exact h.own k (.inl (e' ▸ e))
   ·rw[e'] at e
    have:=Option.some.inj e
    have:=h.rd.size
    exact .inr (by omega)
  ·rcases List.mem_append.1 hx with hx | hx
   ·exact h.own k (.inr ⟨x,hx,e⟩)
   ·rw[List.mem_singleton] at hx;subst hx;simp[Value.ownBlock] at e
theorem PubK.changed{g0 n cap:Nat}(h:PubK S w2 base zn M xs (.slice (some ⟨g0,0,none⟩) n cap) w)(hn:xs.length=n){i:Nat}{x:PT}(hi:xs[i]?=some x){v':Value}{ps':List Np.Span}{w':World}(hg:w.grownBy w' x.2.2.ownBlock)(ho:aG base w' v' ps')(hat:v'.ownBlock=x.2.2.ownBlock\/v'.ownBlock=some w.heap.size) :
 PubK S w2 base zn (λk=>M k\/v'.ownBlock=some k) (xs.set i (x.1,ps',v')) (.slice (some ⟨g0,0,none⟩) n cap) (w'.setCell ⟨g0,i * 8+6,none⟩ v'):=by
 have hx:=gQ hi;have uU:∀ k,v'.ownBlock=some k->x.2.2.ownBlock=some k\/w.heap.size<=k:=λk e=>by
  rcases hat with e' | e'
  ·exact .inl (e' ▸ e)
  ·rw[e'] at e;exact .inr (Nat.le_of_eq (Option.some.inj e))
 have hr:=h.rows.changed hn hi hg.os hg.tape hg.output hg.size (λk hk hne=>hg.block k hk (λe=>hne e.symm)) ho uU;have hz:(w'.setCell ⟨g0,i * 8+6,none⟩ v').heap.size=w'.heap.size:=by simp[World.setCell]
 refine⟨hr,λk e=>?_,λk hk hs=>.inl (h.ex k hk hs),λk e=>?_,(h.rd.grown hg (λk e=>h.own k (.inr ⟨x,hx,e⟩))).setCell (h.own g0 (.inl rfl)) _⟩
 ·rw[hz];rcases e with e | e
  ·exact lQ (h.lt k e) hg.size
  ·exact (World.ownsRow.lt ho k e).2
 ·rcases e with e | ⟨y,hy,e⟩
  ·exact h.own k (.inl e)
  ·rcases List.mem_or_eq_of_mem_set hy with hy | rfl
   ·exact h.own k (.inr ⟨y,hy,e⟩)
   ·rcases uU k e with e | e
    ·exact h.own k (.inr ⟨x,hx,e⟩)
    ·have:=h.rd.size
     exact .inr (by omega)
theorem PubK.stop(h:PubK S w2 base zn M xs ov w):PubR base (λk=>M k\/¬ (S k\/(w2.heap.size<=k/\k<w.heap.size))) zn xs ov w/\(∀ k,qS xs ov k->S k\/(w2.heap.size<=k/\k<w.heap.size)):=by
 refine⟨h.rows.leaves ⟨rfl,rfl,rfl,bQ _,λk hk hm=>⟨λe=>?_,rfl⟩⟩ (λg hg=>⟨rfl,.inl (h.rows.lt hg).2.2⟩),λk e=>(h.own k e).imp id (λe2=>⟨e2,(h.rows.lt e).2.1⟩)⟩;rcases e with e | e
 ·exact hm e
 ·by_cases hs:S k
  ·exact e (.inl hs)
  ·by_cases ir:k<w2.heap.size
   ·exact hm (h.ex k ir hs)
   ·exact e (.inr ⟨by omega,hk⟩)
end
theorem OG(w:World){o:Oper}{a:Act}{K:Act->World->Prop}{Q:Exit->Act->World->Prop}(s x:Operand)(ho:o.op = .call { callee:=.builtin .append,args:=#[s,x],argTypes:=#[55,55] })
 (base:Nat) (v:Value) (ps:List Np.Span) (hs:a.eval s=v) (hown:aG base w v ps) (blk:Nat) (f u:Int) (hx:a.eval x = .slice (some ⟨blk,0,none⟩) 1 1) (hc:w.cell? ⟨blk,0,none⟩=some (.int .i64 f)) (aW:w.cell? ⟨blk,1,none⟩=some (.int .i64 u)) (hlen:ps.length<=100000) (cW:base<=w.heap.size)
 (h:∀ v' w',aG base w' v' (ps ++ [⟨f,u⟩])->w.grownBy w' v.ownBlock->(v'.ownBlock=v.ownBlock\/v'.ownBlock=some w.heap.size)->K (a.put o.dst v') w'):o.wp prog a w K Q:=by
 obtain⟨i0,hi,dI,bg,aO⟩:=info_parts Tryz.infoSpan;obtain⟨v',w',cH,r1,r2,_,r4⟩:=run_append_own_at (P:=prog) w base 55 o.type 110 i0 (.agg #[.int .i64 0,.int .i64 0]) 2 16 underlying55 hi dI bg aO rfl (by decide) v ps.length (ps.map eL).flatten hown ⟨blk,0,none⟩ 1 1 [.int .i64 f,.int .i64 u] rfl (by
  intro j y hj
  match j,hj with
  | 0,hj=>simp at hj;subst hj;simpa [Addr.add] using hc
  | 1,hj=>simp at hj;subst hj;simpa [Addr.add] using aW) (by simp[Value.oneCell']) (by unfold maxLen;omega) (by omega) cW
 unfold Oper.wp execOp;simp only[ho,resolve,invoke,builtin,Sem.run_bind,Sem.run_pure,Result.andThen_ok,List.map_toArray,List.map_cons,List.map_nil,hs,hx,cH];refine h v' w' ?_ r2 r4;have e:(List.map eL (ps ++ [(⟨f,u⟩:Np.Span)])).flatten=(ps.map eL).flatten ++ [.int .i64 f,.int .i64 u]:=by simp[eL]
 unfold aG;rw[List.length_append,List.length_singleton,e];exact r1
theorem WA{us:List PT}{ps:List (Np.Span×Np.Signed)}(h:us.map (λx=>(x.1,x.2.1))=Np.dR ps){i:Nat}{s:Np.Signed}(hs:(Np.cU (ps.map (·.2)))[i]?=some s):∃ v,us[i]?=some (s,Np.eG ps s,v):=by
 have h1:(us.map (λx=>(x.1,x.2.1)))[i]?=(Np.dR ps)[i]?:=by rw[h]
 unfold Np.dR at h1;rw[List.getElem?_map,List.getElem?_map,hs,Option.map_some] at h1;obtain⟨⟨a,b,v⟩,hx,he⟩:=Option.map_eq_some_iff.1 h1;simp only[Prod.mk.injEq] at he;obtain⟨rfl,rfl⟩:=he;exact⟨v,hx⟩
theorem CQ{us:List PT}{ps:List (Np.Span×Np.Signed)}(h:us.map (λx=>(x.1,x.2.1))=Np.dR ps):us.map (·.1)=Np.cU (ps.map (·.2)):=by
 rw[<-Np.Wv,<-h,List.map_map];rfl
theorem MI{us:List PT}{ps:List (Np.Span×Np.Signed)}(h:us.map (λx=>(x.1,x.2.1))=Np.dR ps):us.length<=ps.length:=by
 have h1:=Qd List.length h;rw[List.length_map,Np.Wx] at h1;have h2:=Np.wl (ps.map (·.2));rw[List.length_map] at h2;omega
theorem WC{us:List PT}{ps:List (Np.Span×Np.Signed)}(h:us.map (λx=>(x.1,x.2.1))=Np.dR ps){i:Nat}{s:Np.Signed}(hs:(Np.cU (ps.map (·.2)))[i]?=some s)(sp:Np.Span)(v':Value):(us.set i (s,Np.eG ps s ++ [sp],v')).map (λx=>(x.1,x.2.1))=Np.dR (ps ++ [(sp,s)]):=by
 rw[List.map_set,h,Np.Wz (p:=(sp,s)) hs]
theorem WB{us:List PT}{ps:List (Np.Span×Np.Signed)}(h:us.map (λx=>(x.1,x.2.1))=Np.dR ps){s:Np.Signed}(hs:s∉Np.cU (ps.map (·.2)))(sp:Np.Span)(v0 v':Value):((us ++ [((s,[],v0):PT)]).set us.length (s,[] ++ [sp],v')).map (λx=>(x.1,x.2.1))=Np.dR (ps ++ [(sp,s)]):=by
 rw[List.set_append_right _ _ (bQ _),Nat.sub_self,List.set_cons_zero,List.map_append,h,Np.Wy (p:=(sp,s)) hs];rfl
theorem NO{us:List PT}{i:Nat}{x y:PT}(h:us[i]?=some x)(hy:y.1=x.1):(us.set i y).map (·.1)=us.map (·.1):=by
 rw[List.map_set];apply List.ext_getElem?;intro j;rw[List.getElem?_set];split
 ·rename_i e;subst e;have hl:=(cQ.1 h).1
  first | rw[List.length_map,Qb hl,List.getElem?_map,h,Option.map_some,hy] | (rw[List.getElem?_map,h,Option.map_some,hy])
 ·rfl
theorem FY{base:Nat}{M:Nat->Prop}{zn:ByteArray}{w:World}{g n cap:Nat}{xs:List PT}(h:bN (oy zn) 8 u7 base M w (.slice (some ⟨g,0,none⟩) n cap) xs){k:Nat}{x:PT}(hx:xs[k]?=some x):w.cell? ⟨g,k * 8+6,none⟩=some x.2.2:=by
 obtain⟨rows,h1,h2,h3,h4⟩:=h;have hl:=bj.rows_len (w:=be w M) (B:=w.heap.size) h1 h4;have hk:=(cQ.1 hx).1;have hr:=aQ (show k<rows.length by omega);obtain⟨r,hr'⟩:∃ r,rows[k]?=some r:=⟨_,hr⟩;obtain⟨h5,s,dv,sv,A,n',c,he,_⟩:=h4 k r x hr' hx;have h6:rows.flatten[k * 8+6]?=some x.2.2:=by
  have h7:=Fe rows k 6 x.2.2 r hl (by omega) hr';have h8:r.set 6 x.2.2=r:=by rw[he];rfl
  rw[h8] at h7;have h9:rows.set k r=rows:=by
   apply List.ext_getElem?;intro i;rw[List.getElem?_set];split
   ·rename_i e;subst e;rw[Qb (by omega),hr']
   ·rfl
  rw[h9] at h7;rw[<-h7,List.getElem?_set,Qb rfl,Qb];rw[h2.1];omega
 have h7:=h2.cells (g:=g) rfl _ _ h6;simpa [Addr.add] using h7
def oT(l:List (Np.Signed×List Np.Span))(i:Nat):List (Np.Signed×List Np.Span):=(l.take i).map (λx=>(x.1,Np.fX x.2))++l.drop i
theorem WX(l:List (Np.Signed×List Np.Span)):oT l 0=l:=by simp[oT]
theorem WV{l:List (Np.Signed×List Np.Span)}{i:Nat}(h:l.length=i):oT l i=l.map λx=>(x.1,Np.fX x.2):=by
 unfold oT;rw[kQ (by omega),List.drop_of_length_le (by omega),List.append_nil]
theorem MT{us:List PT}{l:List (Np.Signed×List Np.Span)}{i:Nat}(h:us.map (λx=>(x.1,x.2.1))=oT l i)(hi:i<l.length):∃ x,us[i]?=some x/\l[i]?=some (x.1,x.2.1):=by
 have h1:(us.map (λx=>(x.1,x.2.1)))[i]?=l[i]?:=by
  rw[h];unfold oT;rw[oQ (by simp only[List.length_map,List.length_take];omega),List.length_map,List.length_take,List.getElem?_drop];congr 1;omega
 rw[List.getElem?_map,aQ hi] at h1;obtain⟨x,hx,he⟩:=Option.map_eq_some_iff.1 h1;exact⟨x,hx,by rw[aQ hi,he]⟩
theorem WW{us:List PT}{l:List (Np.Signed×List Np.Span)}{i:Nat}(h:us.map (λx=>(x.1,x.2.1))=oT l i)(hi:i<l.length){x:PT}(hx:us[i]?=some x)(v':Value):(us.set i (x.1,Np.fX x.2.1,v')).map (λx=>(x.1,x.2.1))=oT l (i+1):=by
 obtain⟨y,hy,hl⟩:=MT h hi;rw[hx] at hy
 cases hy
 rw[List.map_set,h];obtain⟨hi',he⟩:=cQ.1 hl;unfold oT;rw[List.set_append_right _ _ (by simp only[List.length_map,List.length_take];omega),List.length_map,List.length_take,show i - min i l.length=0 by omega,sQ hi',List.set_cons_zero,fQ hi',List.map_append,List.map_singleton,he,List.append_assoc];rfl
section
variable {S:Nat->Prop} {w2:World} {base:Nat} {M:Nat->Prop} {zn:ByteArray} {xs:List PT} {w:World}
theorem PubK.normed{g0 n cap:Nat}(h:PubK S w2 base zn M xs (.slice (some ⟨g0,0,none⟩) n cap) w)(hn:xs.length=n){i:Nat}{x:PT}(hi:xs[i]?=some x){v':Value}{ps':List Np.Span}{w':World}(hb:Below w.heap.size w w')(ho:aG w.heap.size w' v' ps')(uZ:base<=w.heap.size) :
 PubK S w2 base zn (λk=>M k\/v'.ownBlock=some k) (xs.set i (x.1,ps',v')) (.slice (some ⟨g0,0,none⟩) n cap) (w'.setCell ⟨g0,i * 8+6,none⟩ v'):=by
 have hx:=gQ hi;have hr:=h.rows.changed hn hi hb.os hb.tape hb.output hb.size (λk hk _=>hb.block k hk) (ho.weak uZ) (λk e=>.inr (ho.lt k e).1);have hz:(w'.setCell ⟨g0,i * 8+6,none⟩ v').heap.size=w'.heap.size:=by simp[World.setCell]
 have h2:=h.rd.size;refine⟨hr,λk e=>?_,λk hk hs=>.inl (h.ex k hk hs),λk e=>?_,(h.rd.then_below hb).setCell (h.own g0 (.inl rfl)) _⟩
 ·rw[hz];rcases e with e | e
  ·exact lQ (h.lt k e) hb.size
  ·exact (ho.lt k e).2
 ·rcases e with e | ⟨y,hy,e⟩
  ·exact h.own k (.inl e)
  ·rcases List.mem_or_eq_of_mem_set hy with hy | rfl
   ·exact h.own k (.inr ⟨y,hy,e⟩)
   ·have:=(ho.lt k e).1
    exact .inr (by omega)
theorem PubK.calm{ov:Value}(h:PubK S w2 base zn M xs ov w){T:Nat->Prop}(hT:∀ k,T k->k<w2.heap.size/\¬ S k){w':World}(hl:w'.os=w.os/\w'.tape=w.tape/\w'.output=w.output)(hz:w'.heap.size=w.heap.size)(hk:∀ k,¬ T k->w'.heap[k]?=w.heap[k]?):PubR base M zn xs ov w':=
 h.rows.leaves ⟨hl.1,hl.2.1,hl.2.2,Nat.le_of_eq hz.symm,λk _ hm=>⟨hm,hk k (λe=>hm (h.ex k (hT k e).1 (hT k e).2))⟩⟩ (λg hg=>⟨hk g (λe=>by
  have h1:=hT g e;rcases h.own g hg with h2 | h2
  ·exact h1.2 h2
  ·omega),(h.rows.lt hg).2.2⟩)
end
theorem Np.XB{h:Np.Hist}{zone:List UInt8}{s:Np.Signed}{p:Np.Span}(hp:p∈Np.eG (Np.cN h.copies zone) s)(hv:Np.VHist h):Np.xK p:=by
 unfold Np.eG at hp;obtain⟨q,hq,rfl⟩:=List.mem_map.1 hp;have hq:=(List.mem_filter.1 hq).1;obtain⟨c,hc,_,_,he⟩:=Np.tT.1 hq;have h1:=(hv.each c hc).times;have h2:=hv.stop;rw[he];exact⟨h1.1,h1.2.1,by show c.til<=20000000;omega⟩
theorem Np.Hl(ps:List (Np.Span×Np.Signed))(s:Np.Signed):(Np.eG ps s).length<=ps.length:=by
 unfold Np.eG;rw[List.length_map];exact List.length_filter_le _ _
theorem Np.MJ{ps:List (Np.Span×Np.Signed)}{i:Nat}{s:Np.Signed}{l:List Np.Span}(h:(Np.dR ps)[i]?=some (s,l)):l=Np.eG ps s:=by
 unfold Np.dR at h;rw[List.getElem?_map] at h;obtain⟨x,_,he⟩:=Option.map_eq_some_iff.1 h
 cases he
 rfl
end
section
open Go.RowKit Go.Shelf
attribute [local go_sem] Oper.semAt_some CV.cells
theorem bj.weakR{α:Type}{R:afQ α}{sz:Nat}{e:TypeId}{base B base':Nat}{w:World}{v:Value}{xs:List α}(h:bj R sz e base B w v xs)(hb:base'<=base)(hr:∀ r x,R w B r x->R w base' r x):bj R sz e base' base' w v xs:=by
 obtain⟨rows,h1,h2,h3⟩:=h;exact⟨rows,h1,⟨h2.1,by
  rcases h2.2 with h | ⟨g,cap,cur,h4,h5,h6⟩
  ·exact .inl h
  ·exact .inr ⟨g,cap,cur,h4,yQ hb h5,h6⟩⟩,λi r x hr' hx=>⟨(h3 i r x hr' hx).1,hr _ _ (h3 i r x hr' hx).2⟩⟩
theorem bj.ltR{α:Type}{R:afQ α}{sz:Nat}{e:TypeId}{base B:Nat}{w:World}{v:Value}{xs:List α}(h:bj R sz e base B w v xs):∀ g,v.ownBlock=some g->base<=g/\g<w.heap.size:=by
 obtain⟨rows,h1,h2,h3⟩:=h;exact h2.lt
structure At3Inv(h:Np.Hist)(Zt n1 n4:Nat)(w2:World)(A:List Nat)(e:Nat->Value)(u:World):Prop where
 below:Below Zt w2 u
 lt:Zt<=u.heap.size
 hosts:2∈A->∃ A5 c5,e 2 = .slice A5 n1 c5/\bj kl 3 101 Zt Zt u (e 2) h.hosts
 hints:7∈A->∃ A6 c6,e 7 = .slice A6 n4 c6/\bj gL 1 3 Zt Zt u (e 7) h.hints
 box:9∈A->∃ b,e 9 = .pointer (some ⟨b,0,none⟩)/\Zt<=b/\b<u.heap.size/\u.heap[b]?=some (.cells #[.slice none 0 0,.slice none 0 0,.string ⟨#[]⟩,.int .i64 0,.int .i64 0,.slice none 0 0,.slice none 0 0] 68)/\(2∈A->(e 2).ownBlock≠some b)/\(7∈A->(e 7).ownBlock≠some b)
theorem At3Inv.keep{h:Np.Hist}{Zt n1 n4:Nat}{w2:World}{A:List Nat}{e:Nat->Value}{u u':World}(k:At3Inv h Zt n1 n4 w2 A e u)(hb:Below u.heap.size u u'):At3Inv h Zt n1 n4 w2 A e u':=
 ⟨k.below.trans (hb.mono k.lt),yQ k.lt hb.size,λh=>(k.hosts h).imp λ_ h=>h.imp λ_ h=>⟨h.1,h.2.keep nl hb k.lt⟩,λh=>(k.hints h).imp λ_ h=>h.imp λ_ h=>⟨h.1,h.2.keep kM hb k.lt⟩,λh=>(k.box h).imp λb h=>⟨h.1,h.2.1,lQ h.2.2.1 hb.size,(hb.block b h.2.2.1).trans h.2.2.2.1,h.2.2.2.2⟩⟩
theorem At3Inv.host{h:Np.Hist}{Zt n1 n4:Nat}{w2:World}{A:List Nat}{e:Nat->Value}{u u':World}(k:At3Inv h Zt n1 n4 w2 A e u)(_:2∉A)(hb:Below u.heap.size u u'){A5:Option Addr}{c5:Nat}(ho:bj kl 3 101 u.heap.size u.heap.size u' (.slice A5 n1 c5) h.hosts):At3Inv h Zt n1 n4 w2 (2::A) (Ou e 2 (.slice A5 n1 c5)) u':=by
 have k2:=k.keep hb;refine⟨k2.below,k2.lt,λ_=>⟨A5,c5,rfl,ho.weakR k.lt (λ_ _ h=>h)⟩,λh7=>k2.hints (by simpa using h7),λh9=>?_⟩;obtain⟨b,h1,h2,h3,h4,h5,h6⟩:=k2.box (by simpa using h9);obtain⟨b',h1',_,h3',_⟩:=k.box (by simpa using h9);rw[h1] at h1'
 cases h1'
 exact⟨b,h1,h2,h3,h4,(λ_=>λe=>by have:=(ho.ltR _ e).1;omega),λh7=>h6 (by simpa using h7)⟩
theorem At3Inv.made{h:Np.Hist}{Zt n1 n4:Nat}{w2:World}{A:List Nat}{e:Nat->Value}{u:World}(k:At3Inv h Zt n1 n4 w2 A e u):At3Inv h Zt n1 n4 w2 (9::A) (Ou e 9 (.pointer (some ⟨u.heap.size,0,none⟩))) (u.alloc (.cells #[.slice none 0 0,.slice none 0 0,.string ⟨#[]⟩,.int .i64 0,.int .i64 0,.slice none 0 0,.slice none 0 0] 68)):=by
 have hb:Below u.heap.size u (u.alloc (.cells #[.slice none 0 0,.slice none 0 0,.string ⟨#[]⟩,.int .i64 0,.int .i64 0,.slice none 0 0,.slice none 0 0] 68)):=(vQ _ _).alloc (bQ _) _;have k2:=k.keep hb;refine⟨k2.below,k2.lt,λh2=>k2.hosts (by simpa using h2),λh7=>k2.hints (by simpa using h7),λ_=>⟨u.heap.size,rfl,k.lt,by simp,heap_alloc_new _ _,λh2=>?_,λh7=>?_⟩⟩
 ·obtain⟨A5,c5,h3,h4⟩:=k.hosts (by simpa using h2);exact λe=>by have:=(h4.ltR _ e).2;omega
 ·obtain⟨A6,c6,h3,h4⟩:=k.hints (by simpa using h7);exact λe=>by have:=(h4.ltR _ e).2;omega
end
section
open Go.RowKit
theorem NY{α:Type}{R:afQ α}{sz:Nat}{w:World}{B n c:Nat}{A:Option Addr}{xs:List α}(h:SlR R sz w B (.slice A n c) xs):xs.length=n:=by
 obtain⟨A',c',h1,_⟩:=aj h;simp only[Value.slice.injEq] at h1;exact h1.2.1.symm
theorem Np.N9:∀ (l:List Np.Span) (p:Option Int),Np.ApartS l->(∀ s∈l,0<=s.frm/\s.til<=20000000)->(∀ u,p=some u->∀ s∈l,u<s.frm)->Np.jB p l=true
 | [],_,_,_,_=>by unfold Np.jB;rfl
 | s::r,p,ha,hb,hp=>by
   have h1:=hb s (List.mem_cons_self ..);have h2:=ha.full s (List.mem_cons_self ..);have ih:=Np.N9 r (some s.til) ha.tail (λx hx=>hb x (mQ _ hx)) (λu hu x hx=>by cases hu;exact (List.pairwise_cons.1 ha.apart).1 x hx);unfold Np.jB;rw[ih,Bool.and_true]
   cases p with
   | none=>simp[Np.gF,h1,h2]
   | some u=>simp[Np.gF,h1,h2,hp u rfl s (List.mem_cons_self ..)]
theorem Np.Zy{h:Np.Hist}(v:Np.VHist h){zone:List UInt8}(hl:(Np.cN h.copies zone).length<=20000){x:Np.Held}(hx:x∈Np.pub h.copies zone){d:Int}(hd:0<=d/\d<=1000)(Cq:x.signed.set.life<=100000):Np.kN (Np.iE x d)=true:=by
 obtain⟨_,_,m3,_,m5⟩:=Np.CO v.full hx;have h1:x.fresh.length<=20000:=by
  have hx':=hx;unfold Np.pub Np.pX at hx';obtain⟨s,_,rfl⟩:=List.mem_map.1 hx';exact yQ (tU _) (yQ (Dk _ _) hl)
 have h2:(Np.iE x d).length<=20000:=by
  unfold Np.iE;refine yQ (tU _) ?_;rw[List.length_map];exact h1
 have ha:=Np.Zx (d:=d) m3.full;unfold Np.kN;rw[uQ h2,Bool.true_and];refine Np.N9 _ _ ha (λs hs=>?_) (λu hu=>by cases hu);have hf:=ha.full s hs;obtain⟨r,hr,k1,_⟩:=(Np.Ml (t:=s.frm) m3.full).1 ⟨s,hs,Int.le_refl _,hf⟩;obtain⟨q,hq,_,k4⟩:=(Np.Ml (t:=s.til - 1) m3.full).1 ⟨s,hs,by omega,by omega⟩;obtain⟨c,hc,_,_,e1,_⟩:=(m5 r.frm).1 ⟨r,hr,Int.le_refl _,m3.full r hr⟩;have hqf:=m3.full q hq;obtain⟨c2,db,_,_,_,e2⟩:=(m5 (q.til - 1)).1 ⟨q,hq,by omega,by omega⟩;have e3:=(v.each c hc).times;have e4:=(v.each c2 db).times;have e5:=v.stop;have e6:Np.jE x.signed d q.til<=q.til - 1+max x.signed.set.life 1+2 * d:=by
  unfold Np.jE
  cases x.signed.sigs with
  | nil=>dsimp only;omega
  | cons g r=>dsimp only;omega
 omega
structure Np.UseB(x:Np.Signed):Prop where
 life:0<=x.set.life/\x.set.life<=1000000
 sig:∀ g r,x.sigs=g::r->0<=g.til/\g.til<=100000000
theorem SO(x:Np.Signed)(hx:Np.UseB x)(d f u:Int)(FU:0<=d/\d<=1000)(hu0:0<=u/\u<=100000000)(X D:Nat)(gA:Option Addr)(gn gc:Nat)(w:World)(hX:X<w.heap.size)(hD:D<w.heap.size)
 (hl:w.cell? ⟨X,3,none⟩=some (.int .i64 x.set.life)) (hg:w.cell? ⟨X,5,none⟩=some (.slice gA gn gc)) (hd:w.cell? ⟨D,0,none⟩=some (.int .i64 d)) (hs:SlR cV 6 w w.heap.size (.slice gA gn gc) x.sigs) :
 Calls prog 140 #[.agg #[.int .i64 f,.int .i64 u],.pointer (some ⟨X,0,none⟩),.pointer (some ⟨D,0,none⟩)] w (aeJ w.heap.size w (.agg #[.int .i64 f,.int .i64 (max u (Np.jE x d u))])):=by
 have ip:=NY hs;obtain⟨lf,y9⟩:=abK x.set.life;have Ut:=hx.life;rw[y9] at hl Ut;have vp:max lf 1<=1000000/\1<=max lf 1:=by omega
 obtain⟨lm,vq⟩:=abK (max lf 1);have IN:=jq vq;rw[vq] at vp
 cases mX:x.sigs with
 | nil=>
  rw[mX] at ip;obtain rfl:gn=0:=ip.symm;have HE:Hid (Np.jE x d u=u - 1+lm+2 * d):=jq (by unfold Np.jE;rw[mX,y9,vq]);rw[HE.out];clear mX ip hs hx y9 vq;go_enter func140,ntmps140;go_wp2_with fail;rw[<-IN.out];refine bodyPost_ret (v:=.agg #[.int .i64 f,.int .i64 (max u (u - 1+max lf 1+2 * d))]) (by simp[results,results140,go_sem]) rfl ⟨rfl,?_⟩;exact ((vQ _ _).alloc (bQ _) _).alloc (by simp) _
 | cons g r=>
  rw[mX] at hs ip;have kw:(g::r)[0]?=some g:=rfl;obtain⟨b,o,c',t,hA,bp,_,_,_,_,_,_,g4,_⟩:=oZ hs kw;simp only[Value.slice.injEq] at hA;obtain⟨rfl,-,rfl⟩:=hA;have dw:=hx.sig g r mX;have HE:Hid (Np.jE x d u=min (u - 1+lm+2 * d) (g.til+d+1)):=jq (by unfold Np.jE;rw[mX,y9,vq]);have bG:1<=gn:=by rw[<-ip];simp
  have hk:(0:Int)<(gn:Int):=by omega
  have ir:decide ((0:Int)<(gn:Int))=true:=uQ hk;obtain⟨W,hW⟩:=abK ((w.alloc (.cells #[.int .i64 f,.int .i64 u] 110)).alloc (.cells #[.int .i64 0,.int .i64 0] 110));rw[HE.out];have ft:w.cell? ⟨b,o+4,none⟩=some (.int .i64 g.til):=by simpa using g4
  clear mX ip hs hx y9 vq kw g4;obtain⟨gt,vg⟩:=abK g.til;rw[vg] at ft dw |-;clear vg hW;go_enter func140,ntmps140;go_wp2_with fail;go_quiet (fail);go_wp2_with fail;rw[<-IN.out];refine bodyPost_ret (v:=.agg #[.int .i64 f,.int .i64 (max u (min (u - 1+max lf 1+2 * d) (gt+d+1)))]) (by simp[results,results140,go_sem]) rfl ⟨rfl,?_⟩;exact ((below_drewN (((vQ _ _).alloc (bQ _) _).alloc (by simp) _) _).setCell (by dsimp only;omega) _).setCell (by dsimp only;omega) _
theorem Sc:∀ args w,(callFunc 140 args).run prog w = .ok (.enter 140 args) w:=enters_of func140 (by kernel_rfl) rfl
theorem Np.SP{x:Np.Signed}(hx:Np.UseB x){d:Int}(hd:0<=d/\d<=1000){s:Np.Span}(hs:0<=s.frm/\s.frm<s.til/\s.til<=10000000):Np.xK (Np.ko x d s):=by
 have e1:Np.jE x d s.til<=s.til - 1+max x.set.life 1+2 * d:=by
  unfold Np.jE
  cases x.sigs with
  | nil=>dsimp only;omega
  | cons g r=>dsimp only;omega
 have h2:=hx.life;refine⟨hs.1,?_,?_⟩
 ·show s.frm<max s.til (Np.jE x d s.til);omega
 ·show max s.til (Np.jE x d s.til)<=20000000;omega
theorem Zw(x:Np.Held)(hx:Np.UseB x.signed)(d:Int)(FU:0<=d/\d<=1000)(hf:∀ s∈x.fresh,0<=s.frm/\s.frm<s.til/\s.til<=10000000)(bn:x.fresh.length<=20000)(z s:ByteArray)(dA gA fA pA:Option Addr)(dn dc gn gc fn fc pn pc:Nat)(w:World)
 (hs:SlR cV 6 w w.heap.size (.slice gA gn gc) x.signed.sigs) (hr:SlR cB 2 w w.heap.size (.slice fA fn fc) x.fresh) :
 Calls prog 62 #[.agg #[.string z,.string s,.int .i64 x.signed.set.type,.int .i64 x.signed.set.life,.slice dA dn dc,.slice gA gn gc,.slice fA fn fc,.slice pA pn pc],.int .i64 d] w λe w'=>∃ v',e = .returned v'/\aG w.heap.size w' v' (Np.iE x d)/\Below w.heap.size w w':=by
 have HX:=jq hx;have HF:=jq hf;have HS:=jq hs;have HR:=jq hr;have gT:x.fresh.length=fn:=NY hr;have K7:fn<=fc:=by
  obtain⟨A',c',h1,h2,_⟩:=aj hr;simp only[Value.slice.injEq] at h1;omega
 have HN:=jq gT;have UB:fn<=20000:=by omega
 obtain⟨X,hX⟩:=abK w.heap.size;obtain⟨W1,am⟩:=abK ((w.alloc (.cells #[.string z,.string s,.int .i64 x.signed.set.type,.int .i64 x.signed.set.life,.slice dA dn dc,.slice gA gn gc,.slice fA fn fc,.slice pA pn pc] 57)).alloc (.cells #[.int .i64 d] 3));have an:Below w.heap.size w W1:=by rw[<-am];exact ((vQ _ _).alloc (bQ _) _).alloc (by simp) _
 have bg:W1.heap.size=X+2:=by rw[<-am,<-hX];simp
 have k3:W1.cell? ⟨X,3,none⟩=some (.int .i64 x.signed.set.life):=by rw[<-am,<-hX];simp[go_sem]
 have k5:W1.cell? ⟨X,5,none⟩=some (.slice gA gn gc):=by rw[<-am,<-hX];simp[go_sem]
 have k6:W1.cell? ⟨X,2+4,none⟩=some (.slice fA fn fc):=by rw[<-am,<-hX];simp[go_sem]
 have kd:W1.cell? ⟨X+1,0,none⟩=some (.int .i64 d):=by rw[<-am,<-hX];simp[go_sem]
 simp only[Nat.reduceAdd] at k6;have HK:=jq (And.intro k3 (And.intro k5 kd));have eV:=jq (hs.later cT dU an);have Ey:=jq (hr.later bR dZ an);have ar:=jq an;have gK:=jq hX;have eg:=Sc;clear an hx hf hs hr gT bn k3 k5 kd;go_enter func62,ntmps62;go_wp2_with fail;clear am k6;go_loopw [6,13] (λvo i wr=>∃ (k:Nat),k<=fn/\i = .int .i64 k/\Hid (Below W1.heap.size W1 wr)/\Hid (aG W1.heap.size wr vo ((x.fresh.take k).map (Np.ko x.signed d)))) (λ_ i _=>fn - (intOf i).toNat)
 case atStart=>exact⟨0,jQ _,rfl,jq (vQ _ _),jq (aG.nil _ _)⟩
 case round=>
  obtain⟨k,hk,rfl,HB,HO⟩:=hrel;have al:=HB.out.size;by_cases aa:k<fn
  ·obtain⟨y,ac⟩:∃ y,x.fresh[k]?=some y:=⟨_,aQ (by rw[HN.out];exact aa)⟩;have gI:=Ey.out.keep bR HB.out;obtain⟨b,o,rfl⟩:=Aj (k:=k) gI (by rw[HN.out];exact aa);obtain⟨bq,hat⟩:=vW gI ac;clear gI;have h0:=hat.c0;have h1:=hat.c1;have HT:Hid ((x.fresh.take (k+1)).map (Np.ko x.signed d)=(x.fresh.take k).map (Np.ko x.signed d) ++ [Np.ko x.signed d y]):=jq (by
    obtain⟨hl,he⟩:=cQ.1 ac;rw[fQ hl,he,List.map_append];rfl)
   have HL:Hid (((x.fresh.take k).map (Np.ko x.signed d)).length<=100000):=jq (by rw[List.length_map,List.length_take];omega);have HY:=jq (HF.out y (gQ ac));have bO:b<wr.heap.size:=by omega
   obtain⟨f,u⟩:=y;have bL:(0:Int)<=(k:Int):=by omega
   have bY:(k:Int)<(fn:Int):=by omega
   clear ac hat;dsimp only at h0 h1;obtain⟨w2,ag⟩:=abK (wr.alloc (.cells #[.int .i64 f,.int .i64 u] 110));have ab:Below wr.heap.size wr w2:=by rw[<-ag];exact (vQ _ _).alloc (bQ _) _
   have ai:Hid (Below W1.heap.size W1 w2):=jq (HB.out.trans (ab.mono al));have dh:=jq (HO.out.keep ab);have p0:w2.cell? ⟨wr.heap.size,0,none⟩=some (.int .i64 f):=by rw[<-ag];simp[go_sem]
   have p1:w2.cell? ⟨wr.heap.size,1,none⟩=some (.int .i64 u):=by rw[<-ag];simp[go_sem]
   have aO:wr.heap.size<w2.heap.size:=by rw[<-ag];simp
   clear ab;go_wp2_with (fail);clear ag p0 p1 h0 h1;refine (SO x.signed HX.out d f u FU (by have h:=HY.out;have h1:0<=f:=h.1;have h2:f<u:=h.2.1;have h3:u<=10000000:=h.2.2;omega) X (X+1) gA gn gc w2 (by omega) (by omega) (abZ ai.out HK.out.1) (abZ ai.out HK.out.2.1) (abZ ai.out HK.out.2.2) (eV.out.later cT dU ai.out)).mono ?_;rintro e w3 ⟨rfl,ah⟩;obtain⟨u',hu'⟩:=abK (max u (Np.jE x.signed d u));rw[hu'];have HG:Hid (Np.ko x.signed d ⟨f,u⟩=⟨f,u'⟩):=jq (by unfold Np.ko;rw[hu']);have aB:=abJ ai ah;have ig:=jq (dh.out.keep ah);have fW:=ah.size;clear ah hu';go_wp2_with (at_builtin;refine Ds _ rfl _ _ rfl W1.heap.size _ ((x.fresh.take k).map (Np.ko x.signed d)) rfl (ig.out.alloc _) w3.heap.size f u' (by simp[go_sem]) (by simp[go_sem]) (by simp[go_sem]) HL.out (by simp;omega) ?_;intro v5 w5 fd aF;have H5:=jq (And.intro fd aF);clear fd aF);go_roundw
   case rel=>exact⟨k+1,by omega,by go_num,jq ((aB.out.alloc (by omega) _).trans H5.out.2),jq (by rw[HT.out,HG.out];exact H5.out.1)⟩
   case measure=>simp[intOf] <;> omega
  ·have HE':Hid (x.fresh.take k=x.fresh):=jq (kQ (by rw[HN.out];omega));rw[HE'.out] at HO;have kZ:Hid (∀ s∈x.fresh.map (Np.ko x.signed d),Np.xK s):=jq (λs hs=>by
    obtain⟨r,hr,rfl⟩:=List.mem_map.1 hs;exact Np.SP HX.out FU (HF.out r hr))
   have sH:Hid ((x.fresh.map (Np.ko x.signed d)).length<=20000):=jq (by rw[List.length_map,HN.out];exact UB);have uz:=jq (HO.out.slr (by have:=sH.out;omega));go_wp2_with fail;refine (MQ _ (x.fresh.map (Np.ko x.signed d)) sH.out kZ.out wr uz.out).mono ?_;rintro e w5 ⟨v5,rfl,fd,aF⟩;have Pw:Hid (Below w.heap.size w w5):=jq (ar.out.trans ((HB.out.trans (aF.mono al)).mono ar.out.size));have lM:Hid (aG w.heap.size w5 v5 (Np.iE x d)):=jq (fd.weak (by omega));clear fd aF;go_wp2_with fail;go_ret;exact⟨_,rfl,lM.out,Pw.out⟩
end
end Go.Proofs.YtfnopgdcaanaiaaGreatDoor
