/- Parts of the proof. No condition. -/
import Derived.Test.YtfnopgdcaanaiaaGreatDoorT04
import Derived.Test.YtfnopgdcaanaiaaGreatDoorT05
set_option linter.all false
set_option maxRecDepth 100000
set_option maxHeartbeats 8000000
namespace Go.Proofs.YtfnopgdcaanaiaaGreatDoor
open Go.Proofs.Tryz
section
open Go.RowKit
open Classical in
noncomputable def aR(w:World)(M:Nat->Prop):World:={ w with heap:=w.heap.mapIdx λk o=>if M k then .cells #[] 0 else o }
theorem eW(w:World)(M:Nat->Prop):(aR w M).heap.size=w.heap.size:=by simp[aR]
theorem iU{w:World}{M:Nat->Prop}{k:Nat}(h:¬ M k):(aR w M).heap[k]?=w.heap[k]?:=by
 unfold aR;simp only[Array.getElem?_mapIdx,h,if_false]
 cases w.heap[k]? <;> rfl
theorem rB{w:World}{M:Nat->Prop}{k:Nat}(h:M k):(aR w M).heap[k]?=(w.heap[k]?).map λ_=>Obj.cells #[] 0:=by
 unfold aR;simp only[Array.getElem?_mapIdx,h,if_true]
theorem Ly{w:World}{M:Nat->Prop}{p:Addr}{v:Value}(h:(aR w M).cell? p=some v):¬ M p.block/\w.cell? p=some v:=by
 by_cases hm:M p.block
 ·exfalso;unfold World.cell? at h;rw[rB hm] at h
  cases hh:w.heap[p.block]? with
  | none=>simp[hh] at h
  | some o=>simp[hh] at h
 ·refine⟨hm,?_⟩;rw[<-h];exact (iQ (w:=w) (iU hm)).symm
theorem E3{w:World}{M:Nat->Prop}{p:Addr}(h:¬ M p.block):(aR w M).cell? p=w.cell? p:=iQ (w:=w) (iU h)
def ef{α:Type}(R:agJ α):Prop:=∀ w (M M':Nat->Prop) B e x,(∀ k,M' k->M k)->R (aR w M) B e x->R (aR w M') B e x
theorem fC.sans{w:World}{M M':Nat->Prop}{b o:Nat}{e:List Value}(hM:∀ k,M' k->M k)(h:fC (aR w M) b o e):fC (aR w M') b o e:=λj v hj=>by
 obtain⟨h1,h2⟩:=Ly (h j v hj);rw[E3 (λe=>h1 (hM _ e))];exact h2
theorem SlR.sans{α:Type}{R:agJ α}{sz:Nat}{w:World}{M M':Nat->Prop}{B:Nat}{v:Value}{xs:List α}(hR:ef R)(hM:∀ k,M' k->M k)(h:SlR R sz (aR w M) B v xs):SlR R sz (aR w M') B v xs:=by
 obtain⟨A,c,hv,hc,hl,he⟩:=h;refine⟨A,c,hv,hc,hl,λi x hx=>?_⟩;obtain⟨b,o,e,hA,hB,aL,hce,hr⟩:=he i x hx;exact⟨b,o,e,hA,hB,aL,hce.sans hM,hR _ _ _ _ _ _ hM hr⟩
theorem Lz(w:World):aR w (λ_=>False)=w:=by
 unfold aR
 cases w
 simp only[World.mk.injEq,and_true];apply Array.ext_getElem?;intro i;simp only[Array.getElem?_mapIdx,if_false];rename_i heap _ _ _ _
 cases heap[i]? <;> rfl
theorem SlR.all{α:Type}{R:agJ α}{sz:Nat}{w:World}{M:Nat->Prop}{B:Nat}{v:Value}{xs:List α}(hR:ef R)(h:SlR R sz (aR w M) B v xs):SlR R sz w B v xs:=by
 have:=h.sans (M':=λ_=>False) hR (λ_ e=>e.elim)
 rw[Lz] at this;exact this
theorem gO:ef bI:=λ_ _ _ _ _ _ _ h=>h
theorem jO:ef cr:=λ_ _ _ _ _ _ _ h=>h
theorem WN:ef cU:=λ_ _ _ _ _ _ hM ⟨s,v,u,h1,h2,h3,h4,h5⟩=>⟨s,v,u,h1,h2,h3.sans gO hM,h4.sans jO hM,h5⟩
theorem ef.all{α:Type}{R:agJ α}(hR:ef R){w:World}{M:Nat->Prop}{B:Nat}{e:List Value}{x:α}(h:R (aR w M) B e x):R w B e x:=by
 have:=hR w M (λ_=>False) B e x (λ_ e=>e.elim) h
 rw[Lz] at this;exact this
structure Leaves'(M:Nat->Prop)(w w':World)(M':Nat->Prop):Prop where
 os:w'.os=w.os
 tape:w'.tape=w.tape
 output:w'.output=w.output
 size:w.heap.size<=w'.heap.size
 keep:∀ k,k<w.heap.size->¬ M k->¬ M' k/\w'.heap[k]?=w.heap[k]?
theorem Leaves'.refl(M:Nat->Prop)(w:World):Leaves' M w w M:=⟨rfl,rfl,rfl,bQ _,λ_ _ h=>⟨h,rfl⟩⟩
theorem Leaves'.trans{M M' M'':Nat->Prop}{a b c:World}(h:Leaves' M a b M')(k:Leaves' M' b c M''):Leaves' M a c M'':=
 ⟨k.os.trans h.os,k.tape.trans h.tape,k.output.trans h.output,yQ h.size k.size,λi hi hm=>by
  obtain⟨h1,h2⟩:=h.keep i hi hm;obtain⟨h3,h4⟩:=k.keep i (lQ hi h.size) h1;exact⟨h3,h4.trans h2⟩⟩
theorem Leaves'.of_below{M:Nat->Prop}{w w':World}(h:Below w.heap.size w w'):Leaves' M w w' M:=⟨h.os,h.tape,h.output,h.size,λk hk hm=>⟨hm,h.block k hk⟩⟩
theorem Leaves'.setCell(M:Nat->Prop)(w:World){p:Addr}(hp:M p.block)(v:Value):Leaves' M w (w.setCell p v) M:=
 ⟨rfl,rfl,rfl,by simp[World.setCell],λk _ hm=>⟨hm,wQ _ _ _ _ (λe=>hm (e ▸ hp))⟩⟩
theorem Leaves'.grown{M:Nat->Prop}{w w':World}{row:Option Nat}(hg:w.grownBy w' row)(hr:∀ k,row=some k->M k):Leaves' M w w' M:=
 ⟨hg.os,hg.tape,hg.output,hg.size,λk hk hm=>⟨hm,hg.block k hk (λe=>hm (hr k e.symm))⟩⟩
theorem Leaves'.more{M M' N:Nat->Prop}{w w':World}(h:Leaves' M w w' M')(hN:∀ k,N k->M' k\/w.heap.size<=k):Leaves' M w w' N:=
 ⟨h.os,h.tape,h.output,h.size,λk hk hm=>⟨λe=>(hN k e).elim (h.keep k hk hm).1 (by omega),(h.keep k hk hm).2⟩⟩
theorem Leaves'.read{α:Type}{R:agJ α}(hk:cj R)(hs:ef R)(hm:cB R){M M':Nat->Prop}{w w':World}(h:Leaves' M w w' M'){e:List Value}{x:α}(hr:R (aR w M) w.heap.size e x):R (aR w' M') w'.heap.size e x:=by
 have hb:Below w.heap.size (aR w M) (aR w' λk=>M k\/M' k):=by
  refine⟨h.os,h.tape,h.output,by rw[eW,eW];exact h.size,λk hk=>?_⟩;by_cases hM:M k
  ·rw[rB hM,rB (M:=λk=>M k\/M' k) (Or.inl hM)];have h1:k<w'.heap.size:=lQ hk h.size;rw[pQ hk,pQ h1];rfl
  ·obtain⟨h1,h2⟩:=h.keep k hk hM;rw[iU hM,iU (M:=λk=>M k\/M' k) (λe=>e.elim hM h1),h2]
 exact hm _ _ _ _ _ (hs _ _ _ _ _ _ (λk e=>Or.inr e) (hk _ _ _ _ _ hr hb)) h.size
def bh{α:Type}(R:agJ α)(sz:Nat)(e:TypeId)(base:Nat)(M:Nat->Prop)(w:World)(v:Value)(xs:List α):Prop:=
 ∃ rows:List (List Value),rows.length=xs.length/\w.ownsRow base e sz v xs.length rows.flatten/\(∀ g,v.ownBlock=some g->M g)/\
   ∀ (i:Nat) (r:List Value) (x:α),rows[i]?=some r->xs[i]?=some x->r.length=sz/\R (aR w M) w.heap.size r x
theorem bh.nil{α:Type}{R:agJ α}{sz:Nat}{e:TypeId}{base:Nat}{M:Nat->Prop}(w:World):bh (α:=α) R sz e base M w (.slice none 0 0) []:=
 ⟨[],rfl,⟨by simp,.inl ⟨rfl,rfl⟩⟩,(λg h=>by cases h),λi r x h=>by simp at h⟩
theorem bh.form{α:Type}{R:agJ α}{sz:Nat}{e:TypeId}{base:Nat}{M:Nat->Prop}{w:World}{v:Value}{xs:List α}(h:bh R sz e base M w v xs):∃ A c,v = .slice A xs.length c:=by
 obtain⟨rows,h1,h2,h3⟩:=h;rcases h2.2 with ⟨rfl,h0⟩ | ⟨g,cap,cur,rfl,_⟩
 ·exact⟨none,0,by rw[h0]⟩
 ·exact⟨_,cap,rfl⟩
theorem bh.leaves{α:Type}{R:agJ α}(hk:cj R)(hs:ef R)(hm:cB R){sz:Nat}{e:TypeId}{base:Nat}{M M':Nat->Prop}{w w':World}{v:Value}{xs:List α}(h:bh R sz e base M w v xs)(hl:Leaves' M w w' M')
 (ho:∀ g,v.ownBlock=some g->w'.heap[g]?=w.heap[g]?/\M' g):bh R sz e base M' w' v xs:=by
 obtain⟨rows,h1,h2,h3,h4⟩:=h;exact⟨rows,h1,bY h2 (λg hg=>(ho g hg).1),λg hg=>(ho g hg).2,λi r x hr hx=>⟨(h4 i r x hr hx).1,hl.read hk hs hm (h4 i r x hr hx).2⟩⟩
theorem bh.slr{α:Type}{R:agJ α}(hs:ef R){sz:Nat}{e:TypeId}{base:Nat}{M:Nat->Prop}{w:World}{v:Value}{xs:List α}(h:bh R sz e base M w v xs)(hl:xs.length<=140737488355328):SlR R sz w w.heap.size v xs:=by
 obtain⟨rows,h1,h2,h3,h4⟩:=h;have hl':=aO.rows_len (w:=aR w M) (B:=w.heap.size) h1 h4;rcases h2.2 with ⟨rfl,h0⟩ | ⟨g,cap,cur,rfl,hb,hg,ik,_⟩
 ·have:xs = []:=rQ h0
  subst this;exact⟨none,0,rfl,by simp,by simp,λi x hx=>by simp at hx⟩
 ·refine⟨_,cap,rfl,ik,hl,λi x hx=>?_⟩;have hi:=(cQ.1 hx).1;have hr:=aQ (l:=rows) (i:=i) (by omega);obtain⟨h5,h6⟩:=h4 i _ x hr hx;refine⟨g,0,rows[i],rfl,(eQ.1 hg).1,h5,λj u hj=>?_,hs.all h6⟩;have h7:=h2.cells (g:=g) rfl _ _ (uL rows i j _ u hl' hr hj);have jd:(⟨g,0,none⟩:Addr).add (i * sz+j)=⟨g,0+i * sz+j,none⟩:=by unfold Addr.add;split <;> simp_all
  rw[jd] at h7;exact h7
def qx{α:Type}(R:agJ α)(sz:Nat)(M:Nat->Prop)(w:World)(A:Option Addr)(ys:List α):Prop:=
 ∃ rows:List (List Value),rows.length=ys.length/\(∀ (i:Nat) (r:List Value) (x:α),rows[i]?=some r->ys[i]?=some x->r.length=sz/\R (aR w M) w.heap.size r x)/\(ys≠[]->∃ b o,A=some ⟨b,o,none⟩/\∀ j u,rows.flatten[j]?=some u->w.cell? ((⟨b,o,none⟩:Addr).add j)=some u)
theorem E1{α:Type}{R:agJ α}{sz:Nat}{M:Nat->Prop}{w:World}{b o:Nat}{r:List Value}{x:α}(hl:r.length=sz)(hr:R (aR w M) w.heap.size r x)(hc:fC w b o r):qx R sz M w (some ⟨b,o,none⟩) [x]:=by
 refine⟨[r],rfl,λi r' x' h1 h2=>?_,λ_=>⟨b,o,rfl,λj u hj=>?_⟩⟩
 ·cases i with
  | zero=>simp at h1 h2;subst h1;subst h2;exact⟨hl,hr⟩
  | succ i=>simp at h1
 ·have jd:(⟨b,o,none⟩:Addr).add j=⟨b,o+j,none⟩:=by unfold Addr.add;split <;> simp_all
  rw[jd];exact hc j u (by simpa using hj)
theorem WL{α:Type}{R:agJ α}{sz:Nat}{M:Nat->Prop}{w:World}{A:Option Addr}{n c:Nat}{ys:List α}(h:SlR R sz (aR w M) w.heap.size (.slice A n c) ys)(ag:0<sz):qx R sz M w A ys:=by
 obtain⟨rows,h1,h2,h3⟩:=LL h ag;exact⟨rows,h1,h2,λhy=>by obtain⟨b,o,h4,_,h5⟩:=h3 hy;exact⟨b,o,h4,λj u hj=>(Ly (h5 j u hj)).2⟩⟩
section
variable {P:Program}
theorem Lu{α:Type}{R:agJ α}{sz:Nat}{M:Nat->Prop}(w:World)(t ty:TypeId)
 (base:Nat) (e:TypeId) (i:TypeInfo) (z:Value) (bytes:Nat) (ht:P.underlying t=some (.slice e)) (hi:P.info? e=some i) (hz:i.zero=some z) (fN:i.size=sz) (dY:i.bytes=bytes) (jp:z.cells.size=sz) (ag:0<sz)
 (v:Value) (xs:List α) (hown:bh R sz e base M w v xs) (A:Option Addr) (c:Nat) (ys:List α) (d9:qx R sz M w A ys)
 (qX:∀ w B r y,R w B r y->∀ u∈r,u.oneCell'=true) (fu:xs.length+ys.length<=maxLen) (ii:(xs.length+ys.length) * bytes<=140737488355328) (bL:base<=w.heap.size) (hk:cj R) (hs:ef R) (hm:cB R) :
 ∃ v' w',(Builtin.append_ #[t,t] ty #[v,.slice A ys.length c]).run P w = .ok v' w'/\bh R sz e base (λk=>M k\/v'.ownBlock=some k) w' v' (xs++ys)/\w.grownBy w' v.ownBlock/\(v'.ownBlock=v.ownBlock\/v'.ownBlock=some w.heap.size):=by
 have nP:∀ (w':World) (v':Value) (rows rows':List (List Value)),w.grownBy w' v.ownBlock->(v'.ownBlock=v.ownBlock\/v'.ownBlock=some w.heap.size)->(∀ g,v.ownBlock=some g->M g)->rows.length=xs.length->(∀ (i:Nat) (r:List Value) (x:α),rows[i]?=some r->xs[i]?=some x->r.length=sz/\R (aR w M) w.heap.size r x)->rows'.length=ys.length->
  (∀ (i:Nat) (r:List Value) (x:α),rows'[i]?=some r->ys[i]?=some x->r.length=sz/\R (aR w M) w.heap.size r x)->w'.ownsRow base e sz v' (xs.length+ys.length) (rows.flatten++rows'.flatten)->bh R sz e base (λk=>M k\/v'.ownBlock=some k) w' v' (xs++ys):=by
  intro w' v' rows rows' hg hat sr h1 h2 h3 h4 h5;have qU:Leaves' M w w' (λk=>M k\/v'.ownBlock=some k):=(Leaves'.grown hg sr).more (λk e=>by
   rcases e with e | e
   ·exact .inl e
   ·rcases hat with h | h
    ·exact .inl (sr k (h ▸ e))
    ·rw[h] at e;cases e;exact .inr (bQ _))
  refine⟨rows++rows',by simp[h1,h3],?_,λg hg'=>.inr hg',λj r y hr hy=>?_⟩
  ·rw[List.length_append,List.flatten_append];exact h5
  ·rcases Nat.lt_or_ge j rows.length with aa | pi
   ·rw[List.getElem?_append_left aa] at hr;rw[List.getElem?_append_left (by omega)] at hy;obtain⟨h6,h7⟩:=h2 j r y hr hy;exact⟨h6,qU.read hk hs hm h7⟩
   ·rw[oQ pi] at hr;rw[oQ (by omega),<-h1] at hy;obtain⟨h6,h7⟩:=h4 _ r y hr hy;exact⟨h6,qU.read hk hs hm h7⟩
 obtain⟨rows,h1,h2,sr,h3⟩:=hown;obtain⟨rows',h4,h5,h6⟩:=d9;by_cases hy:ys = []
 ·subst hy;have jj:rows' = []:=rQ (by simpa using h4);subst jj
  cases A with
  | none=>
   have bj:=Lv (P:=P) base t ty e i sz ht hi v xs.length c rows.flatten h2;have hg:w.grownBy w v.ownBlock:=⟨rfl,rfl,rfl,bQ _,λ_ _ _=>rfl⟩;exact⟨v,w,bj,nP w v rows [] hg (.inl rfl) sr h1 h3 rfl (λj r y hr=>by simp at hr) (by simpa using h2),hg,.inl rfl⟩
  | some ad=>
   obtain⟨v',w',hr,ho',hg,_,hat⟩:=run_append_own_at (P:=P) w base t ty e i z sz bytes ht hi hz fN dY jp ag v xs.length rows.flatten h2 ad 0 c [] (by simp) (λj u hj=>by simp at hj) (λu hu=>by cases hu) (by simpa using fu) (by simpa using ii) bL;exact⟨v',w',hr,nP w' v' rows [] hg hat sr h1 h3 rfl (λj r y hr=>by simp at hr) (by simpa using ho'),hg,hat⟩
 ·obtain⟨b,o',rfl,hcell⟩:=h6 hy;have hl:=aO.rows_len (w:=aR w M) (B:=w.heap.size) h4 h5;obtain⟨v',w',hr,ho',hg,_,hat⟩:=run_append_own_at (P:=P) w base t ty e i z sz bytes ht hi hz fN dY jp ag v xs.length rows.flatten h2 ⟨b,o',none⟩ ys.length c rows'.flatten (by rw[Dk rows' hl,h4]) hcell (λu hu=>by
   obtain⟨r,hr,Ez⟩:=List.mem_flatten.1 hu;obtain⟨j,hj,rfl⟩:=nQ.1 hr;exact qX _ _ _ _ (h5 j _ _ (aQ hj) (aQ (by omega))).2 u Ez) fu ii bL
  exact⟨v',w',hr,nP w' v' rows rows' hg hat sr h1 h3 h4 h5 ho',hg,hat⟩
theorem Fv{α:Type}{R:agJ α}{sz:Nat}{M:Nat->Prop}(w:World){o:Oper}{a:Act}{K:Act->World->Prop}{Q:Exit->Act->World->Prop}(s x:Operand)(t:TypeId)
 (ho:o.op = .call { callee:=.builtin .append,args:=#[s,x],argTypes:=#[t,t] })
 (base:Nat) (e:TypeId) (i:TypeInfo) (z:Value) (bytes:Nat) (ht:P.underlying t=some (.slice e)) (hi:P.info? e=some i) (hz:i.zero=some z) (fN:i.size=sz) (dY:i.bytes=bytes) (jp:z.cells.size=sz) (ag:0<sz)
 (v:Value) (xs:List α) (hv:a.eval s=v) (hown:bh R sz e base M w v xs) (A:Option Addr) (c:Nat) (ys:List α) (hx:a.eval x = .slice A ys.length c) (d9:qx R sz M w A ys)
 (qX:∀ w B r y,R w B r y->∀ u∈r,u.oneCell'=true) (fu:xs.length+ys.length<=maxLen) (ii:(xs.length+ys.length) * bytes<=140737488355328) (bL:base<=w.heap.size) (hk:cj R) (hs:ef R) (hm:cB R)
 (h:∀ v' w',bh R sz e base (λk=>M k\/v'.ownBlock=some k) w' v' (xs++ys)->w.grownBy w' v.ownBlock->(v'.ownBlock=v.ownBlock\/v'.ownBlock=some w.heap.size)->K (a.put o.dst v') w'):o.wp P a w K Q:=by
 obtain⟨v',w',hr,h2,h4,h5⟩:=Lu (P:=P) w t o.type base e i z bytes ht hi hz fN dY jp ag v xs hown A c ys d9 qX fu ii bL hk hs hm;unfold Oper.wp execOp;simp only[ho,resolve,invoke,builtin,Sem.run_bind,Sem.run_pure,Result.andThen_ok,List.map_toArray,List.map_cons,List.map_nil,hv,hx,hr];exact h v' w' h2 h4 h5
theorem YA{α:Type}{R:agJ α}{sz:Nat}{M:Nat->Prop}(w:World){ops:Array Oper}{rest:List Oper}{o:Oper}{a:Act}{Q:Exit->Act->World->Prop}(fh:o.guard=none)(s x:Operand)(t:TypeId)
 (ho:o.op = .call { callee:=.builtin .append,args:=#[s,x],argTypes:=#[t,t] })
 (base:Nat) (e:TypeId) (i:TypeInfo) (z:Value) (bytes:Nat) (ht:P.underlying t=some (.slice e)) (hi:P.info? e=some i) (hz:i.zero=some z) (fN:i.size=sz) (dY:i.bytes=bytes) (jp:z.cells.size=sz) (ag:0<sz)
 (v:Value) (xs:List α) (hv:a.eval s=v) (hown:bh R sz e base M w v xs) (A:Option Addr) (c:Nat) (ys:List α) (hx:a.eval x = .slice A ys.length c) (d9:qx R sz M w A ys)
 (qX:∀ w B r y,R w B r y->∀ u∈r,u.oneCell'=true) (fu:xs.length+ys.length<=maxLen) (ii:(xs.length+ys.length) * bytes<=140737488355328) (bL:base<=w.heap.size) (hk:cj R) (hs:ef R) (hm:cB R)
 (h:∀ v' w',bh R sz e base (λk=>M k\/v'.ownBlock=some k) w' v' (xs++ys)->w.grownBy w' v.ownBlock->(v'.ownBlock=v.ownBlock\/v'.ownBlock=some w.heap.size)->wpList P ops Q rest (a.put o.dst v') w'):wpList P ops Q (o::rest) a w:=by
 refine wpList_plain fh λK hK=>?_;exact Fv w s x t ho base e i z bytes ht hi hz fN dY jp ag v xs hv hown A c ys hx d9 qX fu ii bL hk hs hm (λv' w' h1 h2 h3=>hK _ _ (h v' w' h1 h2 h3))
end
end
section
open Go.RowKit Go.Shelf
attribute [local go_sem] Oper.semAt_some
theorem Tryz.infoInt:(prog.info? 3).map (λi=>(i.zero,i.size,i.bytes))=some (some (.int .i64 0),1,8):=by kernel_rfl
def Mz(b s l d f:Int)(k:Nat):Prop:=(1<=k->0<=d/\d<=1000)/\(2<=k->1<=s/\s<=10000000)/\(3<=k->d<=b/\b<=s - 1)/\(4<=k->1<=l/\l<=10000000)/\(5<=k->0<=f/\f<=100000)
theorem mZ{b s l d f:Int}(h:¬ (0<=d/\d<=1000/\1<=s/\s<=10000000/\d<=b/\b<=s - 1/\1<=l/\l<=10000000/\0<=f/\f<=100000)):Np.fm b s l d f=1:=by
 unfold Np.fm;rw[Qc (show ¬ Np.rC b s l d f from h)]
theorem rD{b s l d f n:Int}(h:Np.fm b s l d f=n)(hn:n≠0):Np.times b s l d f = []:=by
 unfold Np.times;rw[Qc (by omega)]
def TmI(w:World)(lb:Nat)(pre:List Int)(S:Nat->Prop)(W:World):Prop:=
 ∃ v,(∀ k,S k↔(k=w.heap.size\/k=w.heap.size+1)\/k=lb\/v.ownBlock=some k)/\Boxed W w.heap.size 27 (.slice none 0 0)/\Boxed W (w.heap.size+1) 37 (.int .i64 0)/\Boxed W lb 27 v/\
   W.ownsRow (lb+1) 3 1 v pre.length (pre.map (Value.int .i64))/\pre.length<=400/\Below w.heap.size w W
def TmX(w:World)(xs:List Int)(c:Code)(_:List Int)(S:Nat->Prop)(W:World):Prop:=
 c = .ret/\(S w.heap.size/\S (w.heap.size+1))/\Boxed W w.heap.size 27 (.slice none 0 0)/\Boxed W (w.heap.size+1) 37 (.int .i64 2)/\400<xs.length/\Below w.heap.size w W
theorem L1(w:World)(lb B:Nat)(hB:w.heap.size<=B):dE B (TmI w lb):=by
 rintro pre S W W' ⟨v,hS,h1,h2,h3,h4,h5,h6⟩ ak;exact⟨v,hS,fd h1 ak ((hS _).2 (.inl (.inl rfl))),fd h2 ak ((hS _).2 (.inl (.inr rfl))),fd h3 ak ((hS _).2 (.inr (.inl rfl))),KV h4 ak (λg hg=>(hS _).2 (.inr (.inr hg))),h5,oV h6 ak hB (bQ _)⟩
theorem XQ(w:World)(xs:List Int)(B:Nat)(hB:w.heap.size<=B)(c:Code):dE B (TmX w xs c):=by
 rintro pre S W W' ⟨hc,hS,h1,h2,h3,h4⟩ ak;exact⟨hc,hS,fd h1 ak hS.1,fd h2 ak hS.2,h3,oV h4 ak hB (bQ _)⟩
theorem xI(b s l d f:Int)(w:World) :
 Calls prog 39 #[.int .i64 b,.int .i64 s,.int .i64 l,.int .i64 d,.int .i64 f] w (xT eK 1 w (Np.times b s l d f) (Np.fm b s l d f)):=by
 obtain⟨r,hr⟩:=abY (wrap64 (s - 1));have i0:∀ w,(Instr.index 146 (.agg #[.int .i64 d,.int .i64 0,.int .i64 1000,.int .i64 s,.int .i64 1,.int .i64 10000000,.int .i64 b,.int .i64 d,.int .i64 r,.int .i64 l,.int .i64 1,.int .i64 10000000,.int .i64 f,.int .i64 0,.int .i64 100000]) (.int .i64 0)).run prog w = .ok (.agg #[.int .i64 d,.int .i64 0,.int .i64 1000]) w:=λ_=>by kernel_rfl
 have i1:∀ w,(Instr.index 146 (.agg #[.int .i64 d,.int .i64 0,.int .i64 1000,.int .i64 s,.int .i64 1,.int .i64 10000000,.int .i64 b,.int .i64 d,.int .i64 r,.int .i64 l,.int .i64 1,.int .i64 10000000,.int .i64 f,.int .i64 0,.int .i64 100000]) (.int .i64 1)).run prog w = .ok (.agg #[.int .i64 s,.int .i64 1,.int .i64 10000000]) w:=λ_=>by kernel_rfl
 have i2:∀ w,(Instr.index 146 (.agg #[.int .i64 d,.int .i64 0,.int .i64 1000,.int .i64 s,.int .i64 1,.int .i64 10000000,.int .i64 b,.int .i64 d,.int .i64 r,.int .i64 l,.int .i64 1,.int .i64 10000000,.int .i64 f,.int .i64 0,.int .i64 100000]) (.int .i64 2)).run prog w = .ok (.agg #[.int .i64 b,.int .i64 d,.int .i64 r]) w:=λ_=>by kernel_rfl
 have i3:∀ w,(Instr.index 146 (.agg #[.int .i64 d,.int .i64 0,.int .i64 1000,.int .i64 s,.int .i64 1,.int .i64 10000000,.int .i64 b,.int .i64 d,.int .i64 r,.int .i64 l,.int .i64 1,.int .i64 10000000,.int .i64 f,.int .i64 0,.int .i64 100000]) (.int .i64 3)).run prog w = .ok (.agg #[.int .i64 l,.int .i64 1,.int .i64 10000000]) w:=λ_=>by kernel_rfl
 have i4:∀ w,(Instr.index 146 (.agg #[.int .i64 d,.int .i64 0,.int .i64 1000,.int .i64 s,.int .i64 1,.int .i64 10000000,.int .i64 b,.int .i64 d,.int .i64 r,.int .i64 l,.int .i64 1,.int .i64 10000000,.int .i64 f,.int .i64 0,.int .i64 100000]) (.int .i64 4)).run prog w = .ok (.agg #[.int .i64 f,.int .i64 0,.int .i64 100000]) w:=λ_=>by kernel_rfl
 refine (callsIn_wide (n:=0)).1 ?_;refine callsIn_of_wp_marks func39 rfl trivial ?_ rfl;simp only[ntmps39,List.size_toArray,List.length_cons,List.length_nil,Nat.reduceAdd,Nat.reduceSub,Array.replicate_succ,Array.replicate_zero,List.push_toArray,List.append_toArray,List.nil_append,List.cons_append];gi_wp2_with fail;have HR:=jq hr;clear hr;have q0:Boxed (((w.alloc (.cells #[.slice none 0 0] 27)).alloc (.cells #[.int .i64 0] 37)).alloc (.cells #[.int .i64 d,.int .i64 0,.int .i64 1000,.int .i64 s,.int .i64 1,.int .i64 10000000,.int .i64 b,.int .i64 d,.int .i64 r,.int .i64 l,.int .i64 1,.int .i64 10000000,.int .i64 f,.int .i64 0,.int .i64 100000] 146)) w.heap.size 27 (.slice none 0 0):=((Boxed.new w _ _).alloc _).alloc _;have q1:Boxed (((w.alloc (.cells #[.slice none 0 0] 27)).alloc (.cells #[.int .i64 0] 37)).alloc (.cells #[.int .i64 d,.int .i64 0,.int .i64 1000,.int .i64 s,.int .i64 1,.int .i64 10000000,.int .i64 b,.int .i64 d,.int .i64 r,.int .i64 l,.int .i64 1,.int .i64 10000000,.int .i64 f,.int .i64 0,.int .i64 100000] 146)) (w.heap.size+1) 37 (.int .i64 0):=by
  have:=(Boxed.new (w.alloc (.cells #[.slice none 0 0] 27)) 37 (.int .i64 0)).alloc (.cells #[.int .i64 d,.int .i64 0,.int .i64 1000,.int .i64 s,.int .i64 1,.int .i64 10000000,.int .i64 b,.int .i64 d,.int .i64 r,.int .i64 l,.int .i64 1,.int .i64 10000000,.int .i64 f,.int .i64 0,.int .i64 100000] 146)
  simpa only[World.size_alloc] using this
 have qH:Below w.heap.size w (((w.alloc (.cells #[.slice none 0 0] 27)).alloc (.cells #[.int .i64 0] 37)).alloc (.cells #[.int .i64 d,.int .i64 0,.int .i64 1000,.int .i64 s,.int .i64 1,.int .i64 10000000,.int .i64 b,.int .i64 d,.int .i64 r,.int .i64 l,.int .i64 1,.int .i64 10000000,.int .i64 f,.int .i64 0,.int .i64 100000] 146)):=(((vQ _ w).alloc (bQ _) _).alloc (by simp) _).alloc (by simp;omega) _;have pD:w.heap.size+2<(((w.alloc (.cells #[.slice none 0 0] 27)).alloc (.cells #[.int .i64 0] 37)).alloc (.cells #[.int .i64 d,.int .i64 0,.int .i64 1000,.int .i64 s,.int .i64 1,.int .i64 10000000,.int .i64 b,.int .i64 d,.int .i64 r,.int .i64 l,.int .i64 1,.int .i64 10000000,.int .i64 f,.int .i64 0,.int .i64 100000] 146)).heap.size:=by simp <;> omega
 generalize ((w.alloc (.cells #[.slice none 0 0] 27)).alloc (.cells #[.int .i64 0] 37)).alloc (.cells #[.int .i64 d,.int .i64 0,.int .i64 1000,.int .i64 s,.int .i64 1,.int .i64 10000000,.int .i64 b,.int .i64 d,.int .i64 r,.int .i64 l,.int .i64 1,.int .i64 10000000,.int .i64 f,.int .i64 0,.int .i64 100000] 146)=W0 at q0 q1 qH pD |-;have HW:=jq qH;clear qH;gi_loopw [34] (λi wr=>∃ k:Nat,k<=5/\i = .int .i64 k/\Below W0.heap.size W0 wr/\Hid (Mz b s l d f k)) (λi _=>5 - (intOf i).toNat)
 case atStart=>exact⟨0,by omega,rfl,vQ _ _,jq ⟨by omega,by omega,by omega,by omega,by omega⟩⟩
 case round=>
  obtain⟨k,hk,rfl,cg,HP⟩:=hrel;have HB:=jq cg;have jk:=cg.size;clear cg;rcases (by omega:k=0\/k=1\/k=2\/k=3\/k=4\/k=5) with rfl | rfl | rfl | rfl | rfl | rfl
  ·
   by_cases hd:0<=d/\d<=1000
   ·gi_wp2_with (refine⟨trivial,rfl,?_⟩;gi_at_call 79;refine (callsIn_wide.2 (jy _ _ _ _)).mono ?_;rintro e w' ⟨rfl,hb⟩);go_roundw
    case rel=>exact⟨1,by omega,rfl,HB.out.trans (((vQ _ wr).alloc (bQ _) _).trans (hb.mono (by simp)) |>.mono jk),jq ⟨λ_=>hd,by omega,by omega,by omega,by omega⟩⟩
    case measure=>simp[intOf] <;> omega
   ·have hd':(decide (0<=d)&&decide (d<=1000))=false:=by simp;omega
    gi_wp2_with (refine⟨trivial,rfl,?_⟩;gi_at_call 79;refine (callsIn_wide.2 (jy _ _ _ _)).mono ?_;rintro e w' ⟨rfl,hb⟩;have cR:=aX (aeX q0 HB.out) (((vQ wr.heap.size wr).alloc (bQ _) _).trans (hb.mono (by simp))) (by omega);have cS:=aX (aeX q1 HB.out) (((vQ wr.heap.size wr).alloc (bQ _) _).trans (hb.mono (by simp))) (by omega);have y0:=cR.cell;have y1:=cR.frozen;have y2:=cS.cell;have y3:=cS.frozen)
    all_goals first
     | (exfalso;omega)
     | (have z0:=(bn (cR.set (.slice none 0 0)) (p:=⟨w.heap.size+1,0,none⟩) (by simp) (.int .i64 1)).cell
        have z1:=((bn cS (p:=⟨w.heap.size,0,none⟩) (by simp) (.slice none 0 0)).set (.int .i64 1)).cell;refine j6 (v:=.tuple #[.slice none 0 0,.int .i64 1]) (by simp[results,results39,go_sem,z0,z1]) ?_;refine lF ?_ (rD (mZ (by omega)) (by omega)) (mZ (by omega));refine Below.setCell (Below.setCell ?_ (by simp) _) (by simp <;> omega) _;exact HW.out.trans ((HB.out.trans (((vQ _ wr).alloc (bQ _) _).trans (hb.mono (by simp)) |>.mono jk)).acJ))
  ·
   by_cases hd:1<=s/\s<=10000000
   ·gi_wp2_with (refine⟨trivial,rfl,?_⟩;gi_at_call 79;refine (callsIn_wide.2 (jy _ _ _ _)).mono ?_;rintro e w' ⟨rfl,hb⟩);go_roundw
    case rel=>exact⟨2,by omega,rfl,HB.out.trans (((vQ _ wr).alloc (bQ _) _).trans (hb.mono (by simp)) |>.mono jk),jq ⟨λ_=>HP.out.1 (by omega),λ_=>hd,by omega,by omega,by omega⟩⟩
    case measure=>simp[intOf] <;> omega
   ·have hd':(decide (1<=s)&&decide (s<=10000000))=false:=by simp;omega
    gi_wp2_with (refine⟨trivial,rfl,?_⟩;gi_at_call 79;refine (callsIn_wide.2 (jy _ _ _ _)).mono ?_;rintro e w' ⟨rfl,hb⟩;have cR:=aX (aeX q0 HB.out) (((vQ wr.heap.size wr).alloc (bQ _) _).trans (hb.mono (by simp))) (by omega);have cS:=aX (aeX q1 HB.out) (((vQ wr.heap.size wr).alloc (bQ _) _).trans (hb.mono (by simp))) (by omega);have y0:=cR.cell;have y1:=cR.frozen;have y2:=cS.cell;have y3:=cS.frozen)
    all_goals first
     | (exfalso;omega)
     | (have z0:=(bn (cR.set (.slice none 0 0)) (p:=⟨w.heap.size+1,0,none⟩) (by simp) (.int .i64 1)).cell
        have z1:=((bn cS (p:=⟨w.heap.size,0,none⟩) (by simp) (.slice none 0 0)).set (.int .i64 1)).cell;refine j6 (v:=.tuple #[.slice none 0 0,.int .i64 1]) (by simp[results,results39,go_sem,z0,z1]) ?_;refine lF ?_ (rD (mZ (by omega)) (by omega)) (mZ (by omega));refine Below.setCell (Below.setCell ?_ (by simp) _) (by simp <;> omega) _;exact HW.out.trans ((HB.out.trans (((vQ _ wr).alloc (bQ _) _).trans (hb.mono (by simp)) |>.mono jk)).acJ))
  ·
   have fj:=HP.out.2.1 (by omega);have Ep:r=s - 1:=by rw[<-HR.out];exact IntWalk.wrap64_in _ ⟨by omega,by omega⟩
   subst Ep;by_cases hd:d<=b/\b<=s - 1
   ·gi_wp2_with (refine⟨trivial,rfl,?_⟩;gi_at_call 79;refine (callsIn_wide.2 (jy _ _ _ _)).mono ?_;rintro e w' ⟨rfl,hb⟩);go_roundw
    case rel=>exact⟨3,by omega,rfl,HB.out.trans (((vQ _ wr).alloc (bQ _) _).trans (hb.mono (by simp)) |>.mono jk),jq ⟨λ_=>HP.out.1 (by omega),λ_=>HP.out.2.1 (by omega),λ_=>hd,by omega,by omega⟩⟩
    case measure=>simp[intOf] <;> omega
   ·have hd':(decide (d<=b)&&decide (b<=s - 1))=false:=by simp;omega
    gi_wp2_with (refine⟨trivial,rfl,?_⟩;gi_at_call 79;refine (callsIn_wide.2 (jy _ _ _ _)).mono ?_;rintro e w' ⟨rfl,hb⟩;have cR:=aX (aeX q0 HB.out) (((vQ wr.heap.size wr).alloc (bQ _) _).trans (hb.mono (by simp))) (by omega);have cS:=aX (aeX q1 HB.out) (((vQ wr.heap.size wr).alloc (bQ _) _).trans (hb.mono (by simp))) (by omega);have y0:=cR.cell;have y1:=cR.frozen;have y2:=cS.cell;have y3:=cS.frozen)
    all_goals first
     | (exfalso;omega)
     | (have z0:=(bn (cR.set (.slice none 0 0)) (p:=⟨w.heap.size+1,0,none⟩) (by simp) (.int .i64 1)).cell
        have z1:=((bn cS (p:=⟨w.heap.size,0,none⟩) (by simp) (.slice none 0 0)).set (.int .i64 1)).cell;refine j6 (v:=.tuple #[.slice none 0 0,.int .i64 1]) (by simp[results,results39,go_sem,z0,z1]) ?_;refine lF ?_ (rD (mZ (by omega)) (by omega)) (mZ (by omega));refine Below.setCell (Below.setCell ?_ (by simp) _) (by simp <;> omega) _;exact HW.out.trans ((HB.out.trans (((vQ _ wr).alloc (bQ _) _).trans (hb.mono (by simp)) |>.mono jk)).acJ))
  ·
   by_cases hd:1<=l/\l<=10000000
   ·gi_wp2_with (refine⟨trivial,rfl,?_⟩;gi_at_call 79;refine (callsIn_wide.2 (jy _ _ _ _)).mono ?_;rintro e w' ⟨rfl,hb⟩);go_roundw
    case rel=>exact⟨4,by omega,rfl,HB.out.trans (((vQ _ wr).alloc (bQ _) _).trans (hb.mono (by simp)) |>.mono jk),jq ⟨λ_=>HP.out.1 (by omega),λ_=>HP.out.2.1 (by omega),λ_=>HP.out.2.2.1 (by omega),λ_=>hd,by omega⟩⟩
    case measure=>simp[intOf] <;> omega
   ·have hd':(decide (1<=l)&&decide (l<=10000000))=false:=by simp;omega
    gi_wp2_with (refine⟨trivial,rfl,?_⟩;gi_at_call 79;refine (callsIn_wide.2 (jy _ _ _ _)).mono ?_;rintro e w' ⟨rfl,hb⟩;have cR:=aX (aeX q0 HB.out) (((vQ wr.heap.size wr).alloc (bQ _) _).trans (hb.mono (by simp))) (by omega);have cS:=aX (aeX q1 HB.out) (((vQ wr.heap.size wr).alloc (bQ _) _).trans (hb.mono (by simp))) (by omega);have y0:=cR.cell;have y1:=cR.frozen;have y2:=cS.cell;have y3:=cS.frozen)
    all_goals first
     | (exfalso;omega)
     | (have z0:=(bn (cR.set (.slice none 0 0)) (p:=⟨w.heap.size+1,0,none⟩) (by simp) (.int .i64 1)).cell
        have z1:=((bn cS (p:=⟨w.heap.size,0,none⟩) (by simp) (.slice none 0 0)).set (.int .i64 1)).cell;refine j6 (v:=.tuple #[.slice none 0 0,.int .i64 1]) (by simp[results,results39,go_sem,z0,z1]) ?_;refine lF ?_ (rD (mZ (by omega)) (by omega)) (mZ (by omega));refine Below.setCell (Below.setCell ?_ (by simp) _) (by simp <;> omega) _;exact HW.out.trans ((HB.out.trans (((vQ _ wr).alloc (bQ _) _).trans (hb.mono (by simp)) |>.mono jk)).acJ))
  ·
   by_cases hd:0<=f/\f<=100000
   ·gi_wp2_with (refine⟨trivial,rfl,?_⟩;gi_at_call 79;refine (callsIn_wide.2 (jy _ _ _ _)).mono ?_;rintro e w' ⟨rfl,hb⟩);go_roundw
    case rel=>exact⟨5,by omega,rfl,HB.out.trans (((vQ _ wr).alloc (bQ _) _).trans (hb.mono (by simp)) |>.mono jk),jq ⟨λ_=>HP.out.1 (by omega),λ_=>HP.out.2.1 (by omega),λ_=>HP.out.2.2.1 (by omega),λ_=>HP.out.2.2.2.1 (by omega),λ_=>hd⟩⟩
    case measure=>simp[intOf] <;> omega
   ·have hd':(decide (0<=f)&&decide (f<=100000))=false:=by simp;omega
    gi_wp2_with (refine⟨trivial,rfl,?_⟩;gi_at_call 79;refine (callsIn_wide.2 (jy _ _ _ _)).mono ?_;rintro e w' ⟨rfl,hb⟩;have cR:=aX (aeX q0 HB.out) (((vQ wr.heap.size wr).alloc (bQ _) _).trans (hb.mono (by simp))) (by omega);have cS:=aX (aeX q1 HB.out) (((vQ wr.heap.size wr).alloc (bQ _) _).trans (hb.mono (by simp))) (by omega);have y0:=cR.cell;have y1:=cR.frozen;have y2:=cS.cell;have y3:=cS.frozen)
    all_goals first
     | (exfalso;omega)
     | (have z0:=(bn (cR.set (.slice none 0 0)) (p:=⟨w.heap.size+1,0,none⟩) (by simp) (.int .i64 1)).cell
        have z1:=((bn cS (p:=⟨w.heap.size,0,none⟩) (by simp) (.slice none 0 0)).set (.int .i64 1)).cell;refine j6 (v:=.tuple #[.slice none 0 0,.int .i64 1]) (by simp[results,results39,go_sem,z0,z1]) ?_;refine lF ?_ (rD (mZ (by omega)) (by omega)) (mZ (by omega));refine Below.setCell (Below.setCell ?_ (by simp) _) (by simp <;> omega) _;exact HW.out.trans ((HB.out.trans (((vQ _ wr).alloc (bQ _) _).trans (hb.mono (by simp)) |>.mono jk)).acJ))
  ·obtain⟨⟨ke,qK⟩,⟨aN,fj⟩,⟨aq,ab⟩,⟨cu,fZ⟩,⟨qL,D9⟩⟩:=(⟨HP.out.1 (by omega),HP.out.2.1 (by omega),HP.out.2.2.1 (by omega),HP.out.2.2.2.1 (by omega),HP.out.2.2.2.2 (by omega)⟩:(0<=d/\d<=1000)/\(1<=s/\s<=10000000)/\(d<=b/\b<=s - 1)/\(1<=l/\l<=10000000)/\(0<=f/\f<=100000));have I4:Np.rC b s l d f:=⟨ke,qK,aN,fj,aq,ab,cu,fZ,qL,D9⟩;have HA:=jq I4;have p0:=aeX q0 HB.out;have p1:=aeX q1 HB.out;have aV:Below w.heap.size w wr:=HW.out.trans (HB.out.acJ);have ag:w.heap.size+2<wr.heap.size:=by omega
   have bg:=jq aV;clear I4 q0 q1 aV i0 i1 i2 i3 i4;have y0:=p0.cell;have y1:=p0.frozen;have y2:=p1.cell;have y3:=p1.frozen;by_cases hm:f<1
   all_goals
    gi_wp2_with fail
    ·have z0:=(bn (p0.set (.slice none 0 0)) (p:=⟨w.heap.size+1,0,none⟩) (by simp) (.int .i64 32)).cell;have z1:=((bn p1 (p:=⟨w.heap.size,0,none⟩) (by simp) (.slice none 0 0)).set (.int .i64 32)).cell;refine j6 (v:=.tuple #[.slice none 0 0,.int .i64 32]) (by simp[results,results39,go_sem,z0,z1]) ?_;have he:Np.fm b s l d f=32:=by unfold Np.fm;rw[Qb HA.out,Qb (by unfold Np.iW;omega)]
     exact lF (Below.setCell (Below.setCell bg.out (by simp) _) (by simp <;> omega) _) (rD he (by omega)) he
    ·have J8:Np.iW l d f=l - max f 1 - 3 * d+2:=rfl;obtain⟨st,hq,J7,TA,Tz⟩:∃ st,l - max f 1 - 3 * d+2=st/\Np.iW l d f=st/\1<=st/\st<=20000000:=⟨_,rfl,J8,by omega,by omega⟩;rw[hq];have dP:=jq J7;clear hq J8 J7;have b2:=Boxed.new wr 27 (.slice none 0 0);have cg:Below w.heap.size w (wr.alloc (.cells #[.slice none 0 0] 27)):=bg.out.alloc (by omega) _;refine xL (n₀:=w.heap.size) (w0:=w) (first:=#[.agg #[.int .i64 b,.int .i64 s,.int .i64 st]]) (captured:=#[]) (gf:=83) rfl (enters_of func83 (by kernel_rfl) rfl)
      (mk:=λy=>#[.agg #[.int .i64 b,.int .i64 s,.int .i64 st],y]) (λ_=>rfl) (XM b s st TA Tz (by omega) fj (by omega) _ w) cg (by simp;omega) (λ_=>rfl) (TmI w wr.heap.size) (TmX w (Np.dl b s st))
      (L1 _ _ _ (by simp;omega)) (λc=>XQ _ _ _ (by simp;omega) c)
      (λk=>(k=w.heap.size\/k=w.heap.size+1)\/k=wr.heap.size\/(Value.slice none 0 0).ownBlock=some k) (by intro k h;simp[Value.ownBlock] at h;omega) (by intro k h;simp[Value.ownBlock] at h;simp;omega)
      ⟨_,λ_=>Iff.rfl,p0.alloc _,p1.alloc _,b2,World.ownsRow_nil _ _ _ _,by simp,cg⟩ ?round ?done ?stop
     case round=>
      rintro l0 pre x S W aJ hI eh;gi_wp2;refine⟨S,RdStep.refl _ _,λk e=>.inl e,eh,?_⟩;intro lp W₂ ak;obtain⟨v,hS,c0,c1,c2,hrow,Ry,hB⟩:=L1 w _ _ (by simp;omega) pre S W W₂ hI ak;obtain⟨A,cap,rfl⟩:=jr hrow;have c0c:=c0.cell;have c1c:=c1.cell;have c2c:=c2.cell;have c0f:=c0.frozen;have c1f:=c1.frozen;have c2f:=c2.frozen;have dI:∀ k,S k->k<W₂.heap.size:=λk e=>lQ (eh k e) ak.size;have pK:pre.length+1<=(Np.dl b s st).length:=by have:=aJ.length_le;simpa using this
      have HI:=jq hI;have HS:=jq hS;have ZZ:=c2.lt;have ye:=jq c0;have cT:=jq c1;have de:=jq c2;have jS:=jq hrow;have HB:=jq hB;have kx:=jq aJ;obtain⟨i0,hi,bd,aK,aC⟩:=info_parts Tryz.infoInt;clear hI hS aJ ak c0 c1 c2 hrow hB;by_cases h4:pre.length=400
      ·have h4':((pre.length:Int) == 400)=true:=by simp[h4]
       have H4:=jq h4;clear h4;gi_wp2_with fail;refine⟨S,?_,λk e=>.inl e,λk e=>?_,?_⟩
       ·exact ((RdStep.refl S W₂).setCell (p:=⟨w.heap.size,0,none⟩) (.inl ((HS.out _).2 (.inl (.inl rfl)))) _).setCell (p:=⟨w.heap.size+1,0,none⟩) (.inl ((HS.out _).2 (.inl (.inr rfl)))) _
       ·have:=dI k e;simpa [World.setCell] using this
       ·exact⟨rfl,⟨(HS.out _).2 (.inl (.inl rfl)),(HS.out _).2 (.inl (.inr rfl))⟩,bn (ye.out.set _) (p:=⟨w.heap.size+1,0,none⟩) (by simp) _,(bn cT.out (p:=⟨w.heap.size,0,none⟩) (by simp) _).set _,by have:=H4.out;omega,(HB.out.setCell (p:=⟨w.heap.size,0,none⟩) (by simp) _).setCell (p:=⟨w.heap.size+1,0,none⟩) (by simp) _⟩
      ·have h4':((pre.length:Int) == 400)=false:=by simp;omega
       gi_wp2_with (gi_at_builtin;refine Mj _ rfl _ _ 27 rfl (wr.heap.size+1) 3 i0 (.int .i64 0) 1 8 underlying27 hi bd aK aC rfl (by decide) _ _ _ rfl (jS.out.alloc _) ⟨W₂.heap.size,0,none⟩ 1 1 [.int .i64 x] rfl rfl (cell_one_new _ _ _) (by simp[Value.oneCell']) (by unfold maxLen;omega) (by omega) (by simp;omega) ?_;intro v' w1 im kN hat;obtain⟨g',cap',rfl⟩:=ownsRow_succ im;obtain⟨wK,EA,Ep,an,aF,vO,hold⟩:=PN (F:=λk=>k=w.heap.size\/k=w.heap.size+1) HS.out (by intro i h;omega) de.out jS.out im kN hat;have aT:=wK.cell;have qL:=wK.frozen);refine⟨_,an,aF,vO,_,λ_=>Iff.rfl,(hold _ (by omega)).trans ye.out,(hold _ (by omega)).trans cT.out,EA,by simpa using Ep,by simp;omega,?_⟩;exact HB.out.trans (an.below (by have:=HB.out.size;omega) (λk e=>by have:=(HS.out k).1 e;rcases this with (h | h) | h | h;omega;omega;omega;exact yQ (by omega) (tw jS.out k h).1))
     case done=>
      rintro D S W hD dH aF ⟨v,hS,c0,c1,c2,hrow,Ry,hB⟩ hK;have c0c:=c0.cell;have c1c:=c1.cell;have c2c:=c2.cell;have c0f:=c0.frozen;have c1f:=c1.frozen;have nE:w.heap.size≠D:=λe=>dH ((hS _).2 (.inl (.inl e.symm)));have mw:w.heap.size+1≠D:=λe=>dH ((hS _).2 (.inl (.inr e.symm)));obtain⟨A,cap,rfl⟩:=jr hrow;have jS:=jq hrow;have HS:=jq hS;clear hrow hS aF;gi_wp2;have he:Np.fm b s l d f=0:=by unfold Np.fm;rw[Qb HA.out,dP.out,Qc (by omega),Qc (by omega)]
      have ht:Np.times b s l d f=Np.dl b s st:=by unfold Np.times;rw[Qb he,dP.out]
      have hK':((W.setCell ⟨w.heap.size,0,none⟩ (.slice A (Np.dl b s st).length cap)).setCell ⟨w.heap.size+1,0,none⟩ (.int .i64 0)).heap[D]?=some (.deferred (some [])):=(wQ _ _ _ _ (by simpa using mw.symm)).trans ((wQ _ _ _ _ (by simpa using nE.symm)).trans hK);have z0:=(lC (bn (c0.set (.slice A (Np.dl b s st).length cap)) (p:=⟨w.heap.size+1,0,none⟩) (by simp) (.int .i64 0)) nE (.deferred none)).cell;have z1:=(lC ((bn c1 (p:=⟨w.heap.size,0,none⟩) (by simp) (.slice A (Np.dl b s st).length cap)).set (.int .i64 0)) mw (.deferred none)).cell;refine kH hK' (v:=.tuple #[.slice A (Np.dl b s st).length cap,.int .i64 0]) (by simp[results,results39,go_sem,z0,z1]) ?_;have Et:(((W.setCell ⟨w.heap.size,0,none⟩ (.slice A (Np.dl b s st).length cap)).setCell ⟨w.heap.size+1,0,none⟩ (.int .i64 0)).putObj D (.deferred none)).ownsRow (wr.heap.size+1) 3 1 (.slice A (Np.dl b s st).length cap) (Np.dl b s st).length ((Np.dl b s st).flatMap λx=>[.int .i64 x]):=by
       rw[<-ES];refine bY jS.out (λg hg=>?_);have cM:=(tw jS.out g hg).1;rw[zQ (λe=>dH (by rw[<-e];exact (HS.out _).2 (.inr (.inr hg)))),wQ _ _ _ _ (by simp;omega),wQ _ _ _ _ (by simp;omega)]
      refine⟨_,by rw[he],?_,?_⟩
      ·rw[ht];exact Bu (R:=eK) _ (by simp) Et (by omega) (by simp[eK])
      ·exact kE ((hB.setCell (p:=⟨w.heap.size,0,none⟩) (by simp) _).setCell (p:=⟨w.heap.size+1,0,none⟩) (by simp) _) (by simp at hD;omega) _
     case stop=>
      rintro D c pre S W hD dH aF fM ⟨rfl,hS,c0,c1,h4,hB⟩ hK;have nE:w.heap.size≠D:=λe=>dH (by rw[<-e];exact hS.1);have mw:w.heap.size+1≠D:=λe=>dH (by rw[<-e];exact hS.2);gi_wp2;have z0:=(lC c0 nE (.deferred none)).cell;have z1:=(lC c1 mw (.deferred none)).cell;have he:Np.fm b s l d f=2:=by unfold Np.fm;rw[Qb HA.out,dP.out,Qc (by omega),Qb h4]
      refine kH hK (v:=.tuple #[.slice none 0 0,.int .i64 2]) (by simp[results,results39,go_sem,z0,z1]) ?_;exact lF (kE hB (by simp at hD;omega) _) (rD he (by omega)) he
end
section
open Go.RowKit Go.Shelf
def dC(base:Nat)(w:World)(v:Value)(xs:List Int):Prop:=w.ownsRow base 3 1 v xs.length (xs.map (Value.int .i64))
theorem dC.alloc{base:Nat}{w:World}{v:Value}{xs:List Int}(h:dC base w v xs)(o:Obj):dC base (w.alloc o) v xs:=World.ownsRow.alloc h o
theorem dC.keep{base:Nat}{w w':World}{v:Value}{xs:List Int}(h:dC base w v xs)(hb:Below w.heap.size w w'):dC base w' v xs:=bY h (λg hg=>hb.block g (h.lt g hg).2)
theorem dC.nil(base:Nat)(w:World):dC base w (.slice none 0 0) []:=⟨by simp,.inl ⟨rfl,rfl⟩⟩
theorem dC.weak{base base':Nat}{w:World}{v:Value}{xs:List Int}(h:dC base w v xs)(hb:base'<=base):dC base' w v xs:=by
 refine⟨h.1,h.2.imp id ?_⟩;rintro⟨g,cap,cur,h1,h2,h3⟩;exact⟨g,cap,cur,h1,yQ hb h2,h3⟩
theorem dC.form{base:Nat}{w:World}{v:Value}{xs:List Int}(h:dC base w v xs):∃ A c,v = .slice A xs.length c:=jr h
theorem dC.at{base:Nat}{w:World}{A:Option Addr}{n c:Nat}{xs:List Int}(h:dC base w (.slice A n c) xs){i:Nat}{x:Int}(hx:xs[i]?=some x):∃ g,A=some ⟨g,0,none⟩/\base<=g/\g<w.heap.size/\w.cell? ⟨g,i,none⟩=some (.int .i64 x):=by
 have h':=h;have aa:=(cQ.1 hx).1;rcases h'.2 with ⟨h1,h0⟩ | ⟨g,cap,cur,h1,hb,hg,ik,_⟩
 ·omega
 ·simp only[Value.slice.injEq] at h1;obtain⟨rfl,_,rfl⟩:=h1;refine⟨g,rfl,hb,(eQ.1 hg).1,?_⟩;have h6:=h.cells (g:=g) rfl i (.int .i64 x) (by rw[List.getElem?_map,hx];rfl);have jd:(⟨g,0,none⟩:Addr).add i=⟨g,i,none⟩:=by unfold Addr.add;split <;> simp_all
  rw[jd] at h6;exact h6
section
variable {ops:Array Oper} {rest:List Oper} {o:Oper} {a:Act} {Q:Exit->Act->World->Prop}
theorem Yz(w:World)(fh:o.guard=none)(s x:Operand)(ho:o.op = .call { callee:=.builtin .append,args:=#[s,x],argTypes:=#[27,27] })
 (base:Nat) (v:Value) (xs:List Int) (hs:a.eval s=v) (hown:dC base w v xs) (blk:Nat) (f u:Int) (hx:a.eval x = .slice (some ⟨blk,0,none⟩) 2 2) (hc:w.cell? ⟨blk,0,none⟩=some (.int .i64 f)) (aT:w.cell? ⟨blk,1,none⟩=some (.int .i64 u)) (hlen:xs.length<=100000) (bL:base<=w.heap.size)
 (h:∀ v' w',dC base w' v' (xs ++ [f,u])->Below base w w'->wpList prog ops Q rest (a.put o.dst v') w'):wpList prog ops Q (o::rest) a w:=by
 obtain⟨i0,hi,bd,aK,aC⟩:=info_parts Tryz.infoInt;refine wpList_append_own_at w fh s x 27 ho base 3 i0 (.int .i64 0) 1 8 underlying27 hi bd aK aC rfl (by decide) v xs.length (xs.map (Value.int .i64)) hs hown ⟨blk,0,none⟩ 2 2 [.int .i64 f,.int .i64 u] hx rfl ?_ (by simp[Value.oneCell']) (by unfold maxLen;omega) (by omega) bL ?_
 ·intro j y hj
  match j,hj with
  | 0,hj=>simp at hj;subst hj;simpa [Addr.add] using hc
  | 1,hj=>simp at hj;subst hj;simpa [Addr.add] using aT
  | j+2,hj=>simp at hj
 ·intro v' w' ho' hg _ _;refine h v' w' ?_ ((vQ _ _).grown hg bL (λk hk=>(hown.lt k hk).1));have e:(xs ++ [f,u]).length=xs.length+2:=by simp
  unfold dC;rw[e,List.map_append];exact ho'
end
theorem dC.slr{base:Nat}{w:World}{v:Value}{xs:List Int}(h:dC base w v xs)(hl:xs.length<=140737488355328):SlR eK 1 w w.heap.size v xs:=by
 refine Bu (sz:=1) (e:=3) (base:=base) (λx=>[.int .i64 x]) (λ_ _=>rfl) ?_ hl (λx hx=>rfl)
 have:w.ownsRow base 3 1 v xs.length (xs.map (Value.int .i64)):=h
 rwa [ES] at this
end
end Go.Proofs.YtfnopgdcaanaiaaGreatDoor
