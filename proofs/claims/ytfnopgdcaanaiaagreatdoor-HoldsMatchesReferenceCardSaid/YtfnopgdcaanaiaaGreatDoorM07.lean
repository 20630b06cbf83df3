/- Parts of the proof. No condition. -/
import Derived.Test.YtfnopgdcaanaiaaGreatDoorM03
import Derived.Test.YtfnopgdcaanaiaaGreatDoorM04
set_option linter.all false
set_option maxRecDepth 100000
set_option maxHeartbeats 8000000
namespace Go.Proofs.YtfnopgdcaanaiaaGreatDoor
open Go.Proofs.Tryz
section
open Go.RowKit
open Classical in
noncomputable def bF(w:World)(M:Nat->Prop):World:={ w with heap:=w.heap.mapIdx λk o=>if M k then .cells #[] 0 else o }
theorem j6(w:World)(M:Nat->Prop):(bF w M).heap.size=w.heap.size:=by simp[bF]
theorem kF{w:World}{M:Nat->Prop}{k:Nat}(h:¬ M k):(bF w M).heap[k]?=w.heap[k]?:=by
 unfold bF;simp only[Array.getElem?_mapIdx,h,if_false]
 cases w.heap[k]? <;> rfl
theorem x9{w:World}{M:Nat->Prop}{k:Nat}(h:M k):(bF w M).heap[k]?=(w.heap[k]?).map λ_=>Obj.cells #[] 0:=by
 unfold bF;simp only[Array.getElem?_mapIdx,h,if_true]
theorem rL{w:World}{M:Nat->Prop}{p:Addr}{v:Value}(h:(bF w M).cell? p=some v):¬ M p.block/\w.cell? p=some v:=by
 by_cases hm:M p.block
 ·exfalso;unfold World.cell? at h;rw[x9 hm] at h
  cases hh:w.heap[p.block]? with
  | none=>simp[hh] at h
  | some o=>simp[hh] at h
 ·refine⟨hm,?_⟩;rw[<-h];exact (iQ (w:=w) (kF hm)).symm
theorem aKQ{w:World}{M:Nat->Prop}{p:Addr}(h:¬ M p.block):(bF w M).cell? p=w.cell? p:=iQ (w:=w) (kF h)
def iJ{α:Type}(R:a1Z α):Prop:=∀ w (M M':Nat->Prop) B e x,(∀ k,M' k->M k)->R (bF w M) B e x->R (bF w M') B e x
theorem eh.sans{w:World}{M M':Nat->Prop}{b o:Nat}{e:List Value}(hM:∀ k,M' k->M k)(h:eh (bF w M) b o e):eh (bF w M') b o e:=λj v hj=>by
 obtain⟨h1,h2⟩:=rL (h j v hj);rw[aKQ (λe=>h1 (hM _ e))];exact h2
theorem SlR.sans{α:Type}{R:a1Z α}{sz:Nat}{w:World}{M M':Nat->Prop}{B:Nat}{v:Value}{xs:List α}(hR:iJ R)(hM:∀ k,M' k->M k)(h:SlR R sz (bF w M) B v xs):SlR R sz (bF w M') B v xs:=by
 obtain⟨A,c,hv,hc,hl,he⟩:=h;refine⟨A,c,hv,hc,hl,λi x hx=>?_⟩;obtain⟨b,o,e,hA,hB,bU,hce,hr⟩:=he i x hx;exact⟨b,o,e,hA,hB,bU,hce.sans hM,hR _ _ _ _ _ _ hM hr⟩
theorem Sl(w:World):bF w (λ_=>False)=w:=by
 unfold bF
 cases w
 simp only[World.mk.injEq,and_true];apply Array.ext_getElem?;intro i;simp only[Array.getElem?_mapIdx,if_false];rename_i heap _ _ _ _
 cases heap[i]? <;> rfl
theorem SlR.all{α:Type}{R:a1Z α}{sz:Nat}{w:World}{M:Nat->Prop}{B:Nat}{v:Value}{xs:List α}(hR:iJ R)(h:SlR R sz (bF w M) B v xs):SlR R sz w B v xs:=by
 have:=h.sans (M':=λ_=>False) hR (λ_ e=>e.elim)
 rw[Sl] at this;exact this
theorem C1:iJ bR:=λ_ _ _ _ _ _ _ h=>h
theorem zJ:iJ cS:=λ_ _ _ _ _ _ _ h=>h
theorem lT:iJ bO:=λ_ _ _ _ _ _ hM ⟨s,v,u,h1,h2,h3,h4,h5⟩=>⟨s,v,u,h1,h2,h3.sans C1 hM,h4.sans zJ hM,h5⟩
theorem iJ.all{α:Type}{R:a1Z α}(hR:iJ R){w:World}{M:Nat->Prop}{B:Nat}{e:List Value}{x:α}(h:R (bF w M) B e x):R w B e x:=by
 have:=hR w M (λ_=>False) B e x (λ_ e=>e.elim) h
 rw[Sl] at this;exact this
structure Leaves'(M:Nat->Prop)(w w':World)(M':Nat->Prop):Prop where
 os:w'.os=w.os
 tape:w'.tape=w.tape
 output:w'.output=w.output
 size:w.heap.size<=w'.heap.size
 keep:∀ k,k<w.heap.size->¬ M k->¬ M' k/\w'.heap[k]?=w.heap[k]?
theorem Leaves'.refl(M:Nat->Prop)(w:World):Leaves' M w w M:=⟨rfl,rfl,rfl,bQ _,λ_ _ h=>⟨h,rfl⟩⟩
theorem Leaves'.trans{M M' M'':Nat->Prop}{a b c:World}(h:Leaves' M a b M')(k:Leaves' M' b c M''):Leaves' M a c M'':=
 ⟨k.os.trans h.os,k.tape.trans h.tape,k.output.trans h.output,yQ h.size k.size,λi hi hm=>by
  obtain⟨h1,h2⟩:=h.keep i hi hm;obtain⟨h3,h4⟩:=k.keep i (lQ hi h.size) h1;exact⟨h3,h4.trans h2⟩⟩
theorem Leaves'.of_below{M:Nat->Prop}{w w':World}(h:Below w.heap.size w w'):Leaves' M w w' M:=⟨h.os,h.tape,h.output,h.size,λk hk hm=>⟨hm,h.block k hk⟩⟩
theorem Leaves'.setCell(M:Nat->Prop)(w:World){p:Addr}(hp:M p.block)(v:Value):Leaves' M w (w.setCell p v) M:=
 ⟨rfl,rfl,rfl,by simp[World.setCell],λk _ hm=>⟨hm,wQ _ _ _ _ (λe=>hm (e ▸ hp))⟩⟩
theorem Leaves'.grown{M:Nat->Prop}{w w':World}{row:Option Nat}(hg:w.grownBy w' row)(hr:∀ k,row=some k->M k):Leaves' M w w' M:=
 ⟨hg.os,hg.tape,hg.output,hg.size,λk hk hm=>⟨hm,hg.block k hk (λe=>hm (hr k e.symm))⟩⟩
theorem Leaves'.more{M M' N:Nat->Prop}{w w':World}(h:Leaves' M w w' M')(hN:∀ k,N k->M' k\/w.heap.size<=k):Leaves' M w w' N:=
 ⟨h.os,h.tape,h.output,h.size,λk hk hm=>⟨λe=>(hN k e).elim (h.keep k hk hm).1 (by omega),(h.keep k hk hm).2⟩⟩
theorem Leaves'.read{α:Type}{R:a1Z α}(hk:ep R)(hs:iJ R)(hm:eL R){M M':Nat->Prop}{w w':World}(h:Leaves' M w w' M'){e:List Value}{x:α}(hr:R (bF w M) w.heap.size e x):R (bF w' M') w'.heap.size e x:=by
 have hb:Below w.heap.size (bF w M) (bF w' λk=>M k\/M' k):=by
  refine⟨h.os,h.tape,h.output,by rw[j6,j6];exact h.size,λk hk=>?_⟩;by_cases hM:M k
  ·rw[x9 hM,x9 (M:=λk=>M k\/M' k) (Or.inl hM)];have h1:k<w'.heap.size:=lQ hk h.size;rw[pQ hk,pQ h1];rfl
  ·obtain⟨h1,h2⟩:=h.keep k hk hM;rw[kF hM,kF (M:=λk=>M k\/M' k) (λe=>e.elim hM h1),h2]
 exact hm _ _ _ _ _ (hs _ _ _ _ _ _ (λk e=>Or.inr e) (hk _ _ _ _ _ hr hb)) h.size
def br{α:Type}(R:a1Z α)(sz:Nat)(e:TypeId)(base:Nat)(M:Nat->Prop)(w:World)(v:Value)(xs:List α):Prop:=
 ∃ rows:List (List Value),rows.length=xs.length/\w.ownsRow base e sz v xs.length rows.flatten/\(∀ g,v.ownBlock=some g->M g)/\
   ∀ (i:Nat) (r:List Value) (x:α),rows[i]?=some r->xs[i]?=some x->r.length=sz/\R (bF w M) w.heap.size r x
theorem br.nil{α:Type}{R:a1Z α}{sz:Nat}{e:TypeId}{base:Nat}{M:Nat->Prop}(w:World):br (α:=α) R sz e base M w (.slice none 0 0) []:=
 ⟨[],rfl,⟨by simp,.inl ⟨rfl,rfl⟩⟩,(λg h=>by cases h),λi r x h=>by simp at h⟩
theorem br.form{α:Type}{R:a1Z α}{sz:Nat}{e:TypeId}{base:Nat}{M:Nat->Prop}{w:World}{v:Value}{xs:List α}(h:br R sz e base M w v xs):∃ A c,v = .slice A xs.length c:=by
 obtain⟨rows,h1,h2,h3⟩:=h;rcases h2.2 with ⟨rfl,h0⟩ | ⟨g,cap,cur,rfl,_⟩
 ·exact⟨none,0,by rw[h0]⟩
 ·exact⟨_,cap,rfl⟩
theorem br.leaves{α:Type}{R:a1Z α}(hk:ep R)(hs:iJ R)(hm:eL R){sz:Nat}{e:TypeId}{base:Nat}{M M':Nat->Prop}{w w':World}{v:Value}{xs:List α}(h:br R sz e base M w v xs)(hl:Leaves' M w w' M')
 (ho:∀ g,v.ownBlock=some g->w'.heap[g]?=w.heap[g]?/\M' g):br R sz e base M' w' v xs:=by
 obtain⟨rows,h1,h2,h3,h4⟩:=h;exact⟨rows,h1,gN h2 (λg hg=>(ho g hg).1),λg hg=>(ho g hg).2,λi r x hr hx=>⟨(h4 i r x hr hx).1,hl.read hk hs hm (h4 i r x hr hx).2⟩⟩
theorem br.slr{α:Type}{R:a1Z α}(hs:iJ R){sz:Nat}{e:TypeId}{base:Nat}{M:Nat->Prop}{w:World}{v:Value}{xs:List α}(h:br R sz e base M w v xs)(hl:xs.length<=140737488355328):SlR R sz w w.heap.size v xs:=by
 obtain⟨rows,h1,h2,h3,h4⟩:=h;have hl':=cE.rows_len (w:=bF w M) (B:=w.heap.size) h1 h4;rcases h2.2 with ⟨rfl,h0⟩ | ⟨g,cap,cur,rfl,hb,hg,pd,_⟩
 ·have:xs = []:=rQ h0
  subst this;exact⟨none,0,rfl,by simp,by simp,λi x hx=>by simp at hx⟩
 ·refine⟨_,cap,rfl,pd,hl,λi x hx=>?_⟩;have hi:=(cQ.1 hx).1;have hr:=aQ (l:=rows) (i:=i) (by omega);obtain⟨h5,h6⟩:=h4 i _ x hr hx;refine⟨g,0,rows[i],rfl,(eQ.1 hg).1,h5,λj u hj=>?_,hs.all h6⟩;have h7:=h2.cells (g:=g) rfl _ _ (Ee rows i j _ u hl' hr hj);have o4:(⟨g,0,none⟩:Addr).add (i * sz+j)=⟨g,0+i * sz+j,none⟩:=by unfold Addr.add;split <;> simp_all
  rw[o4] at h7;exact h7
def yM{α:Type}(R:a1Z α)(sz:Nat)(M:Nat->Prop)(w:World)(A:Option Addr)(ys:List α):Prop:=
 ∃ rows:List (List Value),rows.length=ys.length/\(∀ (i:Nat) (r:List Value) (x:α),rows[i]?=some r->ys[i]?=some x->r.length=sz/\R (bF w M) w.heap.size r x)/\(ys≠[]->∃ b o,A=some ⟨b,o,none⟩/\∀ j u,rows.flatten[j]?=some u->w.cell? ((⟨b,o,none⟩:Addr).add j)=some u)
theorem C4{α:Type}{R:a1Z α}{sz:Nat}{M:Nat->Prop}{w:World}{b o:Nat}{r:List Value}{x:α}(hl:r.length=sz)(hr:R (bF w M) w.heap.size r x)(hc:eh w b o r):yM R sz M w (some ⟨b,o,none⟩) [x]:=by
 refine⟨[r],rfl,λi r' x' h1 h2=>?_,λ_=>⟨b,o,rfl,λj u hj=>?_⟩⟩
 ·cases i with
  | zero=>simp at h1 h2;subst h1;subst h2;exact⟨hl,hr⟩
  | succ i=>simp at h1
 ·have o4:(⟨b,o,none⟩:Addr).add j=⟨b,o+j,none⟩:=by unfold Addr.add;split <;> simp_all
  rw[o4];exact hc j u (by simpa using hj)
theorem aGJ{α:Type}{R:a1Z α}{sz:Nat}{M:Nat->Prop}{w:World}{A:Option Addr}{n c:Nat}{ys:List α}(h:SlR R sz (bF w M) w.heap.size (.slice A n c) ys)(an:0<sz):yM R sz M w A ys:=by
 obtain⟨rows,h1,h2,h3⟩:=Sx h an;exact⟨rows,h1,h2,λhy=>by obtain⟨b,o,h4,_,h5⟩:=h3 hy;exact⟨b,o,h4,λj u hj=>(rL (h5 j u hj)).2⟩⟩
section
variable {P:Program}
theorem aHQ{α:Type}{R:a1Z α}{sz:Nat}{M:Nat->Prop}(w:World)(t ty:TypeId)
 (base:Nat) (e:TypeId) (i:TypeInfo) (z:Value) (bytes:Nat) (ht:P.underlying t=some (.slice e)) (hi:P.info? e=some i) (hz:i.zero=some z) (mi:i.size=sz) (ic:i.bytes=bytes) (gL:z.cells.size=sz) (an:0<sz)
 (v:Value) (xs:List α) (hown:br R sz e base M w v xs) (A:Option Addr) (c:Nat) (ys:List α) (cx:yM R sz M w A ys)
 (xp:∀ w B r y,R w B r y->∀ u∈r,u.oneCell'=true) (kW:xs.length+ys.length<=maxLen) (nM:(xs.length+ys.length) * bytes<=140737488355328) (fh:base<=w.heap.size) (hk:ep R) (hs:iJ R) (hm:eL R) :
 ∃ v' w',(Builtin.append_ #[t,t] ty #[v,.slice A ys.length c]).run P w = .ok v' w'/\br R sz e base (λk=>M k\/v'.ownBlock=some k) w' v' (xs++ys)/\w.grownBy w' v.ownBlock/\(v'.ownBlock=v.ownBlock\/v'.ownBlock=some w.heap.size):=by
 have sU:∀ (w':World) (v':Value) (rows rows':List (List Value)),w.grownBy w' v.ownBlock->(v'.ownBlock=v.ownBlock\/v'.ownBlock=some w.heap.size)->(∀ g,v.ownBlock=some g->M g)->rows.length=xs.length->(∀ (i:Nat) (r:List Value) (x:α),rows[i]?=some r->xs[i]?=some x->r.length=sz/\R (bF w M) w.heap.size r x)->rows'.length=ys.length->
  (∀ (i:Nat) (r:List Value) (x:α),rows'[i]?=some r->ys[i]?=some x->r.length=sz/\R (bF w M) w.heap.size r x)->w'.ownsRow base e sz v' (xs.length+ys.length) (rows.flatten++rows'.flatten)->br R sz e base (λk=>M k\/v'.ownBlock=some k) w' v' (xs++ys):=by
  intro w' v' rows rows' hg hat yY h1 h2 h3 h4 h5;have xd:Leaves' M w w' (λk=>M k\/v'.ownBlock=some k):=(Leaves'.grown hg yY).more (λk e=>by
   rcases e with e | e
   ·exact .inl e
   ·rcases hat with h | h
    ·exact .inl (yY k (h ▸ e))
    ·rw[h] at e;cases e;exact .inr (bQ _))
  refine⟨rows++rows',by simp[h1,h3],?_,λg hg'=>.inr hg',λj r y hr hy=>?_⟩
  ·rw[List.length_append,List.flatten_append];exact h5
  ·rcases Nat.lt_or_ge j rows.length with ab | nP
   ·rw[List.getElem?_append_left ab] at hr;rw[List.getElem?_append_left (by omega)] at hy;obtain⟨h6,h7⟩:=h2 j r y hr hy;exact⟨h6,xd.read hk hs hm h7⟩
   ·rw[oQ nP] at hr;rw[oQ (by omega),<-h1] at hy;obtain⟨h6,h7⟩:=h4 _ r y hr hy;exact⟨h6,xd.read hk hs hm h7⟩
 obtain⟨rows,h1,h2,yY,h3⟩:=hown;obtain⟨rows',h4,h5,h6⟩:=cx;by_cases hy:ys = []
 ·subst hy;have qo:rows' = []:=rQ (by simpa using h4);subst qo
  cases A with
  | none=>
   have dS:=Sh (P:=P) base t ty e i sz ht hi v xs.length c rows.flatten h2;have hg:w.grownBy w v.ownBlock:=⟨rfl,rfl,rfl,bQ _,λ_ _ _=>rfl⟩;exact⟨v,w,dS,sU w v rows [] hg (.inl rfl) yY h1 h3 rfl (λj r y hr=>by simp at hr) (by simpa using h2),hg,.inl rfl⟩
  | some ad=>
   obtain⟨v',w',hr,ho',hg,_,hat⟩:=run_append_own_at (P:=P) w base t ty e i z sz bytes ht hi hz mi ic gL an v xs.length rows.flatten h2 ad 0 c [] (by simp) (λj u hj=>by simp at hj) (λu hu=>by cases hu) (by simpa using kW) (by simpa using nM) fh;exact⟨v',w',hr,sU w' v' rows [] hg hat yY h1 h3 rfl (λj r y hr=>by simp at hr) (by simpa using ho'),hg,hat⟩
 ·obtain⟨b,o',rfl,hcell⟩:=h6 hy;have hl:=cE.rows_len (w:=bF w M) (B:=w.heap.size) h4 h5;obtain⟨v',w',hr,ho',hg,_,hat⟩:=run_append_own_at (P:=P) w base t ty e i z sz bytes ht hi hz mi ic gL an v xs.length rows.flatten h2 ⟨b,o',none⟩ ys.length c rows'.flatten (by rw[IZ rows' hl,h4]) hcell (λu hu=>by
   obtain⟨r,hr,Kq⟩:=List.mem_flatten.1 hu;obtain⟨j,hj,rfl⟩:=nQ.1 hr;exact xp _ _ _ _ (h5 j _ _ (aQ hj) (aQ (by omega))).2 u Kq) kW nM fh
  exact⟨v',w',hr,sU w' v' rows rows' hg hat yY h1 h3 h4 h5 ho',hg,hat⟩
theorem Ta{α:Type}{R:a1Z α}{sz:Nat}{M:Nat->Prop}(w:World){o:Oper}{a:Act}{K:Act->World->Prop}{Q:Exit->Act->World->Prop}(s x:Operand)(t:TypeId)
 (ho:o.op = .call { callee:=.builtin .append,args:=#[s,x],argTypes:=#[t,t] })
 (base:Nat) (e:TypeId) (i:TypeInfo) (z:Value) (bytes:Nat) (ht:P.underlying t=some (.slice e)) (hi:P.info? e=some i) (hz:i.zero=some z) (mi:i.size=sz) (ic:i.bytes=bytes) (gL:z.cells.size=sz) (an:0<sz)
 (v:Value) (xs:List α) (hv:a.eval s=v) (hown:br R sz e base M w v xs) (A:Option Addr) (c:Nat) (ys:List α) (hx:a.eval x = .slice A ys.length c) (cx:yM R sz M w A ys)
 (xp:∀ w B r y,R w B r y->∀ u∈r,u.oneCell'=true) (kW:xs.length+ys.length<=maxLen) (nM:(xs.length+ys.length) * bytes<=140737488355328) (fh:base<=w.heap.size) (hk:ep R) (hs:iJ R) (hm:eL R)
 (h:∀ v' w',br R sz e base (λk=>M k\/v'.ownBlock=some k) w' v' (xs++ys)->w.grownBy w' v.ownBlock->(v'.ownBlock=v.ownBlock\/v'.ownBlock=some w.heap.size)->K (a.put o.dst v') w'):o.wp P a w K Q:=by
 obtain⟨v',w',hr,h2,h4,h5⟩:=aHQ (P:=P) w t o.type base e i z bytes ht hi hz mi ic gL an v xs hown A c ys cx xp kW nM fh hk hs hm;unfold Oper.wp execOp;simp only[ho,resolve,invoke,builtin,Sem.run_bind,Sem.run_pure,Result.andThen_ok,List.map_toArray,List.map_cons,List.map_nil,hv,hx,hr];exact h v' w' h2 h4 h5
theorem Dd{α:Type}{R:a1Z α}{sz:Nat}{M:Nat->Prop}(w:World){ops:Array Oper}{rest:List Oper}{o:Oper}{a:Act}{Q:Exit->Act->World->Prop}(js:o.guard=none)(s x:Operand)(t:TypeId)
 (ho:o.op = .call { callee:=.builtin .append,args:=#[s,x],argTypes:=#[t,t] })
 (base:Nat) (e:TypeId) (i:TypeInfo) (z:Value) (bytes:Nat) (ht:P.underlying t=some (.slice e)) (hi:P.info? e=some i) (hz:i.zero=some z) (mi:i.size=sz) (ic:i.bytes=bytes) (gL:z.cells.size=sz) (an:0<sz)
 (v:Value) (xs:List α) (hv:a.eval s=v) (hown:br R sz e base M w v xs) (A:Option Addr) (c:Nat) (ys:List α) (hx:a.eval x = .slice A ys.length c) (cx:yM R sz M w A ys)
 (xp:∀ w B r y,R w B r y->∀ u∈r,u.oneCell'=true) (kW:xs.length+ys.length<=maxLen) (nM:(xs.length+ys.length) * bytes<=140737488355328) (fh:base<=w.heap.size) (hk:ep R) (hs:iJ R) (hm:eL R)
 (h:∀ v' w',br R sz e base (λk=>M k\/v'.ownBlock=some k) w' v' (xs++ys)->w.grownBy w' v.ownBlock->(v'.ownBlock=v.ownBlock\/v'.ownBlock=some w.heap.size)->wpList P ops Q rest (a.put o.dst v') w'):wpList P ops Q (o::rest) a w:=by
 refine wpList_plain js λK hK=>?_;exact Ta w s x t ho base e i z bytes ht hi hz mi ic gL an v xs hv hown A c ys hx cx xp kW nM fh hk hs hm (λv' w' h1 h2 h3=>hK _ _ (h v' w' h1 h2 h3))
end
end
section
open Go.RowKit Go.MapKept
def pK(p:List UInt8×Int×List UInt8):Value:=.agg #[aA p.1,.int .i64 p.2.1,aA p.2.2]
def kP(r:Nat)(kvs:List ((List UInt8×Int×List UInt8)×Value))(w:World):Prop:=∃ es,w.heap[r]?=some (.map es es.size)/\es.toList.map (λe=>(e.key,e.val))=kvs.map (λp=>(pK p.1,p.2))/\∀ (i:Nat) (e:MapEntry),es[i]?=some e->e.born=i
theorem kP.lt{r:Nat}{kvs:List ((List UInt8×Int×List UInt8)×Value)}{w:World}(h:kP r kvs w):r<w.heap.size:=by
 obtain⟨es,h,_⟩:=h;exact (eQ.1 h).1
theorem kP.keep{r:Nat}{kvs:List ((List UInt8×Int×List UInt8)×Value)}{w w':World}{n:Nat}(h:kP r kvs w)(hb:Below n w w')(hn:r<n):kP r kvs w':=by
 obtain⟨es,h,h2⟩:=h;exact⟨es,(hb.block r hn).trans h,h2⟩
theorem kP.keep'{r:Nat}{kvs:List ((List UInt8×Int×List UInt8)×Value)}{w w':World}(h:kP r kvs w)(hb:w'.heap[r]?=w.heap[r]?):kP r kvs w':=by
 obtain⟨es,h,h2⟩:=h;exact⟨es,hb.trans h,h2⟩
theorem kP.made(w:World):kP w.heap.size [] (w.alloc (.map #[] 0)):=⟨#[],heap_alloc_new _ _,rfl,λi e h=>by simp at h⟩
theorem Xe(p q:List UInt8×Int×List UInt8)(w:World):(Op.equal 221 (pK p) (pK q)).run prog w = .ok (decide (p=q)) w:=by
 obtain⟨a,n,c⟩:=p;obtain⟨b,m,d⟩:=q;have u3:=underlying3;have a3:=isAgg3;have z3:=sizeOf3;have u9:=underlying9;have a9:=isAgg9;have z9:=sizeOf9;have hS:prog.underlying 221=some (.struct (prog.fieldsOf 221)):=by kernel_rfl
 have hp:prog.stoodInHeld 221=false:=by kernel_rfl
 show (Op.equalIn 10000 221 (.agg #[.string ⟨a.toArray⟩,.int .i64 n,.string ⟨c.toArray⟩]) (.agg #[.string ⟨b.toArray⟩,.int .i64 m,.string ⟨d.toArray⟩])).run prog w=_;rw[show (10000:Nat)=9999+1 from rfl,run_equalIn_agg w 9999 221 _ _ hS hp];simp only[Program.fieldsOf,underlying221];go_simp;by_cases h0:a=b <;> by_cases h1:n=m <;> by_cases h2:c=d <;> simp[h0,h1,h2]
theorem N3(b:Bool)(p:List UInt8×Int×List UInt8)(w:World):(Instr.checkKey b 10000 221 (pK p)).run prog w = .ok () w:=by
 have hS:=underlying221;have hs:∀ s w,(Instr.checkKey b 9999 9 (.string s)).run prog w = .ok () w:=λs w=>MapKept.run_checkKey (k:=.string s) underlying9 (by simp[MapKept.IsKey]) b 9998;have hi:∀ n w,(Instr.checkKey b 9999 3 (.int .i64 n)).run prog w = .ok () w:=λn w=>MapKept.run_checkKey (k:=.int .i64 n) underlying3 (by simp[MapKept.IsKey]) b 9998;have a3:=isAgg3;have z3:=sizeOf3;have a9:=isAgg9;have z9:=sizeOf9;rw[show (10000:Nat)=9999+1 from rfl,Instr.checkKey];simp only[pK,aA];simp[run_underlying hS,go_sem,Result.andThen,hs,hi]
theorem Xq{fs:Array Field}{k:Value}{e:MapEntry}{es:List MapEntry}(i:Nat):Instr.findNow (.struct fs) k (e::es) i=none:=by
 simp only[Instr.findNow];rfl
theorem NR(p:List UInt8×Int×List UInt8)(w:World):∀ (es:List MapEntry) (kvs:List ((List UInt8×Int×List UInt8)×Value)) (i:Nat),es.map (λe=>(e.key,e.val))=kvs.map (λq=>(pK q.1,q.2))->
 (∀ v,kvs.lookup p=some v->∃ j,(es[j]?).map (λe=>(e.key,e.val))=some (pK p,v)/\kvs[j]?=some (p,v)/\(Instr.findAsking 221 (pK p) es i).run prog w = .ok (some (i+j,v)) w)/\(kvs.lookup p=none->(Instr.findAsking 221 (pK p) es i).run prog w = .ok none w)
 | [],kvs,i,h=>by
   cases kvs with
   | nil=>exact⟨λv h=>by simp at h,λ_=>by rw[Instr.findAsking];rfl⟩
   | cons=>simp at h
 | e::es,kvs,i,h=>by
   cases kvs with
   | nil=>simp at h
   | cons q kvs=>
    obtain⟨q,u⟩:=q;simp only[List.map_cons,List.cons.injEq,Prod.mk.injEq] at h;obtain⟨⟨h1,h2⟩,h3⟩:=h;obtain⟨i1,i2⟩:=NR p w es kvs (i+1) h3;have hq:=Xe p q w;rw[<-h1] at hq;by_cases jS:p=q
    ·have hd:decide (p=q)=true:=by simpa using jS
     rw[hd] at hq;have hr:(Instr.findAsking 221 (pK p) (e::es) i).run prog w = .ok (some (i,u)) w:=by
      rw[Instr.findAsking];simp[hq,h2]
     subst jS;refine⟨λv hv=>⟨0,?_,?_,?_⟩,λhn=>?_⟩
     ·rw[List.lookup_cons_self] at hv;cases hv;simp[h1,h2]
     ·rw[List.lookup_cons_self] at hv;cases hv;rfl
     ·rw[List.lookup_cons_self] at hv;cases hv;exact hr
     ·rw[List.lookup_cons_self] at hn;cases hn
    ·have hd:decide (p=q)=false:=by simpa using jS
     rw[hd] at hq;have hb:(p == q)=false:=by simpa using jS
     have hr:(Instr.findAsking 221 (pK p) (e::es) i).run prog w=(Instr.findAsking 221 (pK p) es (i+1)).run prog w:=by
      rw[Instr.findAsking];simp[hq]
     have hl:((q,u)::kvs).lookup p=kvs.lookup p:=by rw[List.lookup_cons,hb]
     rw[hr,hl];refine⟨λv hv=>?_,i2⟩;obtain⟨j,j1,j2,j3⟩:=i1 v hv;exact⟨j+1,by simpa using j1,by simpa using j2,by rw[show i+(j+1)=i+1+j by omega];exact j3⟩
theorem OF(p:List UInt8×Int×List UInt8)(w:World)(es:List MapEntry)(kvs:List ((List UInt8×Int×List UInt8)×Value))(h:es.map (λe=>(e.key,e.val))=kvs.map (λq=>(pK q.1,q.2))) :
 (∀ v,kvs.lookup p=some v->∃ j,(es[j]?).map (λe=>(e.key,e.val))=some (pK p,v)/\kvs[j]?=some (p,v)/\(Instr.findKey 221 (pK p) es).run prog w = .ok (some (j,v)) w)/\(kvs.lookup p=none->(Instr.findKey 221 (pK p) es).run prog w = .ok none w):=by
 have hS:=underlying221
 cases es with
 | nil=>
  cases kvs with
  | nil=>exact⟨λv h=>by simp at h,λ_=>by simp[Instr.findKey,run_underlying hS,Instr.findNow]⟩
  | cons=>simp at h
 | cons e es=>
  obtain⟨i1,i2⟩:=NR p w (e::es) kvs 0 h;have hr:(Instr.findKey 221 (pK p) (e::es)).run prog w=(Instr.findAsking 221 (pK p) (e::es) 0).run prog w:=by
   simp[Instr.findKey,run_underlying hS,Xq]
  rw[hr];refine⟨λv hv=>?_,i2⟩;obtain⟨j,j1,j2,j3⟩:=i1 v hv;exact⟨j,j1,j2,by rw[j3,Nat.zero_add]⟩
theorem aHJ(w:World)(t et:TypeId)(ht:prog.underlying t=some (.map 221 et))(r:Nat)(kvs:List ((List UInt8×Int×List UInt8)×Value))(hr:kP r kvs w)(p:List UInt8×Int×List UInt8)(z:Value)(hz:(zeroValue et).run prog w = .ok z w) :
 (Instr.lookup t (.map (some r)) (pK p) false).run prog w = .ok ((kvs.lookup p).getD z) w:=by
 obtain⟨es,hr,he,_⟩:=hr;have hf:=OF p w es.toList kvs he;have hc:∀ b,(Instr.checkKey b 10000 221 (pK p)).run prog w = .ok () w:=λb=>N3 b p w
 cases hl:kvs.lookup p with
 | none=>simp[Instr.lookup,run_underlying ht,MapKept.run_getObj_map hr,hc,hf.2 hl,Result.andThen,hz]
 | some v=>
  obtain⟨j,_,_,hj⟩:=hf.1 v hl;simp[Instr.lookup,run_underlying ht,MapKept.run_getObj_map hr,hc,hj,Result.andThen]
theorem V3(a:ByteArray):(a == a)=true:=by
 show (a.data == a.data)=true;simp
theorem aMY(p:List UInt8×Int×List UInt8)(w:World):(Instr.keyThatStays (pK p) (pK p)).run prog w = .ok (pK p) w:=by
 have hs:Instr.sameBits 10000 (pK p) (pK p)=true:=by
  show Instr.sameBits (9999+1) (pK p) (pK p)=true;simp only[pK,aA,Instr.sameBits];simp[Instr.sameBits,V3]
 simp[Instr.keyThatStays,hs]
theorem aIJ(w:World)(t et:TypeId)(ht:prog.underlying t=some (.map 221 et))(r:Nat)(kvs:List ((List UInt8×Int×List UInt8)×Value))(hr:kP r kvs w)(p:List UInt8×Int×List UInt8)(val:Value)(hl:kvs.lookup p=none\/kvs.lookup p=some val) :
 ∃ w',(Instr.mapUpdate t (.map (some r)) (pK p) val).run prog w = .ok () w'/\kP r (if kvs.lookup p=none then kvs ++ [(p,val)] else kvs) w'/\Turned r w w':=by
 obtain⟨es,hr,he,iO⟩:=hr;have hf:=OF p w es.toList kvs he;have hc:(Instr.checkKey false 10000 221 (pK p)).run prog w = .ok () w:=N3 false p w;have ab:r<w.heap.size:=(eQ.1 hr).1;rcases hl with hl | hl
 ·rw[Qb hl];refine⟨{ w with heap:=w.heap.setIfInBounds r (.map (es.push { key:=pK p,val:=val,born:=es.size }) (es.size+1)) },by simp[Instr.mapUpdate,run_underlying ht,MapKept.run_getObj_map hr,hc,hf.2 hl,MapKept.run_setObj_map _ hr,Result.andThen],⟨es.push { key:=pK p,val:=val,born:=es.size },by simp[ab],by simp[he],λi e hi=>?_⟩,⟨rfl,rfl,rfl,by simp,λi hi=>by simp[Ne.symm hi]⟩⟩;rw[Array.getElem?_push] at hi;split at hi
  ·rename_i h1;cases hi;exact h1.symm
  ·exact iO i e hi
 ·have hn:¬ kvs.lookup p=none:=by rw[hl];exact λh=>nomatch h
  rw[Qc hn];obtain⟨j,j1,j2,j3⟩:=hf.1 val hl;have j0:∃ e,es[j]?=some e/\e.key=pK p/\e.val=val:=by
   rw[Array.getElem?_toList] at j1
   cases h0:es[j]? with
   | none=>rw[h0] at j1;simp at j1
   | some e=>rw[h0] at j1;simp only[Option.map_some,Option.some.injEq,Prod.mk.injEq] at j1;exact⟨e,rfl,j1.1,j1.2⟩
  obtain⟨e0,e1,e2,e3⟩:=j0;have kA:(Instr.keyThatStays (((es[j]?).map (·.key)).getD (pK p)) (pK p)).run prog w = .ok (pK p) w:=by
   rw[e1];simp only[Option.map_some,Option.getD_some];rw[e2];exact aMY p w
  have ut:(es.modify j λe=>{ e with key:=pK p,val:=val })=es:=by
   apply Array.ext_getElem?;intro i;rw[Array.getElem?_modify];by_cases dj:j=i
   ·subst dj;rw[Qb rfl,e1]
    cases e0
    subst e2;subst e3;rfl
   ·rw[Qc dj]
  refine⟨w,?_,⟨es,hr,he,iO⟩,⟨rfl,rfl,rfl,rfl,λi hi=>rfl⟩⟩;have ph:w.heap.setIfInBounds r (.map es es.size)=w.heap:=by
   apply Array.ext_getElem?;intro i;rw[Array.getElem?_setIfInBounds];by_cases Ce:r=i
   ·subst Ce;rw[Qb rfl,Qb ab,hr]
   ·rw[Qc Ce]
  simp[Instr.mapUpdate,run_underlying ht,MapKept.run_getObj_map hr,hc,j3,kA,ut,MapKept.run_setObj_map _ hr,ph,Result.andThen]
end
end Go.Proofs.YtfnopgdcaanaiaaGreatDoor
