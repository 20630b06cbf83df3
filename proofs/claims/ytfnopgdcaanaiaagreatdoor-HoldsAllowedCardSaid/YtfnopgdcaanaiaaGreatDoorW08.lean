/- Parts of the proof. No condition. -/
import Derived.Test.YtfnopgdcaanaiaaGreatDoorW02
import Derived.Test.YtfnopgdcaanaiaaGreatDoorW03
set_option linter.all false
set_option maxRecDepth 100000
set_option maxHeartbeats 8000000
namespace Go.Proofs.YtfnopgdcaanaiaaGreatDoor
section
open Go.RowKit
open Classical in
noncomputable def bA(w:World)(M:Nat->Prop):World:={ w with heap:=w.heap.mapIdx λk o=>if M k then .cells #[] 0 else o }
theorem kB(w:World)(M:Nat->Prop):(bA w M).heap.size=w.heap.size:=by simp[bA]
theorem ls{w:World}{M:Nat->Prop}{k:Nat}(h:¬ M k):(bA w M).heap[k]?=w.heap[k]?:=by
 unfold bA;simp only[Array.getElem?_mapIdx,h,if_false]
 cases w.heap[k]? <;> rfl
theorem wJ{w:World}{M:Nat->Prop}{k:Nat}(h:M k):(bA w M).heap[k]?=(w.heap[k]?).map λ_=>Obj.cells #[] 0:=by
 unfold bA;simp only[Array.getElem?_mapIdx,h,if_true]
theorem P4{w:World}{M:Nat->Prop}{p:Addr}{v:Value}(h:(bA w M).cell? p=some v):¬ M p.block/\w.cell? p=some v:=by
 by_cases hm:M p.block
 ·exfalso;unfold World.cell? at h;rw[wJ hm] at h
  cases hh:w.heap[p.block]? with
  | none=>simp[hh] at h
  | some o=>simp[hh] at h
 ·refine⟨hm,?_⟩;rw[<-h];exact (iQ (w:=w) (ls hm)).symm
theorem amJ{w:World}{M:Nat->Prop}{p:Addr}(h:¬ M p.block):(bA w M).cell? p=w.cell? p:=iQ (w:=w) (ls h)
def gP{α:Type}(R:aFJ α):Prop:=∀ w (M M':Nat->Prop) B e x,(∀ k,M' k->M k)->R (bA w M) B e x->R (bA w M') B e x
theorem ek.sans{w:World}{M M':Nat->Prop}{b o:Nat}{e:List Value}(hM:∀ k,M' k->M k)(h:ek (bA w M) b o e):ek (bA w M') b o e:=λj v hj=>by
 obtain⟨h1,h2⟩:=P4 (h j v hj);rw[amJ (λe=>h1 (hM _ e))];exact h2
theorem SlR.sans{α:Type}{R:aFJ α}{sz:Nat}{w:World}{M M':Nat->Prop}{B:Nat}{v:Value}{xs:List α}(hR:gP R)(hM:∀ k,M' k->M k)(h:SlR R sz (bA w M) B v xs):SlR R sz (bA w M') B v xs:=by
 obtain⟨A,c,hv,hc,hl,he⟩:=h;refine⟨A,c,hv,hc,hl,λi x hx=>?_⟩;obtain⟨b,o,e,hA,hB,bX,hce,hr⟩:=he i x hx;exact⟨b,o,e,hA,hB,bX,hce.sans hM,hR _ _ _ _ _ _ hM hr⟩
theorem P5(w:World):bA w (λ_=>False)=w:=by
 unfold bA
 cases w
 simp only[World.mk.injEq,and_true];apply Array.ext_getElem?;intro i;simp only[Array.getElem?_mapIdx,if_false];rename_i heap _ _ _ _
 cases heap[i]? <;> rfl
theorem SlR.all{α:Type}{R:aFJ α}{sz:Nat}{w:World}{M:Nat->Prop}{B:Nat}{v:Value}{xs:List α}(hR:gP R)(h:SlR R sz (bA w M) B v xs):SlR R sz w B v xs:=by
 have:=h.sans (M':=λ_=>False) hR (λ_ e=>e.elim)
 rw[P5] at this;exact this
theorem yu:gP bK:=λ_ _ _ _ _ _ _ h=>h
theorem yz:gP dl:=λ_ _ _ _ _ _ _ h=>h
theorem sj:gP bP:=λ_ _ _ _ _ _ hM ⟨s,v,u,h1,h2,h3,h4,h5⟩=>⟨s,v,u,h1,h2,h3.sans yu hM,h4.sans yz hM,h5⟩
theorem gP.all{α:Type}{R:aFJ α}(hR:gP R){w:World}{M:Nat->Prop}{B:Nat}{e:List Value}{x:α}(h:R (bA w M) B e x):R w B e x:=by
 have:=hR w M (λ_=>False) B e x (λ_ e=>e.elim) h
 rw[P5] at this;exact this
structure Leaves'(M:Nat->Prop)(w w':World)(M':Nat->Prop):Prop where
 os:w'.os=w.os
 tape:w'.tape=w.tape
 output:w'.output=w.output
 size:w.heap.size<=w'.heap.size
 keep:∀ k,k<w.heap.size->¬ M k->¬ M' k/\w'.heap[k]?=w.heap[k]?
theorem Leaves'.refl(M:Nat->Prop)(w:World):Leaves' M w w M:=⟨rfl,rfl,rfl,bQ _,λ_ _ h=>⟨h,rfl⟩⟩
theorem Leaves'.trans{M M' M'':Nat->Prop}{a b c:World}(h:Leaves' M a b M')(k:Leaves' M' b c M''):Leaves' M a c M'':=
 ⟨k.os.trans h.os,k.tape.trans h.tape,k.output.trans h.output,yQ h.size k.size,λi hi hm=>by
  obtain⟨h1,h2⟩:=h.keep i hi hm;obtain⟨h3,h4⟩:=k.keep i (lQ hi h.size) h1;exact⟨h3,h4.trans h2⟩⟩
theorem Leaves'.of_below{M:Nat->Prop}{w w':World}(h:Below w.heap.size w w'):Leaves' M w w' M:=⟨h.os,h.tape,h.output,h.size,λk hk hm=>⟨hm,h.block k hk⟩⟩
theorem Leaves'.setCell(M:Nat->Prop)(w:World){p:Addr}(hp:M p.block)(v:Value):Leaves' M w (w.setCell p v) M:=
 ⟨rfl,rfl,rfl,by simp[World.setCell],λk _ hm=>⟨hm,wQ _ _ _ _ (λe=>hm (e ▸ hp))⟩⟩
theorem Leaves'.grown{M:Nat->Prop}{w w':World}{row:Option Nat}(hg:w.grownBy w' row)(hr:∀ k,row=some k->M k):Leaves' M w w' M:=
 ⟨hg.os,hg.tape,hg.output,hg.size,λk hk hm=>⟨hm,hg.block k hk (λe=>hm (hr k e.symm))⟩⟩
theorem Leaves'.more{M M' N:Nat->Prop}{w w':World}(h:Leaves' M w w' M')(hN:∀ k,N k->M' k\/w.heap.size<=k):Leaves' M w w' N:=
 ⟨h.os,h.tape,h.output,h.size,λk hk hm=>⟨λe=>(hN k e).elim (h.keep k hk hm).1 (by omega),(h.keep k hk hm).2⟩⟩
theorem Leaves'.read{α:Type}{R:aFJ α}(hk:dL R)(hs:gP R)(hm:dZ R){M M':Nat->Prop}{w w':World}(h:Leaves' M w w' M'){e:List Value}{x:α}(hr:R (bA w M) w.heap.size e x):R (bA w' M') w'.heap.size e x:=by
 have hb:Below w.heap.size (bA w M) (bA w' λk=>M k\/M' k):=by
  refine⟨h.os,h.tape,h.output,by rw[kB,kB];exact h.size,λk hk=>?_⟩;by_cases hM:M k
  ·rw[wJ hM,wJ (M:=λk=>M k\/M' k) (Or.inl hM)];have h1:k<w'.heap.size:=lQ hk h.size;rw[pQ hk,pQ h1];rfl
  ·obtain⟨h1,h2⟩:=h.keep k hk hM;rw[ls hM,ls (M:=λk=>M k\/M' k) (λe=>e.elim hM h1),h2]
 exact hm _ _ _ _ _ (hs _ _ _ _ _ _ (λk e=>Or.inr e) (hk _ _ _ _ _ hr hb)) h.size
def bF{α:Type}(R:aFJ α)(sz:Nat)(e:TypeId)(base:Nat)(M:Nat->Prop)(w:World)(v:Value)(xs:List α):Prop:=
 ∃ rows:List (List Value),rows.length=xs.length/\w.ownsRow base e sz v xs.length rows.flatten/\(∀ g,v.ownBlock=some g->M g)/\
   ∀ (i:Nat) (r:List Value) (x:α),rows[i]?=some r->xs[i]?=some x->r.length=sz/\R (bA w M) w.heap.size r x
theorem bF.nil{α:Type}{R:aFJ α}{sz:Nat}{e:TypeId}{base:Nat}{M:Nat->Prop}(w:World):bF (α:=α) R sz e base M w (.slice none 0 0) []:=
 ⟨[],rfl,⟨by simp,.inl ⟨rfl,rfl⟩⟩,(λg h=>by cases h),λi r x h=>by simp at h⟩
theorem bF.form{α:Type}{R:aFJ α}{sz:Nat}{e:TypeId}{base:Nat}{M:Nat->Prop}{w:World}{v:Value}{xs:List α}(h:bF R sz e base M w v xs):∃ A c,v = .slice A xs.length c:=by
 obtain⟨rows,h1,h2,h3⟩:=h;rcases h2.2 with ⟨rfl,h0⟩ | ⟨g,cap,cur,rfl,_⟩
 ·exact⟨none,0,by rw[h0]⟩
 ·exact⟨_,cap,rfl⟩
theorem bF.leaves{α:Type}{R:aFJ α}(hk:dL R)(hs:gP R)(hm:dZ R){sz:Nat}{e:TypeId}{base:Nat}{M M':Nat->Prop}{w w':World}{v:Value}{xs:List α}(h:bF R sz e base M w v xs)(hl:Leaves' M w w' M')
 (ho:∀ g,v.ownBlock=some g->w'.heap[g]?=w.heap[g]?/\M' g):bF R sz e base M' w' v xs:=by
 obtain⟨rows,h1,h2,h3,h4⟩:=h;exact⟨rows,h1,gY h2 (λg hg=>(ho g hg).1),λg hg=>(ho g hg).2,λi r x hr hx=>⟨(h4 i r x hr hx).1,hl.read hk hs hm (h4 i r x hr hx).2⟩⟩
theorem bF.slr{α:Type}{R:aFJ α}(hs:gP R){sz:Nat}{e:TypeId}{base:Nat}{M:Nat->Prop}{w:World}{v:Value}{xs:List α}(h:bF R sz e base M w v xs)(hl:xs.length<=140737488355328):SlR R sz w w.heap.size v xs:=by
 obtain⟨rows,h1,h2,h3,h4⟩:=h;have hl':=ct.rows_len (w:=bA w M) (B:=w.heap.size) h1 h4;rcases h2.2 with ⟨rfl,h0⟩ | ⟨g,cap,cur,rfl,hb,hg,nI,_⟩
 ·have:xs = []:=rQ h0
  subst this;exact⟨none,0,rfl,by simp,by simp,λi x hx=>by simp at hx⟩
 ·refine⟨_,cap,rfl,nI,hl,λi x hx=>?_⟩;have hi:=(cQ.1 hx).1;have hr:=aQ (l:=rows) (i:=i) (by omega);obtain⟨h5,h6⟩:=h4 i _ x hr hx;refine⟨g,0,rows[i],rfl,(eQ.1 hg).1,h5,λj u hj=>?_,hs.all h6⟩;have h7:=h2.cells (g:=g) rfl _ _ (C8 rows i j _ u hl' hr hj);have oJ:(⟨g,0,none⟩:Addr).add (i * sz+j)=⟨g,0+i * sz+j,none⟩:=by unfold Addr.add;split <;> simp_all
  rw[oJ] at h7;exact h7
def xD{α:Type}(R:aFJ α)(sz:Nat)(M:Nat->Prop)(w:World)(A:Option Addr)(ys:List α):Prop:=
 ∃ rows:List (List Value),rows.length=ys.length/\(∀ (i:Nat) (r:List Value) (x:α),rows[i]?=some r->ys[i]?=some x->r.length=sz/\R (bA w M) w.heap.size r x)/\(ys≠[]->∃ b o,A=some ⟨b,o,none⟩/\∀ j u,rows.flatten[j]?=some u->w.cell? ((⟨b,o,none⟩:Addr).add j)=some u)
theorem PR{α:Type}{R:aFJ α}{sz:Nat}{M:Nat->Prop}{w:World}{b o:Nat}{r:List Value}{x:α}(hl:r.length=sz)(hr:R (bA w M) w.heap.size r x)(hc:ek w b o r):xD R sz M w (some ⟨b,o,none⟩) [x]:=by
 refine⟨[r],rfl,λi r' x' h1 h2=>?_,λ_=>⟨b,o,rfl,λj u hj=>?_⟩⟩
 ·cases i with
  | zero=>simp at h1 h2;subst h1;subst h2;exact⟨hl,hr⟩
  | succ i=>simp at h1
 ·have oJ:(⟨b,o,none⟩:Addr).add j=⟨b,o+j,none⟩:=by unfold Addr.add;split <;> simp_all
  rw[oJ];exact hc j u (by simpa using hj)
theorem tX{α:Type}{R:aFJ α}{sz:Nat}{M:Nat->Prop}{w:World}{A:Option Addr}{n c:Nat}{ys:List α}(h:SlR R sz (bA w M) w.heap.size (.slice A n c) ys)(an:0<sz):xD R sz M w A ys:=by
 obtain⟨rows,h1,h2,h3⟩:=Qn h an;exact⟨rows,h1,h2,λhy=>by obtain⟨b,o,h4,_,h5⟩:=h3 hy;exact⟨b,o,h4,λj u hj=>(P4 (h5 j u hj)).2⟩⟩
section
variable {P:Program}
theorem ajX{α:Type}{R:aFJ α}{sz:Nat}{M:Nat->Prop}(w:World)(t ty:TypeId)
 (base:Nat) (e:TypeId) (i:TypeInfo) (z:Value) (bytes:Nat) (ht:P.underlying t=some (.slice e)) (hi:P.info? e=some i) (hz:i.zero=some z) (lR:i.size=sz) (iF:i.bytes=bytes) (gK:z.cells.size=sz) (an:0<sz)
 (v:Value) (xs:List α) (hown:bF R sz e base M w v xs) (A:Option Addr) (c:Nat) (ys:List α) (cY:xD R sz M w A ys)
 (vJ:∀ w B r y,R w B r y->∀ u∈r,u.oneCell'=true) (ki:xs.length+ys.length<=maxLen) (nw:(xs.length+ys.length) * bytes<=140737488355328) (eC:base<=w.heap.size) (hk:dL R) (hs:gP R) (hm:dZ R) :
 ∃ v' w',(Builtin.append_ #[t,t] ty #[v,.slice A ys.length c]).run P w = .ok v' w'/\bF R sz e base (λk=>M k\/v'.ownBlock=some k) w' v' (xs++ys)/\w.grownBy w' v.ownBlock/\(v'.ownBlock=v.ownBlock\/v'.ownBlock=some w.heap.size):=by
 have rL:∀ (w':World) (v':Value) (rows rows':List (List Value)),w.grownBy w' v.ownBlock->(v'.ownBlock=v.ownBlock\/v'.ownBlock=some w.heap.size)->(∀ g,v.ownBlock=some g->M g)->rows.length=xs.length->(∀ (i:Nat) (r:List Value) (x:α),rows[i]?=some r->xs[i]?=some x->r.length=sz/\R (bA w M) w.heap.size r x)->rows'.length=ys.length->
  (∀ (i:Nat) (r:List Value) (x:α),rows'[i]?=some r->ys[i]?=some x->r.length=sz/\R (bA w M) w.heap.size r x)->w'.ownsRow base e sz v' (xs.length+ys.length) (rows.flatten++rows'.flatten)->bF R sz e base (λk=>M k\/v'.ownBlock=some k) w' v' (xs++ys):=by
  intro w' v' rows rows' hg hat xP h1 h2 h3 h4 h5;have vD:Leaves' M w w' (λk=>M k\/v'.ownBlock=some k):=(Leaves'.grown hg xP).more (λk e=>by
   rcases e with e | e
   ·exact .inl e
   ·rcases hat with h | h
    ·exact .inl (xP k (h ▸ e))
    ·rw[h] at e;cases e;exact .inr (bQ _))
  refine⟨rows++rows',by simp[h1,h3],?_,λg hg'=>.inr hg',λj r y hr hy=>?_⟩
  ·rw[List.length_append,List.flatten_append];exact h5
  ·rcases Nat.lt_or_ge j rows.length with aa | oM
   ·rw[List.getElem?_append_left aa] at hr;rw[List.getElem?_append_left (by omega)] at hy;obtain⟨h6,h7⟩:=h2 j r y hr hy;exact⟨h6,vD.read hk hs hm h7⟩
   ·rw[oQ oM] at hr;rw[oQ (by omega),<-h1] at hy;obtain⟨h6,h7⟩:=h4 _ r y hr hy;exact⟨h6,vD.read hk hs hm h7⟩
 obtain⟨rows,h1,h2,xP,h3⟩:=hown;obtain⟨rows',h4,h5,h6⟩:=cY;by_cases hy:ys = []
 ·subst hy;have pN:rows' = []:=rQ (by simpa using h4);subst pN
  cases A with
  | none=>
   have dz:=P0 (P:=P) base t ty e i sz ht hi v xs.length c rows.flatten h2;have hg:w.grownBy w v.ownBlock:=⟨rfl,rfl,rfl,bQ _,λ_ _ _=>rfl⟩;exact⟨v,w,dz,rL w v rows [] hg (.inl rfl) xP h1 h3 rfl (λj r y hr=>by simp at hr) (by simpa using h2),hg,.inl rfl⟩
  | some ad=>
   obtain⟨v',w',hr,ho',hg,_,hat⟩:=run_append_own_at (P:=P) w base t ty e i z sz bytes ht hi hz lR iF gK an v xs.length rows.flatten h2 ad 0 c [] (by simp) (λj u hj=>by simp at hj) (λu hu=>by cases hu) (by simpa using ki) (by simpa using nw) eC;exact⟨v',w',hr,rL w' v' rows [] hg hat xP h1 h3 rfl (λj r y hr=>by simp at hr) (by simpa using ho'),hg,hat⟩
 ·obtain⟨b,o',rfl,hcell⟩:=h6 hy;have hl:=ct.rows_len (w:=bA w M) (B:=w.heap.size) h4 h5;obtain⟨v',w',hr,ho',hg,_,hat⟩:=run_append_own_at (P:=P) w base t ty e i z sz bytes ht hi hz lR iF gK an v xs.length rows.flatten h2 ⟨b,o',none⟩ ys.length c rows'.flatten (by rw[GM rows' hl,h4]) hcell (λu hu=>by
   obtain⟨r,hr,IM⟩:=List.mem_flatten.1 hu;obtain⟨j,hj,rfl⟩:=nQ.1 hr;exact vJ _ _ _ _ (h5 j _ _ (aQ hj) (aQ (by omega))).2 u IM) ki nw eC
  exact⟨v',w',hr,rL w' v' rows rows' hg hat xP h1 h3 h4 h5 ho',hg,hat⟩
theorem su{α:Type}{R:aFJ α}{sz:Nat}{M:Nat->Prop}(w:World){o:Oper}{a:Act}{K:Act->World->Prop}{Q:Exit->Act->World->Prop}(s x:Operand)(t:TypeId)
 (ho:o.op = .call { callee:=.builtin .append,args:=#[s,x],argTypes:=#[t,t] })
 (base:Nat) (e:TypeId) (i:TypeInfo) (z:Value) (bytes:Nat) (ht:P.underlying t=some (.slice e)) (hi:P.info? e=some i) (hz:i.zero=some z) (lR:i.size=sz) (iF:i.bytes=bytes) (gK:z.cells.size=sz) (an:0<sz)
 (v:Value) (xs:List α) (hv:a.eval s=v) (hown:bF R sz e base M w v xs) (A:Option Addr) (c:Nat) (ys:List α) (hx:a.eval x = .slice A ys.length c) (cY:xD R sz M w A ys)
 (vJ:∀ w B r y,R w B r y->∀ u∈r,u.oneCell'=true) (ki:xs.length+ys.length<=maxLen) (nw:(xs.length+ys.length) * bytes<=140737488355328) (eC:base<=w.heap.size) (hk:dL R) (hs:gP R) (hm:dZ R)
 (h:∀ v' w',bF R sz e base (λk=>M k\/v'.ownBlock=some k) w' v' (xs++ys)->w.grownBy w' v.ownBlock->(v'.ownBlock=v.ownBlock\/v'.ownBlock=some w.heap.size)->K (a.put o.dst v') w'):o.wp P a w K Q:=by
 obtain⟨v',w',hr,h2,h4,h5⟩:=ajX (P:=P) w t o.type base e i z bytes ht hi hz lR iF gK an v xs hown A c ys cY vJ ki nw eC hk hs hm;unfold Oper.wp execOp;simp only[ho,resolve,invoke,builtin,Sem.run_bind,Sem.run_pure,Result.andThen_ok,List.map_toArray,List.map_cons,List.map_nil,hv,hx,hr];exact h v' w' h2 h4 h5
theorem QS{α:Type}{R:aFJ α}{sz:Nat}{M:Nat->Prop}(w:World){ops:Array Oper}{rest:List Oper}{o:Oper}{a:Act}{Q:Exit->Act->World->Prop}(iU:o.guard=none)(s x:Operand)(t:TypeId)
 (ho:o.op = .call { callee:=.builtin .append,args:=#[s,x],argTypes:=#[t,t] })
 (base:Nat) (e:TypeId) (i:TypeInfo) (z:Value) (bytes:Nat) (ht:P.underlying t=some (.slice e)) (hi:P.info? e=some i) (hz:i.zero=some z) (lR:i.size=sz) (iF:i.bytes=bytes) (gK:z.cells.size=sz) (an:0<sz)
 (v:Value) (xs:List α) (hv:a.eval s=v) (hown:bF R sz e base M w v xs) (A:Option Addr) (c:Nat) (ys:List α) (hx:a.eval x = .slice A ys.length c) (cY:xD R sz M w A ys)
 (vJ:∀ w B r y,R w B r y->∀ u∈r,u.oneCell'=true) (ki:xs.length+ys.length<=maxLen) (nw:(xs.length+ys.length) * bytes<=140737488355328) (eC:base<=w.heap.size) (hk:dL R) (hs:gP R) (hm:dZ R)
 (h:∀ v' w',bF R sz e base (λk=>M k\/v'.ownBlock=some k) w' v' (xs++ys)->w.grownBy w' v.ownBlock->(v'.ownBlock=v.ownBlock\/v'.ownBlock=some w.heap.size)->wpList P ops Q rest (a.put o.dst v') w'):wpList P ops Q (o::rest) a w:=by
 refine wpList_plain iU λK hK=>?_;exact su w s x t ho base e i z bytes ht hi hz lR iF gK an v xs hv hown A c ys hx cY vJ ki nw eC hk hs hm (λv' w' h1 h2 h3=>hK _ _ (h v' w' h1 h2 h3))
end
end
end Go.Proofs.YtfnopgdcaanaiaaGreatDoor
