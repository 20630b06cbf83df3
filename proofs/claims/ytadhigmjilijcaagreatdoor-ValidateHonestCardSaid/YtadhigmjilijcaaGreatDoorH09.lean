/- No condition. -/
import Derived.Deep.Slices
import Derived.Test.YtadhigmjilijcaaGreatDoorH02
import Derived.Test.YtadhigmjilijcaaGreatDoorH03
import Derived.Test.YtadhigmjilijcaaGreatDoorH04
import Derived.Test.YtadhigmjilijcaaGreatDoorH05
set_option linter.all false
set_option maxRecDepth 100000
set_option maxHeartbeats 8000000
namespace Go.Proofs.YtadhigmjilijcaaGreatDoor
open Go.Proofs.Tryz
section
open Go.RowKit
open Classical in
noncomputable def cU(w:World)(M:Nat->Prop):World:={ w with heap:=w.heap.mapIdx λk o=>if M k then .cells #[] 0 else o }
theorem oK(w:World)(M:Nat->Prop):(cU w M).heap.size=w.heap.size:=by simp[cU]
theorem rg{w:World}{M:Nat->Prop}{k:Nat}(h:¬ M k):(cU w M).heap[k]?=w.heap[k]?:=by
 unfold cU;simp only[Array.getElem?_mapIdx,h,if_false]
 cases w.heap[k]?<;>rfl
theorem yh{w:World}{M:Nat->Prop}{k:Nat}(h:M k):(cU w M).heap[k]?=(w.heap[k]?).map λ_=>Obj.cells #[] 0:=by
 unfold cU;simp only[Array.getElem?_mapIdx,h,if_true]
theorem bxJ{w:World}{M:Nat->Prop}{p:Addr}{v:Value}(h:(cU w M).cell? p=some v):¬ M p.block/\w.cell? p=some v:=by
 by_cases hm:M p.block
 ·exfalso;unfold World.cell? at h;rw[yh hm] at h
  cases hh:w.heap[p.block]? with
  | none=>simp[hh] at h
  | some o=>simp[hh] at h
 ·refine⟨hm,?_⟩;rw[<-h];exact (iQ (w:=w) (rg hm)).symm
theorem bxK{w:World}{M:Nat->Prop}{p:Addr}(h:¬ M p.block):(cU w M).cell? p=w.cell? p:=iQ (w:=w) (rg h)
def ia{α:Type}(R:aDQ α):Prop:=∀ w (M M':Nat->Prop) B e x,(∀ k,M' k->M k)->R (cU w M) B e x->R (cU w M') B e x
theorem fm.sans{w:World}{M M':Nat->Prop}{b o:Nat}{e:List Value}(hM:∀ k,M' k->M k)(h:fm (cU w M) b o e):fm (cU w M') b o e:=λj v hj=>by
 obtain⟨h1,h2⟩:=bxJ (h j v hj);rw[bxK (λe=>h1 (hM _ e))];exact h2
theorem SlR.sans{α:Type}{R:aDQ α}{sz:Nat}{w:World}{M M':Nat->Prop}{B:Nat}{v:Value}{xs:List α}(hR:ia R)(hM:∀ k,M' k->M k)(h:SlR R sz (cU w M) B v xs):SlR R sz (cU w M') B v xs:=by
 obtain⟨A,c,hv,hc,hl,he⟩:=h;refine⟨A,c,hv,hc,hl,λi x hx=>?_⟩;obtain⟨b,o,e,hA,hB,dS,hce,hr⟩:=he i x hx;exact⟨b,o,e,hA,hB,dS,hce.sans hM,hR _ _ _ _ _ _ hM hr⟩
theorem UL(w:World):cU w (λ_=>False)=w:=by
 unfold cU
 cases w
 simp only[World.mk.injEq,and_true];apply Array.ext_getElem?;intro i;simp only[Array.getElem?_mapIdx,if_false];rename_i heap _ _ _ _
 cases heap[i]?<;>rfl
theorem SlR.all{α:Type}{R:aDQ α}{sz:Nat}{w:World}{M:Nat->Prop}{B:Nat}{v:Value}{xs:List α}(hR:ia R)(h:SlR R sz (cU w M) B v xs):SlR R sz w B v xs:=by
 have:=h.sans (M':=λ_=>False) hR (λ_ e=>e.elim)
 rw[UL] at this;exact this
theorem m8:ia cm:=λ_ _ _ _ _ _ _ h=>h
theorem oJ:ia en:=λ_ _ _ _ _ _ _ h=>h
theorem eB:ia az:=λ_ _ _ _ _ _ hM ⟨s,v,u,h1,h2,h3,h4,h5⟩=>⟨s,v,u,h1,h2,h3.sans m8 hM,h4.sans oJ hM,h5⟩
theorem ia.all{α:Type}{R:aDQ α}(hR:ia R){w:World}{M:Nat->Prop}{B:Nat}{e:List Value}{x:α}(h:R (cU w M) B e x):R w B e x:=by
 have:=hR w M (λ_=>False) B e x (λ_ e=>e.elim) h
 rw[UL] at this;exact this
structure Leaves'(M:Nat->Prop)(w w':World)(M':Nat->Prop):Prop where
 os:w'.os=w.os
 tape:w'.tape=w.tape
 output:w'.output=w.output
 size:w.heap.size<=w'.heap.size
 keep:∀ k,k<w.heap.size->¬ M k->¬ M' k/\w'.heap[k]?=w.heap[k]?
theorem Leaves'.refl(M:Nat->Prop)(w:World):Leaves' M w w M:=⟨rfl,rfl,rfl,bQ _,λ_ _ h=>⟨h,rfl⟩⟩
theorem Leaves'.trans{M M' M'':Nat->Prop}{a b c:World}(h:Leaves' M a b M')(k:Leaves' M' b c M''):Leaves' M a c M'':=
 ⟨k.os.trans h.os,k.tape.trans h.tape,k.output.trans h.output,yQ h.size k.size,λi hi hm=>by
  obtain⟨h1,h2⟩:=h.keep i hi hm;obtain⟨h3,h4⟩:=k.keep i (lqQ hi h.size) h1;exact⟨h3,h4.trans h2⟩⟩
theorem Leaves'.of_below{M:Nat->Prop}{w w':World}(h:Below w.heap.size w w'):Leaves' M w w' M:=⟨h.os,h.tape,h.output,h.size,λk hk hm=>⟨hm,h.block k hk⟩⟩
theorem Leaves'.setCell(M:Nat->Prop)(w:World){p:Addr}(hp:M p.block)(v:Value):Leaves' M w (w.setCell p v) M:=
 ⟨rfl,rfl,rfl,by simp[World.setCell],λk _ hm=>⟨hm,wQ _ _ _ _ (λe=>hm (e ▸ hp))⟩⟩
theorem Leaves'.grown{M:Nat->Prop}{w w':World}{row:Option Nat}(hg:w.grownBy w' row)(hr:∀ k,row=some k->M k):Leaves' M w w' M:=
 ⟨hg.os,hg.tape,hg.output,hg.size,λk hk hm=>⟨hm,hg.block k hk (λe=>hm (hr k e.symm))⟩⟩
theorem Leaves'.more{M M' N:Nat->Prop}{w w':World}(h:Leaves' M w w' M')(hN:∀ k,N k->M' k\/w.heap.size<=k):Leaves' M w w' N:=
 ⟨h.os,h.tape,h.output,h.size,λk hk hm=>⟨λe=>(hN k e).elim (h.keep k hk hm).1 (by omega),(h.keep k hk hm).2⟩⟩
theorem Leaves'.read{α:Type}{R:aDQ α}(hk:dR R)(hs:ia R)(hm:ef R){M M':Nat->Prop}{w w':World}(h:Leaves' M w w' M'){e:List Value}{x:α}(hr:R (cU w M) w.heap.size e x):R (cU w' M') w'.heap.size e x:=by
 have hb:Below w.heap.size (cU w M) (cU w' λk=>M k\/M' k):=by
  refine⟨h.os,h.tape,h.output,by rw[oK,oK];exact h.size,λk hk=>?_⟩;by_cases hM:M k
  ·rw[yh hM,yh (M:=λk=>M k\/M' k) (Or.inl hM)];have h1:k<w'.heap.size:=lqQ hk h.size;rw[pQ hk,pQ h1];rfl
  ·obtain⟨h1,h2⟩:=h.keep k hk hM;rw[rg hM,rg (M:=λk=>M k\/M' k) (λe=>e.elim hM h1),h2]
 exact hm _ _ _ _ _ (hs _ _ _ _ _ _ (λk e=>Or.inr e) (hk _ _ _ _ _ hr hb)) h.size
def em{α:Type}(R:aDQ α)(sz:Nat)(e:TypeId)(base:Nat)(M:Nat->Prop)(w:World)(v:Value)(xs:List α):Prop:=
 ∃ rows:List (List Value),rows.length=xs.length/\w.ownsRow base e sz v xs.length rows.flatten/\(∀ g,v.ownBlock=some g->M g)/\
   ∀ (i:Nat) (r:List Value) (x:α),rows[i]?=some r->xs[i]?=some x->r.length=sz/\R (cU w M) w.heap.size r x
theorem em.nil{α:Type}{R:aDQ α}{sz:Nat}{e:TypeId}{base:Nat}{M:Nat->Prop}(w:World):em (α:=α) R sz e base M w (.slice none 0 0) []:=
 ⟨[],rfl,⟨by simp,.inl ⟨rfl,rfl⟩⟩,(λg h=>by cases h),λi r x h=>by simp at h⟩
theorem em.form{α:Type}{R:aDQ α}{sz:Nat}{e:TypeId}{base:Nat}{M:Nat->Prop}{w:World}{v:Value}{xs:List α}(h:em R sz e base M w v xs):∃ A c,v = .slice A xs.length c:=by
 obtain⟨rows,h1,h2,h3⟩:=h;rcases h2.2 with ⟨rfl,h0⟩ | ⟨g,cap,cur,rfl,_⟩
 ·exact⟨none,0,by rw[h0]⟩
 ·exact⟨_,cap,rfl⟩
theorem em.leaves{α:Type}{R:aDQ α}(hk:dR R)(hs:ia R)(hm:ef R){sz:Nat}{e:TypeId}{base:Nat}{M M':Nat->Prop}{w w':World}{v:Value}{xs:List α}(h:em R sz e base M w v xs)(hl:Leaves' M w w' M')
 (ho:∀ g,v.ownBlock=some g->w'.heap[g]?=w.heap[g]?/\M' g):em R sz e base M' w' v xs:=by
 obtain⟨rows,h1,h2,h3,h4⟩:=h;exact⟨rows,h1,ra h2 (λg hg=>(ho g hg).1),λg hg=>(ho g hg).2,λi r x hr hx=>⟨(h4 i r x hr hx).1,hl.read hk hs hm (h4 i r x hr hx).2⟩⟩
theorem em.slr{α:Type}{R:aDQ α}(hs:ia R){sz:Nat}{e:TypeId}{base:Nat}{M:Nat->Prop}{w:World}{v:Value}{xs:List α}(h:em R sz e base M w v xs)(hl:xs.length<=140737488355328):SlR R sz w w.heap.size v xs:=by
 obtain⟨rows,h1,h2,h3,h4⟩:=h;have hl':=bS.rows_len (w:=cU w M) (B:=w.heap.size) h1 h4;rcases h2.2 with ⟨rfl,h0⟩ | ⟨g,cap,cur,rfl,hb,hg,mc,_⟩
 ·have:xs = []:=rQ h0
  subst this;exact⟨none,0,rfl,by simp,by simp,λi x hx=>by simp at hx⟩
 ·refine⟨_,cap,rfl,mc,hl,λi x hx=>?_⟩;have hi:=(cQ.1 hx).1;have hr:=aQ (l:=rows) (i:=i) (by omega);obtain⟨h5,h6⟩:=h4 i _ x hr hx;refine⟨g,0,rows[i],rfl,(eQ.1 hg).1,h5,λj u hj=>?_,hs.all h6⟩;have h7:=h2.cells (g:=g) rfl _ _ (JQ rows i j _ u hl' hr hj);have pg:(⟨g,0,none⟩:Addr).add (i * sz+j)=⟨g,0+i * sz+j,none⟩:=by unfold Addr.add;split<;>simp_all
  rw[pg] at h7;exact h7
def E0{α:Type}(R:aDQ α)(sz:Nat)(M:Nat->Prop)(w:World)(A:Option Addr)(ys:List α):Prop:=
 ∃ rows:List (List Value),rows.length=ys.length/\(∀ (i:Nat) (r:List Value) (x:α),rows[i]?=some r->ys[i]?=some x->r.length=sz/\R (cU w M) w.heap.size r x)/\(ys≠[]->∃ b o,A=some ⟨b,o,none⟩/\∀ j u,rows.flatten[j]?=some u->w.cell? ((⟨b,o,none⟩:Addr).add j)=some u)
theorem L7{α:Type}{R:aDQ α}{sz:Nat}{M:Nat->Prop}{w:World}{b o:Nat}{r:List Value}{x:α}(hl:r.length=sz)(hr:R (cU w M) w.heap.size r x)(hc:fm w b o r):E0 R sz M w (some ⟨b,o,none⟩) [x]:=by
 refine⟨[r],rfl,λi r' x' h1 h2=>?_,λ_=>⟨b,o,rfl,λj u hj=>?_⟩⟩
 ·cases i with
  | zero=>simp at h1 h2;subst h1;subst h2;exact⟨hl,hr⟩
  | succ i=>simp at h1
 ·have pg:(⟨b,o,none⟩:Addr).add j=⟨b,o+j,none⟩:=by unfold Addr.add;split<;>simp_all
  rw[pg];exact hc j u (by simpa using hj)
section
variable {P:Program}
theorem bvK{α:Type}{R:aDQ α}{sz:Nat}{M:Nat->Prop}(w:World)(t ty:TypeId)
 (base:Nat) (e:TypeId) (i:TypeInfo) (z:Value) (bytes:Nat) (ht:P.underlying t=some (.slice e)) (hi:P.info? e=some i) (hz:i.zero=some z) (lj:i.size=sz) (gt:i.bytes=bytes) (gd:z.cells.size=sz) (aB:0<sz)
 (v:Value) (xs:List α) (hown:em R sz e base M w v xs) (A:Option Addr) (c:Nat) (ys:List α) (er:E0 R sz M w A ys)
 (xR:∀ w B r y,R w B r y->∀ u∈r,u.oneCell'=true) (nw:xs.length+ys.length<=maxLen) (ot:(xs.length+ys.length) * bytes<=140737488355328) (ji:base<=w.heap.size) (hk:dR R) (hs:ia R) (hm:ef R) :
 ∃ v' w',(Builtin.append_ #[t,t] ty #[v,.slice A ys.length c]).run P w = .ok v' w'/\em R sz e base (λk=>M k\/v'.ownBlock=some k) w' v' (xs++ys)/\w.grownBy w' v.ownBlock/\(v'.ownBlock=v.ownBlock\/v'.ownBlock=some w.heap.size):=by
 have rU:∀ (w':World) (v':Value) (rows rows':List (List Value)),w.grownBy w' v.ownBlock->(v'.ownBlock=v.ownBlock\/v'.ownBlock=some w.heap.size)->(∀ g,v.ownBlock=some g->M g)->rows.length=xs.length->(∀ (i:Nat) (r:List Value) (x:α),rows[i]?=some r->xs[i]?=some x->r.length=sz/\R (cU w M) w.heap.size r x)->rows'.length=ys.length->
  (∀ (i:Nat) (r:List Value) (x:α),rows'[i]?=some r->ys[i]?=some x->r.length=sz/\R (cU w M) w.heap.size r x)->w'.ownsRow base e sz v' (xs.length+ys.length) (rows.flatten++rows'.flatten)->em R sz e base (λk=>M k\/v'.ownBlock=some k) w' v' (xs++ys):=by
  intro w' v' rows rows' hg hat zu h1 h2 h3 h4 h5;have Sl:Leaves' M w w' (λk=>M k\/v'.ownBlock=some k):=(Leaves'.grown hg zu).more (λk e=>by
   rcases e with e | e
   ·exact .inl e
   ·rcases hat with h | h
    ·exact .inl (zu k (h ▸ e))
    ·rw[h] at e;cases e;exact .inr (bQ _))
  refine⟨rows++rows',by simp[h1,h3],?_,λg hg'=>.inr hg',λj r y hr hy=>?_⟩
  ·rw[List.length_append,List.flatten_append];exact h5
  ·rcases Nat.lt_or_ge j rows.length with ag | nD
   ·rw[List.getElem?_append_left ag] at hr;rw[List.getElem?_append_left (by omega)] at hy;obtain⟨h6,h7⟩:=h2 j r y hr hy;exact⟨h6,Sl.read hk hs hm h7⟩
   ·rw[oQ nD] at hr;rw[oQ (by omega),<-h1] at hy;obtain⟨h6,h7⟩:=h4 _ r y hr hy;exact⟨h6,Sl.read hk hs hm h7⟩
 obtain⟨rows,h1,h2,zu,h3⟩:=hown;obtain⟨rows',h4,h5,h6⟩:=er;by_cases hy:ys = []
 ·subst hy;have tP:rows' = []:=rQ (by simpa using h4);subst tP
  cases A with
  | none=>
   have jI:=UK (P:=P) base t ty e i sz ht hi v xs.length c rows.flatten h2;have hg:w.grownBy w v.ownBlock:=⟨rfl,rfl,rfl,bQ _,λ_ _ _=>rfl⟩;exact⟨v,w,jI,rU w v rows [] hg (.inl rfl) zu h1 h3 rfl (λj r y hr=>by simp at hr) (by simpa using h2),hg,.inl rfl⟩
  | some ad=>
   obtain⟨v',w',hr,ho',hg,_,hat⟩:=run_append_own_at (P:=P) w base t ty e i z sz bytes ht hi hz lj gt gd aB v xs.length rows.flatten h2 ad 0 c [] (by simp) (λj u hj=>by simp at hj) (λu hu=>by cases hu) (by simpa using nw) (by simpa using ot) ji;exact⟨v',w',hr,rU w' v' rows [] hg hat zu h1 h3 rfl (λj r y hr=>by simp at hr) (by simpa using ho'),hg,hat⟩
 ·obtain⟨b,o',rfl,hcell⟩:=h6 hy;have hl:=bS.rows_len (w:=cU w M) (B:=w.heap.size) h4 h5;obtain⟨v',w',hr,ho',hg,_,hat⟩:=run_append_own_at (P:=P) w base t ty e i z sz bytes ht hi hz lj gt gd aB v xs.length rows.flatten h2 ⟨b,o',none⟩ ys.length c rows'.flatten (by rw[JR rows' hl,h4]) hcell (λu hu=>by
   obtain⟨r,hr,Li⟩:=List.mem_flatten.1 hu;obtain⟨j,hj,rfl⟩:=nQ.1 hr;exact xR _ _ _ _ (h5 j _ _ (aQ hj) (aQ (by omega))).2 u Li) nw ot ji
  exact⟨v',w',hr,rU w' v' rows rows' hg hat zu h1 h3 h4 h5 ho',hg,hat⟩
theorem Vy{α:Type}{R:aDQ α}{sz:Nat}{M:Nat->Prop}(w:World){o:Oper}{a:Act}{K:Act->World->Prop}{Q:Exit->Act->World->Prop}(s x:Operand)(t:TypeId)
 (ho:o.op = .call { callee:=.builtin .append,args:=#[s,x],argTypes:=#[t,t] })
 (base:Nat) (e:TypeId) (i:TypeInfo) (z:Value) (bytes:Nat) (ht:P.underlying t=some (.slice e)) (hi:P.info? e=some i) (hz:i.zero=some z) (lj:i.size=sz) (gt:i.bytes=bytes) (gd:z.cells.size=sz) (aB:0<sz)
 (v:Value) (xs:List α) (hv:a.eval s=v) (hown:em R sz e base M w v xs) (A:Option Addr) (c:Nat) (ys:List α) (hx:a.eval x = .slice A ys.length c) (er:E0 R sz M w A ys)
 (xR:∀ w B r y,R w B r y->∀ u∈r,u.oneCell'=true) (nw:xs.length+ys.length<=maxLen) (ot:(xs.length+ys.length) * bytes<=140737488355328) (ji:base<=w.heap.size) (hk:dR R) (hs:ia R) (hm:ef R)
 (h:∀ v' w',em R sz e base (λk=>M k\/v'.ownBlock=some k) w' v' (xs++ys)->w.grownBy w' v.ownBlock->(v'.ownBlock=v.ownBlock\/v'.ownBlock=some w.heap.size)->K (a.put o.dst v') w'):o.wp P a w K Q:=by
 obtain⟨v',w',hr,h2,h4,h5⟩:=bvK (P:=P) w t o.type base e i z bytes ht hi hz lj gt gd aB v xs hown A c ys er xR nw ot ji hk hs hm;unfold Oper.wp execOp;simp only[ho,resolve,invoke,builtin,Sem.run_bind,Sem.run_pure,Result.andThen_ok,List.map_toArray,List.map_cons,List.map_nil,hv,hx,hr];exact h v' w' h2 h4 h5
theorem Vu{α:Type}{R:aDQ α}{sz:Nat}{M:Nat->Prop}(w:World){ops:Array Oper}{rest:List Oper}{o:Oper}{a:Act}{Q:Exit->Act->World->Prop}(kf:o.guard=none)(s x:Operand)(t:TypeId)
 (ho:o.op = .call { callee:=.builtin .append,args:=#[s,x],argTypes:=#[t,t] })
 (base:Nat) (e:TypeId) (i:TypeInfo) (z:Value) (bytes:Nat) (ht:P.underlying t=some (.slice e)) (hi:P.info? e=some i) (hz:i.zero=some z) (lj:i.size=sz) (gt:i.bytes=bytes) (gd:z.cells.size=sz) (aB:0<sz)
 (v:Value) (xs:List α) (hv:a.eval s=v) (hown:em R sz e base M w v xs) (A:Option Addr) (c:Nat) (ys:List α) (hx:a.eval x = .slice A ys.length c) (er:E0 R sz M w A ys)
 (xR:∀ w B r y,R w B r y->∀ u∈r,u.oneCell'=true) (nw:xs.length+ys.length<=maxLen) (ot:(xs.length+ys.length) * bytes<=140737488355328) (ji:base<=w.heap.size) (hk:dR R) (hs:ia R) (hm:ef R)
 (h:∀ v' w',em R sz e base (λk=>M k\/v'.ownBlock=some k) w' v' (xs++ys)->w.grownBy w' v.ownBlock->(v'.ownBlock=v.ownBlock\/v'.ownBlock=some w.heap.size)->wpList P ops Q rest (a.put o.dst v') w'):wpList P ops Q (o::rest) a w:=by
 refine wpList_plain kf λK hK=>?_;exact Vy w s x t ho base e i z bytes ht hi hz lj gt gd aB v xs hv hown A c ys hx er xR nw ot ji hk hs hm (λv' w' h1 h2 h3=>hK _ _ (h v' w' h1 h2 h3))
end
section
variable {P:Program}
theorem Vv{w:World}{ops:Array Oper}{rest:List Oper}{o:Oper}{a:Act}{Q:Exit->Act->World->Prop}(kf:o.guard=none)(s x:Operand)(t:TypeId)(ho:o.op = .call { callee:=.builtin .append,args:=#[s,x],argTypes:=#[t,t] })
 (v u v':Value) (w':World) (hv:a.eval s=v) (hx:a.eval x=u) (hr:(Builtin.append_ #[t,t] o.type #[v,u]).run P w = .ok v' w') (h:wpList P ops Q rest (a.put o.dst v') w'):wpList P ops Q (o::rest) a w:=by
 refine wpList_plain kf λK hK=>?_;unfold Oper.wp execOp;simp only[ho,resolve,invoke,builtin,Sem.run_bind,Sem.run_pure,Result.andThen_ok,List.map_toArray,List.map_cons,List.map_nil,hv,hx,hr];exact hK _ _ h
theorem bS.push{α:Type}{R:aDQ α}{sz:Nat}{e:TypeId}{base B:Nat}{w:World}{v:Value}{xs:List α}(h:bS R sz e base B w v xs)(t ty:TypeId)(i:TypeInfo)(z:Value)(bytes:Nat)(ht:P.underlying t=some (.slice e))(hi:P.info? e=some i)(hz:i.zero=some z)(lj:i.size=sz)(gt:i.bytes=bytes)(gd:z.cells.size=sz)(aB:0<sz)(cW:bytes<=1000)
 (q:Nat) (r:List Value) (x:α) (hl:r.length=sz) (h1:∀ u∈r,u.oneCell'=true) (hc:∀ j u,r[j]?=some u->w.cell? ⟨q,j,none⟩=some u) (hR:R w B r x) (hn:xs.length<=1000000) (hk:dR R) (hB:B<=base) (hb:base<=w.heap.size) :
 ∃ v' w',(Builtin.append_ #[t,t] ty #[v,.slice (some ⟨q,0,none⟩) 1 1]).run P w = .ok v' w'/\bS R sz e base B w' v' (xs ++ [x])/\Below base w w':=by
 obtain⟨rows,k1,k2,k3⟩:=h;obtain⟨v',w',hr,r1,r2,_,_⟩:=run_append_own_at (P:=P) w base t ty e i z sz bytes ht hi hz lj gt gd aB v xs.length rows.flatten k2 ⟨q,0,none⟩ 1 1 r (by rw[hl];omega) (λj u hj=>by rw[show (⟨q,0,none⟩:Addr).add j=⟨q,j,none⟩ by cases j<;>simp[Addr.add]];exact hc j u hj) h1 (by simp[maxLen];omega) (by have:=Nat.mul_le_mul (show xs.length+1<=1000001 by omega) cW;omega) hb;have cG:Below base w w':=(vQ _ _).grown r2 hb (λg e=>(k2.lt g e).1);refine⟨v',w',hr,⟨rows ++ [r],by simp[k1],by rw[List.length_append,List.flatten_append];simpa using r1,λj r' y hr' hy=>?_⟩,cG⟩;rcases Nat.lt_or_ge j rows.length with ag | nD
 ·rw[List.getElem?_append_left ag] at hr';rw[List.getElem?_append_left (by omega)] at hy;obtain⟨h6,h7⟩:=k3 j r' y hr' hy;exact⟨h6,hk _ _ _ _ _ h7 (cG.mono hB)⟩
 ·rw[oQ nD] at hr';rw[oQ (by omega),<-k1] at hy;have h0:j - rows.length=0:=by have:=(cQ.1 hr').1;simp at this;omega
  rw[h0] at hr' hy;simp at hr' hy;subst hr' hy;exact⟨hl,hk _ _ _ _ _ hR (cG.mono hB)⟩
theorem bS.letF{α:Type}{R:aDQ α}{sz:Nat}{e:TypeId}{base B:Nat}{w:World}{v:Value}{xs:List α}(h:bS R sz e base B w v xs):∃ A n c,v = .slice A n c/\xs.length=n:=by
 obtain⟨rows,_,h2,_⟩:=h;obtain⟨A,c,h3⟩:=sF h2;exact⟨A,_,c,h3,rfl⟩
end
theorem Tryz.infoSgn5:(prog.info? 44).map (λi=>(i.zero,i.size,i.bytes))=some (some (.agg #[.string ⟨#[]⟩,.int .i64 0,.int .i64 0,.slice none 0 0,.slice none 0 0]),5,80):=by kernel_rfl
theorem beY(a b:ByteArray)(n m p q:Int)(w:World):(binOp .neq 75 (.agg #[.string a,.int .i64 n,.int .i64 m]) (.agg #[.string b,.int .i64 p,.int .i64 q])).run prog w = .ok (.bool (!(a.toList == b.toList&&(n == p&&m == q)))) w:=by
 have u3:=underlying3;have a3:=isAgg3;have z3:=sizeOf3;have u9:=underlying9;have a9:=isAgg9;have z9:=sizeOf9;have hS:prog.underlying 75=some (.struct (prog.fieldsOf 75)):=by kernel_rfl
 have hp:prog.stoodInHeld 75=false:=by kernel_rfl
 rw[run_neq_struct,show (10000:Nat)=9999+1 from rfl,run_equalIn_agg w 9999 75 _ _ hS hp];simp only[Program.fieldsOf,underlying75];go_simp;by_cases h0:a.toList=b.toList<;>by_cases h1:n=p<;>by_cases h2:m=q<;>simp[h0,h1,h2]
theorem arK{d x:Np.Datum}{a b:ByteArray}(ha:a.data.toList=d.text)(hb:b.data.toList=x.text):(!(a.toList == b.toList&&(d.n == x.n&&d.m == x.m)))=decide (d≠x):=by
 rw[dQ,dQ,ha,hb,Bool.eq_iff_iff];simp only[Bool.not_eq_true',Bool.and_eq_false_iff,beq_eq_false_iff_ne,Qa];obtain⟨t,n,m⟩:=d;obtain⟨t2,n2,m2⟩:=x;simp only[ne_eq,Np.Datum.mk.injEq,not_and];constructor
 ·rintro (h | h | h) rfl rfl
  ·exact absurd rfl h
  ·exact absurd rfl h
  ·exact h
 ·intro h;by_cases h1:t=t2
  ·by_cases h2:n=n2
   ·exact .inr (.inr (h h1 h2))
   ·exact .inr (.inl h2)
  ·exact .inl h1
theorem apK{α:Type}{xs ys:List α}{k:Nat}(h1:k<xs.length)(h2:k<ys.length)(h:xs.take k=ys.take k)(he:xs[k]=ys[k]):xs.take (k+1)=ys.take (k+1):=by
 rw[fQ h1,fQ h2,h,he]
theorem apJ{α:Type}{xs ys:List α}{k:Nat}(hl:xs.length=ys.length)(hk:¬ k<xs.length)(h:xs.take k=ys.take k):xs=ys:=by
 rwa [kQ (by omega),kQ (by omega)] at h
theorem bwY(s1 s2:ByteArray)(t1 l1 t2 l2:Int)(v1 v2:Value)(d1 d2:List Np.Datum)(w:World)(mK:SlR cm 3 w w.heap.size v1 d1)(iN:SlR cm 3 w w.heap.size v2 d2) :
 Calls prog 63 #[.agg #[.string s1,.int .i64 t1,.int .i64 l1,v1],.agg #[.string s2,.int .i64 t2,.int .i64 l2,v2]] w
  λe w'=>e = .returned (.bool (decide (s1=s2/\t1=t2/\l1=l2/\d1=d2)))/\Below w.heap.size w w':=by
 obtain⟨r,hr⟩:=aaK (decide (s1=s2/\t1=t2/\l1=l2/\d1=d2));rw[hr];have HR:=jq hr;have Ba:=jq mK;have jS:=jq iN;obtain⟨A1,c1,rfl,aR,cP⟩:=ba mK;obtain⟨A2,c2,rfl,cH,ei⟩:=ba iN;have Cx:Below w.heap.size w ((w.alloc (.cells #[.string s1,.int .i64 t1,.int .i64 l1,.slice A1 d1.length c1] 25)).alloc (.cells #[.string s2,.int .i64 t2,.int .i64 l2,.slice A2 d2.length c2] 25)):=(blAl).alloc (by simp) _;have cu:=jq Cx;clear hr mK iN Cx;have xL:∀ x y:Int,(x != y)=decide (x≠y):=λx y=>by by_cases h:x=y<;>simp[h]
 by_cases h1:s1=s2
 case neg=>
  have h1':¬ s1.toList=s2.toList:=λe=>h1 (iV (by rw[<-dQ,<-dQ];exact e));have HF:=jq (show r=false by rw[<-HR.out];simp[h1]);clear h1 xL;go_enter func63,ntmps63;go_wp2_with fail;go_ret;exact⟨aj HF.out.symm,cu.out⟩
 case pos=>
  subst h1;by_cases h2:t1=t2
  case neg=>
   have h2':(t1 != t2)=true:=by simpa using h2
   have HF:=jq (show r=false by rw[<-HR.out];simp[h2]);clear h2 xL;go_enter func63,ntmps63;go_wp2_with fail;go_ret;exact⟨aj HF.out.symm,cu.out⟩
  case pos=>
   subst h2;by_cases h3:l1=l2
   case neg=>
    have h3':(l1 != l2)=true:=by simpa using h3
    have HF:=jq (show r=false by rw[<-HR.out];simp[h3]);clear h3 xL;go_enter func63,ntmps63;go_wp2_with fail;go_ret;exact⟨aj HF.out.symm,cu.out⟩
   case pos=>
    subst h3;by_cases h4:d1.length=d2.length
    case neg=>
     have h4':((d1.length:Int) != (d2.length:Int))=true:=by rw[xL];simp;omega
     have HF:=jq (show r=false by rw[<-HR.out];simp;intro e;exact h4 (by rw[e]));clear h4 xL;go_enter func63,ntmps63;go_wp2_with fail;go_ret;exact⟨aj HF.out.symm,cu.out⟩
    case pos=>
     have h4':((d1.length:Int) != (d2.length:Int))=false:=by rw[xL];simp;omega
     have HL:=jq h4;clear h4 xL;go_enter func63,ntmps63;go_wp2_with fail;have dD:((w.alloc (.cells #[.string s1,.int .i64 t1,.int .i64 l1,.slice A1 d1.length c1] 25)).alloc (.cells #[.string s1,.int .i64 t1,.int .i64 l1,.slice A2 d2.length c2] 25)).heap.size=w.heap.size+1+1:=by simp
     have q1:((w.alloc (.cells #[.string s1,.int .i64 t1,.int .i64 l1,.slice A1 d1.length c1] 25)).alloc (.cells #[.string s1,.int .i64 t1,.int .i64 l1,.slice A2 d2.length c2] 25)).cell? ⟨w.heap.size,3,none⟩=some (.slice A1 d1.length c1):=by simp[go_sem]
     have q2:((w.alloc (.cells #[.string s1,.int .i64 t1,.int .i64 l1,.slice A1 d1.length c1] 25)).alloc (.cells #[.string s1,.int .i64 t1,.int .i64 l1,.slice A2 d2.length c2] 25)).cell? ⟨w.heap.size+1,3,none⟩=some (.slice A2 d2.length c2):=by simp[go_sem]
     generalize bo:((w.alloc (.cells #[.string s1,.int .i64 t1,.int .i64 l1,.slice A1 d1.length c1] 25)).alloc (.cells #[.string s1,.int .i64 t1,.int .i64 l1,.slice A2 d2.length c2] 25))=wa at *;have HQ:=jq (And.intro q1 (And.intro q2 dD));clear bo q1 q2 dD;go_loopw [5] (λi wr=>∃ k:Nat,k<=d1.length/\i = .int .i64 k/\Hid (d1.take k=d2.take k)/\Hid (Below wa.heap.size wa wr)) (λi _=>d1.length - (intOf i).toNat)
     case atStart=>exact⟨0,jQ _,rfl,jq rfl,jq (vQ _ _)⟩
     case round=>
      obtain⟨k,hk,rfl,HN,HB⟩:=hrel;have aT:=cu.out.trans (HB.out.mono cu.out.size);have r9:=HQ.out;have g1:=aaQ HB.out r9.1;have g2:=aaQ HB.out r9.2.1;clear r9;by_cases ag:k<d1.length
      ·have tG:k<d2.length:=by have:=HL.out;omega
       obtain⟨b,o,c',s,hv,cO,_,cJ,_,e0,e1,e2⟩:=B9 Ba.out (aQ ag);simp only[Value.slice.injEq,true_and] at hv;obtain⟨rfl,rfl⟩:=hv;obtain⟨b',o',c'',s',hv,xn,_,ga,_,f0,f1,f2⟩:=B9 jS.out (aQ tG);simp only[Value.slice.injEq,true_and] at hv;obtain⟨rfl,rfl⟩:=hv;have HT:=jq (apK ag tG HN.out);have lE:=jq (show d1[k]≠d2[k]->r=false from λhne=>by rw[<-HR.out];simp;intro e;subst e;exact hne rfl);generalize d1[k]=x at *;generalize d2[k]=y at *;replace e0:=(aT.cell (p:=⟨b,o+k * 3,none⟩) cO).trans e0;replace e1:=(aT.cell (p:=⟨b,o+k * 3+1,none⟩) cO).trans e1;replace e2:=(aT.cell (p:=⟨b,o+k * 3+2,none⟩) cO).trans e2;replace f0:=(aT.cell (p:=⟨b',o'+k * 3,none⟩) xn).trans f0;replace f1:=(aT.cell (p:=⟨b',o'+k * 3+1,none⟩) xn).trans f1;replace f2:=(aT.cell (p:=⟨b',o'+k * 3+2,none⟩) xn).trans f2;have df:=kNN k;have dg:(k:Int)<(d1.length:Int):=by omega
       have qD:(k:Int)<(d2.length:Int):=by omega
       have heq:=beY s s' x.n x.m y.n y.m;rw[arK cJ ga] at heq;clear aT cJ ga;by_cases hx:x=y
       ·have HX:=jq hx;have qT:decide (x≠y)=false:=by simpa using hx
        rw[qT] at heq;clear hx qT;go_wp2_with fail;go_quiet (fail);go_wp2_with fail;go_roundw
        case rel=>exact⟨k+1,by omega,by go_num,jq (HT.out HX.out),jq (below_drewN HB.out _)⟩
        ·simp[intOf]<;>omega
       ·have HX:=jq hx;have qT:decide (x≠y)=true:=by simpa using hx
        rw[qT] at heq;clear hx qT;go_wp2_with fail;go_quiet (fail);go_wp2_with fail;go_ret;exact⟨aj (lE.out HX.out).symm,below_drewN (cu.out.trans (HB.out.mono cu.out.size)) _⟩
      ·go_wp2_with fail;go_ret;refine⟨aj ?_,cu.out.trans (HB.out.mono cu.out.size)⟩;rw[<-HR.out]
       have:=apJ HL.out ag HN.out
       simp[this]

def wP(b:Nat)(r:Option Nat)(w:World)(v:Value)(ns:List Int):Prop:=
 ∃ A c,v = .slice A ns.length c/\ns.length<=c/\∀ i x,ns[i]?=some x->∃ g o,A=some ⟨g,o,none⟩/\g<w.heap.size/\g≠b/\r≠some g/\w.cell? ⟨g,o+i,none⟩=some (.int .i64 x)
theorem wP.step{b:Nat}{r r':Option Nat}{w w':World}{v:Value}{ns:List Int}(h:wP b r w v ns)(hs:BS b r w r' w'):wP b r' w' v ns:=by
 obtain⟨A,c,h1,h2,h4⟩:=h;refine⟨A,c,h1,h2,λi x hx=>?_⟩;obtain⟨g,o,h5,h6,h7,h8,h9⟩:=h4 i x hx;exact⟨g,o,h5,lqQ h6 hs.size,h7,hs.free h6 h8,(hs.cell h6 h7 h8 _).trans h9⟩
theorem wP.nil(b:Nat)(r:Option Nat)(w:World):wP b r w (.slice none 0 0) []:=⟨none,0,rfl,bQ _,λi x h=>by simp at h⟩
end
section
open Go.ChangeShapes Go.WideShapes Go.ChangeAt Go.RowKit Go.Deep
def np{α:Type}(P:Program)(t:TypeId)(sz:Nat)(R:aDQ α):Prop:=
 ∀ (H:Type) (enc:TypeId×Value->H) (W:World) (base:Nat) (spare:Nat->Bool) (held:Bool) (fuel:Nat) (cs:List Value) (d:DataW H) (ps:List MemPlace),
   DataW.trod enc P W base spare held fuel t cs=some (d,ps)->(∀ n∈d.weights P t,n<=reachBytes)->cs.length=sz/\∃ x,R W W.heap.size cs x
def RNum(k:IntKind)(_:World)(_:Nat)(e:List Value)(x:Int):Prop:=e = [.int k x]/\(Lit.int k x).wf=true
theorem sG{P:Program}{t:TypeId}{k:IntKind}(ht:P.underlying t=some (.int k)):np P t 1 (RNum k):=by
 intro H enc W base spare held fuel cs d ps h _;obtain⟨n,rfl,_,hwf⟩:=DataW.trod_int ht h;exact⟨rfl,n,rfl,hwf⟩
def RStr(_:World)(_:Nat)(e:List Value)(x:List UInt8):Prop:=∃ s:ByteArray,s.data.toList=x/\s.size<=140737488355328/\e = [.string s]
theorem DG{P:Program}{t:TypeId}(ht:P.underlying t=some .string):np P t 1 RStr:=by
 intro H enc W base spare held fuel cs d ps h hw;obtain⟨s,rfl,hx,_⟩:=DataW.trod_string ht h;simp only[Prod.mk.injEq] at hx;rw[hx.1] at hw
 have:=hw s.data.toList.length (by simp[DataW.weights])
 have h2:=reachBytes_lt;exact⟨rfl,s.data.toList,s,rfl,by rw[bO] at this;omega,rfl⟩
def RSl{α:Type}(R:aDQ α)(sz:Nat)(W:World)(B:Nat)(e:List Value)(xs:List α):Prop:=∃ v,e = [v]/\SlR R sz W B v xs
theorem RSl.more{α:Type}{R:aDQ α}{sz:Nat}(h:ef R):ef (RSl R sz):=λ_ _ _ _ _ ⟨v,hv,hs⟩ hb=>⟨v,hv,hs.more h hb⟩
theorem Vo{H:Type}{P:Program}{e:TypeId} : ∀ {ds:List (DataW H)} {d:DataW H},d∈ds->∀ n∈d.weights P e,n∈DataW.weightsAll P e ds
 | d0::ds,d,hd,n,hn=>by
   simp only[DataW.weightsAll,List.mem_append];rcases List.mem_cons.1 hd with rfl | hd
   ·exact .inl hn
   ·exact .inr (Vo hd n hn)
theorem PO(b o n:Nat):(⟨b,o,none⟩:Addr).add n=⟨b,o+n,none⟩:=by
 unfold Addr.add;split
 ·rename_i h;subst h;rfl
 ·rfl
theorem ahK{W:World}{a:Addr}{v:Value}(h:W.cell? a=some v):a=⟨a.block,a.off,none⟩:=by
 have:=World.cell?_spot h
 cases a;simp_all
theorem L1{α:Type}{P:Program}{t e:TypeId}{sz:Nat}{R:aDQ α}(ht:P.underlying t=some (.slice e))(hC:P.cellsOf e=sz)(aB:0<sz)(hb:0<P.bytesOf e)(hR:np P e sz R):np P t 1 (RSl R sz):=by
 intro H enc W base spare held fuel cs d ps h hw;rcases open_slice ht h with ⟨rfl,_⟩ | ⟨a,len,cap,m,n,D,Pl,rfl,dE,hl,hm,pk,hx,hi⟩
 ·exact⟨rfl,[],_,rfl,none,0,rfl,by simp,by simp,λi x hx=>by simp at hx⟩
 ·simp only[Prod.mk.injEq] at hx;rw[hx.1] at hw;have hlm:len<=m:=by rw[pk];split<;>omega
  have hlen:len<=140737488355328:=by
   have:=hw ((((List.range len).map D).length+((List.range (m - len)).map λj=>D (len+j)).length) * P.bytesOf e) (by simp[DataW.weights,ht])
   simp only[List.length_map,List.length_range] at this;have h2:=reachBytes_lt;have h3:len+(m - len)<=(len+(m - len)) * P.bytesOf e:=Nat.le_mul_of_pos_right _ hb;omega
  have dS:∀ i,i<len->∃ x cs',W.cells? base (a.add (i * sz)) sz=some cs'/\cs'.length=sz/\R W W.heap.size cs' x:=λi gH=>by
   obtain⟨cs',hc,htr⟩:=hi i (by omega);rw[hC] at hc;obtain⟨h1,x,h2⟩:=hR H enc W base spare held n cs' (D i) (Pl i) htr (λk hk=>hw k (by
    simp only[DataW.weights,ht];exact mQ _ (List.mem_append_left _ (Vo (List.mem_map.2 ⟨i,List.mem_range.2 gH,rfl⟩) k hk))))
   exact⟨x,cs',hc,h1,h2⟩
  have cK:∀ k,k<=len->∃ xs:List α,xs.length=k/\∀ i x,xs[i]?=some x->∃ cs',W.cells? base (a.add (i * sz)) sz=some cs'/\cs'.length=sz/\R W W.heap.size cs' x:=by
   intro k
   induction k with
   | zero=>exact λ_=>⟨[],rfl,λi x hx=>by simp at hx⟩
   | succ k ih=>
    intro hk;obtain⟨xs,vx,pr⟩:=ih (by omega);obtain⟨x,hx⟩:=dS k (by omega);refine⟨xs ++ [x],by simp[vx],λi y hy=>?_⟩;rcases Nat.lt_or_ge i xs.length with ag | nD
    ·rw[List.getElem?_append_left ag] at hy;exact pr i y hy
    ·rw[oQ nD] at hy
     have:i - xs.length=0:=by
      have:=(cQ.1 hy).1
      simp at this;omega
     rw[this] at hy;simp at hy;subst hy;rw[show i=k by omega];exact hx
  obtain⟨xs,vx,pr⟩:=cK len (bQ _);refine⟨rfl,xs,_,rfl,some a,cap,by rw[vx],by omega,by omega,λi x hx=>?_⟩;have h0:0<len:=by have:=(cQ.1 hx).1;omega
  obtain⟨c0,uN,b1X,_⟩:=pr 0 _ (aQ (by omega));obtain⟨_,_,aKX⟩:=World.cells?_some uN;have ha:a=⟨a.block,a.off,none⟩:=by
   have h1:=aKX 0 aB;rw[show (a.add (0 * sz)).add 0=a by simp[Addr.add]] at h1;rw[aQ (by omega)] at h1;exact ahK h1
  obtain⟨cs',hc,ke,qu⟩:=pr i x hx;obtain⟨_,_,CC⟩:=World.cells?_some hc;have hce:fm W a.block (a.off+i * sz) cs':=λj u hj=>by
   have rT:=(cQ.1 hj).1;have h1:=CC j (by omega);rw[hj,ha] at h1;have h2:((⟨a.block,a.off,none⟩:Addr).add (i * sz)).add j=⟨a.block,a.off+i * sz+j,none⟩:=by
    rw[PO,PO]
   rw[h2] at h1;exact h1
  refine⟨a.block,a.off,cs',by rw[<-ha],?_,ke,hce,qu⟩
  have:=World.block_lt_of_cell? W _ (hce 0 _ (aQ (by omega)))
  exact this
theorem Ap{P:Program}{t:TypeId}{fs:Array Field}(hs:P.underlying t=some (.struct fs)){H:Type}{enc:TypeId×Value->H}{W:World}{base:Nat}{spare:Nat->Bool}{held:Bool}{fuel:Nat}{cs:List Value}{d:DataW H}{ps:List MemPlace}
 (h:DataW.trod enc P W base spare held fuel t cs=some (d,ps)) (hw:∀ n∈d.weights P t,n<=reachBytes) :
 cs.length=P.cellsOf t/\∀ (j:Nat) (f:Field),fs[j]?=some f->∃ n d' ps',DataW.trod enc P W base spare held n f.type ((cs.drop f.offset).take (P.cellsOf f.type))=some (d',ps')/\∀ k∈d'.weights P f.type,k<=reachBytes:=by
 obtain⟨ys,n,_,hx,hl,hyl,hf⟩:=DataW.trod_struct hs h;simp only[Prod.mk.injEq] at hx;refine⟨hl,λj f hj=>?_⟩;have rT:j<fs.size:=(eQ.1 hj).1;have h1:=hf j f hj;rw[aQ (by omega)] at h1;refine⟨n,_,_,h1,λk hk=>hw k ?_⟩;rw[hx.1];simp only[DataW.weights,hs];refine DataW.weights_mem_each (j:=j) (t:=f.type) (d:=(ys[j]'(by omega)).1) ?_ ?_ k hk
 ·simp[hj]
 ·simp[aQ (show j<ys.length by omega)]
theorem P0{H:Type}{enc:TypeId×Value->H}{P:Program}(hl:laidOutB P=true){W W':World}(hb:Below W.heap.size W W') :
 ∀ {ts:List TypeId} {vs:List Value} {ds:List (DataW H)} {ps:List MemPlace},(∀ t∈ts,P.readableRec t=true/\t<P.types.size)->DataW.TrodAll enc P W 0 (λ_=>true) true ts vs ds ps->(∀ x∈ps,x.block<W.heap.size)->
   DataW.TrodAll enc P W' 0 (λb=>decide (b<W.heap.size)) true ts vs ds ps
 | [],[],[],_,_,h,_=>h
 | t::ts,v::vs,d::ds,ps,hr,h,ag=>by
   obtain⟨p,q,h1,h2,rfl⟩:=h;have ht:=hr t (by simp);exact⟨p,q,Below.trod hl ht.1 ht.2 h1 hb (λx hx=>ag x (by simp[hx])),P0 hl hb (λt ht=>hr t (by simp[ht])) h2 (λx hx=>ag x (by simp[hx])),rfl⟩
 | [],_::_,_,_,_,h,_=>h.elim
 | [],[],_::_,_,_,h,_=>h.elim
 | _::_,[],_,_,_,h,_=>h.elim
 | _::_,_::_,[],_,_,h,_=>h.elim
theorem baY{H:Type}{enc:TypeId×Value->H}{P:Program}{f:Func}{s:ChangeSpec}{W W':World}{args:Array Value}{v:Value}{ds gs:List (DataW H)}{before:List MemPlace}
 (hl:laidOutB P=true) (hr:∀ t∈f.params.toList,P.readableRec t=true/\t<P.types.size) (km:s.vars = [])
 (hW:DataW.Whole enc P f.params.toList s.vars false W args.toList ds gs before) (hb:Below W.heap.size W W')
 (qM:∀ (b:Nat) (sp:Nat->Bool) (hd:Bool),DataW.TrodAll enc P W' b sp hd f.resultTypes.toList (v.resultList f.resultTypes.size) (s.fn H (ds++gs)).results [])
 (Kg:(s.fn H (ds++gs)).args=ds) (aZK:(s.fn H (ds++gs)).vars = []) :
 s.post enc P f false true false false W args v W':=by
 have ag:=hW.lt;have hW':=hW;obtain⟨p,q,hA,hV,rfl,_,_⟩:=hW;rw[km] at hV;have hq:q = []:=by
  cases gs with
  | nil=>exact hV
  | cons _ _=>exact hV.elim
 subst hq;refine⟨ds,gs,_,[],p,[],hW',qM _ _ _,?_,?_,World.keptBut_mono (λx hx=>⟨hx,.inr (by simpa using hx)⟩) (hb.frame (·∈p ++ [])),λh=>by cases h⟩
 ·rw[Kg];exact P0 hl hb hr hA (λx hx=>ag x (by simp[hx]))
 ·rw[aZK,km];rfl
theorem B3:prog.cellsOf 9=1:=by kernel_rfl
theorem lo:laidOutB prog=true:=by kernel_rfl
theorem amK:prog.cellsOf 23=1:=by kernel_rfl
theorem amX:prog.cellsOf 42=1:=by kernel_rfl
theorem amY:prog.cellsOf 22=1:=by kernel_rfl
theorem anQ:prog.cellsOf 54=1:=by kernel_rfl
theorem amJ:prog.cellsOf 25=4:=by kernel_rfl
def afJ(W:World)(B:Nat)(e:List Value)(x:Np.DSet):Prop:=∃ (s:ByteArray) (v:Value),s.data.toList=x.name/\s.size<=140737488355328/\SlR cm 3 W B v x.data/\e = [.string s,.int .i64 x.type,.int .i64 x.life,v]
theorem blX:np prog 75 3 cm:=by
 intro H enc W base spare held fuel cs d ps h hw;obtain⟨hl,hf⟩:=Ap underlying75 h hw;have hl':cs.length=3:=hl.trans (by kernel_rfl);clear hl
 match cs,hl' with
 | [c0,c1,c2],_=>
  obtain⟨n0,d0,p0,t0,w0⟩:=hf 0 _ rfl;have t0':DataW.trod enc prog W base spare held n0 9 (([c0,c1,c2].drop 0).take (prog.cellsOf 9))=some (d0,p0):=t0;rw[B3] at t0';have u0:DataW.trod enc prog W base spare held n0 9 [c0]=some (d0,p0):=t0';obtain⟨n1,d1,p1,t1,w1⟩:=hf 1 _ rfl;have t1':DataW.trod enc prog W base spare held n1 3 (([c0,c1,c2].drop 1).take (prog.cellsOf 3))=some (d1,p1):=t1;rw[nr] at t1';have u1:DataW.trod enc prog W base spare held n1 3 [c1]=some (d1,p1):=t1';obtain⟨n2,d2,p2,t2,w2⟩:=hf 2 _ rfl;have t2':DataW.trod enc prog W base spare held n2 3 (([c0,c1,c2].drop 2).take (prog.cellsOf 3))=some (d2,p2):=t2;rw[nr] at t2';have u2:DataW.trod enc prog W base spare held n2 3 [c2]=some (d2,p2):=t2';obtain⟨_,_,s0,_,jJ,gK⟩:=DG underlying9 H enc W base spare held n0 _ _ _ u0 w0;obtain rfl:c0 = .string s0:=by simpa using gK
  obtain⟨_,x1,fM,wf1⟩:=sG underlying3 H enc W base spare held n1 _ _ _ u1 w1;obtain rfl:c1 = .int .i64 x1:=by simpa using fM
  obtain⟨_,x2,zY,wf2⟩:=sG underlying3 H enc W base spare held n2 _ _ _ u2 w2;obtain rfl:c2 = .int .i64 x2:=by simpa using zY
  exact⟨rfl,⟨s0.data.toList,x1,x2⟩,s0,rfl,jJ,rfl⟩
theorem blK:np prog 23 1 (RSl cm 3):=L1 underlying23 (by kernel_rfl) (by decide) (of_decide_eq_true (by kernel_rfl)) blX
theorem bmQ:np prog 25 4 afJ:=by
 intro H enc W base spare held fuel cs d ps h hw;obtain⟨hl,hf⟩:=Ap underlying25 h hw;have hl':cs.length=4:=hl.trans (by kernel_rfl);clear hl
 match cs,hl' with
 | [c0,c1,c2,c3],_=>
  obtain⟨n0,d0,p0,t0,w0⟩:=hf 0 _ rfl;have t0':DataW.trod enc prog W base spare held n0 9 (([c0,c1,c2,c3].drop 0).take (prog.cellsOf 9))=some (d0,p0):=t0;rw[B3] at t0';have u0:DataW.trod enc prog W base spare held n0 9 [c0]=some (d0,p0):=t0';obtain⟨n1,d1,p1,t1,w1⟩:=hf 1 _ rfl;have t1':DataW.trod enc prog W base spare held n1 3 (([c0,c1,c2,c3].drop 1).take (prog.cellsOf 3))=some (d1,p1):=t1;rw[nr] at t1';have u1:DataW.trod enc prog W base spare held n1 3 [c1]=some (d1,p1):=t1';obtain⟨n2,d2,p2,t2,w2⟩:=hf 2 _ rfl;have t2':DataW.trod enc prog W base spare held n2 3 (([c0,c1,c2,c3].drop 2).take (prog.cellsOf 3))=some (d2,p2):=t2;rw[nr] at t2';have u2:DataW.trod enc prog W base spare held n2 3 [c2]=some (d2,p2):=t2';obtain⟨n3,d3,p3,t3,w3⟩:=hf 3 _ rfl;have t3':DataW.trod enc prog W base spare held n3 23 (([c0,c1,c2,c3].drop 3).take (prog.cellsOf 23))=some (d3,p3):=t3;rw[amK] at t3';have u3:DataW.trod enc prog W base spare held n3 23 [c3]=some (d3,p3):=t3';obtain⟨_,_,s0,_,jJ,gK⟩:=DG underlying9 H enc W base spare held n0 _ _ _ u0 w0;obtain rfl:c0 = .string s0:=by simpa using gK
  obtain⟨_,x1,fM,wf1⟩:=sG underlying3 H enc W base spare held n1 _ _ _ u1 w1;obtain rfl:c1 = .int .i64 x1:=by simpa using fM
  obtain⟨_,x2,zY,wf2⟩:=sG underlying3 H enc W base spare held n2 _ _ _ u2 w2;obtain rfl:c2 = .int .i64 x2:=by simpa using zY
  obtain⟨_,x3,v3,sr,aYZ⟩:=blK H enc W base spare held n3 _ _ _ u3 w3;obtain rfl:c3=v3:=by simpa using sr
  exact⟨rfl,⟨s0.data.toList,x1,x2,x3⟩,s0,_,rfl,jJ,aYZ,rfl⟩
theorem bmZ:np prog 56 6 en:=by
 intro H enc W base spare held fuel cs d ps h hw;obtain⟨hl,hf⟩:=Ap underlying56 h hw;have hl':cs.length=6:=hl.trans (by kernel_rfl);clear hl
 match cs,hl' with
 | [c0,c1,c2,c3,c4,c5],_=>
  obtain⟨n0,d0,p0,t0,w0⟩:=hf 0 _ rfl;have t0':DataW.trod enc prog W base spare held n0 9 (([c0,c1,c2,c3,c4,c5].drop 0).take (prog.cellsOf 9))=some (d0,p0):=t0;rw[B3] at t0';have u0:DataW.trod enc prog W base spare held n0 9 [c0]=some (d0,p0):=t0';obtain⟨n1,d1,p1,t1,w1⟩:=hf 1 _ rfl;have t1':DataW.trod enc prog W base spare held n1 3 (([c0,c1,c2,c3,c4,c5].drop 1).take (prog.cellsOf 3))=some (d1,p1):=t1;rw[nr] at t1';have u1:DataW.trod enc prog W base spare held n1 3 [c1]=some (d1,p1):=t1';obtain⟨n2,d2,p2,t2,w2⟩:=hf 2 _ rfl;have t2':DataW.trod enc prog W base spare held n2 3 (([c0,c1,c2,c3,c4,c5].drop 2).take (prog.cellsOf 3))=some (d2,p2):=t2;rw[nr] at t2';have u2:DataW.trod enc prog W base spare held n2 3 [c2]=some (d2,p2):=t2';obtain⟨n3,d3,p3,t3,w3⟩:=hf 3 _ rfl;have t3':DataW.trod enc prog W base spare held n3 3 (([c0,c1,c2,c3,c4,c5].drop 3).take (prog.cellsOf 3))=some (d3,p3):=t3;rw[nr] at t3';have u3:DataW.trod enc prog W base spare held n3 3 [c3]=some (d3,p3):=t3';obtain⟨n4,d4,p4,t4,w4⟩:=hf 4 _ rfl;have t4':DataW.trod enc prog W base spare held n4 3 (([c0,c1,c2,c3,c4,c5].drop 4).take (prog.cellsOf 3))=some (d4,p4):=t4;rw[nr] at t4';have u4:DataW.trod enc prog W base spare held n4 3 [c4]=some (d4,p4):=t4';obtain⟨n5,d5,p5,t5,w5⟩:=hf 5 _ rfl;have t5':DataW.trod enc prog W base spare held n5 54 (([c0,c1,c2,c3,c4,c5].drop 5).take (prog.cellsOf 54))=some (d5,p5):=t5;rw[anQ] at t5';have u5:DataW.trod enc prog W base spare held n5 54 [c5]=some (d5,p5):=t5';obtain⟨_,_,s0,_,jJ,gK⟩:=DG underlying9 H enc W base spare held n0 _ _ _ u0 w0;obtain rfl:c0 = .string s0:=by simpa using gK
  obtain⟨_,x1,fM,wf1⟩:=sG underlying3 H enc W base spare held n1 _ _ _ u1 w1;obtain rfl:c1 = .int .i64 x1:=by simpa using fM
  obtain⟨_,x2,zY,wf2⟩:=sG underlying3 H enc W base spare held n2 _ _ _ u2 w2;obtain rfl:c2 = .int .i64 x2:=by simpa using zY
  obtain⟨_,x3,sr,wf3⟩:=sG underlying3 H enc W base spare held n3 _ _ _ u3 w3;obtain rfl:c3 = .int .i64 x3:=by simpa using sr
  obtain⟨_,x4,hx4,wf4⟩:=sG underlying3 H enc W base spare held n4 _ _ _ u4 w4;obtain rfl:c4 = .int .i64 x4:=by simpa using hx4
  obtain⟨_,x5,hx5,wf5⟩:=sG underlying54 H enc W base spare held n5 _ _ _ u5 w5;obtain rfl:c5 = .int .u64 x5:=by simpa using hx5
  exact⟨rfl,⟨s0.data.toList,x1,x2,x3,x4,x5⟩,s0,rfl,jJ,rfl⟩
theorem bmX:np prog 42 1 (RSl en 6):=L1 underlying42 (by kernel_rfl) (by decide) (of_decide_eq_true (by kernel_rfl)) bmZ
theorem bmJ:np prog 44 5 az:=by
 intro H enc W base spare held fuel cs d ps h hw;obtain⟨hl,hf⟩:=Ap underlying44 h hw;have hl':cs.length=5:=hl.trans (by kernel_rfl);clear hl
 match cs,hl' with
 | [c0,c1,c2,c3,c4],_=>
  obtain⟨n0,d0,p0,t0,w0⟩:=hf 0 _ rfl;have t0':DataW.trod enc prog W base spare held n0 25 (([c0,c1,c2,c3,c4].drop 0).take (prog.cellsOf 25))=some (d0,p0):=t0;rw[amJ] at t0';have u0:DataW.trod enc prog W base spare held n0 25 [c0,c1,c2,c3]=some (d0,p0):=t0';obtain⟨n1,d1,p1,t1,w1⟩:=hf 1 _ rfl;have t1':DataW.trod enc prog W base spare held n1 42 (([c0,c1,c2,c3,c4].drop 4).take (prog.cellsOf 42))=some (d1,p1):=t1;rw[amX] at t1';have u1:DataW.trod enc prog W base spare held n1 42 [c4]=some (d1,p1):=t1';obtain⟨_,x0,gK⟩:=bmQ H enc W base spare held n0 _ _ _ u0 w0;obtain⟨_,x1,v1,fM,K7⟩:=bmX H enc W base spare held n1 _ _ _ u1 w1;obtain rfl:c4=v1:=by simpa using fM
  obtain⟨sa,va,ha,hb,hc,hd⟩:=gK;exact⟨rfl,⟨x0,x1⟩,sa,va,_,ha,hb,hc,K7,by rw[List.cons.injEq,List.cons.injEq,List.cons.injEq,List.cons.injEq] at hd;obtain⟨rfl,rfl,rfl,rfl,_⟩:=hd;rfl⟩
theorem bmK:np prog 22 1 (RSl az 5):=L1 underlying22 (by kernel_rfl) (by decide) (of_decide_eq_true (by kernel_rfl)) bmJ
def afZ(_:World)(_:Nat)(e:List Value)(x:ByteArray×Int):Prop:=x.1.size<=140737488355328/\e = [.string x.1,.int .i64 x.2]
theorem blY:np prog 27 2 afZ:=by
 intro H enc W base spare held fuel cs d ps h hw;obtain⟨hl,hf⟩:=Ap underlying27 h hw;have hl':cs.length=2:=hl.trans (by kernel_rfl);clear hl
 match cs,hl' with
 | [c0,c1],_=>
  obtain⟨n0,d0,p0,t0,w0⟩:=hf 0 _ rfl;have t0':DataW.trod enc prog W base spare held n0 9 (([c0,c1].drop 0).take (prog.cellsOf 9))=some (d0,p0):=t0;rw[B3] at t0';have u0:DataW.trod enc prog W base spare held n0 9 [c0]=some (d0,p0):=t0';obtain⟨n1,d1,p1,t1,w1⟩:=hf 1 _ rfl;have t1':DataW.trod enc prog W base spare held n1 3 (([c0,c1].drop 1).take (prog.cellsOf 3))=some (d1,p1):=t1;rw[nr] at t1';have u1:DataW.trod enc prog W base spare held n1 3 [c1]=some (d1,p1):=t1';obtain⟨_,_,s0,_,jJ,gK⟩:=DG underlying9 H enc W base spare held n0 _ _ _ u0 w0;obtain rfl:c0 = .string s0:=by simpa using gK
  obtain⟨_,x1,fM,wf1⟩:=sG underlying3 H enc W base spare held n1 _ _ _ u1 w1;obtain rfl:c1 = .int .i64 x1:=by simpa using fM
  exact⟨rfl,⟨s0,x1⟩,jJ,rfl⟩
theorem PR{α:Type}{P:Program}{t:TypeId}{sz:Nat}{R:aDQ α}{fs:Array Field}(hs:P.underlying t=some (.struct fs))(hR:np P t sz R){H:Type}{enc:TypeId×Value->H}{W:World}{r:Reach}{base b0:Nat}{spare:Nat->Bool}{held:Bool}{v:Value}{d:DataW H}{p:List MemPlace}
 (hv:Value.okWide P W r b0 t v) (h:DataW.Trod enc P W base spare held t v d p) (hw:∀ n∈d.weights P t,n<=reachBytes):∃ (cs:List Value) (x:α),v = .agg cs.toArray/\R W W.heap.size cs x:=by
 obtain⟨cs,rfl,_⟩:=okWide_struct hs hv;obtain⟨fuel,hf⟩:=h;obtain⟨_,x,hx⟩:=hR H enc W base spare held fuel _ d p hf hw;exact⟨_,x,by simp[Value.cells],hx⟩
theorem UU{H:Type}{P:Program}{ts:List TypeId}{ds:List (DataW H)}(h:(DataW.weightsEach P ts ds).all (·<=reachBytes)=true){j:Nat}{t:TypeId}{d:DataW H}(ht:ts[j]?=some t)(hd:ds[j]?=some d):∀ n∈d.weights P t,n<=reachBytes:=
 λn hn=>by simpa using List.all_eq_true.1 h n (DataW.weights_mem_each ht hd n hn)
theorem bmY:np prog 66 2 afK:=by
 intro H enc W base spare held fuel cs d ps h hw;obtain⟨hl,hf⟩:=Ap underlying66 h hw;have hl':cs.length=2:=hl.trans (by kernel_rfl);clear hl
 match cs,hl' with
 | [c0,c1],_=>
  obtain⟨n0,d0,p0,t0,w0⟩:=hf 0 _ rfl;have t0':DataW.trod enc prog W base spare held n0 9 (([c0,c1].drop 0).take (prog.cellsOf 9))=some (d0,p0):=t0;rw[B3] at t0';have u0:DataW.trod enc prog W base spare held n0 9 [c0]=some (d0,p0):=t0';obtain⟨n1,d1,p1,t1,w1⟩:=hf 1 _ rfl;have t1':DataW.trod enc prog W base spare held n1 22 (([c0,c1].drop 1).take (prog.cellsOf 22))=some (d1,p1):=t1;rw[amY] at t1';have u1:DataW.trod enc prog W base spare held n1 22 [c1]=some (d1,p1):=t1';obtain⟨_,_,s0,_,jJ,gK⟩:=DG underlying9 H enc W base spare held n0 _ _ _ u0 w0;obtain rfl:c0 = .string s0:=by simpa using gK
  obtain⟨_,x1,v1,fM,K7⟩:=bmK H enc W base spare held n1 _ _ _ u1 w1;obtain rfl:c1=v1:=by simpa using fM
  exact⟨rfl,⟨s0.data.toList,x1⟩,s0,_,rfl,jJ,K7,rfl⟩
end
end Go.Proofs.YtadhigmjilijcaaGreatDoor
