/- Parts of the proof. No condition. -/
import Derived.Test.YtfnopgdcaanaiaaGreatDoorV02
import Derived.Test.YtfnopgdcaanaiaaGreatDoorV03
set_option linter.all false
set_option maxRecDepth 100000
set_option maxHeartbeats 8000000
namespace Go.Proofs.YtfnopgdcaanaiaaGreatDoor
section
open Go.RowKit
open Classical in
noncomputable def bn(w:World)(M:Nat->Prop):World:={ w with heap:=w.heap.mapIdx λk o=>if M k then .cells #[] 0 else o }
theorem gW(w:World)(M:Nat->Prop):(bn w M).heap.size=w.heap.size:=by simp[bn]
theorem kk{w:World}{M:Nat->Prop}{k:Nat}(h:¬ M k):(bn w M).heap[k]?=w.heap[k]?:=by
 unfold bn;simp only[Array.getElem?_mapIdx,h,if_false]
 cases w.heap[k]? <;> rfl
theorem wJ{w:World}{M:Nat->Prop}{k:Nat}(h:M k):(bn w M).heap[k]?=(w.heap[k]?).map λ_=>Obj.cells #[] 0:=by
 unfold bn;simp only[Array.getElem?_mapIdx,h,if_true]
theorem qU{w:World}{M:Nat->Prop}{p:Addr}{v:Value}(h:(bn w M).cell? p=some v):¬ M p.block/\w.cell? p=some v:=by
 by_cases hm:M p.block
 ·exfalso;unfold World.cell? at h;rw[wJ hm] at h
  cases hh:w.heap[p.block]? with
  | none=>simp[hh] at h
  | some o=>simp[hh] at h
 ·refine⟨hm,?_⟩;rw[<-h];exact (iQ (w:=w) (kk hm)).symm
theorem asQ{w:World}{M:Nat->Prop}{p:Addr}(h:¬ M p.block):(bn w M).cell? p=w.cell? p:=iQ (w:=w) (kk h)
def iw{α:Type}(R:aPK α):Prop:=∀ w (M M':Nat->Prop) B e x,(∀ k,M' k->M k)->R (bn w M) B e x->R (bn w M') B e x
theorem gG.sans{w:World}{M M':Nat->Prop}{b o:Nat}{e:List Value}(hM:∀ k,M' k->M k)(h:gG (bn w M) b o e):gG (bn w M') b o e:=λj v hj=>by
 obtain⟨h1,h2⟩:=qU (h j v hj);rw[asQ (λe=>h1 (hM _ e))];exact h2
theorem SlR.sans{α:Type}{R:aPK α}{sz:Nat}{w:World}{M M':Nat->Prop}{B:Nat}{v:Value}{xs:List α}(hR:iw R)(hM:∀ k,M' k->M k)(h:SlR R sz (bn w M) B v xs):SlR R sz (bn w M') B v xs:=by
 obtain⟨A,c,hv,hc,hl,he⟩:=h;refine⟨A,c,hv,hc,hl,λi x hx=>?_⟩;obtain⟨b,o,e,hA,hB,aY,hce,hr⟩:=he i x hx;exact⟨b,o,e,hA,hB,aY,hce.sans hM,hR _ _ _ _ _ _ hM hr⟩
theorem QS(w:World):bn w (λ_=>False)=w:=by
 unfold bn
 cases w
 simp only[World.mk.injEq,and_true];apply Array.ext_getElem?;intro i;simp only[Array.getElem?_mapIdx,if_false];rename_i heap _ _ _ _
 cases heap[i]? <;> rfl
theorem SlR.all{α:Type}{R:aPK α}{sz:Nat}{w:World}{M:Nat->Prop}{B:Nat}{v:Value}{xs:List α}(hR:iw R)(h:SlR R sz (bn w M) B v xs):SlR R sz w B v xs:=by
 have:=h.sans (M':=λ_=>False) hR (λ_ e=>e.elim)
 rw[QS] at this;exact this
theorem Cc:iw cA:=λ_ _ _ _ _ _ _ h=>h
theorem yN:iw de:=λ_ _ _ _ _ _ _ h=>h
theorem iw.all{α:Type}{R:aPK α}(hR:iw R){w:World}{M:Nat->Prop}{B:Nat}{e:List Value}{x:α}(h:R (bn w M) B e x):R w B e x:=by
 have:=hR w M (λ_=>False) B e x (λ_ e=>e.elim) h
 rw[QS] at this;exact this
structure Leaves'(M:Nat->Prop)(w w':World)(M':Nat->Prop):Prop where
 os:w'.os=w.os
 tape:w'.tape=w.tape
 output:w'.output=w.output
 size:w.heap.size<=w'.heap.size
 keep:∀ k,k<w.heap.size->¬ M k->¬ M' k/\w'.heap[k]?=w.heap[k]?
theorem Leaves'.refl(M:Nat->Prop)(w:World):Leaves' M w w M:=⟨rfl,rfl,rfl,bQ _,λ_ _ h=>⟨h,rfl⟩⟩
theorem Leaves'.trans{M M' M'':Nat->Prop}{a b c:World}(h:Leaves' M a b M')(k:Leaves' M' b c M''):Leaves' M a c M'':=
 ⟨k.os.trans h.os,k.tape.trans h.tape,k.output.trans h.output,yQ h.size k.size,λi hi hm=>by
  obtain⟨h1,h2⟩:=h.keep i hi hm;obtain⟨h3,h4⟩:=k.keep i (lQ hi h.size) h1;exact⟨h3,h4.trans h2⟩⟩
theorem Leaves'.of_below{M:Nat->Prop}{w w':World}(h:Below w.heap.size w w'):Leaves' M w w' M:=⟨h.os,h.tape,h.output,h.size,λk hk hm=>⟨hm,h.block k hk⟩⟩
theorem Leaves'.setCell(M:Nat->Prop)(w:World){p:Addr}(hp:M p.block)(v:Value):Leaves' M w (w.setCell p v) M:=
 ⟨rfl,rfl,rfl,by simp[World.setCell],λk _ hm=>⟨hm,wQ _ _ _ _ (λe=>hm (e ▸ hp))⟩⟩
theorem Leaves'.grown{M:Nat->Prop}{w w':World}{row:Option Nat}(hg:w.grownBy w' row)(hr:∀ k,row=some k->M k):Leaves' M w w' M:=
 ⟨hg.os,hg.tape,hg.output,hg.size,λk hk hm=>⟨hm,hg.block k hk (λe=>hm (hr k e.symm))⟩⟩
theorem Leaves'.more{M M' N:Nat->Prop}{w w':World}(h:Leaves' M w w' M')(hN:∀ k,N k->M' k\/w.heap.size<=k):Leaves' M w w' N:=
 ⟨h.os,h.tape,h.output,h.size,λk hk hm=>⟨λe=>(hN k e).elim (h.keep k hk hm).1 (by omega),(h.keep k hk hm).2⟩⟩
theorem Leaves'.read{α:Type}{R:aPK α}(hk:dH R)(hs:iw R)(hm:eh R){M M':Nat->Prop}{w w':World}(h:Leaves' M w w' M'){e:List Value}{x:α}(hr:R (bn w M) w.heap.size e x):R (bn w' M') w'.heap.size e x:=by
 have hb:Below w.heap.size (bn w M) (bn w' λk=>M k\/M' k):=by
  refine⟨h.os,h.tape,h.output,by rw[gW,gW];exact h.size,λk hk=>?_⟩;by_cases hM:M k
  ·rw[wJ hM,wJ (M:=λk=>M k\/M' k) (Or.inl hM)];have h1:k<w'.heap.size:=lQ hk h.size;rw[pQ hk,pQ h1];rfl
  ·obtain⟨h1,h2⟩:=h.keep k hk hM;rw[kk hM,kk (M:=λk=>M k\/M' k) (λe=>e.elim hM h1),h2]
 exact hm _ _ _ _ _ (hs _ _ _ _ _ _ (λk e=>Or.inr e) (hk _ _ _ _ _ hr hb)) h.size
def bp{α:Type}(R:aPK α)(sz:Nat)(e:TypeId)(base:Nat)(M:Nat->Prop)(w:World)(v:Value)(xs:List α):Prop:=
 ∃ rows:List (List Value),rows.length=xs.length/\w.ownsRow base e sz v xs.length rows.flatten/\(∀ g,v.ownBlock=some g->M g)/\
   ∀ (i:Nat) (r:List Value) (x:α),rows[i]?=some r->xs[i]?=some x->r.length=sz/\R (bn w M) w.heap.size r x
theorem bp.nil{α:Type}{R:aPK α}{sz:Nat}{e:TypeId}{base:Nat}{M:Nat->Prop}(w:World):bp (α:=α) R sz e base M w (.slice none 0 0) []:=
 ⟨[],rfl,⟨by simp,.inl ⟨rfl,rfl⟩⟩,(λg h=>by cases h),λi r x h=>by simp at h⟩
theorem bp.form{α:Type}{R:aPK α}{sz:Nat}{e:TypeId}{base:Nat}{M:Nat->Prop}{w:World}{v:Value}{xs:List α}(h:bp R sz e base M w v xs):∃ A c,v = .slice A xs.length c:=by
 obtain⟨rows,h1,h2,h3⟩:=h;rcases h2.2 with ⟨rfl,h0⟩ | ⟨g,cap,cur,rfl,_⟩
 ·exact⟨none,0,by rw[h0]⟩
 ·exact⟨_,cap,rfl⟩
theorem bp.leaves{α:Type}{R:aPK α}(hk:dH R)(hs:iw R)(hm:eh R){sz:Nat}{e:TypeId}{base:Nat}{M M':Nat->Prop}{w w':World}{v:Value}{xs:List α}(h:bp R sz e base M w v xs)(hl:Leaves' M w w' M')
 (ho:∀ g,v.ownBlock=some g->w'.heap[g]?=w.heap[g]?/\M' g):bp R sz e base M' w' v xs:=by
 obtain⟨rows,h1,h2,h3,h4⟩:=h;exact⟨rows,h1,cX h2 (λg hg=>(ho g hg).1),λg hg=>(ho g hg).2,λi r x hr hx=>⟨(h4 i r x hr hx).1,hl.read hk hs hm (h4 i r x hr hx).2⟩⟩
theorem bp.slr{α:Type}{R:aPK α}(hs:iw R){sz:Nat}{e:TypeId}{base:Nat}{M:Nat->Prop}{w:World}{v:Value}{xs:List α}(h:bp R sz e base M w v xs)(hl:xs.length<=140737488355328):SlR R sz w w.heap.size v xs:=by
 obtain⟨rows,h1,h2,h3,h4⟩:=h;have hl':=bI.rows_len (w:=bn w M) (B:=w.heap.size) h1 h4;rcases h2.2 with ⟨rfl,h0⟩ | ⟨g,cap,cur,rfl,hb,hg,lA,_⟩
 ·have:xs = []:=rQ h0
  subst this;exact⟨none,0,rfl,by simp,by simp,λi x hx=>by simp at hx⟩
 ·refine⟨_,cap,rfl,lA,hl,λi x hx=>?_⟩;have hi:=(cQ.1 hx).1;have hr:=aQ (l:=rows) (i:=i) (by omega);obtain⟨h5,h6⟩:=h4 i _ x hr hx;refine⟨g,0,rows[i],rfl,(eQ.1 hg).1,h5,λj u hj=>?_,hs.all h6⟩;have h7:=h2.cells (g:=g) rfl _ _ (Dx rows i j _ u hl' hr hj);have mE:(⟨g,0,none⟩:Addr).add (i * sz+j)=⟨g,0+i * sz+j,none⟩:=by unfold Addr.add;split <;> simp_all
  rw[mE] at h7;exact h7
def xS{α:Type}(R:aPK α)(sz:Nat)(M:Nat->Prop)(w:World)(A:Option Addr)(ys:List α):Prop:=
 ∃ rows:List (List Value),rows.length=ys.length/\(∀ (i:Nat) (r:List Value) (x:α),rows[i]?=some r->ys[i]?=some x->r.length=sz/\R (bn w M) w.heap.size r x)/\(ys≠[]->∃ b o,A=some ⟨b,o,none⟩/\∀ j u,rows.flatten[j]?=some u->w.cell? ((⟨b,o,none⟩:Addr).add j)=some u)
theorem Cg{α:Type}{R:aPK α}{sz:Nat}{M:Nat->Prop}{w:World}{b o:Nat}{r:List Value}{x:α}(hl:r.length=sz)(hr:R (bn w M) w.heap.size r x)(hc:gG w b o r):xS R sz M w (some ⟨b,o,none⟩) [x]:=by
 refine⟨[r],rfl,λi r' x' h1 h2=>?_,λ_=>⟨b,o,rfl,λj u hj=>?_⟩⟩
 ·cases i with
  | zero=>simp at h1 h2;subst h1;subst h2;exact⟨hl,hr⟩
  | succ i=>simp at h1
 ·have mE:(⟨b,o,none⟩:Addr).add j=⟨b,o+j,none⟩:=by unfold Addr.add;split <;> simp_all
  rw[mE];exact hc j u (by simpa using hj)
theorem apQ{α:Type}{R:aPK α}{sz:Nat}{M:Nat->Prop}{w:World}{A:Option Addr}{n c:Nat}{ys:List α}(h:SlR R sz (bn w M) w.heap.size (.slice A n c) ys)(al:0<sz):xS R sz M w A ys:=by
 obtain⟨rows,h1,h2,h3⟩:=Q3 h al;exact⟨rows,h1,h2,λhy=>by obtain⟨b,o,h4,_,h5⟩:=h3 hy;exact⟨b,o,h4,λj u hj=>(qU (h5 j u hj)).2⟩⟩
section
variable {P:Program}
theorem apY{α:Type}{R:aPK α}{sz:Nat}{M:Nat->Prop}(w:World)(t ty:TypeId)
 (base:Nat) (e:TypeId) (i:TypeInfo) (z:Value) (bytes:Nat) (ht:P.underlying t=some (.slice e)) (hi:P.info? e=some i) (hz:i.zero=some z) (lW:i.size=sz) (iP:i.bytes=bytes) (kg:z.cells.size=sz) (al:0<sz)
 (v:Value) (xs:List α) (hown:bp R sz e base M w v xs) (A:Option Addr) (c:Nat) (ys:List α) (dy:xS R sz M w A ys)
 (vX:∀ w B r y,R w B r y->∀ u∈r,u.oneCell'=true) (kE:xs.length+ys.length<=maxLen) (nt:(xs.length+ys.length) * bytes<=140737488355328) (dw:base<=w.heap.size) (hk:dH R) (hs:iw R) (hm:eh R) :
 ∃ v' w',(Builtin.append_ #[t,t] ty #[v,.slice A ys.length c]).run P w = .ok v' w'/\bp R sz e base (λk=>M k\/v'.ownBlock=some k) w' v' (xs++ys)/\w.grownBy w' v.ownBlock/\(v'.ownBlock=v.ownBlock\/v'.ownBlock=some w.heap.size):=by
 have rS:∀ (w':World) (v':Value) (rows rows':List (List Value)),w.grownBy w' v.ownBlock->(v'.ownBlock=v.ownBlock\/v'.ownBlock=some w.heap.size)->(∀ g,v.ownBlock=some g->M g)->rows.length=xs.length->(∀ (i:Nat) (r:List Value) (x:α),rows[i]?=some r->xs[i]?=some x->r.length=sz/\R (bn w M) w.heap.size r x)->rows'.length=ys.length->
  (∀ (i:Nat) (r:List Value) (x:α),rows'[i]?=some r->ys[i]?=some x->r.length=sz/\R (bn w M) w.heap.size r x)->w'.ownsRow base e sz v' (xs.length+ys.length) (rows.flatten++rows'.flatten)->bp R sz e base (λk=>M k\/v'.ownBlock=some k) w' v' (xs++ys):=by
  intro w' v' rows rows' hg hat yd h1 h2 h3 h4 h5;have vP:Leaves' M w w' (λk=>M k\/v'.ownBlock=some k):=(Leaves'.grown hg yd).more (λk e=>by
   rcases e with e | e
   ·exact .inl e
   ·rcases hat with h | h
    ·exact .inl (yd k (h ▸ e))
    ·rw[h] at e;cases e;exact .inr (bQ _))
  refine⟨rows++rows',by simp[h1,h3],?_,λg hg'=>.inr hg',λj r y hr hy=>?_⟩
  ·rw[List.length_append,List.flatten_append];exact h5
  ·rcases Nat.lt_or_ge j rows.length with aa | pI
   ·rw[List.getElem?_append_left aa] at hr;rw[List.getElem?_append_left (by omega)] at hy;obtain⟨h6,h7⟩:=h2 j r y hr hy;exact⟨h6,vP.read hk hs hm h7⟩
   ·rw[oQ pI] at hr;rw[oQ (by omega),<-h1] at hy;obtain⟨h6,h7⟩:=h4 _ r y hr hy;exact⟨h6,vP.read hk hs hm h7⟩
 obtain⟨rows,h1,h2,yd,h3⟩:=hown;obtain⟨rows',h4,h5,h6⟩:=dy;by_cases hy:ys = []
 ·subst hy;have pR:rows' = []:=rQ (by simpa using h4);subst pR
  cases A with
  | none=>
   have dh:=QP (P:=P) base t ty e i sz ht hi v xs.length c rows.flatten h2;have hg:w.grownBy w v.ownBlock:=⟨rfl,rfl,rfl,bQ _,λ_ _ _=>rfl⟩;exact⟨v,w,dh,rS w v rows [] hg (.inl rfl) yd h1 h3 rfl (λj r y hr=>by simp at hr) (by simpa using h2),hg,.inl rfl⟩
  | some ad=>
   obtain⟨v',w',hr,ho',hg,_,hat⟩:=run_append_own_at (P:=P) w base t ty e i z sz bytes ht hi hz lW iP kg al v xs.length rows.flatten h2 ad 0 c [] (by simp) (λj u hj=>by simp at hj) (λu hu=>by cases hu) (by simpa using kE) (by simpa using nt) dw;exact⟨v',w',hr,rS w' v' rows [] hg hat yd h1 h3 rfl (λj r y hr=>by simp at hr) (by simpa using ho'),hg,hat⟩
 ·obtain⟨b,o',rfl,hcell⟩:=h6 hy;have hl:=bI.rows_len (w:=bn w M) (B:=w.heap.size) h4 h5;obtain⟨v',w',hr,ho',hg,_,hat⟩:=run_append_own_at (P:=P) w base t ty e i z sz bytes ht hi hz lW iP kg al v xs.length rows.flatten h2 ⟨b,o',none⟩ ys.length c rows'.flatten (by rw[Hf rows' hl,h4]) hcell (λu hu=>by
   obtain⟨r,hr,Jh⟩:=List.mem_flatten.1 hu;obtain⟨j,hj,rfl⟩:=nQ.1 hr;exact vX _ _ _ _ (h5 j _ _ (aQ hj) (aQ (by omega))).2 u Jh) kE nt dw
  exact⟨v',w',hr,rS w' v' rows rows' hg hat yd h1 h3 h4 h5 ho',hg,hat⟩
theorem Kw{α:Type}{R:aPK α}{sz:Nat}{M:Nat->Prop}(w:World){o:Oper}{a:Act}{K:Act->World->Prop}{Q:Exit->Act->World->Prop}(s x:Operand)(t:TypeId)
 (ho:o.op = .call { callee:=.builtin .append,args:=#[s,x],argTypes:=#[t,t] })
 (base:Nat) (e:TypeId) (i:TypeInfo) (z:Value) (bytes:Nat) (ht:P.underlying t=some (.slice e)) (hi:P.info? e=some i) (hz:i.zero=some z) (lW:i.size=sz) (iP:i.bytes=bytes) (kg:z.cells.size=sz) (al:0<sz)
 (v:Value) (xs:List α) (hv:a.eval s=v) (hown:bp R sz e base M w v xs) (A:Option Addr) (c:Nat) (ys:List α) (hx:a.eval x = .slice A ys.length c) (dy:xS R sz M w A ys)
 (vX:∀ w B r y,R w B r y->∀ u∈r,u.oneCell'=true) (kE:xs.length+ys.length<=maxLen) (nt:(xs.length+ys.length) * bytes<=140737488355328) (dw:base<=w.heap.size) (hk:dH R) (hs:iw R) (hm:eh R)
 (h:∀ v' w',bp R sz e base (λk=>M k\/v'.ownBlock=some k) w' v' (xs++ys)->w.grownBy w' v.ownBlock->(v'.ownBlock=v.ownBlock\/v'.ownBlock=some w.heap.size)->K (a.put o.dst v') w'):o.wp P a w K Q:=by
 obtain⟨v',w',hr,h2,h4,h5⟩:=apY (P:=P) w t o.type base e i z bytes ht hi hz lW iP kg al v xs hown A c ys dy vX kE nt dw hk hs hm;unfold Oper.wp execOp;simp only[ho,resolve,invoke,builtin,Sem.run_bind,Sem.run_pure,Result.andThen_ok,List.map_toArray,List.map_cons,List.map_nil,hv,hx,hr];exact h v' w' h2 h4 h5
theorem Fg{α:Type}{R:aPK α}{sz:Nat}{M:Nat->Prop}(w:World){ops:Array Oper}{rest:List Oper}{o:Oper}{a:Act}{Q:Exit->Act->World->Prop}(go:o.guard=none)(s x:Operand)(t:TypeId)
 (ho:o.op = .call { callee:=.builtin .append,args:=#[s,x],argTypes:=#[t,t] })
 (base:Nat) (e:TypeId) (i:TypeInfo) (z:Value) (bytes:Nat) (ht:P.underlying t=some (.slice e)) (hi:P.info? e=some i) (hz:i.zero=some z) (lW:i.size=sz) (iP:i.bytes=bytes) (kg:z.cells.size=sz) (al:0<sz)
 (v:Value) (xs:List α) (hv:a.eval s=v) (hown:bp R sz e base M w v xs) (A:Option Addr) (c:Nat) (ys:List α) (hx:a.eval x = .slice A ys.length c) (dy:xS R sz M w A ys)
 (vX:∀ w B r y,R w B r y->∀ u∈r,u.oneCell'=true) (kE:xs.length+ys.length<=maxLen) (nt:(xs.length+ys.length) * bytes<=140737488355328) (dw:base<=w.heap.size) (hk:dH R) (hs:iw R) (hm:eh R)
 (h:∀ v' w',bp R sz e base (λk=>M k\/v'.ownBlock=some k) w' v' (xs++ys)->w.grownBy w' v.ownBlock->(v'.ownBlock=v.ownBlock\/v'.ownBlock=some w.heap.size)->wpList P ops Q rest (a.put o.dst v') w'):wpList P ops Q (o::rest) a w:=by
 refine wpList_plain go λK hK=>?_;exact Kw w s x t ho base e i z bytes ht hi hz lW iP kg al v xs hv hown A c ys hx dy vX kE nt dw hk hs hm (λv' w' h1 h2 h3=>hK _ _ (h v' w' h1 h2 h3))
end
end
end Go.Proofs.YtfnopgdcaanaiaaGreatDoor
