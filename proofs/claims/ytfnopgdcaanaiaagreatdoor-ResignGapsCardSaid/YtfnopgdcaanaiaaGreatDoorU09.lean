/- Parts of the proof. No condition. -/
import Derived.Test.YtfnopgdcaanaiaaGreatDoorU02
import Derived.Test.YtfnopgdcaanaiaaGreatDoorU05
set_option linter.all false
set_option maxRecDepth 100000
set_option maxHeartbeats 8000000
namespace Go.Proofs.YtfnopgdcaanaiaaGreatDoor
open Go.Proofs.Tryz
section
open Go.RowKit
open Classical in
noncomputable def be(w:World)(M:Nat->Prop):World:={ w with heap:=w.heap.mapIdx λk o=>if M k then .cells #[] 0 else o }
theorem gl(w:World)(M:Nat->Prop):(be w M).heap.size=w.heap.size:=by simp[be]
theorem kf{w:World}{M:Nat->Prop}{k:Nat}(h:¬ M k):(be w M).heap[k]?=w.heap[k]?:=by
 unfold be;simp only[Array.getElem?_mapIdx,h,if_false]
 cases w.heap[k]? <;> rfl
theorem ub{w:World}{M:Nat->Prop}{k:Nat}(h:M k):(be w M).heap[k]?=(w.heap[k]?).map λ_=>Obj.cells #[] 0:=by
 unfold be;simp only[Array.getElem?_mapIdx,h,if_true]
theorem NM{w:World}{M:Nat->Prop}{p:Addr}{v:Value}(h:(be w M).cell? p=some v):¬ M p.block/\w.cell? p=some v:=by
 by_cases hm:M p.block
 ·exfalso;unfold World.cell? at h;rw[ub hm] at h
  cases hh:w.heap[p.block]? with
  | none=>simp[hh] at h
  | some o=>simp[hh] at h
 ·refine⟨hm,?_⟩;rw[<-h];exact (iQ (w:=w) (kf hm)).symm
theorem YL{w:World}{M:Nat->Prop}{p:Addr}(h:¬ M p.block):(be w M).cell? p=w.cell? p:=iQ (w:=w) (kf h)
def gb{α:Type}(R:afQ α):Prop:=∀ w (M M':Nat->Prop) B e x,(∀ k,M' k->M k)->R (be w M) B e x->R (be w M') B e x
theorem fZ.sans{w:World}{M M':Nat->Prop}{b o:Nat}{e:List Value}(hM:∀ k,M' k->M k)(h:fZ (be w M) b o e):fZ (be w M') b o e:=λj v hj=>by
 obtain⟨h1,h2⟩:=NM (h j v hj);rw[YL (λe=>h1 (hM _ e))];exact h2
theorem SlR.sans{α:Type}{R:afQ α}{sz:Nat}{w:World}{M M':Nat->Prop}{B:Nat}{v:Value}{xs:List α}(hR:gb R)(hM:∀ k,M' k->M k)(h:SlR R sz (be w M) B v xs):SlR R sz (be w M') B v xs:=by
 obtain⟨A,c,hv,hc,hl,he⟩:=h;refine⟨A,c,hv,hc,hl,λi x hx=>?_⟩;obtain⟨b,o,e,hA,hB,aC,hce,hr⟩:=he i x hx;exact⟨b,o,e,hA,hB,aC,hce.sans hM,hR _ _ _ _ _ _ hM hr⟩
theorem NN(w:World):be w (λ_=>False)=w:=by
 unfold be
 cases w
 simp only[World.mk.injEq,and_true];apply Array.ext_getElem?;intro i;simp only[Array.getElem?_mapIdx,if_false];rename_i heap _ _ _ _
 cases heap[i]? <;> rfl
theorem SlR.all{α:Type}{R:afQ α}{sz:Nat}{w:World}{M:Nat->Prop}{B:Nat}{v:Value}{xs:List α}(hR:gb R)(h:SlR R sz (be w M) B v xs):SlR R sz w B v xs:=by
 have:=h.sans (M':=λ_=>False) hR (λ_ e=>e.elim)
 rw[NN] at this;exact this
theorem zY:gb bW:=λ_ _ _ _ _ _ _ h=>h
theorem Ae:gb cV:=λ_ _ _ _ _ _ _ h=>h
theorem gb.all{α:Type}{R:afQ α}(hR:gb R){w:World}{M:Nat->Prop}{B:Nat}{e:List Value}{x:α}(h:R (be w M) B e x):R w B e x:=by
 have:=hR w M (λ_=>False) B e x (λ_ e=>e.elim) h
 rw[NN] at this;exact this
structure Leaves'(M:Nat->Prop)(w w':World)(M':Nat->Prop):Prop where
 os:w'.os=w.os
 tape:w'.tape=w.tape
 output:w'.output=w.output
 size:w.heap.size<=w'.heap.size
 keep:∀ k,k<w.heap.size->¬ M k->¬ M' k/\w'.heap[k]?=w.heap[k]?
theorem Leaves'.refl(M:Nat->Prop)(w:World):Leaves' M w w M:=⟨rfl,rfl,rfl,bQ _,λ_ _ h=>⟨h,rfl⟩⟩
theorem Leaves'.trans{M M' M'':Nat->Prop}{a b c:World}(h:Leaves' M a b M')(k:Leaves' M' b c M''):Leaves' M a c M'':=
 ⟨k.os.trans h.os,k.tape.trans h.tape,k.output.trans h.output,yQ h.size k.size,λi hi hm=>by
  obtain⟨h1,h2⟩:=h.keep i hi hm;obtain⟨h3,h4⟩:=k.keep i (lQ hi h.size) h1;exact⟨h3,h4.trans h2⟩⟩
theorem Leaves'.of_below{M:Nat->Prop}{w w':World}(h:Below w.heap.size w w'):Leaves' M w w' M:=⟨h.os,h.tape,h.output,h.size,λk hk hm=>⟨hm,h.block k hk⟩⟩
theorem Leaves'.setCell(M:Nat->Prop)(w:World){p:Addr}(hp:M p.block)(v:Value):Leaves' M w (w.setCell p v) M:=
 ⟨rfl,rfl,rfl,by simp[World.setCell],λk _ hm=>⟨hm,wQ _ _ _ _ (λe=>hm (e ▸ hp))⟩⟩
theorem Leaves'.grown{M:Nat->Prop}{w w':World}{row:Option Nat}(hg:w.grownBy w' row)(hr:∀ k,row=some k->M k):Leaves' M w w' M:=
 ⟨hg.os,hg.tape,hg.output,hg.size,λk hk hm=>⟨hm,hg.block k hk (λe=>hm (hr k e.symm))⟩⟩
theorem Leaves'.more{M M' N:Nat->Prop}{w w':World}(h:Leaves' M w w' M')(hN:∀ k,N k->M' k\/w.heap.size<=k):Leaves' M w w' N:=
 ⟨h.os,h.tape,h.output,h.size,λk hk hm=>⟨λe=>(hN k e).elim (h.keep k hk hm).1 (by omega),(h.keep k hk hm).2⟩⟩
theorem Leaves'.read{α:Type}{R:afQ α}(hk:cL R)(hs:gb R)(hm:dD R){M M':Nat->Prop}{w w':World}(h:Leaves' M w w' M'){e:List Value}{x:α}(hr:R (be w M) w.heap.size e x):R (be w' M') w'.heap.size e x:=by
 have hb:Below w.heap.size (be w M) (be w' λk=>M k\/M' k):=by
  refine⟨h.os,h.tape,h.output,by rw[gl,gl];exact h.size,λk hk=>?_⟩;by_cases hM:M k
  ·rw[ub hM,ub (M:=λk=>M k\/M' k) (Or.inl hM)];have h1:k<w'.heap.size:=lQ hk h.size;rw[pQ hk,pQ h1];rfl
  ·obtain⟨h1,h2⟩:=h.keep k hk hM;rw[kf hM,kf (M:=λk=>M k\/M' k) (λe=>e.elim hM h1),h2]
 exact hm _ _ _ _ _ (hs _ _ _ _ _ _ (λk e=>Or.inr e) (hk _ _ _ _ _ hr hb)) h.size
def bN{α:Type}(R:afQ α)(sz:Nat)(e:TypeId)(base:Nat)(M:Nat->Prop)(w:World)(v:Value)(xs:List α):Prop:=
 ∃ rows:List (List Value),rows.length=xs.length/\w.ownsRow base e sz v xs.length rows.flatten/\(∀ g,v.ownBlock=some g->M g)/\
   ∀ (i:Nat) (r:List Value) (x:α),rows[i]?=some r->xs[i]?=some x->r.length=sz/\R (be w M) w.heap.size r x
theorem bN.nil{α:Type}{R:afQ α}{sz:Nat}{e:TypeId}{base:Nat}{M:Nat->Prop}(w:World):bN (α:=α) R sz e base M w (.slice none 0 0) []:=
 ⟨[],rfl,⟨by simp,.inl ⟨rfl,rfl⟩⟩,(λg h=>by cases h),λi r x h=>by simp at h⟩
theorem bN.form{α:Type}{R:afQ α}{sz:Nat}{e:TypeId}{base:Nat}{M:Nat->Prop}{w:World}{v:Value}{xs:List α}(h:bN R sz e base M w v xs):∃ A c,v = .slice A xs.length c:=by
 obtain⟨rows,h1,h2,h3⟩:=h;rcases h2.2 with ⟨rfl,h0⟩ | ⟨g,cap,cur,rfl,_⟩
 ·exact⟨none,0,by rw[h0]⟩
 ·exact⟨_,cap,rfl⟩
theorem bN.leaves{α:Type}{R:afQ α}(hk:cL R)(hs:gb R)(hm:dD R){sz:Nat}{e:TypeId}{base:Nat}{M M':Nat->Prop}{w w':World}{v:Value}{xs:List α}(h:bN R sz e base M w v xs)(hl:Leaves' M w w' M')
 (ho:∀ g,v.ownBlock=some g->w'.heap[g]?=w.heap[g]?/\M' g):bN R sz e base M' w' v xs:=by
 obtain⟨rows,h1,h2,h3,h4⟩:=h;exact⟨rows,h1,cM h2 (λg hg=>(ho g hg).1),λg hg=>(ho g hg).2,λi r x hr hx=>⟨(h4 i r x hr hx).1,hl.read hk hs hm (h4 i r x hr hx).2⟩⟩
theorem bN.slr{α:Type}{R:afQ α}(hs:gb R){sz:Nat}{e:TypeId}{base:Nat}{M:Nat->Prop}{w:World}{v:Value}{xs:List α}(h:bN R sz e base M w v xs)(hl:xs.length<=140737488355328):SlR R sz w w.heap.size v xs:=by
 obtain⟨rows,h1,h2,h3,h4⟩:=h;have hl':=bj.rows_len (w:=be w M) (B:=w.heap.size) h1 h4;rcases h2.2 with ⟨rfl,h0⟩ | ⟨g,cap,cur,rfl,hb,hg,ky,_⟩
 ·have:xs = []:=rQ h0
  subst this;exact⟨none,0,rfl,by simp,by simp,λi x hx=>by simp at hx⟩
 ·refine⟨_,cap,rfl,ky,hl,λi x hx=>?_⟩;have hi:=(cQ.1 hx).1;have hr:=aQ (l:=rows) (i:=i) (by omega);obtain⟨h5,h6⟩:=h4 i _ x hr hx;refine⟨g,0,rows[i],rfl,(eQ.1 hg).1,h5,λj u hj=>?_,hs.all h6⟩;have h7:=h2.cells (g:=g) rfl _ _ (BM rows i j _ u hl' hr hj);have ll:(⟨g,0,none⟩:Addr).add (i * sz+j)=⟨g,0+i * sz+j,none⟩:=by unfold Addr.add;split <;> simp_all
  rw[ll] at h7;exact h7
def uF{α:Type}(R:afQ α)(sz:Nat)(M:Nat->Prop)(w:World)(A:Option Addr)(ys:List α):Prop:=
 ∃ rows:List (List Value),rows.length=ys.length/\(∀ (i:Nat) (r:List Value) (x:α),rows[i]?=some r->ys[i]?=some x->r.length=sz/\R (be w M) w.heap.size r x)/\(ys≠[]->∃ b o,A=some ⟨b,o,none⟩/\∀ j u,rows.flatten[j]?=some u->w.cell? ((⟨b,o,none⟩:Addr).add j)=some u)
theorem NC{α:Type}{R:afQ α}{sz:Nat}{M:Nat->Prop}{w:World}{b o:Nat}{r:List Value}{x:α}(hl:r.length=sz)(hr:R (be w M) w.heap.size r x)(hc:fZ w b o r):uF R sz M w (some ⟨b,o,none⟩) [x]:=by
 refine⟨[r],rfl,λi r' x' h1 h2=>?_,λ_=>⟨b,o,rfl,λj u hj=>?_⟩⟩
 ·cases i with
  | zero=>simp at h1 h2;subst h1;subst h2;exact⟨hl,hr⟩
  | succ i=>simp at h1
 ·have ll:(⟨b,o,none⟩:Addr).add j=⟨b,o+j,none⟩:=by unfold Addr.add;split <;> simp_all
  rw[ll];exact hc j u (by simpa using hj)
theorem Ys{α:Type}{R:afQ α}{sz:Nat}{M:Nat->Prop}{w:World}{A:Option Addr}{n c:Nat}{ys:List α}(h:SlR R sz (be w M) w.heap.size (.slice A n c) ys)(al:0<sz):uF R sz M w A ys:=by
 obtain⟨rows,h1,h2,h3⟩:=N0 h al;exact⟨rows,h1,h2,λhy=>by obtain⟨b,o,h4,_,h5⟩:=h3 hy;exact⟨b,o,h4,λj u hj=>(NM (h5 j u hj)).2⟩⟩
section
variable {P:Program}
theorem Yx{α:Type}{R:afQ α}{sz:Nat}{M:Nat->Prop}(w:World)(t ty:TypeId)
 (base:Nat) (e:TypeId) (i:TypeInfo) (z:Value) (bytes:Nat) (ht:P.underlying t=some (.slice e)) (hi:P.info? e=some i) (hz:i.zero=some z) (kC:i.size=sz) (gw:i.bytes=bytes) (kK:z.cells.size=sz) (al:0<sz)
 (v:Value) (xs:List α) (hown:bN R sz e base M w v xs) (A:Option Addr) (c:Nat) (ys:List α) (dY:uF R sz M w A ys)
 (tL:∀ w B r y,R w B r y->∀ u∈r,u.oneCell'=true) (jj:xs.length+ys.length<=maxLen) (l5:(xs.length+ys.length) * bytes<=140737488355328) (cW:base<=w.heap.size) (hk:cL R) (hs:gb R) (hm:dD R) :
 ∃ v' w',(Builtin.append_ #[t,t] ty #[v,.slice A ys.length c]).run P w = .ok v' w'/\bN R sz e base (λk=>M k\/v'.ownBlock=some k) w' v' (xs++ys)/\w.grownBy w' v.ownBlock/\(v'.ownBlock=v.ownBlock\/v'.ownBlock=some w.heap.size):=by
 have qd:∀ (w':World) (v':Value) (rows rows':List (List Value)),w.grownBy w' v.ownBlock->(v'.ownBlock=v.ownBlock\/v'.ownBlock=some w.heap.size)->(∀ g,v.ownBlock=some g->M g)->rows.length=xs.length->(∀ (i:Nat) (r:List Value) (x:α),rows[i]?=some r->xs[i]?=some x->r.length=sz/\R (be w M) w.heap.size r x)->rows'.length=ys.length->
  (∀ (i:Nat) (r:List Value) (x:α),rows'[i]?=some r->ys[i]?=some x->r.length=sz/\R (be w M) w.heap.size r x)->w'.ownsRow base e sz v' (xs.length+ys.length) (rows.flatten++rows'.flatten)->bN R sz e base (λk=>M k\/v'.ownBlock=some k) w' v' (xs++ys):=by
  intro w' v' rows rows' hg hat uR h1 h2 h3 h4 h5;have tD:Leaves' M w w' (λk=>M k\/v'.ownBlock=some k):=(Leaves'.grown hg uR).more (λk e=>by
   rcases e with e | e
   ·exact .inl e
   ·rcases hat with h | h
    ·exact .inl (uR k (h ▸ e))
    ·rw[h] at e;cases e;exact .inr (bQ _))
  refine⟨rows++rows',by simp[h1,h3],?_,λg hg'=>.inr hg',λj r y hr hy=>?_⟩
  ·rw[List.length_append,List.flatten_append];exact h5
  ·rcases Nat.lt_or_ge j rows.length with aa | nR
   ·rw[List.getElem?_append_left aa] at hr;rw[List.getElem?_append_left (by omega)] at hy;obtain⟨h6,h7⟩:=h2 j r y hr hy;exact⟨h6,tD.read hk hs hm h7⟩
   ·rw[oQ nR] at hr;rw[oQ (by omega),<-h1] at hy;obtain⟨h6,h7⟩:=h4 _ r y hr hy;exact⟨h6,tD.read hk hs hm h7⟩
 obtain⟨rows,h1,h2,uR,h3⟩:=hown;obtain⟨rows',h4,h5,h6⟩:=dY;by_cases hy:ys = []
 ·subst hy;have nV:rows' = []:=rQ (by simpa using h4);subst nV
  cases A with
  | none=>
   have cH:=NK (P:=P) base t ty e i sz ht hi v xs.length c rows.flatten h2;have hg:w.grownBy w v.ownBlock:=⟨rfl,rfl,rfl,bQ _,λ_ _ _=>rfl⟩;exact⟨v,w,cH,qd w v rows [] hg (.inl rfl) uR h1 h3 rfl (λj r y hr=>by simp at hr) (by simpa using h2),hg,.inl rfl⟩
  | some ad=>
   obtain⟨v',w',hr,ho',hg,_,hat⟩:=run_append_own_at (P:=P) w base t ty e i z sz bytes ht hi hz kC gw kK al v xs.length rows.flatten h2 ad 0 c [] (by simp) (λj u hj=>by simp at hj) (λu hu=>by cases hu) (by simpa using jj) (by simpa using l5) cW;exact⟨v',w',hr,qd w' v' rows [] hg hat uR h1 h3 rfl (λj r y hr=>by simp at hr) (by simpa using ho'),hg,hat⟩
 ·obtain⟨b,o',rfl,hcell⟩:=h6 hy;have hl:=bj.rows_len (w:=be w M) (B:=w.heap.size) h4 h5;obtain⟨v',w',hr,ho',hg,_,hat⟩:=run_append_own_at (P:=P) w base t ty e i z sz bytes ht hi hz kC gw kK al v xs.length rows.flatten h2 ⟨b,o',none⟩ ys.length c rows'.flatten (by rw[Fd rows' hl,h4]) hcell (λu hu=>by
   obtain⟨r,hr,Gu⟩:=List.mem_flatten.1 hu;obtain⟨j,hj,rfl⟩:=nQ.1 hr;exact tL _ _ _ _ (h5 j _ _ (aQ hj) (aQ (by omega))).2 u Gu) jj l5 cW
  exact⟨v',w',hr,qd w' v' rows rows' hg hat uR h1 h3 h4 h5 ho',hg,hat⟩
theorem H7{α:Type}{R:afQ α}{sz:Nat}{M:Nat->Prop}(w:World){o:Oper}{a:Act}{K:Act->World->Prop}{Q:Exit->Act->World->Prop}(s x:Operand)(t:TypeId)
 (ho:o.op = .call { callee:=.builtin .append,args:=#[s,x],argTypes:=#[t,t] })
 (base:Nat) (e:TypeId) (i:TypeInfo) (z:Value) (bytes:Nat) (ht:P.underlying t=some (.slice e)) (hi:P.info? e=some i) (hz:i.zero=some z) (kC:i.size=sz) (gw:i.bytes=bytes) (kK:z.cells.size=sz) (al:0<sz)
 (v:Value) (xs:List α) (hv:a.eval s=v) (hown:bN R sz e base M w v xs) (A:Option Addr) (c:Nat) (ys:List α) (hx:a.eval x = .slice A ys.length c) (dY:uF R sz M w A ys)
 (tL:∀ w B r y,R w B r y->∀ u∈r,u.oneCell'=true) (jj:xs.length+ys.length<=maxLen) (l5:(xs.length+ys.length) * bytes<=140737488355328) (cW:base<=w.heap.size) (hk:cL R) (hs:gb R) (hm:dD R)
 (h:∀ v' w',bN R sz e base (λk=>M k\/v'.ownBlock=some k) w' v' (xs++ys)->w.grownBy w' v.ownBlock->(v'.ownBlock=v.ownBlock\/v'.ownBlock=some w.heap.size)->K (a.put o.dst v') w'):o.wp P a w K Q:=by
 obtain⟨v',w',hr,h2,h4,h5⟩:=Yx (P:=P) w t o.type base e i z bytes ht hi hz kC gw kK al v xs hown A c ys dY tL jj l5 cW hk hs hm;unfold Oper.wp execOp;simp only[ho,resolve,invoke,builtin,Sem.run_bind,Sem.run_pure,Result.andThen_ok,List.map_toArray,List.map_cons,List.map_nil,hv,hx,hr];exact h v' w' h2 h4 h5
theorem ZW{α:Type}{R:afQ α}{sz:Nat}{M:Nat->Prop}(w:World){ops:Array Oper}{rest:List Oper}{o:Oper}{a:Act}{Q:Exit->Act->World->Prop}(fJ:o.guard=none)(s x:Operand)(t:TypeId)
 (ho:o.op = .call { callee:=.builtin .append,args:=#[s,x],argTypes:=#[t,t] })
 (base:Nat) (e:TypeId) (i:TypeInfo) (z:Value) (bytes:Nat) (ht:P.underlying t=some (.slice e)) (hi:P.info? e=some i) (hz:i.zero=some z) (kC:i.size=sz) (gw:i.bytes=bytes) (kK:z.cells.size=sz) (al:0<sz)
 (v:Value) (xs:List α) (hv:a.eval s=v) (hown:bN R sz e base M w v xs) (A:Option Addr) (c:Nat) (ys:List α) (hx:a.eval x = .slice A ys.length c) (dY:uF R sz M w A ys)
 (tL:∀ w B r y,R w B r y->∀ u∈r,u.oneCell'=true) (jj:xs.length+ys.length<=maxLen) (l5:(xs.length+ys.length) * bytes<=140737488355328) (cW:base<=w.heap.size) (hk:cL R) (hs:gb R) (hm:dD R)
 (h:∀ v' w',bN R sz e base (λk=>M k\/v'.ownBlock=some k) w' v' (xs++ys)->w.grownBy w' v.ownBlock->(v'.ownBlock=v.ownBlock\/v'.ownBlock=some w.heap.size)->wpList P ops Q rest (a.put o.dst v') w'):wpList P ops Q (o::rest) a w:=by
 refine wpList_plain fJ λK hK=>?_;exact H7 w s x t ho base e i z bytes ht hi hz kC gw kK al v xs hv hown A c ys hx dY tL jj l5 cW hk hs hm (λv' w' h1 h2 h3=>hK _ _ (h v' w' h1 h2 h3))
end
theorem WK(a b:ByteArray)(n m p q:Int)(w:World):(binOp .neq 128 (.agg #[.string a,.int .i64 n,.int .i64 m]) (.agg #[.string b,.int .i64 p,.int .i64 q])).run prog w = .ok (.bool (!(a.toList == b.toList&&(n == p&&m == q)))) w:=by
 have u3:=underlying3;have a3:=isAgg3;have z3:=sizeOf3;have u9:=underlying9;have a9:=isAgg9;have z9:=sizeOf9;have hS:prog.underlying 128=some (.struct (prog.fieldsOf 128)):=by kernel_rfl
 have hp:prog.stoodInHeld 128=false:=by kernel_rfl
 rw[run_neq_struct,show (10000:Nat)=9999+1 from rfl,run_equalIn_agg w 9999 128 _ _ hS hp];simp only[Program.fieldsOf,underlying128];go_simp;by_cases h0:a.toList=b.toList <;> by_cases h1:n=p <;> by_cases h2:m=q <;> simp[h0,h1,h2]
theorem R2{d x:Np.Datum}{a b:ByteArray}(ha:a.data.toList=d.text)(hb:b.data.toList=x.text):(!(a.toList == b.toList&&(d.n == x.n&&d.m == x.m)))=decide (d≠x):=by
 rw[dQ,dQ,ha,hb,Bool.eq_iff_iff];simp only[Bool.not_eq_true',Bool.and_eq_false_iff,beq_eq_false_iff_ne,Qa];obtain⟨t,n,m⟩:=d;obtain⟨t2,n2,m2⟩:=x;simp only[ne_eq,Np.Datum.mk.injEq,not_and];constructor
 ·rintro (h | h | h) rfl rfl
  ·exact absurd rfl h
  ·exact absurd rfl h
  ·exact h
 ·intro h;by_cases h1:t=t2
  ·by_cases h2:n=n2
   ·exact .inr (.inr (h h1 h2))
   ·exact .inr (.inl h2)
  ·exact .inl h1
theorem RT{α:Type}{xs ys:List α}{k:Nat}(h1:k<xs.length)(h2:k<ys.length)(h:xs.take k=ys.take k)(he:xs[k]=ys[k]):xs.take (k+1)=ys.take (k+1):=by
 rw[fQ h1,fQ h2,h,he]
theorem RS{α:Type}{xs ys:List α}{k:Nat}(hl:xs.length=ys.length)(hk:¬ k<xs.length)(h:xs.take k=ys.take k):xs=ys:=by
 rwa [kQ (by omega),kQ (by omega)] at h
theorem YK(s1 s2:ByteArray)(t1 l1 t2 l2:Int)(v1 v2:Value)(d1 d2:List Np.Datum)(w:World)(fS:SlR bW 3 w w.heap.size v1 d1)(iO:SlR bW 3 w w.heap.size v2 d2) :
 Calls prog 63 #[.agg #[.string s1,.int .i64 t1,.int .i64 l1,v1],.agg #[.string s2,.int .i64 t2,.int .i64 l2,v2]] w
  λe w'=>e = .returned (.bool (decide (s1=s2/\t1=t2/\l1=l2/\d1=d2)))/\Below w.heap.size w w':=by
 obtain⟨r,hr⟩:=abK (decide (s1=s2/\t1=t2/\l1=l2/\d1=d2));rw[hr];have HR:=jq hr;have wM:=jq fS;have gI:=jq iO;obtain⟨A1,c1,rfl,aW,bh⟩:=aj fS;obtain⟨A2,c2,rfl,db,cY⟩:=aj iO;have jW:Below w.heap.size w ((w.alloc (.cells #[.string s1,.int .i64 t1,.int .i64 l1,.slice A1 d1.length c1] 26)).alloc (.cells #[.string s2,.int .i64 t2,.int .i64 l2,.slice A2 d2.length c2] 26)):=((vQ _ _).alloc (bQ _) _).alloc (by simp) _;have ba:=jq jW;clear hr fS iO jW;have tH:∀ x y:Int,(x != y)=decide (x≠y):=λx y=>by by_cases h:x=y <;> simp[h]
 by_cases h1:s1=s2
 case neg=>
  have h1':¬ s1.toList=s2.toList:=λe=>h1 (jD (by rw[<-dQ,<-dQ];exact e));have HF:=jq (show r=false by rw[<-HR.out];simp[h1]);clear h1 tH;go_enter func63,ntmps63;go_wp2_with fail;go_ret;exact⟨ae HF.out.symm,ba.out⟩
 case pos=>
  subst h1;by_cases h2:t1=t2
  case neg=>
   have h2':(t1 != t2)=true:=by simpa using h2
   have HF:=jq (show r=false by rw[<-HR.out];simp[h2]);clear h2 tH;go_enter func63,ntmps63;go_wp2_with fail;go_ret;exact⟨ae HF.out.symm,ba.out⟩
  case pos=>
   subst h2;by_cases h3:l1=l2
   case neg=>
    have h3':(l1 != l2)=true:=by simpa using h3
    have HF:=jq (show r=false by rw[<-HR.out];simp[h3]);clear h3 tH;go_enter func63,ntmps63;go_wp2_with fail;go_ret;exact⟨ae HF.out.symm,ba.out⟩
   case pos=>
    subst h3;by_cases h4:d1.length=d2.length
    case neg=>
     have h4':((d1.length:Int) != (d2.length:Int))=true:=by rw[tH];simp;omega
     have HF:=jq (show r=false by rw[<-HR.out];simp;intro e;exact h4 (by rw[e]));clear h4 tH;go_enter func63,ntmps63;go_wp2_with fail;go_ret;exact⟨ae HF.out.symm,ba.out⟩
    case pos=>
     have h4':((d1.length:Int) != (d2.length:Int))=false:=by rw[tH];simp;omega
     have HL:=jq h4;clear h4 tH;go_enter func63,ntmps63;go_wp2_with fail;have am:((w.alloc (.cells #[.string s1,.int .i64 t1,.int .i64 l1,.slice A1 d1.length c1] 26)).alloc (.cells #[.string s1,.int .i64 t1,.int .i64 l1,.slice A2 d2.length c2] 26)).heap.size=w.heap.size+1+1:=by simp
     have q1:((w.alloc (.cells #[.string s1,.int .i64 t1,.int .i64 l1,.slice A1 d1.length c1] 26)).alloc (.cells #[.string s1,.int .i64 t1,.int .i64 l1,.slice A2 d2.length c2] 26)).cell? ⟨w.heap.size,3,none⟩=some (.slice A1 d1.length c1):=by simp[go_sem]
     have q2:((w.alloc (.cells #[.string s1,.int .i64 t1,.int .i64 l1,.slice A1 d1.length c1] 26)).alloc (.cells #[.string s1,.int .i64 t1,.int .i64 l1,.slice A2 d2.length c2] 26)).cell? ⟨w.heap.size+1,3,none⟩=some (.slice A2 d2.length c2):=by simp[go_sem]
     generalize iw:((w.alloc (.cells #[.string s1,.int .i64 t1,.int .i64 l1,.slice A1 d1.length c1] 26)).alloc (.cells #[.string s1,.int .i64 t1,.int .i64 l1,.slice A2 d2.length c2] 26))=wa at *;have HQ:=jq (And.intro q1 (And.intro q2 am));clear iw q1 q2 am;go_loopw [5] (λi wr=>∃ k:Nat,k<=d1.length/\i = .int .i64 k/\Hid (d1.take k=d2.take k)/\Hid (Below wa.heap.size wa wr)) (λi _=>d1.length - (intOf i).toNat)
     case atStart=>exact⟨0,jQ _,rfl,jq rfl,jq (vQ _ _)⟩
     case round=>
      obtain⟨k,hk,rfl,HN,HB⟩:=hrel;have aI:=ba.out.trans (HB.out.mono ba.out.size);have ql:=HQ.out;have g1:=abZ HB.out ql.1;have g2:=abZ HB.out ql.2.1;clear ql;by_cases aa:k<d1.length
      ·have lC:k<d2.length:=by have:=HL.out;omega
       obtain⟨b,o,c',s,hv,bq,_,bd,_,e0,e1,e2⟩:=E3 wM.out (aQ aa);simp only[Value.slice.injEq,true_and] at hv;obtain⟨rfl,rfl⟩:=hv;obtain⟨b',o',c'',s',hv,tk,_,fU,_,f0,f1,f2⟩:=E3 gI.out (aQ lC);simp only[Value.slice.injEq,true_and] at hv;obtain⟨rfl,rfl⟩:=hv;have HT:=jq (RT aa lC HN.out);have ie:=jq (show d1[k]≠d2[k]->r=false from λhne=>by rw[<-HR.out];simp;intro e;subst e;exact hne rfl);generalize d1[k]=x at *;generalize d2[k]=y at *;replace e0:=(aI.cell (p:=⟨b,o+k * 3,none⟩) bq).trans e0;replace e1:=(aI.cell (p:=⟨b,o+k * 3+1,none⟩) bq).trans e1;replace e2:=(aI.cell (p:=⟨b,o+k * 3+2,none⟩) bq).trans e2;replace f0:=(aI.cell (p:=⟨b',o'+k * 3,none⟩) tk).trans f0;replace f1:=(aI.cell (p:=⟨b',o'+k * 3+1,none⟩) tk).trans f1;replace f2:=(aI.cell (p:=⟨b',o'+k * 3+2,none⟩) tk).trans f2;have bL:(0:Int)<=(k:Int):=by omega
       have bY:(k:Int)<(d1.length:Int):=by omega
       have ir:(k:Int)<(d2.length:Int):=by omega
       have heq:=WK s s' x.n x.m y.n y.m;rw[R2 bd fU] at heq;clear aI bd fU;by_cases hx:x=y
       ·have HX:=jq hx;have jw:decide (x≠y)=false:=by simpa using hx
        rw[jw] at heq;clear hx jw;go_wp2_with fail;go_quiet (fail);go_wp2_with fail;go_roundw
        case rel=>exact⟨k+1,by omega,by go_num,jq (HT.out HX.out),jq (below_drewN HB.out _)⟩
        case measure=>simp[intOf] <;> omega
       ·have HX:=jq hx;have jw:decide (x≠y)=true:=by simpa using hx
        rw[jw] at heq;clear hx jw;go_wp2_with fail;go_quiet (fail);go_wp2_with fail;go_ret;exact⟨ae (ie.out HX.out).symm,below_drewN (ba.out.trans (HB.out.mono ba.out.size)) _⟩
      ·go_wp2_with fail;go_ret;refine⟨ae ?_,ba.out.trans (HB.out.mono ba.out.size)⟩;rw[<-HR.out]
       have:=RS HL.out aa HN.out
       simp[this]
end
section
open Go.RowKit Go.Shelf
attribute [local go_sem] Oper.semAt_some
theorem Tryz.infoInt:(prog.info? 3).map (λi=>(i.zero,i.size,i.bytes))=some (some (.int .i64 0),1,8):=by kernel_rfl
def OS(b s l d f:Int)(k:Nat):Prop:=(1<=k->0<=d/\d<=1000)/\(2<=k->1<=s/\s<=10000000)/\(3<=k->d<=b/\b<=s - 1)/\(4<=k->1<=l/\l<=10000000)/\(5<=k->0<=f/\f<=100000)
theorem pb{b s l d f:Int}(h:¬ (0<=d/\d<=1000/\1<=s/\s<=10000000/\d<=b/\b<=s - 1/\1<=l/\l<=10000000/\0<=f/\f<=100000)):Np.kP b s l d f=1:=by
 unfold Np.kP;rw[Qc (show ¬ Np.At b s l d f from h)]
theorem ud{b s l d f n:Int}(h:Np.kP b s l d f=n)(hn:n≠0):Np.times b s l d f = []:=by
 unfold Np.times;rw[Qc (by omega)]
def TmI(w:World)(lb:Nat)(pre:List Int)(S:Nat->Prop)(W:World):Prop:=
 ∃ v,(∀ k,S k↔(k=w.heap.size\/k=w.heap.size+1)\/k=lb\/v.ownBlock=some k)/\Boxed W w.heap.size 27 (.slice none 0 0)/\Boxed W (w.heap.size+1) 37 (.int .i64 0)/\Boxed W lb 27 v/\
   W.ownsRow (lb+1) 3 1 v pre.length (pre.map (Value.int .i64))/\pre.length<=400/\Below w.heap.size w W
def TmX(w:World)(xs:List Int)(c:Code)(_:List Int)(S:Nat->Prop)(W:World):Prop:=
 c = .ret/\(S w.heap.size/\S (w.heap.size+1))/\Boxed W w.heap.size 27 (.slice none 0 0)/\Boxed W (w.heap.size+1) 37 (.int .i64 2)/\400<xs.length/\Below w.heap.size w W
theorem Ok(w:World)(lb B:Nat)(hB:w.heap.size<=B):eq B (TmI w lb):=by
 rintro pre S W W' ⟨v,hS,h1,h2,h3,h4,h5,h6⟩ av;exact⟨v,hS,fL h1 av ((hS _).2 (.inl (.inl rfl))),fL h2 av ((hS _).2 (.inl (.inr rfl))),fL h3 av ((hS _).2 (.inr (.inl rfl))),MW h4 av (λg hg=>(hS _).2 (.inr (.inr hg))),h5,qV h6 av hB (bQ _)⟩
theorem Zp(w:World)(xs:List Int)(B:Nat)(hB:w.heap.size<=B)(c:Code):eq B (TmX w xs c):=by
 rintro pre S W W' ⟨hc,hS,h1,h2,h3,h4⟩ av;exact⟨hc,hS,fL h1 av hS.1,fL h2 av hS.2,h3,qV h4 av hB (bQ _)⟩
theorem Di(b s l d f:Int)(w:World) :
 Calls prog 39 #[.int .i64 b,.int .i64 s,.int .i64 l,.int .i64 d,.int .i64 f] w (AD gL 1 w (Np.times b s l d f) (Np.kP b s l d f)):=by
 obtain⟨r,hr⟩:=abK (wrap64 (s - 1));have i0:∀ w,(Instr.index 146 (.agg #[.int .i64 d,.int .i64 0,.int .i64 1000,.int .i64 s,.int .i64 1,.int .i64 10000000,.int .i64 b,.int .i64 d,.int .i64 r,.int .i64 l,.int .i64 1,.int .i64 10000000,.int .i64 f,.int .i64 0,.int .i64 100000]) (.int .i64 0)).run prog w = .ok (.agg #[.int .i64 d,.int .i64 0,.int .i64 1000]) w:=λ_=>by kernel_rfl
 have i1:∀ w,(Instr.index 146 (.agg #[.int .i64 d,.int .i64 0,.int .i64 1000,.int .i64 s,.int .i64 1,.int .i64 10000000,.int .i64 b,.int .i64 d,.int .i64 r,.int .i64 l,.int .i64 1,.int .i64 10000000,.int .i64 f,.int .i64 0,.int .i64 100000]) (.int .i64 1)).run prog w = .ok (.agg #[.int .i64 s,.int .i64 1,.int .i64 10000000]) w:=λ_=>by kernel_rfl
 have i2:∀ w,(Instr.index 146 (.agg #[.int .i64 d,.int .i64 0,.int .i64 1000,.int .i64 s,.int .i64 1,.int .i64 10000000,.int .i64 b,.int .i64 d,.int .i64 r,.int .i64 l,.int .i64 1,.int .i64 10000000,.int .i64 f,.int .i64 0,.int .i64 100000]) (.int .i64 2)).run prog w = .ok (.agg #[.int .i64 b,.int .i64 d,.int .i64 r]) w:=λ_=>by kernel_rfl
 have i3:∀ w,(Instr.index 146 (.agg #[.int .i64 d,.int .i64 0,.int .i64 1000,.int .i64 s,.int .i64 1,.int .i64 10000000,.int .i64 b,.int .i64 d,.int .i64 r,.int .i64 l,.int .i64 1,.int .i64 10000000,.int .i64 f,.int .i64 0,.int .i64 100000]) (.int .i64 3)).run prog w = .ok (.agg #[.int .i64 l,.int .i64 1,.int .i64 10000000]) w:=λ_=>by kernel_rfl
 have i4:∀ w,(Instr.index 146 (.agg #[.int .i64 d,.int .i64 0,.int .i64 1000,.int .i64 s,.int .i64 1,.int .i64 10000000,.int .i64 b,.int .i64 d,.int .i64 r,.int .i64 l,.int .i64 1,.int .i64 10000000,.int .i64 f,.int .i64 0,.int .i64 100000]) (.int .i64 4)).run prog w = .ok (.agg #[.int .i64 f,.int .i64 0,.int .i64 100000]) w:=λ_=>by kernel_rfl
 refine (callsIn_wide (n:=0)).1 ?_;refine callsIn_of_wp_marks func39 rfl trivial ?_ rfl;simp only[ntmps39,List.size_toArray,List.length_cons,List.length_nil,Nat.reduceAdd,Nat.reduceSub,Array.replicate_succ,Array.replicate_zero,List.push_toArray,List.append_toArray,List.nil_append,List.cons_append];gi_wp2_with fail;have HR:=jq hr;clear hr;have q0:Boxed (((w.alloc (.cells #[.slice none 0 0] 27)).alloc (.cells #[.int .i64 0] 37)).alloc (.cells #[.int .i64 d,.int .i64 0,.int .i64 1000,.int .i64 s,.int .i64 1,.int .i64 10000000,.int .i64 b,.int .i64 d,.int .i64 r,.int .i64 l,.int .i64 1,.int .i64 10000000,.int .i64 f,.int .i64 0,.int .i64 100000] 146)) w.heap.size 27 (.slice none 0 0):=((Boxed.new w _ _).alloc _).alloc _;have q1:Boxed (((w.alloc (.cells #[.slice none 0 0] 27)).alloc (.cells #[.int .i64 0] 37)).alloc (.cells #[.int .i64 d,.int .i64 0,.int .i64 1000,.int .i64 s,.int .i64 1,.int .i64 10000000,.int .i64 b,.int .i64 d,.int .i64 r,.int .i64 l,.int .i64 1,.int .i64 10000000,.int .i64 f,.int .i64 0,.int .i64 100000] 146)) (w.heap.size+1) 37 (.int .i64 0):=by
  have:=(Boxed.new (w.alloc (.cells #[.slice none 0 0] 27)) 37 (.int .i64 0)).alloc (.cells #[.int .i64 d,.int .i64 0,.int .i64 1000,.int .i64 s,.int .i64 1,.int .i64 10000000,.int .i64 b,.int .i64 d,.int .i64 r,.int .i64 l,.int .i64 1,.int .i64 10000000,.int .i64 f,.int .i64 0,.int .i64 100000] 146)
  simpa only[World.size_alloc] using this
 have tj:Below w.heap.size w (((w.alloc (.cells #[.slice none 0 0] 27)).alloc (.cells #[.int .i64 0] 37)).alloc (.cells #[.int .i64 d,.int .i64 0,.int .i64 1000,.int .i64 s,.int .i64 1,.int .i64 10000000,.int .i64 b,.int .i64 d,.int .i64 r,.int .i64 l,.int .i64 1,.int .i64 10000000,.int .i64 f,.int .i64 0,.int .i64 100000] 146)):=(((vQ _ w).alloc (bQ _) _).alloc (by simp) _).alloc (by simp;omega) _;have rE:w.heap.size+2<(((w.alloc (.cells #[.slice none 0 0] 27)).alloc (.cells #[.int .i64 0] 37)).alloc (.cells #[.int .i64 d,.int .i64 0,.int .i64 1000,.int .i64 s,.int .i64 1,.int .i64 10000000,.int .i64 b,.int .i64 d,.int .i64 r,.int .i64 l,.int .i64 1,.int .i64 10000000,.int .i64 f,.int .i64 0,.int .i64 100000] 146)).heap.size:=by simp <;> omega
 generalize ((w.alloc (.cells #[.slice none 0 0] 27)).alloc (.cells #[.int .i64 0] 37)).alloc (.cells #[.int .i64 d,.int .i64 0,.int .i64 1000,.int .i64 s,.int .i64 1,.int .i64 10000000,.int .i64 b,.int .i64 d,.int .i64 r,.int .i64 l,.int .i64 1,.int .i64 10000000,.int .i64 f,.int .i64 0,.int .i64 100000] 146)=W0 at q0 q1 tj rE |-;have HW:=jq tj;clear tj;gi_loopw [34] (λi wr=>∃ k:Nat,k<=5/\i = .int .i64 k/\Below W0.heap.size W0 wr/\Hid (OS b s l d f k)) (λi _=>5 - (intOf i).toNat)
 case atStart=>exact⟨0,by omega,rfl,vQ _ _,jq ⟨by omega,by omega,by omega,by omega,by omega⟩⟩
 case round=>
  obtain⟨k,hk,rfl,bO,HP⟩:=hrel;have HB:=jq bO;have kD:=bO.size;clear bO;rcases (by omega:k=0\/k=1\/k=2\/k=3\/k=4\/k=5) with rfl | rfl | rfl | rfl | rfl | rfl
  ·
   by_cases hd:0<=d/\d<=1000
   ·gi_wp2_with (refine⟨trivial,rfl,?_⟩;gi_at_call 79;refine (callsIn_wide.2 (li _ _ _ _)).mono ?_;rintro e w' ⟨rfl,hb⟩);go_roundw
    case rel=>exact⟨1,by omega,rfl,HB.out.trans (((vQ _ wr).alloc (bQ _) _).trans (hb.mono (by simp)) |>.mono kD),jq ⟨λ_=>hd,by omega,by omega,by omega,by omega⟩⟩
    case measure=>simp[intOf] <;> omega
   ·have hd':(decide (0<=d)&&decide (d<=1000))=false:=by simp;omega
    gi_wp2_with (refine⟨trivial,rfl,?_⟩;gi_at_call 79;refine (callsIn_wide.2 (li _ _ _ _)).mono ?_;rintro e w' ⟨rfl,hb⟩;have bM:=bB (aeQ q0 HB.out) (((vQ wr.heap.size wr).alloc (bQ _) _).trans (hb.mono (by simp))) (by omega);have bA:=bB (aeQ q1 HB.out) (((vQ wr.heap.size wr).alloc (bQ _) _).trans (hb.mono (by simp))) (by omega);have y0:=bM.cell;have y1:=bM.frozen;have y2:=bA.cell;have y3:=bA.frozen)
    all_goals first
     | (exfalso;omega)
     | (have z0:=(bK (bM.set (.slice none 0 0)) (p:=⟨w.heap.size+1,0,none⟩) (by simp) (.int .i64 1)).cell
        have z1:=((bK bA (p:=⟨w.heap.size,0,none⟩) (by simp) (.slice none 0 0)).set (.int .i64 1)).cell;refine lY (v:=.tuple #[.slice none 0 0,.int .i64 1]) (by simp[results,results39,go_sem,z0,z1]) ?_;refine nG ?_ (ud (pb (by omega)) (by omega)) (pb (by omega));refine Below.setCell (Below.setCell ?_ (by simp) _) (by simp <;> omega) _;exact HW.out.trans ((HB.out.trans (((vQ _ wr).alloc (bQ _) _).trans (hb.mono (by simp)) |>.mono kD)).acQ))
  ·
   by_cases hd:1<=s/\s<=10000000
   ·gi_wp2_with (refine⟨trivial,rfl,?_⟩;gi_at_call 79;refine (callsIn_wide.2 (li _ _ _ _)).mono ?_;rintro e w' ⟨rfl,hb⟩);go_roundw
    case rel=>exact⟨2,by omega,rfl,HB.out.trans (((vQ _ wr).alloc (bQ _) _).trans (hb.mono (by simp)) |>.mono kD),jq ⟨λ_=>HP.out.1 (by omega),λ_=>hd,by omega,by omega,by omega⟩⟩
    case measure=>simp[intOf] <;> omega
   ·have hd':(decide (1<=s)&&decide (s<=10000000))=false:=by simp;omega
    gi_wp2_with (refine⟨trivial,rfl,?_⟩;gi_at_call 79;refine (callsIn_wide.2 (li _ _ _ _)).mono ?_;rintro e w' ⟨rfl,hb⟩;have bM:=bB (aeQ q0 HB.out) (((vQ wr.heap.size wr).alloc (bQ _) _).trans (hb.mono (by simp))) (by omega);have bA:=bB (aeQ q1 HB.out) (((vQ wr.heap.size wr).alloc (bQ _) _).trans (hb.mono (by simp))) (by omega);have y0:=bM.cell;have y1:=bM.frozen;have y2:=bA.cell;have y3:=bA.frozen)
    all_goals first
     | (exfalso;omega)
     | (have z0:=(bK (bM.set (.slice none 0 0)) (p:=⟨w.heap.size+1,0,none⟩) (by simp) (.int .i64 1)).cell
        have z1:=((bK bA (p:=⟨w.heap.size,0,none⟩) (by simp) (.slice none 0 0)).set (.int .i64 1)).cell;refine lY (v:=.tuple #[.slice none 0 0,.int .i64 1]) (by simp[results,results39,go_sem,z0,z1]) ?_;refine nG ?_ (ud (pb (by omega)) (by omega)) (pb (by omega));refine Below.setCell (Below.setCell ?_ (by simp) _) (by simp <;> omega) _;exact HW.out.trans ((HB.out.trans (((vQ _ wr).alloc (bQ _) _).trans (hb.mono (by simp)) |>.mono kD)).acQ))
  ·
   have fU:=HP.out.2.1 (by omega);have Gk:r=s - 1:=by rw[<-HR.out];exact IntWalk.wrap64_in _ ⟨by omega,by omega⟩
   subst Gk;by_cases hd:d<=b/\b<=s - 1
   ·gi_wp2_with (refine⟨trivial,rfl,?_⟩;gi_at_call 79;refine (callsIn_wide.2 (li _ _ _ _)).mono ?_;rintro e w' ⟨rfl,hb⟩);go_roundw
    case rel=>exact⟨3,by omega,rfl,HB.out.trans (((vQ _ wr).alloc (bQ _) _).trans (hb.mono (by simp)) |>.mono kD),jq ⟨λ_=>HP.out.1 (by omega),λ_=>HP.out.2.1 (by omega),λ_=>hd,by omega,by omega⟩⟩
    case measure=>simp[intOf] <;> omega
   ·have hd':(decide (d<=b)&&decide (b<=s - 1))=false:=by simp;omega
    gi_wp2_with (refine⟨trivial,rfl,?_⟩;gi_at_call 79;refine (callsIn_wide.2 (li _ _ _ _)).mono ?_;rintro e w' ⟨rfl,hb⟩;have bM:=bB (aeQ q0 HB.out) (((vQ wr.heap.size wr).alloc (bQ _) _).trans (hb.mono (by simp))) (by omega);have bA:=bB (aeQ q1 HB.out) (((vQ wr.heap.size wr).alloc (bQ _) _).trans (hb.mono (by simp))) (by omega);have y0:=bM.cell;have y1:=bM.frozen;have y2:=bA.cell;have y3:=bA.frozen)
    all_goals first
     | (exfalso;omega)
     | (have z0:=(bK (bM.set (.slice none 0 0)) (p:=⟨w.heap.size+1,0,none⟩) (by simp) (.int .i64 1)).cell
        have z1:=((bK bA (p:=⟨w.heap.size,0,none⟩) (by simp) (.slice none 0 0)).set (.int .i64 1)).cell;refine lY (v:=.tuple #[.slice none 0 0,.int .i64 1]) (by simp[results,results39,go_sem,z0,z1]) ?_;refine nG ?_ (ud (pb (by omega)) (by omega)) (pb (by omega));refine Below.setCell (Below.setCell ?_ (by simp) _) (by simp <;> omega) _;exact HW.out.trans ((HB.out.trans (((vQ _ wr).alloc (bQ _) _).trans (hb.mono (by simp)) |>.mono kD)).acQ))
  ·
   by_cases hd:1<=l/\l<=10000000
   ·gi_wp2_with (refine⟨trivial,rfl,?_⟩;gi_at_call 79;refine (callsIn_wide.2 (li _ _ _ _)).mono ?_;rintro e w' ⟨rfl,hb⟩);go_roundw
    case rel=>exact⟨4,by omega,rfl,HB.out.trans (((vQ _ wr).alloc (bQ _) _).trans (hb.mono (by simp)) |>.mono kD),jq ⟨λ_=>HP.out.1 (by omega),λ_=>HP.out.2.1 (by omega),λ_=>HP.out.2.2.1 (by omega),λ_=>hd,by omega⟩⟩
    case measure=>simp[intOf] <;> omega
   ·have hd':(decide (1<=l)&&decide (l<=10000000))=false:=by simp;omega
    gi_wp2_with (refine⟨trivial,rfl,?_⟩;gi_at_call 79;refine (callsIn_wide.2 (li _ _ _ _)).mono ?_;rintro e w' ⟨rfl,hb⟩;have bM:=bB (aeQ q0 HB.out) (((vQ wr.heap.size wr).alloc (bQ _) _).trans (hb.mono (by simp))) (by omega);have bA:=bB (aeQ q1 HB.out) (((vQ wr.heap.size wr).alloc (bQ _) _).trans (hb.mono (by simp))) (by omega);have y0:=bM.cell;have y1:=bM.frozen;have y2:=bA.cell;have y3:=bA.frozen)
    all_goals first
     | (exfalso;omega)
     | (have z0:=(bK (bM.set (.slice none 0 0)) (p:=⟨w.heap.size+1,0,none⟩) (by simp) (.int .i64 1)).cell
        have z1:=((bK bA (p:=⟨w.heap.size,0,none⟩) (by simp) (.slice none 0 0)).set (.int .i64 1)).cell;refine lY (v:=.tuple #[.slice none 0 0,.int .i64 1]) (by simp[results,results39,go_sem,z0,z1]) ?_;refine nG ?_ (ud (pb (by omega)) (by omega)) (pb (by omega));refine Below.setCell (Below.setCell ?_ (by simp) _) (by simp <;> omega) _;exact HW.out.trans ((HB.out.trans (((vQ _ wr).alloc (bQ _) _).trans (hb.mono (by simp)) |>.mono kD)).acQ))
  ·
   by_cases hd:0<=f/\f<=100000
   ·gi_wp2_with (refine⟨trivial,rfl,?_⟩;gi_at_call 79;refine (callsIn_wide.2 (li _ _ _ _)).mono ?_;rintro e w' ⟨rfl,hb⟩);go_roundw
    case rel=>exact⟨5,by omega,rfl,HB.out.trans (((vQ _ wr).alloc (bQ _) _).trans (hb.mono (by simp)) |>.mono kD),jq ⟨λ_=>HP.out.1 (by omega),λ_=>HP.out.2.1 (by omega),λ_=>HP.out.2.2.1 (by omega),λ_=>HP.out.2.2.2.1 (by omega),λ_=>hd⟩⟩
    case measure=>simp[intOf] <;> omega
   ·have hd':(decide (0<=f)&&decide (f<=100000))=false:=by simp;omega
    gi_wp2_with (refine⟨trivial,rfl,?_⟩;gi_at_call 79;refine (callsIn_wide.2 (li _ _ _ _)).mono ?_;rintro e w' ⟨rfl,hb⟩;have bM:=bB (aeQ q0 HB.out) (((vQ wr.heap.size wr).alloc (bQ _) _).trans (hb.mono (by simp))) (by omega);have bA:=bB (aeQ q1 HB.out) (((vQ wr.heap.size wr).alloc (bQ _) _).trans (hb.mono (by simp))) (by omega);have y0:=bM.cell;have y1:=bM.frozen;have y2:=bA.cell;have y3:=bA.frozen)
    all_goals first
     | (exfalso;omega)
     | (have z0:=(bK (bM.set (.slice none 0 0)) (p:=⟨w.heap.size+1,0,none⟩) (by simp) (.int .i64 1)).cell
        have z1:=((bK bA (p:=⟨w.heap.size,0,none⟩) (by simp) (.slice none 0 0)).set (.int .i64 1)).cell;refine lY (v:=.tuple #[.slice none 0 0,.int .i64 1]) (by simp[results,results39,go_sem,z0,z1]) ?_;refine nG ?_ (ud (pb (by omega)) (by omega)) (pb (by omega));refine Below.setCell (Below.setCell ?_ (by simp) _) (by simp <;> omega) _;exact HW.out.trans ((HB.out.trans (((vQ _ wr).alloc (bQ _) _).trans (hb.mono (by simp)) |>.mono kD)).acQ))
  ·obtain⟨⟨fS,iO⟩,⟨bd,fU⟩,⟨an,ab⟩,⟨bh,cY⟩,⟨nO,FZ⟩⟩:=(⟨HP.out.1 (by omega),HP.out.2.1 (by omega),HP.out.2.2.1 (by omega),HP.out.2.2.2.1 (by omega),HP.out.2.2.2.2 (by omega)⟩:(0<=d/\d<=1000)/\(1<=s/\s<=10000000)/\(d<=b/\b<=s - 1)/\(1<=l/\l<=10000000)/\(0<=f/\f<=100000));have KY:Np.At b s l d f:=⟨fS,iO,bd,fU,an,ab,bh,cY,nO,FZ⟩;have HA:=jq KY;have p0:=aeQ q0 HB.out;have p1:=aeQ q1 HB.out;have aI:Below w.heap.size w wr:=HW.out.trans (HB.out.acQ);have al:w.heap.size+2<wr.heap.size:=by omega
   have aL:=jq aI;clear KY q0 q1 aI i0 i1 i2 i3 i4;have y0:=p0.cell;have y1:=p0.frozen;have y2:=p1.cell;have y3:=p1.frozen;by_cases hm:f<1
   all_goals
    gi_wp2_with fail
    ·have z0:=(bK (p0.set (.slice none 0 0)) (p:=⟨w.heap.size+1,0,none⟩) (by simp) (.int .i64 32)).cell;have z1:=((bK p1 (p:=⟨w.heap.size,0,none⟩) (by simp) (.slice none 0 0)).set (.int .i64 32)).cell;refine lY (v:=.tuple #[.slice none 0 0,.int .i64 32]) (by simp[results,results39,go_sem,z0,z1]) ?_;have he:Np.kP b s l d f=32:=by unfold Np.kP;rw[Qb HA.out,Qb (by unfold Np.vZ;omega)]
     exact nG (Below.setCell (Below.setCell aL.out (by simp) _) (by simp <;> omega) _) (ud he (by omega)) he
    ·have rJ:Np.vZ l d f=l - max f 1 - 3 * d+2:=rfl;obtain⟨st,hq,L0,U2,U1⟩:∃ st,l - max f 1 - 3 * d+2=st/\Np.vZ l d f=st/\1<=st/\st<=20000000:=⟨_,rfl,rJ,by omega,by omega⟩;rw[hq];have cP:=jq L0;clear hq rJ L0;have b2:=Boxed.new wr 27 (.slice none 0 0);have bO:Below w.heap.size w (wr.alloc (.cells #[.slice none 0 0] 27)):=aL.out.alloc (by omega) _;refine AA (n₀:=w.heap.size) (w0:=w) (first:=#[.agg #[.int .i64 b,.int .i64 s,.int .i64 st]]) (captured:=#[]) (gf:=83) rfl (enters_of func83 (by kernel_rfl) rfl)
      (mk:=λy=>#[.agg #[.int .i64 b,.int .i64 s,.int .i64 st],y]) (λ_=>rfl) (Zn b s st U2 U1 (by omega) fU (by omega) _ w) bO (by simp;omega) (λ_=>rfl) (TmI w wr.heap.size) (TmX w (Np.fz b s st))
      (Ok _ _ _ (by simp;omega)) (λc=>Zp _ _ _ (by simp;omega) c)
      (λk=>(k=w.heap.size\/k=w.heap.size+1)\/k=wr.heap.size\/(Value.slice none 0 0).ownBlock=some k) (by intro k h;simp[Value.ownBlock] at h;omega) (by intro k h;simp[Value.ownBlock] at h;simp;omega)
      ⟨_,λ_=>Iff.rfl,p0.alloc _,p1.alloc _,b2,World.ownsRow_nil _ _ _ _,by simp,bO⟩ ?round ?done ?stop
     case round=>
      rintro l0 pre x S W aU hI eW;gi_wp2;refine⟨S,RdStep.refl _ _,λk e=>.inl e,eW,?_⟩;intro lp W₂ av;obtain⟨v,hS,c0,c1,c2,hrow,SW,hB⟩:=Ok w _ _ (by simp;omega) pre S W W₂ hI av;obtain⟨A,cap,rfl⟩:=qz hrow;have c0c:=c0.cell;have c1c:=c1.cell;have c2c:=c2.cell;have c0f:=c0.frozen;have c1f:=c1.frozen;have c2f:=c2.frozen;have eB:∀ k,S k->k<W₂.heap.size:=λk e=>lQ (eW k e) av.size;have qu:pre.length+1<=(Np.fz b s st).length:=by have:=aU.length_le;simpa using this
      have HI:=jq hI;have HS:=jq hS;have alX:=c2.lt;have AO:=jq c0;have dg:=jq c1;have dJ:=jq c2;have lN:=jq hrow;have HB:=jq hB;have mC:=jq aU;obtain⟨i0,hi,dI,bg,aO⟩:=info_parts Tryz.infoInt;clear hI hS aU av c0 c1 c2 hrow hB;by_cases h4:pre.length=400
      ·have h4':((pre.length:Int) == 400)=true:=by simp[h4]
       have H4:=jq h4;clear h4;gi_wp2_with fail;refine⟨S,?_,λk e=>.inl e,λk e=>?_,?_⟩
       ·exact ((RdStep.refl S W₂).setCell (p:=⟨w.heap.size,0,none⟩) (.inl ((HS.out _).2 (.inl (.inl rfl)))) _).setCell (p:=⟨w.heap.size+1,0,none⟩) (.inl ((HS.out _).2 (.inl (.inr rfl)))) _
       ·have:=eB k e;simpa [World.setCell] using this
       ·exact⟨rfl,⟨(HS.out _).2 (.inl (.inl rfl)),(HS.out _).2 (.inl (.inr rfl))⟩,bK (AO.out.set _) (p:=⟨w.heap.size+1,0,none⟩) (by simp) _,(bK dg.out (p:=⟨w.heap.size,0,none⟩) (by simp) _).set _,by have:=H4.out;omega,(HB.out.setCell (p:=⟨w.heap.size,0,none⟩) (by simp) _).setCell (p:=⟨w.heap.size+1,0,none⟩) (by simp) _⟩
      ·have h4':((pre.length:Int) == 400)=false:=by simp;omega
       gi_wp2_with (gi_at_builtin;refine OE _ rfl _ _ 27 rfl (wr.heap.size+1) 3 i0 (.int .i64 0) 1 8 underlying27 hi dI bg aO rfl (by decide) _ _ _ rfl (lN.out.alloc _) ⟨W₂.heap.size,0,none⟩ 1 1 [.int .i64 x] rfl rfl (cell_one_new _ _ _) (by simp[Value.oneCell']) (by unfold maxLen;omega) (by omega) (by simp;omega) ?_;intro v' w1 jo mR hat;obtain⟨g',cap',rfl⟩:=ownsRow_succ jo;obtain⟨zD,qp,Gk,aA,aM,lC,hold⟩:=Rc (F:=λk=>k=w.heap.size\/k=w.heap.size+1) HS.out (by intro i h;omega) dJ.out lN.out jo mR hat;have aW:=zD.cell;have nO:=zD.frozen);refine⟨_,aA,aM,lC,_,λ_=>Iff.rfl,(hold _ (by omega)).trans AO.out,(hold _ (by omega)).trans dg.out,qp,by simpa using Gk,by simp;omega,?_⟩;exact HB.out.trans (aA.below (by have:=HB.out.size;omega) (λk e=>by have:=(HS.out k).1 e;rcases this with (h | h) | h | h;omega;omega;omega;exact yQ (by omega) (CT lN.out k h).1))
     case done=>
      rintro D S W hD ew aM ⟨v,hS,c0,c1,c2,hrow,SW,hB⟩ hK;have c0c:=c0.cell;have c1c:=c1.cell;have c2c:=c2.cell;have c0f:=c0.frozen;have c1f:=c1.frozen;have pO:w.heap.size≠D:=λe=>ew ((hS _).2 (.inl (.inl e.symm)));have pR:w.heap.size+1≠D:=λe=>ew ((hS _).2 (.inl (.inr e.symm)));obtain⟨A,cap,rfl⟩:=qz hrow;have lN:=jq hrow;have HS:=jq hS;clear hrow hS aM;gi_wp2;have he:Np.kP b s l d f=0:=by unfold Np.kP;rw[Qb HA.out,cP.out,Qc (by omega),Qc (by omega)]
      have ht:Np.times b s l d f=Np.fz b s st:=by unfold Np.times;rw[Qb he,cP.out]
      have hK':((W.setCell ⟨w.heap.size,0,none⟩ (.slice A (Np.fz b s st).length cap)).setCell ⟨w.heap.size+1,0,none⟩ (.int .i64 0)).heap[D]?=some (.deferred (some [])):=(wQ _ _ _ _ (by simpa using pR.symm)).trans ((wQ _ _ _ _ (by simpa using pO.symm)).trans hK);have z0:=(nF (bK (c0.set (.slice A (Np.fz b s st).length cap)) (p:=⟨w.heap.size+1,0,none⟩) (by simp) (.int .i64 0)) pO (.deferred none)).cell;have z1:=(nF ((bK c1 (p:=⟨w.heap.size,0,none⟩) (by simp) (.slice A (Np.fz b s st).length cap)).set (.int .i64 0)) pR (.deferred none)).cell;refine mN hK' (v:=.tuple #[.slice A (Np.fz b s st).length cap,.int .i64 0]) (by simp[results,results39,go_sem,z0,z1]) ?_;have Gm:(((W.setCell ⟨w.heap.size,0,none⟩ (.slice A (Np.fz b s st).length cap)).setCell ⟨w.heap.size+1,0,none⟩ (.int .i64 0)).putObj D (.deferred none)).ownsRow (wr.heap.size+1) 3 1 (.slice A (Np.fz b s st).length cap) (Np.fz b s st).length ((Np.fz b s st).flatMap λx=>[.int .i64 x]):=by
       rw[<-CN];refine cM lN.out (λg hg=>?_);have pZ:=(CT lN.out g hg).1;rw[zQ (λe=>ew (by rw[<-e];exact (HS.out _).2 (.inr (.inr hg)))),wQ _ _ _ _ (by simp;omega),wQ _ _ _ _ (by simp;omega)]
      refine⟨_,by rw[he],?_,?_⟩
      ·rw[ht];exact Ai (R:=gL) _ (by simp) Gm (by omega) (by simp[gL])
      ·exact mK ((hB.setCell (p:=⟨w.heap.size,0,none⟩) (by simp) _).setCell (p:=⟨w.heap.size+1,0,none⟩) (by simp) _) (by simp at hD;omega) _
     case stop=>
      rintro D c pre S W hD ew aM gD ⟨rfl,hS,c0,c1,h4,hB⟩ hK;have pO:w.heap.size≠D:=λe=>ew (by rw[<-e];exact hS.1);have pR:w.heap.size+1≠D:=λe=>ew (by rw[<-e];exact hS.2);gi_wp2;have z0:=(nF c0 pO (.deferred none)).cell;have z1:=(nF c1 pR (.deferred none)).cell;have he:Np.kP b s l d f=2:=by unfold Np.kP;rw[Qb HA.out,cP.out,Qc (by omega),Qb h4]
      refine mN hK (v:=.tuple #[.slice none 0 0,.int .i64 2]) (by simp[results,results39,go_sem,z0,z1]) ?_;exact nG (mK hB (by simp at hD;omega) _) (ud he (by omega)) he
end
section
open Go.RowKit Go.Shelf
def en(base:Nat)(w:World)(v:Value)(xs:List Int):Prop:=w.ownsRow base 3 1 v xs.length (xs.map (Value.int .i64))
theorem en.alloc{base:Nat}{w:World}{v:Value}{xs:List Int}(h:en base w v xs)(o:Obj):en base (w.alloc o) v xs:=World.ownsRow.alloc h o
theorem en.keep{base:Nat}{w w':World}{v:Value}{xs:List Int}(h:en base w v xs)(hb:Below w.heap.size w w'):en base w' v xs:=cM h (λg hg=>hb.block g (h.lt g hg).2)
theorem en.nil(base:Nat)(w:World):en base w (.slice none 0 0) []:=⟨by simp,.inl ⟨rfl,rfl⟩⟩
theorem en.weak{base base':Nat}{w:World}{v:Value}{xs:List Int}(h:en base w v xs)(hb:base'<=base):en base' w v xs:=by
 refine⟨h.1,h.2.imp id ?_⟩;rintro⟨g,cap,cur,h1,h2,h3⟩;exact⟨g,cap,cur,h1,yQ hb h2,h3⟩
theorem en.form{base:Nat}{w:World}{v:Value}{xs:List Int}(h:en base w v xs):∃ A c,v = .slice A xs.length c:=qz h
theorem en.at{base:Nat}{w:World}{A:Option Addr}{n c:Nat}{xs:List Int}(h:en base w (.slice A n c) xs){i:Nat}{x:Int}(hx:xs[i]?=some x):∃ g,A=some ⟨g,0,none⟩/\base<=g/\g<w.heap.size/\w.cell? ⟨g,i,none⟩=some (.int .i64 x):=by
 have h':=h;have aa:=(cQ.1 hx).1;rcases h'.2 with ⟨h1,h0⟩ | ⟨g,cap,cur,h1,hb,hg,ky,_⟩
 ·omega
 ·simp only[Value.slice.injEq] at h1;obtain⟨rfl,_,rfl⟩:=h1;refine⟨g,rfl,hb,(eQ.1 hg).1,?_⟩;have h6:=h.cells (g:=g) rfl i (.int .i64 x) (by rw[List.getElem?_map,hx];rfl);have ll:(⟨g,0,none⟩:Addr).add i=⟨g,i,none⟩:=by unfold Addr.add;split <;> simp_all
  rw[ll] at h6;exact h6
section
variable {ops:Array Oper} {rest:List Oper} {o:Oper} {a:Act} {Q:Exit->Act->World->Prop}
theorem ZV(w:World)(fJ:o.guard=none)(s x:Operand)(ho:o.op = .call { callee:=.builtin .append,args:=#[s,x],argTypes:=#[27,27] })
 (base:Nat) (v:Value) (xs:List Int) (hs:a.eval s=v) (hown:en base w v xs) (blk:Nat) (f u:Int) (hx:a.eval x = .slice (some ⟨blk,0,none⟩) 2 2) (hc:w.cell? ⟨blk,0,none⟩=some (.int .i64 f)) (aW:w.cell? ⟨blk,1,none⟩=some (.int .i64 u)) (hlen:xs.length<=100000) (cW:base<=w.heap.size)
 (h:∀ v' w',en base w' v' (xs ++ [f,u])->Below base w w'->wpList prog ops Q rest (a.put o.dst v') w'):wpList prog ops Q (o::rest) a w:=by
 obtain⟨i0,hi,dI,bg,aO⟩:=info_parts Tryz.infoInt;refine wpList_append_own_at w fJ s x 27 ho base 3 i0 (.int .i64 0) 1 8 underlying27 hi dI bg aO rfl (by decide) v xs.length (xs.map (Value.int .i64)) hs hown ⟨blk,0,none⟩ 2 2 [.int .i64 f,.int .i64 u] hx rfl ?_ (by simp[Value.oneCell']) (by unfold maxLen;omega) (by omega) cW ?_
 ·intro j y hj
  match j,hj with
  | 0,hj=>simp at hj;subst hj;simpa [Addr.add] using hc
  | 1,hj=>simp at hj;subst hj;simpa [Addr.add] using aW
  | j+2,hj=>simp at hj
 ·intro v' w' ho' hg _ _;refine h v' w' ?_ ((vQ _ _).grown hg cW (λk hk=>(hown.lt k hk).1));have e:(xs ++ [f,u]).length=xs.length+2:=by simp
  unfold en;rw[e,List.map_append];exact ho'
end
theorem en.slr{base:Nat}{w:World}{v:Value}{xs:List Int}(h:en base w v xs)(hl:xs.length<=140737488355328):SlR gL 1 w w.heap.size v xs:=by
 refine Ai (sz:=1) (e:=3) (base:=base) (λx=>[.int .i64 x]) (λ_ _=>rfl) ?_ hl (λx hx=>rfl)
 have:w.ownsRow base 3 1 v xs.length (xs.map (Value.int .i64)):=h
 rwa [CN] at this
end
end Go.Proofs.YtfnopgdcaanaiaaGreatDoor
