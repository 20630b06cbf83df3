/- No condition. -/
import Derived.Deep.Slices
import Derived.Test.YtadhigmjilijcaaGreatDoorA02
import Derived.Test.YtadhigmjilijcaaGreatDoorA03
import Derived.Test.YtadhigmjilijcaaGreatDoorA04
import Derived.Test.YtadhigmjilijcaaGreatDoorA05
set_option linter.all false
set_option maxRecDepth 100000
set_option maxHeartbeats 8000000
namespace Go.Proofs.YtadhigmjilijcaaGreatDoor
open Go.Proofs.Tryz
section
open Go.RowKit
section
variable {P:Program}
theorem AT{w:World}{ops:Array Oper}{rest:List Oper}{o:Oper}{a:Act}{Q:Exit->Act->World->Prop}(il:o.guard=none)(s x:Operand)(t:TypeId)(ho:o.op = .call { callee:=.builtin .append,args:=#[s,x],argTypes:=#[t,t] })
 (v u v':Value) (w':World) (hv:a.eval s=v) (hx:a.eval x=u) (hr:(Builtin.append_ #[t,t] o.type #[v,u]).run P w = .ok v' w') (h:wpList P ops Q rest (a.put o.dst v') w'):wpList P ops Q (o::rest) a w:=by
 refine wpList_plain il λK hK=>?_;unfold Oper.wp execOp;simp only[ho,resolve,invoke,builtin,Sem.run_bind,Sem.run_pure,Result.andThen_ok,List.map_toArray,List.map_cons,List.map_nil,hv,hx,hr];exact hK _ _ h
theorem aY.push{α:Type}{R:aUJ α}{sz:Nat}{e:TypeId}{base B:Nat}{w:World}{v:Value}{xs:List α}(h:aY R sz e base B w v xs)(t ty:TypeId)(i:TypeInfo)(z:Value)(bytes:Nat)(ht:P.underlying t=some (.slice e))(hi:P.info? e=some i)(hz:i.zero=some z)(iE:i.size=sz)(dZ:i.bytes=bytes)(dV:z.cells.size=sz)(au:0<sz)(bM:bytes<=1000)
 (q:Nat) (r:List Value) (x:α) (hl:r.length=sz) (h1:∀ u∈r,u.oneCell'=true) (hc:∀ j u,r[j]?=some u->w.cell? ⟨q,j,none⟩=some u) (hR:R w B r x) (hn:xs.length<=1000000) (hk:eh R) (hB:B<=base) (hb:base<=w.heap.size) :
 ∃ v' w',(Builtin.append_ #[t,t] ty #[v,.slice (some ⟨q,0,none⟩) 1 1]).run P w = .ok v' w'/\aY R sz e base B w' v' (xs ++ [x])/\Below base w w':=by
 obtain⟨rows,k1,k2,k3⟩:=h;obtain⟨v',w',hr,r1,r2,_,_⟩:=run_append_own_at (P:=P) w base t ty e i z sz bytes ht hi hz iE dZ dV au v xs.length rows.flatten k2 ⟨q,0,none⟩ 1 1 r (by rw[hl];omega) (λj u hj=>by rw[show (⟨q,0,none⟩:Addr).add j=⟨q,j,none⟩ by cases j<;>simp[Addr.add]];exact hc j u hj) h1 (by simp[maxLen];omega) (by have:=Nat.mul_le_mul (show xs.length+1<=1000001 by omega) bM;omega) hb;have gS:Below base w w':=(vQ _ _).grown r2 hb (λg e=>(k2.lt g e).1);refine⟨v',w',hr,⟨rows ++ [r],by simp[k1],by rw[List.length_append,List.flatten_append];simpa using r1,λj r' y hr' hy=>?_⟩,gS⟩;rcases Nat.lt_or_ge j rows.length with af | j9
 ·rw[List.getElem?_append_left af] at hr';rw[List.getElem?_append_left (by omega)] at hy;obtain⟨h6,h7⟩:=k3 j r' y hr' hy;exact⟨h6,hk _ _ _ _ _ h7 (gS.mono hB)⟩
 ·rw[oQ j9] at hr';rw[oQ (by omega),<-k1] at hy;have h0:j - rows.length=0:=by have:=(cQ.1 hr').1;simp at this;omega
  rw[h0] at hr' hy;simp at hr' hy;subst hr' hy;exact⟨hl,hk _ _ _ _ _ hR (gS.mono hB)⟩
theorem aY.letF{α:Type}{R:aUJ α}{sz:Nat}{e:TypeId}{base B:Nat}{w:World}{v:Value}{xs:List α}(h:aY R sz e base B w v xs):∃ A n c,v = .slice A n c/\xs.length=n:=by
 obtain⟨rows,_,h2,_⟩:=h;obtain⟨A,c,h3⟩:=rz h2;exact⟨A,_,c,h3,rfl⟩
end
theorem Tryz.infoSet4:(prog.info? 25).map (λi=>(i.zero,i.size,i.bytes))=some (some (.agg #[.string ⟨#[]⟩,.int .i64 0,.int .i64 0,.slice none 0 0]),4,56):=by kernel_rfl
theorem Tryz.infoSgn5:(prog.info? 44).map (λi=>(i.zero,i.size,i.bytes))=some (some (.agg #[.string ⟨#[]⟩,.int .i64 0,.int .i64 0,.slice none 0 0,.slice none 0 0]),5,80):=by kernel_rfl
theorem aqX{B:Nat}{w:World}{v:Value}{xs:List Np.DSet}(h:aY bO 4 25 B B w v xs)(ty:TypeId)(q:Nat)(r:List Value)(x:Np.DSet)(hc:∀ j u,r[j]?=some u->w.cell? ⟨q,j,none⟩=some u)(hR:bO w B r x)(hn:xs.length<=1000000)(hb:B<=w.heap.size) :
 ∃ v' w',(Builtin.append_ #[198,198] ty #[v,.slice (some ⟨q,0,none⟩) 1 1]).run prog w = .ok v' w'/\aY bO 4 25 B B w' v' (xs ++ [x])/\Below B w w':=by
 obtain⟨i0,hi,cH,bx,cr⟩:=info_parts Tryz.infoSet4;have hR':=hR;obtain⟨s,dv,_,_,hd,rfl⟩:=hR';obtain⟨A,c,rfl,_⟩:=hd;exact h.push (P:=prog) 198 ty i0 _ 56 underlying198 hi cH bx cr rfl (by decide) (by decide) q _ x rfl (λu hu=>by simp at hu;rcases hu with rfl | rfl | rfl | rfl<;>rfl) hc hR hn eR (bQ _) hb
end
section
open Go.RowKit Go.Shelf
theorem Pt:∀ xs:List (List UInt8),Lib.join xs [46]=Np.bR xs:=by
 intro xs
 induction xs with
 | nil=>rfl
 | cons x r ih=>
  rw[Lib.join_cons]
  cases r with
  | nil=>simp[Lib.joinTail,Np.bR]
  | cons y r=>
   rw[Np.bR,<-ih,Lib.join_cons];simp[Lib.joinTail]
theorem aeY{M:Nat} : ∀ xs:List (List UInt8),(∀ x∈xs,x.length<=M)->(Np.bR xs).length<=xs.length * (M+1):=by
 intro xs
 induction xs with
 | nil=>intro _;simp[Np.bR]
 | cons x r ih=>
  intro h;have h1:=h x (List.mem_cons_self ..);have h2:=ih (λy hy=>h y (mQ _ hy))
  cases r with
  | nil=>simp[Np.bR];omega
  | cons y r=>
   rw[Np.bR,List.length_append,List.length_cons,List.length_cons,Nat.succ_mul];omega
theorem PF{l:List (List UInt8)}{x:List UInt8}(h:Np.fZ l=true)(h1:Np.bT x=true\/(l = []/\x = [42])):Np.fZ (l ++ [x])=true:=by
 cases l with
 | nil=>rcases h1 with h1 | ⟨_,h1⟩<;>simp[Np.fZ,h1]
 | cons y l=>
  rcases h1 with h1 | ⟨h1,_⟩
  ·simp only[Np.fZ,Bool.and_eq_true,List.cons_append,List.all_append,List.all_cons,List.all_nil,Bool.and_true] at h |-;exact⟨h.1,h.2,h1⟩
  ·cases h1
end
section
open Go.RowKit
open Classical in
noncomputable def cB(w:World)(M:Nat->Prop):World:={ w with heap:=w.heap.mapIdx λk o=>if M k then .cells #[] 0 else o }
theorem pb(w:World)(M:Nat->Prop):(cB w M).heap.size=w.heap.size:=by simp[cB]
theorem pa{w:World}{M:Nat->Prop}{k:Nat}(h:¬ M k):(cB w M).heap[k]?=w.heap[k]?:=by
 unfold cB;simp only[Array.getElem?_mapIdx,h,if_false]
 cases w.heap[k]?<;>rfl
theorem vp{w:World}{M:Nat->Prop}{k:Nat}(h:M k):(cB w M).heap[k]?=(w.heap[k]?).map λ_=>Obj.cells #[] 0:=by
 unfold cB;simp only[Array.getElem?_mapIdx,h,if_true]
theorem ayJ{w:World}{M:Nat->Prop}{p:Addr}{v:Value}(h:(cB w M).cell? p=some v):¬ M p.block/\w.cell? p=some v:=by
 by_cases hm:M p.block
 ·exfalso;unfold World.cell? at h;rw[vp hm] at h
  cases hh:w.heap[p.block]? with
  | none=>simp[hh] at h
  | some o=>simp[hh] at h
 ·refine⟨hm,?_⟩;rw[<-h];exact (iQ (w:=w) (pa hm)).symm
theorem ayK{w:World}{M:Nat->Prop}{p:Addr}(h:¬ M p.block):(cB w M).cell? p=w.cell? p:=iQ (w:=w) (pa h)
def gO{α:Type}(R:aUJ α):Prop:=∀ w (M M':Nat->Prop) B e x,(∀ k,M' k->M k)->R (cB w M) B e x->R (cB w M') B e x
theorem eB.sans{w:World}{M M':Nat->Prop}{b o:Nat}{e:List Value}(hM:∀ k,M' k->M k)(h:eB (cB w M) b o e):eB (cB w M') b o e:=λj v hj=>by
 obtain⟨h1,h2⟩:=ayJ (h j v hj);rw[ayK (λe=>h1 (hM _ e))];exact h2
theorem SlR.sans{α:Type}{R:aUJ α}{sz:Nat}{w:World}{M M':Nat->Prop}{B:Nat}{v:Value}{xs:List α}(hR:gO R)(hM:∀ k,M' k->M k)(h:SlR R sz (cB w M) B v xs):SlR R sz (cB w M') B v xs:=by
 obtain⟨A,c,hv,hc,hl,he⟩:=h;refine⟨A,c,hv,hc,hl,λi x hx=>?_⟩;obtain⟨b,o,e,hA,hB,dH,hce,hr⟩:=he i x hx;exact⟨b,o,e,hA,hB,dH,hce.sans hM,hR _ _ _ _ _ _ hM hr⟩
theorem Ql(w:World):cB w (λ_=>False)=w:=by
 unfold cB
 cases w
 simp only[World.mk.injEq,and_true];apply Array.ext_getElem?;intro i;simp only[Array.getElem?_mapIdx,if_false];rename_i heap _ _ _ _
 cases heap[i]?<;>rfl
theorem SlR.all{α:Type}{R:aUJ α}{sz:Nat}{w:World}{M:Nat->Prop}{B:Nat}{v:Value}{xs:List α}(hR:gO R)(h:SlR R sz (cB w M) B v xs):SlR R sz w B v xs:=by
 have:=h.sans (M':=λ_=>False) hR (λ_ e=>e.elim)
 rw[Ql] at this;exact this
theorem Ik:gO bS:=λ_ _ _ _ _ _ _ h=>h
theorem Ir:gO dw:=λ_ _ _ _ _ _ _ h=>h
theorem kj:gO aB:=λ_ _ _ _ _ _ hM ⟨s,v,u,h1,h2,h3,h4,h5⟩=>⟨s,v,u,h1,h2,h3.sans Ik hM,h4.sans Ir hM,h5⟩
theorem gO.all{α:Type}{R:aUJ α}(hR:gO R){w:World}{M:Nat->Prop}{B:Nat}{e:List Value}{x:α}(h:R (cB w M) B e x):R w B e x:=by
 have:=hR w M (λ_=>False) B e x (λ_ e=>e.elim) h
 rw[Ql] at this;exact this
structure Leaves'(M:Nat->Prop)(w w':World)(M':Nat->Prop):Prop where
 os:w'.os=w.os
 tape:w'.tape=w.tape
 output:w'.output=w.output
 size:w.heap.size<=w'.heap.size
 keep:∀ k,k<w.heap.size->¬ M k->¬ M' k/\w'.heap[k]?=w.heap[k]?
theorem Leaves'.refl(M:Nat->Prop)(w:World):Leaves' M w w M:=⟨rfl,rfl,rfl,bQ _,λ_ _ h=>⟨h,rfl⟩⟩
theorem Leaves'.trans{M M' M'':Nat->Prop}{a b c:World}(h:Leaves' M a b M')(k:Leaves' M' b c M''):Leaves' M a c M'':=
 ⟨k.os.trans h.os,k.tape.trans h.tape,k.output.trans h.output,yQ h.size k.size,λi hi hm=>by
  obtain⟨h1,h2⟩:=h.keep i hi hm;obtain⟨h3,h4⟩:=k.keep i (lqQ hi h.size) h1;exact⟨h3,h4.trans h2⟩⟩
theorem Leaves'.of_below{M:Nat->Prop}{w w':World}(h:Below w.heap.size w w'):Leaves' M w w' M:=⟨h.os,h.tape,h.output,h.size,λk hk hm=>⟨hm,h.block k hk⟩⟩
theorem Leaves'.setCell(M:Nat->Prop)(w:World){p:Addr}(hp:M p.block)(v:Value):Leaves' M w (w.setCell p v) M:=
 ⟨rfl,rfl,rfl,by simp[World.setCell],λk _ hm=>⟨hm,wQ _ _ _ _ (λe=>hm (e ▸ hp))⟩⟩
theorem Leaves'.grown{M:Nat->Prop}{w w':World}{row:Option Nat}(hg:w.grownBy w' row)(hr:∀ k,row=some k->M k):Leaves' M w w' M:=
 ⟨hg.os,hg.tape,hg.output,hg.size,λk hk hm=>⟨hm,hg.block k hk (λe=>hm (hr k e.symm))⟩⟩
theorem Leaves'.more{M M' N:Nat->Prop}{w w':World}(h:Leaves' M w w' M')(hN:∀ k,N k->M' k\/w.heap.size<=k):Leaves' M w w' N:=
 ⟨h.os,h.tape,h.output,h.size,λk hk hm=>⟨λe=>(hN k e).elim (h.keep k hk hm).1 (by omega),(h.keep k hk hm).2⟩⟩
theorem Leaves'.read{α:Type}{R:aUJ α}(hk:eh R)(hs:gO R)(hm:eI R){M M':Nat->Prop}{w w':World}(h:Leaves' M w w' M'){e:List Value}{x:α}(hr:R (cB w M) w.heap.size e x):R (cB w' M') w'.heap.size e x:=by
 have hb:Below w.heap.size (cB w M) (cB w' λk=>M k\/M' k):=by
  refine⟨h.os,h.tape,h.output,by rw[pb,pb];exact h.size,λk hk=>?_⟩;by_cases hM:M k
  ·rw[vp hM,vp (M:=λk=>M k\/M' k) (Or.inl hM)];have h1:k<w'.heap.size:=lqQ hk h.size;rw[pQ hk,pQ h1];rfl
  ·obtain⟨h1,h2⟩:=h.keep k hk hM;rw[pa hM,pa (M:=λk=>M k\/M' k) (λe=>e.elim hM h1),h2]
 exact hm _ _ _ _ _ (hs _ _ _ _ _ _ (λk e=>Or.inr e) (hk _ _ _ _ _ hr hb)) h.size
def dN{α:Type}(R:aUJ α)(sz:Nat)(e:TypeId)(base:Nat)(M:Nat->Prop)(w:World)(v:Value)(xs:List α):Prop:=
 ∃ rows:List (List Value),rows.length=xs.length/\w.ownsRow base e sz v xs.length rows.flatten/\(∀ g,v.ownBlock=some g->M g)/\
   ∀ (i:Nat) (r:List Value) (x:α),rows[i]?=some r->xs[i]?=some x->r.length=sz/\R (cB w M) w.heap.size r x
theorem dN.nil{α:Type}{R:aUJ α}{sz:Nat}{e:TypeId}{base:Nat}{M:Nat->Prop}(w:World):dN (α:=α) R sz e base M w (.slice none 0 0) []:=
 ⟨[],rfl,⟨by simp,.inl ⟨rfl,rfl⟩⟩,(λg h=>by cases h),λi r x h=>by simp at h⟩
theorem dN.form{α:Type}{R:aUJ α}{sz:Nat}{e:TypeId}{base:Nat}{M:Nat->Prop}{w:World}{v:Value}{xs:List α}(h:dN R sz e base M w v xs):∃ A c,v = .slice A xs.length c:=by
 obtain⟨rows,h1,h2,h3⟩:=h;rcases h2.2 with ⟨rfl,h0⟩ | ⟨g,cap,cur,rfl,_⟩
 ·exact⟨none,0,by rw[h0]⟩
 ·exact⟨_,cap,rfl⟩
theorem dN.leaves{α:Type}{R:aUJ α}(hk:eh R)(hs:gO R)(hm:eI R){sz:Nat}{e:TypeId}{base:Nat}{M M':Nat->Prop}{w w':World}{v:Value}{xs:List α}(h:dN R sz e base M w v xs)(hl:Leaves' M w w' M')
 (ho:∀ g,v.ownBlock=some g->w'.heap[g]?=w.heap[g]?/\M' g):dN R sz e base M' w' v xs:=by
 obtain⟨rows,h1,h2,h3,h4⟩:=h;exact⟨rows,h1,vl h2 (λg hg=>(ho g hg).1),λg hg=>(ho g hg).2,λi r x hr hx=>⟨(h4 i r x hr hx).1,hl.read hk hs hm (h4 i r x hr hx).2⟩⟩
theorem dN.slr{α:Type}{R:aUJ α}(hs:gO R){sz:Nat}{e:TypeId}{base:Nat}{M:Nat->Prop}{w:World}{v:Value}{xs:List α}(h:dN R sz e base M w v xs)(hl:xs.length<=140737488355328):SlR R sz w w.heap.size v xs:=by
 obtain⟨rows,h1,h2,h3,h4⟩:=h;have hl':=aY.rows_len (w:=cB w M) (B:=w.heap.size) h1 h4;rcases h2.2 with ⟨rfl,h0⟩ | ⟨g,cap,cur,rfl,hb,hg,oF,_⟩
 ·have:xs = []:=rQ h0
  subst this;exact⟨none,0,rfl,by simp,by simp,λi x hx=>by simp at hx⟩
 ·refine⟨_,cap,rfl,oF,hl,λi x hx=>?_⟩;have hi:=(cQ.1 hx).1;have hr:=aQ (l:=rows) (i:=i) (by omega);obtain⟨h5,h6⟩:=h4 i _ x hr hx;refine⟨g,0,rows[i],rfl,(eQ.1 hg).1,h5,λj u hj=>?_,hs.all h6⟩;have h7:=h2.cells (g:=g) rfl _ _ (FF rows i j _ u hl' hr hj);have pM:(⟨g,0,none⟩:Addr).add (i * sz+j)=⟨g,0+i * sz+j,none⟩:=by unfold Addr.add;split<;>simp_all
  rw[pM] at h7;exact h7
def B7{α:Type}(R:aUJ α)(sz:Nat)(M:Nat->Prop)(w:World)(A:Option Addr)(ys:List α):Prop:=
 ∃ rows:List (List Value),rows.length=ys.length/\(∀ (i:Nat) (r:List Value) (x:α),rows[i]?=some r->ys[i]?=some x->r.length=sz/\R (cB w M) w.heap.size r x)/\(ys≠[]->∃ b o,A=some ⟨b,o,none⟩/\∀ j u,rows.flatten[j]?=some u->w.cell? ((⟨b,o,none⟩:Addr).add j)=some u)
theorem P7{α:Type}{R:aUJ α}{sz:Nat}{M:Nat->Prop}{w:World}{b o:Nat}{r:List Value}{x:α}(hl:r.length=sz)(hr:R (cB w M) w.heap.size r x)(hc:eB w b o r):B7 R sz M w (some ⟨b,o,none⟩) [x]:=by
 refine⟨[r],rfl,λi r' x' h1 h2=>?_,λ_=>⟨b,o,rfl,λj u hj=>?_⟩⟩
 ·cases i with
  | zero=>simp at h1 h2;subst h1;subst h2;exact⟨hl,hr⟩
  | succ i=>simp at h1
 ·have pM:(⟨b,o,none⟩:Addr).add j=⟨b,o+j,none⟩:=by unfold Addr.add;split<;>simp_all
  rw[pM];exact hc j u (by simpa using hj)
section
variable {P:Program}
theorem axQ{α:Type}{R:aUJ α}{sz:Nat}{M:Nat->Prop}(w:World)(t ty:TypeId)
 (base:Nat) (e:TypeId) (i:TypeInfo) (z:Value) (bytes:Nat) (ht:P.underlying t=some (.slice e)) (hi:P.info? e=some i) (hz:i.zero=some z) (iE:i.size=sz) (dZ:i.bytes=bytes) (dV:z.cells.size=sz) (au:0<sz)
 (v:Value) (xs:List α) (hown:dN R sz e base M w v xs) (A:Option Addr) (c:Nat) (ys:List α) (di:B7 R sz M w A ys)
 (uM:∀ w B r y,R w B r y->∀ u∈r,u.oneCell'=true) (mf:xs.length+ys.length<=maxLen) (mT:(xs.length+ys.length) * bytes<=140737488355328) (ig:base<=w.heap.size) (hk:eh R) (hs:gO R) (hm:eI R) :
 ∃ v' w',(Builtin.append_ #[t,t] ty #[v,.slice A ys.length c]).run P w = .ok v' w'/\dN R sz e base (λk=>M k\/v'.ownBlock=some k) w' v' (xs++ys)/\w.grownBy w' v.ownBlock/\(v'.ownBlock=v.ownBlock\/v'.ownBlock=some w.heap.size):=by
 have pS:∀ (w':World) (v':Value) (rows rows':List (List Value)),w.grownBy w' v.ownBlock->(v'.ownBlock=v.ownBlock\/v'.ownBlock=some w.heap.size)->(∀ g,v.ownBlock=some g->M g)->rows.length=xs.length->(∀ (i:Nat) (r:List Value) (x:α),rows[i]?=some r->xs[i]?=some x->r.length=sz/\R (cB w M) w.heap.size r x)->rows'.length=ys.length->
  (∀ (i:Nat) (r:List Value) (x:α),rows'[i]?=some r->ys[i]?=some x->r.length=sz/\R (cB w M) w.heap.size r x)->w'.ownsRow base e sz v' (xs.length+ys.length) (rows.flatten++rows'.flatten)->dN R sz e base (λk=>M k\/v'.ownBlock=some k) w' v' (xs++ys):=by
  intro w' v' rows rows' hg hat wG h1 h2 h3 h4 h5;have Oy:Leaves' M w w' (λk=>M k\/v'.ownBlock=some k):=(Leaves'.grown hg wG).more (λk e=>by
   rcases e with e | e
   ·exact .inl e
   ·rcases hat with h | h
    ·exact .inl (wG k (h ▸ e))
    ·rw[h] at e;cases e;exact .inr (bQ _))
  refine⟨rows++rows',by simp[h1,h3],?_,λg hg'=>.inr hg',λj r y hr hy=>?_⟩
  ·rw[List.length_append,List.flatten_append];exact h5
  ·rcases Nat.lt_or_ge j rows.length with af | j9
   ·rw[List.getElem?_append_left af] at hr;rw[List.getElem?_append_left (by omega)] at hy;obtain⟨h6,h7⟩:=h2 j r y hr hy;exact⟨h6,Oy.read hk hs hm h7⟩
   ·rw[oQ j9] at hr;rw[oQ (by omega),<-h1] at hy;obtain⟨h6,h7⟩:=h4 _ r y hr hy;exact⟨h6,Oy.read hk hs hm h7⟩
 obtain⟨rows,h1,h2,wG,h3⟩:=hown;obtain⟨rows',h4,h5,h6⟩:=di;by_cases hy:ys = []
 ·subst hy;have fX:rows' = []:=rQ (by simpa using h4);subst fX
  cases A with
  | none=>
   have iD:=Qi (P:=P) base t ty e i sz ht hi v xs.length c rows.flatten h2;have hg:w.grownBy w v.ownBlock:=⟨rfl,rfl,rfl,bQ _,λ_ _ _=>rfl⟩;exact⟨v,w,iD,pS w v rows [] hg (.inl rfl) wG h1 h3 rfl (λj r y hr=>by simp at hr) (by simpa using h2),hg,.inl rfl⟩
  | some ad=>
   obtain⟨v',w',hr,ho',hg,_,hat⟩:=run_append_own_at (P:=P) w base t ty e i z sz bytes ht hi hz iE dZ dV au v xs.length rows.flatten h2 ad 0 c [] (by simp) (λj u hj=>by simp at hj) (λu hu=>by cases hu) (by simpa using mf) (by simpa using mT) ig;exact⟨v',w',hr,pS w' v' rows [] hg hat wG h1 h3 rfl (λj r y hr=>by simp at hr) (by simpa using ho'),hg,hat⟩
 ·obtain⟨b,o',rfl,hcell⟩:=h6 hy;have hl:=aY.rows_len (w:=cB w M) (B:=w.heap.size) h4 h5;obtain⟨v',w',hr,ho',hg,_,hat⟩:=run_append_own_at (P:=P) w base t ty e i z sz bytes ht hi hz iE dZ dV au v xs.length rows.flatten h2 ⟨b,o',none⟩ ys.length c rows'.flatten (by rw[FG rows' hl,h4]) hcell (λu hu=>by
   obtain⟨r,hr,Hc⟩:=List.mem_flatten.1 hu;obtain⟨j,hj,rfl⟩:=nQ.1 hr;exact uM _ _ _ _ (h5 j _ _ (aQ hj) (aQ (by omega))).2 u Hc) mf mT ig
  exact⟨v',w',hr,pS w' v' rows rows' hg hat wG h1 h3 h4 h5 ho',hg,hat⟩
theorem QT{α:Type}{R:aUJ α}{sz:Nat}{M:Nat->Prop}(w:World){o:Oper}{a:Act}{K:Act->World->Prop}{Q:Exit->Act->World->Prop}(s x:Operand)(t:TypeId)
 (ho:o.op = .call { callee:=.builtin .append,args:=#[s,x],argTypes:=#[t,t] })
 (base:Nat) (e:TypeId) (i:TypeInfo) (z:Value) (bytes:Nat) (ht:P.underlying t=some (.slice e)) (hi:P.info? e=some i) (hz:i.zero=some z) (iE:i.size=sz) (dZ:i.bytes=bytes) (dV:z.cells.size=sz) (au:0<sz)
 (v:Value) (xs:List α) (hv:a.eval s=v) (hown:dN R sz e base M w v xs) (A:Option Addr) (c:Nat) (ys:List α) (hx:a.eval x = .slice A ys.length c) (di:B7 R sz M w A ys)
 (uM:∀ w B r y,R w B r y->∀ u∈r,u.oneCell'=true) (mf:xs.length+ys.length<=maxLen) (mT:(xs.length+ys.length) * bytes<=140737488355328) (ig:base<=w.heap.size) (hk:eh R) (hs:gO R) (hm:eI R)
 (h:∀ v' w',dN R sz e base (λk=>M k\/v'.ownBlock=some k) w' v' (xs++ys)->w.grownBy w' v.ownBlock->(v'.ownBlock=v.ownBlock\/v'.ownBlock=some w.heap.size)->K (a.put o.dst v') w'):o.wp P a w K Q:=by
 obtain⟨v',w',hr,h2,h4,h5⟩:=axQ (P:=P) w t o.type base e i z bytes ht hi hz iE dZ dV au v xs hown A c ys di uM mf mT ig hk hs hm;unfold Oper.wp execOp;simp only[ho,resolve,invoke,builtin,Sem.run_bind,Sem.run_pure,Result.andThen_ok,List.map_toArray,List.map_cons,List.map_nil,hv,hx,hr];exact h v' w' h2 h4 h5
theorem aPJ{α:Type}{R:aUJ α}{sz:Nat}{M:Nat->Prop}(w:World){ops:Array Oper}{rest:List Oper}{o:Oper}{a:Act}{Q:Exit->Act->World->Prop}(il:o.guard=none)(s x:Operand)(t:TypeId)
 (ho:o.op = .call { callee:=.builtin .append,args:=#[s,x],argTypes:=#[t,t] })
 (base:Nat) (e:TypeId) (i:TypeInfo) (z:Value) (bytes:Nat) (ht:P.underlying t=some (.slice e)) (hi:P.info? e=some i) (hz:i.zero=some z) (iE:i.size=sz) (dZ:i.bytes=bytes) (dV:z.cells.size=sz) (au:0<sz)
 (v:Value) (xs:List α) (hv:a.eval s=v) (hown:dN R sz e base M w v xs) (A:Option Addr) (c:Nat) (ys:List α) (hx:a.eval x = .slice A ys.length c) (di:B7 R sz M w A ys)
 (uM:∀ w B r y,R w B r y->∀ u∈r,u.oneCell'=true) (mf:xs.length+ys.length<=maxLen) (mT:(xs.length+ys.length) * bytes<=140737488355328) (ig:base<=w.heap.size) (hk:eh R) (hs:gO R) (hm:eI R)
 (h:∀ v' w',dN R sz e base (λk=>M k\/v'.ownBlock=some k) w' v' (xs++ys)->w.grownBy w' v.ownBlock->(v'.ownBlock=v.ownBlock\/v'.ownBlock=some w.heap.size)->wpList P ops Q rest (a.put o.dst v') w'):wpList P ops Q (o::rest) a w:=by
 refine wpList_plain il λK hK=>?_;exact QT w s x t ho base e i z bytes ht hi hz iE dZ dV au v xs hv hown A c ys hx di uM mf mT ig hk hs hm (λv' w' h1 h2 h3=>hK _ _ (h v' w' h1 h2 h3))
end
section
variable {P:Program} {C:World->Prop} {l0 m:Nat}
theorem aPZ{id:Nat}{ops:Array Oper}{Q:Exit->Act->World->Prop}{a:Act}{w:World}(hd:Az ops=true)(qV:¬ LetsOut Q)(hm:P.follows .mixedOrders=true)(hB:Region.lexB .any ops=true)(hC:C w.drew)
 (h:wpQuiet P ops C (λa'=>∀ w',C w'->Q .normal a' w') ops.toList a):(Code.region id ops true).wpIn (Fence.wide.inRound l0) m P Q a w:=by
 simp only[Region.lexB,Bool.and_eq_true] at hB;refine I4 hd hm qV (wpAny_of_quiet (Q:=λa'=>∀ w',C w'->Q .normal a' w') (λ_ w' hw' h=>h w' hw') _ _ _ _ hC ?_)
 have:=wpAnyQ_lex (C:=C) (md:=.any) hB.1 ops.toList 0 (Array.replicate ops.size false) a (by simp) (by simpa using hB.2) h
 simpa using this
theorem QS{id:Nat}{Q:Exit->Act->World->Prop}{a:Act}{w:World}{l:List Oper}(hd:Az l.toArray=true)(qV:¬ LetsOut Q)(hm:P.follows .mixedOrders=true)(hB:Region.lexB .any l.toArray=true)
 (h:wpQuiet P l.toArray (λw'=>∃ g:bA w,w'=g.w) (λa'=>∀ w',(∃ g:bA w,w'=g.w)->Q .normal a' w') l a):(Code.region id l.toArray true).wpIn (Fence.wide.inRound l0) m P Q a w:=
 aPZ (C:=λw'=>∃ g:bA w,w'=g.w) hd qV hm hB ⟨⟨_,(vQ w.heap.size w).drew⟩,rfl⟩ (by simpa using h)
end
theorem amZ(a b:ByteArray)(n m p q:Int)(w:World):(binOp .neq 75 (.agg #[.string a,.int .i64 n,.int .i64 m]) (.agg #[.string b,.int .i64 p,.int .i64 q])).run prog w = .ok (.bool (!(a.toList == b.toList&&(n == p&&m == q)))) w:=by
 have u3:=underlying3;have a3:=isAgg3;have z3:=sizeOf3;have u9:=underlying9;have a9:=isAgg9;have z9:=sizeOf9;have hS:prog.underlying 75=some (.struct (prog.fieldsOf 75)):=by kernel_rfl
 have hp:prog.stoodInHeld 75=false:=by kernel_rfl
 rw[run_neq_struct,show (10000:Nat)=9999+1 from rfl,run_equalIn_agg w 9999 75 _ _ hS hp];simp only[Program.fieldsOf,underlying75];go_simp;by_cases h0:a.toList=b.toList<;>by_cases h1:n=p<;>by_cases h2:m=q<;>simp[h0,h1,h2]
theorem WG{d x:Np.Datum}{a b:ByteArray}(ha:a.data.toList=d.text)(hb:b.data.toList=x.text):(!(a.toList == b.toList&&(d.n == x.n&&d.m == x.m)))=decide (d≠x):=by
 rw[dQ,dQ,ha,hb,Bool.eq_iff_iff];simp only[Bool.not_eq_true',Bool.and_eq_false_iff,beq_eq_false_iff_ne,Qa];obtain⟨t,n,m⟩:=d;obtain⟨t2,n2,m2⟩:=x;simp only[ne_eq,Np.Datum.mk.injEq,not_and];constructor
 ·rintro (h | h | h) rfl rfl
  ·exact absurd rfl h
  ·exact absurd rfl h
  ·exact h
 ·intro h;by_cases h1:t=t2
  ·by_cases h2:n=n2
   ·exact .inr (.inr (h h1 h2))
   ·exact .inr (.inl h2)
  ·exact .inl h1
theorem WC{α:Type}{xs ys:List α}{k:Nat}(h1:k<xs.length)(h2:k<ys.length)(h:xs.take k=ys.take k)(he:xs[k]=ys[k]):xs.take (k+1)=ys.take (k+1):=by
 rw[fQ h1,fQ h2,h,he]
theorem WB{α:Type}{xs ys:List α}{k:Nat}(hl:xs.length=ys.length)(hk:¬ k<xs.length)(h:xs.take k=ys.take k):xs=ys:=by
 rwa [kQ (by omega),kQ (by omega)] at h
theorem ayQ(s1 s2:ByteArray)(t1 l1 t2 l2:Int)(v1 v2:Value)(d1 d2:List Np.Datum)(w:World)(fw:SlR bS 3 w w.heap.size v1 d1)(fS:SlR bS 3 w w.heap.size v2 d2) :
 Calls prog 63 #[.agg #[.string s1,.int .i64 t1,.int .i64 l1,v1],.agg #[.string s2,.int .i64 t2,.int .i64 l2,v2]] w
  λe w'=>e = .returned (.bool (decide (s1=s2/\t1=t2/\l1=l2/\d1=d2)))/\Below w.heap.size w w':=by
 obtain⟨r,hr⟩:=aRZ (decide (s1=s2/\t1=t2/\l1=l2/\d1=d2));rw[hr];have HR:=jq hr;have rN:=jq fw;have gK:=jq fS;obtain⟨A1,c1,rfl,bi,fD⟩:=fc fw;obtain⟨A2,c2,rfl,dR,i5⟩:=fc fS;have sL:Below w.heap.size w ((w.alloc (.cells #[.string s1,.int .i64 t1,.int .i64 l1,.slice A1 d1.length c1] 25)).alloc (.cells #[.string s2,.int .i64 t2,.int .i64 l2,.slice A2 d2.length c2] 25)):=(blAl).alloc (by simp) _;have iH:=jq sL;clear hr fw fS sL;have uK:∀ x y:Int,(x != y)=decide (x≠y):=λx y=>by by_cases h:x=y<;>simp[h]
 by_cases h1:s1=s2
 case neg=>
  have h1':¬ s1.toList=s2.toList:=λe=>h1 (mF (by rw[<-dQ,<-dQ];exact e));have HF:=jq (show r=false by rw[<-HR.out];simp[h1]);clear h1 uK;go_enter func63,ntmps63;go_wp2_with fail;go_ret;exact⟨aw HF.out.symm,iH.out⟩
 case pos=>
  subst h1;by_cases h2:t1=t2
  case neg=>
   have h2':(t1 != t2)=true:=by simpa using h2
   have HF:=jq (show r=false by rw[<-HR.out];simp[h2]);clear h2 uK;go_enter func63,ntmps63;go_wp2_with fail;go_ret;exact⟨aw HF.out.symm,iH.out⟩
  case pos=>
   subst h2;by_cases h3:l1=l2
   case neg=>
    have h3':(l1 != l2)=true:=by simpa using h3
    have HF:=jq (show r=false by rw[<-HR.out];simp[h3]);clear h3 uK;go_enter func63,ntmps63;go_wp2_with fail;go_ret;exact⟨aw HF.out.symm,iH.out⟩
   case pos=>
    subst h3;by_cases h4:d1.length=d2.length
    case neg=>
     have h4':((d1.length:Int) != (d2.length:Int))=true:=by rw[uK];simp;omega
     have HF:=jq (show r=false by rw[<-HR.out];simp;intro e;exact h4 (by rw[e]));clear h4 uK;go_enter func63,ntmps63;go_wp2_with fail;go_ret;exact⟨aw HF.out.symm,iH.out⟩
    case pos=>
     have h4':((d1.length:Int) != (d2.length:Int))=false:=by rw[uK];simp;omega
     have HL:=jq h4;clear h4 uK;go_enter func63,ntmps63;go_wp2_with fail;have dl:((w.alloc (.cells #[.string s1,.int .i64 t1,.int .i64 l1,.slice A1 d1.length c1] 25)).alloc (.cells #[.string s1,.int .i64 t1,.int .i64 l1,.slice A2 d2.length c2] 25)).heap.size=w.heap.size+1+1:=by simp
     have q1:((w.alloc (.cells #[.string s1,.int .i64 t1,.int .i64 l1,.slice A1 d1.length c1] 25)).alloc (.cells #[.string s1,.int .i64 t1,.int .i64 l1,.slice A2 d2.length c2] 25)).cell? ⟨w.heap.size,3,none⟩=some (.slice A1 d1.length c1):=by simp[go_sem]
     have q2:((w.alloc (.cells #[.string s1,.int .i64 t1,.int .i64 l1,.slice A1 d1.length c1] 25)).alloc (.cells #[.string s1,.int .i64 t1,.int .i64 l1,.slice A2 d2.length c2] 25)).cell? ⟨w.heap.size+1,3,none⟩=some (.slice A2 d2.length c2):=by simp[go_sem]
     generalize xr:((w.alloc (.cells #[.string s1,.int .i64 t1,.int .i64 l1,.slice A1 d1.length c1] 25)).alloc (.cells #[.string s1,.int .i64 t1,.int .i64 l1,.slice A2 d2.length c2] 25))=wa at *;have HQ:=jq (And.intro q1 (And.intro q2 dl));clear xr q1 q2 dl;go_loopw [5] (λi wr=>∃ k:Nat,k<=d1.length/\i = .int .i64 k/\Hid (d1.take k=d2.take k)/\Hid (Below wa.heap.size wa wr)) (λi _=>d1.length - (intOf i).toNat)
     case atStart=>exact⟨0,jQ _,rfl,jq rfl,jq (vQ _ _)⟩
     case round=>
      obtain⟨k,hk,rfl,HN,HB⟩:=hrel;have bH:=iH.out.trans (HB.out.mono iH.out.size);have pY:=HQ.out;have g1:=aQY HB.out pY.1;have g2:=aQY HB.out pY.2.1;clear pY;by_cases af:k<d1.length
      ·have uI:k<d2.length:=by have:=HL.out;omega
       obtain⟨b,o,c',s,hv,dB,_,bp,_,e0,e1,e2⟩:=ug rN.out (aQ af);simp only[Value.slice.injEq,true_and] at hv;obtain⟨rfl,rfl⟩:=hv;obtain⟨b',o',c'',s',hv,CK,_,eN,_,f0,f1,f2⟩:=ug gK.out (aQ uI);simp only[Value.slice.injEq,true_and] at hv;obtain⟨rfl,rfl⟩:=hv;have HT:=jq (WC af uI HN.out);have kx:=jq (show d1[k]≠d2[k]->r=false from λhne=>by rw[<-HR.out];simp;intro e;subst e;exact hne rfl);generalize d1[k]=x at *;generalize d2[k]=y at *;replace e0:=(bH.cell (p:=⟨b,o+k * 3,none⟩) dB).trans e0;replace e1:=(bH.cell (p:=⟨b,o+k * 3+1,none⟩) dB).trans e1;replace e2:=(bH.cell (p:=⟨b,o+k * 3+2,none⟩) dB).trans e2;replace f0:=(bH.cell (p:=⟨b',o'+k * 3,none⟩) CK).trans f0;replace f1:=(bH.cell (p:=⟨b',o'+k * 3+1,none⟩) CK).trans f1;replace f2:=(bH.cell (p:=⟨b',o'+k * 3+2,none⟩) CK).trans f2;have dS:=kNN k;have dp:(k:Int)<(d1.length:Int):=by omega
       have pR:(k:Int)<(d2.length:Int):=by omega
       have heq:=amZ s s' x.n x.m y.n y.m;rw[WG bp eN] at heq;clear bH bp eN;by_cases hx:x=y
       ·have HX:=jq hx;have oM:decide (x≠y)=false:=by simpa using hx
        rw[oM] at heq;clear hx oM;go_wp2_with fail;go_quiet (fail);go_wp2_with fail;go_roundw
        case rel=>exact⟨k+1,by omega,by go_num,jq (HT.out HX.out),jq (below_drewN HB.out _)⟩
        ·simp[intOf]<;>omega
       ·have HX:=jq hx;have oM:decide (x≠y)=true:=by simpa using hx
        rw[oM] at heq;clear hx oM;go_wp2_with fail;go_quiet (fail);go_wp2_with fail;go_ret;exact⟨aw (kx.out HX.out).symm,below_drewN (iH.out.trans (HB.out.mono iH.out.size)) _⟩
      ·go_wp2_with fail;go_ret;refine⟨aw ?_,iH.out.trans (HB.out.mono iH.out.size)⟩;rw[<-HR.out]
       have:=WB HL.out af HN.out
       simp[this]
end
section
open Go.ChangeShapes Go.WideShapes Go.ChangeAt Go.RowKit Go.Deep
def kJ{α:Type}(P:Program)(t:TypeId)(sz:Nat)(R:aUJ α):Prop:=
 ∀ (H:Type) (enc:TypeId×Value->H) (W:World) (base:Nat) (spare:Nat->Bool) (held:Bool) (fuel:Nat) (cs:List Value) (d:DataW H) (ps:List MemPlace),
   DataW.trod enc P W base spare held fuel t cs=some (d,ps)->(∀ n∈d.weights P t,n<=reachBytes)->cs.length=sz/\∃ x,R W W.heap.size cs x
def RNum(k:IntKind)(_:World)(_:Nat)(e:List Value)(x:Int):Prop:=e = [.int k x]/\(Lit.int k x).wf=true
theorem oW{P:Program}{t:TypeId}{k:IntKind}(ht:P.underlying t=some (.int k)):kJ P t 1 (RNum k):=by
 intro H enc W base spare held fuel cs d ps h _;obtain⟨n,rfl,_,Do⟩:=DataW.trod_int ht h;exact⟨rfl,n,rfl,Do⟩
def RStr(_:World)(_:Nat)(e:List Value)(x:List UInt8):Prop:=∃ s:ByteArray,s.data.toList=x/\s.size<=140737488355328/\e = [.string s]
theorem AE{P:Program}{t:TypeId}(ht:P.underlying t=some .string):kJ P t 1 RStr:=by
 intro H enc W base spare held fuel cs d ps h hw;obtain⟨s,rfl,hx,_⟩:=DataW.trod_string ht h;simp only[Prod.mk.injEq] at hx;rw[hx.1] at hw
 have:=hw s.data.toList.length (by simp[DataW.weights])
 have h2:=reachBytes_lt;exact⟨rfl,s.data.toList,s,rfl,by rw[be] at this;omega,rfl⟩
def RSl{α:Type}(R:aUJ α)(sz:Nat)(W:World)(B:Nat)(e:List Value)(xs:List α):Prop:=∃ v,e = [v]/\SlR R sz W B v xs
theorem RSl.more{α:Type}{R:aUJ α}{sz:Nat}(h:eI R):eI (RSl R sz):=λ_ _ _ _ _ ⟨v,hv,hs⟩ hb=>⟨v,hv,hs.more h hb⟩
theorem QN{H:Type}{P:Program}{e:TypeId} : ∀ {ds:List (DataW H)} {d:DataW H},d∈ds->∀ n∈d.weights P e,n∈DataW.weightsAll P e ds
 | d0::ds,d,hd,n,hn=>by
   simp only[DataW.weightsAll,List.mem_append];rcases List.mem_cons.1 hd with rfl | hd
   ·exact .inl hn
   ·exact .inr (QN hd n hn)
theorem LT(b o n:Nat):(⟨b,o,none⟩:Addr).add n=⟨b,o+n,none⟩:=by
 unfold Addr.add;split
 ·rename_i h;subst h;rfl
 ·rfl
theorem VR{W:World}{a:Addr}{v:Value}(h:W.cell? a=some v):a=⟨a.block,a.off,none⟩:=by
 have:=World.cell?_spot h
 cases a;simp_all
theorem Io{α:Type}{P:Program}{t e:TypeId}{sz:Nat}{R:aUJ α}(ht:P.underlying t=some (.slice e))(hC:P.cellsOf e=sz)(au:0<sz)(hb:0<P.bytesOf e)(hR:kJ P e sz R):kJ P t 1 (RSl R sz):=by
 intro H enc W base spare held fuel cs d ps h hw;rcases open_slice ht h with ⟨rfl,_⟩ | ⟨a,len,cap,m,n,D,Pl,rfl,mR,hl,hm,q9,hx,hi⟩
 ·exact⟨rfl,[],_,rfl,none,0,rfl,by simp,by simp,λi x hx=>by simp at hx⟩
 ·simp only[Prod.mk.injEq] at hx;rw[hx.1] at hw;have hlm:len<=m:=by rw[q9];split<;>omega
  have hlen:len<=140737488355328:=by
   have:=hw ((((List.range len).map D).length+((List.range (m - len)).map λj=>D (len+j)).length) * P.bytesOf e) (by simp[DataW.weights,ht])
   simp only[List.length_map,List.length_range] at this;have h2:=reachBytes_lt;have h3:len+(m - len)<=(len+(m - len)) * P.bytesOf e:=Nat.le_mul_of_pos_right _ hb;omega
  have dH:∀ i,i<len->∃ x cs',W.cells? base (a.add (i * sz)) sz=some cs'/\cs'.length=sz/\R W W.heap.size cs' x:=λi i3=>by
   obtain⟨cs',hc,ZM⟩:=hi i (by omega);rw[hC] at hc;obtain⟨h1,x,h2⟩:=hR H enc W base spare held n cs' (D i) (Pl i) ZM (λk hk=>hw k (by
    simp only[DataW.weights,ht];exact mQ _ (List.mem_append_left _ (QN (List.mem_map.2 ⟨i,List.mem_range.2 i3,rfl⟩) k hk))))
   exact⟨x,cs',hc,h1,h2⟩
  have cX:∀ k,k<=len->∃ xs:List α,xs.length=k/\∀ i x,xs[i]?=some x->∃ cs',W.cells? base (a.add (i * sz)) sz=some cs'/\cs'.length=sz/\R W W.heap.size cs' x:=by
   intro k
   induction k with
   | zero=>exact λ_=>⟨[],rfl,λi x hx=>by simp at hx⟩
   | succ k ih=>
    intro hk;obtain⟨xs,m9,mz⟩:=ih (by omega);obtain⟨x,hx⟩:=dH k (by omega);refine⟨xs ++ [x],by simp[m9],λi y hy=>?_⟩;rcases Nat.lt_or_ge i xs.length with af | j9
    ·rw[List.getElem?_append_left af] at hy;exact mz i y hy
    ·rw[oQ j9] at hy
     have:i - xs.length=0:=by
      have:=(cQ.1 hy).1
      simp at this;omega
     rw[this] at hy;simp at hy;subst hy;rw[show i=k by omega];exact hx
  obtain⟨xs,m9,mz⟩:=cX len (bQ _);refine⟨rfl,xs,_,rfl,some a,cap,by rw[m9],by omega,by omega,λi x hx=>?_⟩;have h0:0<len:=by have:=(cQ.1 hx).1;omega
  obtain⟨c0,sM,aYK,_⟩:=mz 0 _ (aQ (by omega));obtain⟨_,_,YQ⟩:=World.cells?_some sM;have ha:a=⟨a.block,a.off,none⟩:=by
   have h1:=YQ 0 au;rw[show (a.add (0 * sz)).add 0=a by simp[Addr.add]] at h1;rw[aQ (by omega)] at h1;exact VR h1
  obtain⟨cs',hc,jr,oe⟩:=mz i x hx;obtain⟨_,_,Gs⟩:=World.cells?_some hc;have hce:eB W a.block (a.off+i * sz) cs':=λj u hj=>by
   have uF:=(cQ.1 hj).1;have h1:=Gs j (by omega);rw[hj,ha] at h1;have h2:((⟨a.block,a.off,none⟩:Addr).add (i * sz)).add j=⟨a.block,a.off+i * sz+j,none⟩:=by
    rw[LT,LT]
   rw[h2] at h1;exact h1
  refine⟨a.block,a.off,cs',by rw[<-ha],?_,jr,hce,oe⟩
  have:=World.block_lt_of_cell? W _ (hce 0 _ (aQ (by omega)))
  exact this
theorem xE{P:Program}{t:TypeId}{fs:Array Field}(hs:P.underlying t=some (.struct fs)){H:Type}{enc:TypeId×Value->H}{W:World}{base:Nat}{spare:Nat->Bool}{held:Bool}{fuel:Nat}{cs:List Value}{d:DataW H}{ps:List MemPlace}
 (h:DataW.trod enc P W base spare held fuel t cs=some (d,ps)) (hw:∀ n∈d.weights P t,n<=reachBytes) :
 cs.length=P.cellsOf t/\∀ (j:Nat) (f:Field),fs[j]?=some f->∃ n d' ps',DataW.trod enc P W base spare held n f.type ((cs.drop f.offset).take (P.cellsOf f.type))=some (d',ps')/\∀ k∈d'.weights P f.type,k<=reachBytes:=by
 obtain⟨ys,n,_,hx,hl,hyl,hf⟩:=DataW.trod_struct hs h;simp only[Prod.mk.injEq] at hx;refine⟨hl,λj f hj=>?_⟩;have uF:j<fs.size:=(eQ.1 hj).1;have h1:=hf j f hj;rw[aQ (by omega)] at h1;refine⟨n,_,_,h1,λk hk=>hw k ?_⟩;rw[hx.1];simp only[DataW.weights,hs];refine DataW.weights_mem_each (j:=j) (t:=f.type) (d:=(ys[j]'(by omega)).1) ?_ ?_ k hk
 ·simp[hj]
 ·simp[aQ (show j<ys.length by omega)]
theorem L1{H:Type}{enc:TypeId×Value->H}{P:Program}(hl:laidOutB P=true){W W':World}(hb:Below W.heap.size W W') :
 ∀ {ts:List TypeId} {vs:List Value} {ds:List (DataW H)} {ps:List MemPlace},(∀ t∈ts,P.readableRec t=true/\t<P.types.size)->DataW.TrodAll enc P W 0 (λ_=>true) true ts vs ds ps->(∀ x∈ps,x.block<W.heap.size)->
   DataW.TrodAll enc P W' 0 (λb=>decide (b<W.heap.size)) true ts vs ds ps
 | [],[],[],_,_,h,_=>h
 | t::ts,v::vs,d::ds,ps,hr,h,af=>by
   obtain⟨p,q,h1,h2,rfl⟩:=h;have ht:=hr t (by simp);exact⟨p,q,Below.trod hl ht.1 ht.2 h1 hb (λx hx=>af x (by simp[hx])),L1 hl hb (λt ht=>hr t (by simp[ht])) h2 (λx hx=>af x (by simp[hx])),rfl⟩
 | [],_::_,_,_,_,h,_=>h.elim
 | [],[],_::_,_,_,h,_=>h.elim
 | _::_,[],_,_,_,h,_=>h.elim
 | _::_,_::_,[],_,_,h,_=>h.elim
theorem Hx{H:Type}{enc:TypeId×Value->H}{P:Program}{f:Func}{s:ChangeSpec}{W W':World}{args:Array Value}{v:Value}{ds gs:List (DataW H)}{before:List MemPlace}
 (hl:laidOutB P=true) (hr:∀ t∈f.params.toList,P.readableRec t=true/\t<P.types.size) (mY:s.vars = [])
 (hW:DataW.Whole enc P f.params.toList s.vars false W args.toList ds gs before) (hb:Below W.heap.size W W')
 (re:∀ (b:Nat) (sp:Nat->Bool) (hd:Bool),DataW.TrodAll enc P W' b sp hd f.resultTypes.toList (v.resultList f.resultTypes.size) (s.fn H (ds++gs)).results [])
 (uu:(s.fn H (ds++gs)).args=ds) (ZO:(s.fn H (ds++gs)).vars = []) :
 s.post enc P f false true false false W args v W':=by
 have af:=hW.lt;have hW':=hW;obtain⟨p,q,hA,hV,rfl,_,_⟩:=hW;rw[mY] at hV;have hq:q = []:=by
  cases gs with
  | nil=>exact hV
  | cons _ _=>exact hV.elim
 subst hq;refine⟨ds,gs,_,[],p,[],hW',re _ _ _,?_,?_,World.keptBut_mono (λx hx=>⟨hx,.inr (by simpa using hx)⟩) (hb.frame (·∈p ++ [])),λh=>by cases h⟩
 ·rw[uu];exact L1 hl hb hr hA (λx hx=>af x (by simp[hx]))
 ·rw[ZO,mY];rfl
theorem yL:prog.cellsOf 9=1:=by kernel_rfl
theorem lo:laidOutB prog=true:=by kernel_rfl
theorem We:prog.cellsOf 23=1:=by kernel_rfl
theorem Wf:prog.cellsOf 42=1:=by kernel_rfl
theorem Wg:prog.cellsOf 22=1:=by kernel_rfl
theorem Wh:prog.cellsOf 54=1:=by kernel_rfl
theorem Wd:prog.cellsOf 25=4:=by kernel_rfl
def VH(W:World)(B:Nat)(e:List Value)(x:Np.DSet):Prop:=∃ (s:ByteArray) (v:Value),s.data.toList=x.name/\s.size<=140737488355328/\SlR bS 3 W B v x.data/\e = [.string s,.int .i64 x.type,.int .i64 x.life,v]
theorem arX:kJ prog 75 3 bS:=by
 intro H enc W base spare held fuel cs d ps h hw;obtain⟨hl,hf⟩:=xE underlying75 h hw;have hl':cs.length=3:=hl.trans (by kernel_rfl);clear hl
 match cs,hl' with
 | [c0,c1,c2],_=>
  obtain⟨n0,d0,p0,t0,w0⟩:=hf 0 _ rfl;have t0':DataW.trod enc prog W base spare held n0 9 (([c0,c1,c2].drop 0).take (prog.cellsOf 9))=some (d0,p0):=t0;rw[yL] at t0';have u0:DataW.trod enc prog W base spare held n0 9 [c0]=some (d0,p0):=t0';obtain⟨n1,d1,p1,t1,w1⟩:=hf 1 _ rfl;have t1':DataW.trod enc prog W base spare held n1 3 (([c0,c1,c2].drop 1).take (prog.cellsOf 3))=some (d1,p1):=t1;rw[kK] at t1';have u1:DataW.trod enc prog W base spare held n1 3 [c1]=some (d1,p1):=t1';obtain⟨n2,d2,p2,t2,w2⟩:=hf 2 _ rfl;have t2':DataW.trod enc prog W base spare held n2 3 (([c0,c1,c2].drop 2).take (prog.cellsOf 3))=some (d2,p2):=t2;rw[kK] at t2';have u2:DataW.trod enc prog W base spare held n2 3 [c2]=some (d2,p2):=t2';obtain⟨_,_,s0,_,uT,eO⟩:=AE underlying9 H enc W base spare held n0 _ _ _ u0 w0;obtain rfl:c0 = .string s0:=by simpa using eO
  obtain⟨_,x1,d6,wf1⟩:=oW underlying3 H enc W base spare held n1 _ _ _ u1 w1;obtain rfl:c1 = .int .i64 x1:=by simpa using d6
  obtain⟨_,x2,my,wf2⟩:=oW underlying3 H enc W base spare held n2 _ _ _ u2 w2;obtain rfl:c2 = .int .i64 x2:=by simpa using my
  exact⟨rfl,⟨s0.data.toList,x1,x2⟩,s0,rfl,uT,rfl⟩
theorem arK:kJ prog 23 1 (RSl bS 3):=Io underlying23 (by kernel_rfl) (by decide) (of_decide_eq_true (by kernel_rfl)) arX
theorem Im:kJ prog 25 4 VH:=by
 intro H enc W base spare held fuel cs d ps h hw;obtain⟨hl,hf⟩:=xE underlying25 h hw;have hl':cs.length=4:=hl.trans (by kernel_rfl);clear hl
 match cs,hl' with
 | [c0,c1,c2,c3],_=>
  obtain⟨n0,d0,p0,t0,w0⟩:=hf 0 _ rfl;have t0':DataW.trod enc prog W base spare held n0 9 (([c0,c1,c2,c3].drop 0).take (prog.cellsOf 9))=some (d0,p0):=t0;rw[yL] at t0';have u0:DataW.trod enc prog W base spare held n0 9 [c0]=some (d0,p0):=t0';obtain⟨n1,d1,p1,t1,w1⟩:=hf 1 _ rfl;have t1':DataW.trod enc prog W base spare held n1 3 (([c0,c1,c2,c3].drop 1).take (prog.cellsOf 3))=some (d1,p1):=t1;rw[kK] at t1';have u1:DataW.trod enc prog W base spare held n1 3 [c1]=some (d1,p1):=t1';obtain⟨n2,d2,p2,t2,w2⟩:=hf 2 _ rfl;have t2':DataW.trod enc prog W base spare held n2 3 (([c0,c1,c2,c3].drop 2).take (prog.cellsOf 3))=some (d2,p2):=t2;rw[kK] at t2';have u2:DataW.trod enc prog W base spare held n2 3 [c2]=some (d2,p2):=t2';obtain⟨n3,d3,p3,t3,w3⟩:=hf 3 _ rfl;have t3':DataW.trod enc prog W base spare held n3 23 (([c0,c1,c2,c3].drop 3).take (prog.cellsOf 23))=some (d3,p3):=t3;rw[We] at t3';have u3:DataW.trod enc prog W base spare held n3 23 [c3]=some (d3,p3):=t3';obtain⟨_,_,s0,_,uT,eO⟩:=AE underlying9 H enc W base spare held n0 _ _ _ u0 w0;obtain rfl:c0 = .string s0:=by simpa using eO
  obtain⟨_,x1,d6,wf1⟩:=oW underlying3 H enc W base spare held n1 _ _ _ u1 w1;obtain rfl:c1 = .int .i64 x1:=by simpa using d6
  obtain⟨_,x2,my,wf2⟩:=oW underlying3 H enc W base spare held n2 _ _ _ u2 w2;obtain rfl:c2 = .int .i64 x2:=by simpa using my
  obtain⟨_,x3,v3,p9,ZG⟩:=arK H enc W base spare held n3 _ _ _ u3 w3;obtain rfl:c3=v3:=by simpa using p9
  exact⟨rfl,⟨s0.data.toList,x1,x2,x3⟩,s0,_,rfl,uT,ZG,rfl⟩
theorem arY:kJ prog 56 6 dw:=by
 intro H enc W base spare held fuel cs d ps h hw;obtain⟨hl,hf⟩:=xE underlying56 h hw;have hl':cs.length=6:=hl.trans (by kernel_rfl);clear hl
 match cs,hl' with
 | [c0,c1,c2,c3,c4,c5],_=>
  obtain⟨n0,d0,p0,t0,w0⟩:=hf 0 _ rfl;have t0':DataW.trod enc prog W base spare held n0 9 (([c0,c1,c2,c3,c4,c5].drop 0).take (prog.cellsOf 9))=some (d0,p0):=t0;rw[yL] at t0';have u0:DataW.trod enc prog W base spare held n0 9 [c0]=some (d0,p0):=t0';obtain⟨n1,d1,p1,t1,w1⟩:=hf 1 _ rfl;have t1':DataW.trod enc prog W base spare held n1 3 (([c0,c1,c2,c3,c4,c5].drop 1).take (prog.cellsOf 3))=some (d1,p1):=t1;rw[kK] at t1';have u1:DataW.trod enc prog W base spare held n1 3 [c1]=some (d1,p1):=t1';obtain⟨n2,d2,p2,t2,w2⟩:=hf 2 _ rfl;have t2':DataW.trod enc prog W base spare held n2 3 (([c0,c1,c2,c3,c4,c5].drop 2).take (prog.cellsOf 3))=some (d2,p2):=t2;rw[kK] at t2';have u2:DataW.trod enc prog W base spare held n2 3 [c2]=some (d2,p2):=t2';obtain⟨n3,d3,p3,t3,w3⟩:=hf 3 _ rfl;have t3':DataW.trod enc prog W base spare held n3 3 (([c0,c1,c2,c3,c4,c5].drop 3).take (prog.cellsOf 3))=some (d3,p3):=t3;rw[kK] at t3';have u3:DataW.trod enc prog W base spare held n3 3 [c3]=some (d3,p3):=t3';obtain⟨n4,d4,p4,t4,w4⟩:=hf 4 _ rfl;have t4':DataW.trod enc prog W base spare held n4 3 (([c0,c1,c2,c3,c4,c5].drop 4).take (prog.cellsOf 3))=some (d4,p4):=t4;rw[kK] at t4';have u4:DataW.trod enc prog W base spare held n4 3 [c4]=some (d4,p4):=t4';obtain⟨n5,d5,p5,t5,w5⟩:=hf 5 _ rfl;have t5':DataW.trod enc prog W base spare held n5 54 (([c0,c1,c2,c3,c4,c5].drop 5).take (prog.cellsOf 54))=some (d5,p5):=t5;rw[Wh] at t5';have u5:DataW.trod enc prog W base spare held n5 54 [c5]=some (d5,p5):=t5';obtain⟨_,_,s0,_,uT,eO⟩:=AE underlying9 H enc W base spare held n0 _ _ _ u0 w0;obtain rfl:c0 = .string s0:=by simpa using eO
  obtain⟨_,x1,d6,wf1⟩:=oW underlying3 H enc W base spare held n1 _ _ _ u1 w1;obtain rfl:c1 = .int .i64 x1:=by simpa using d6
  obtain⟨_,x2,my,wf2⟩:=oW underlying3 H enc W base spare held n2 _ _ _ u2 w2;obtain rfl:c2 = .int .i64 x2:=by simpa using my
  obtain⟨_,x3,p9,wf3⟩:=oW underlying3 H enc W base spare held n3 _ _ _ u3 w3;obtain rfl:c3 = .int .i64 x3:=by simpa using p9
  obtain⟨_,x4,ZT,wf4⟩:=oW underlying3 H enc W base spare held n4 _ _ _ u4 w4;obtain rfl:c4 = .int .i64 x4:=by simpa using ZT
  obtain⟨_,x5,ZU,wf5⟩:=oW underlying54 H enc W base spare held n5 _ _ _ u5 w5;obtain rfl:c5 = .int .u64 x5:=by simpa using ZU
  exact⟨rfl,⟨s0.data.toList,x1,x2,x3,x4,x5⟩,s0,rfl,uT,rfl⟩
theorem asZ:kJ prog 42 1 (RSl dw 6):=Io underlying42 (by kernel_rfl) (by decide) (of_decide_eq_true (by kernel_rfl)) arY
theorem asQ:kJ prog 44 5 aB:=by
 intro H enc W base spare held fuel cs d ps h hw;obtain⟨hl,hf⟩:=xE underlying44 h hw;have hl':cs.length=5:=hl.trans (by kernel_rfl);clear hl
 match cs,hl' with
 | [c0,c1,c2,c3,c4],_=>
  obtain⟨n0,d0,p0,t0,w0⟩:=hf 0 _ rfl;have t0':DataW.trod enc prog W base spare held n0 25 (([c0,c1,c2,c3,c4].drop 0).take (prog.cellsOf 25))=some (d0,p0):=t0;rw[Wd] at t0';have u0:DataW.trod enc prog W base spare held n0 25 [c0,c1,c2,c3]=some (d0,p0):=t0';obtain⟨n1,d1,p1,t1,w1⟩:=hf 1 _ rfl;have t1':DataW.trod enc prog W base spare held n1 42 (([c0,c1,c2,c3,c4].drop 4).take (prog.cellsOf 42))=some (d1,p1):=t1;rw[Wf] at t1';have u1:DataW.trod enc prog W base spare held n1 42 [c4]=some (d1,p1):=t1';obtain⟨_,x0,eO⟩:=Im H enc W base spare held n0 _ _ _ u0 w0;obtain⟨_,x1,v1,d6,G4⟩:=asZ H enc W base spare held n1 _ _ _ u1 w1;obtain rfl:c4=v1:=by simpa using d6
  obtain⟨sa,va,ha,hb,hc,hd⟩:=eO;exact⟨rfl,⟨x0,x1⟩,sa,va,_,ha,hb,hc,G4,by rw[List.cons.injEq,List.cons.injEq,List.cons.injEq,List.cons.injEq] at hd;obtain⟨rfl,rfl,rfl,rfl,_⟩:=hd;rfl⟩
theorem In:kJ prog 22 1 (RSl aB 5):=Io underlying22 (by kernel_rfl) (by decide) (of_decide_eq_true (by kernel_rfl)) asQ
def VG(_:World)(_:Nat)(e:List Value)(x:ByteArray×Int):Prop:=x.1.size<=140737488355328/\e = [.string x.1,.int .i64 x.2]
theorem Il:kJ prog 27 2 VG:=by
 intro H enc W base spare held fuel cs d ps h hw;obtain⟨hl,hf⟩:=xE underlying27 h hw;have hl':cs.length=2:=hl.trans (by kernel_rfl);clear hl
 match cs,hl' with
 | [c0,c1],_=>
  obtain⟨n0,d0,p0,t0,w0⟩:=hf 0 _ rfl;have t0':DataW.trod enc prog W base spare held n0 9 (([c0,c1].drop 0).take (prog.cellsOf 9))=some (d0,p0):=t0;rw[yL] at t0';have u0:DataW.trod enc prog W base spare held n0 9 [c0]=some (d0,p0):=t0';obtain⟨n1,d1,p1,t1,w1⟩:=hf 1 _ rfl;have t1':DataW.trod enc prog W base spare held n1 3 (([c0,c1].drop 1).take (prog.cellsOf 3))=some (d1,p1):=t1;rw[kK] at t1';have u1:DataW.trod enc prog W base spare held n1 3 [c1]=some (d1,p1):=t1';obtain⟨_,_,s0,_,uT,eO⟩:=AE underlying9 H enc W base spare held n0 _ _ _ u0 w0;obtain rfl:c0 = .string s0:=by simpa using eO
  obtain⟨_,x1,d6,wf1⟩:=oW underlying3 H enc W base spare held n1 _ _ _ u1 w1;obtain rfl:c1 = .int .i64 x1:=by simpa using d6
  exact⟨rfl,⟨s0,x1⟩,uT,rfl⟩
theorem LX{α:Type}{P:Program}{t e:TypeId}{sz:Nat}{R:aUJ α}(hs:P.underlying t=some (.slice e))(hR:kJ P t 1 (RSl R sz)){H:Type}{enc:TypeId×Value->H}{W:World}{r:Reach}{base b0:Nat}{spare:Nat->Bool}{held:Bool}{v:Value}{d:DataW H}{p:List MemPlace}
 (hv:Value.okWide P W r b0 t v) (h:DataW.Trod enc P W base spare held t v d p) (hw:∀ n∈d.weights P t,n<=reachBytes):∃ xs:List α,SlR R sz W W.heap.size v xs:=by
 obtain⟨a,len,cap,rfl⟩:=okWide_slice hs hv;obtain⟨fuel,hf⟩:=h;obtain⟨_,x,u,hu,hx⟩:=hR H enc W base spare held fuel _ d p hf hw;simp[Value.cells] at hu;subst hu;exact⟨x,hx⟩
theorem vX{α:Type}{P:Program}{t:TypeId}{sz:Nat}{R:aUJ α}{fs:Array Field}(hs:P.underlying t=some (.struct fs))(hR:kJ P t sz R){H:Type}{enc:TypeId×Value->H}{W:World}{r:Reach}{base b0:Nat}{spare:Nat->Bool}{held:Bool}{v:Value}{d:DataW H}{p:List MemPlace}
 (hv:Value.okWide P W r b0 t v) (h:DataW.Trod enc P W base spare held t v d p) (hw:∀ n∈d.weights P t,n<=reachBytes):∃ (cs:List Value) (x:α),v = .agg cs.toArray/\R W W.heap.size cs x:=by
 obtain⟨cs,rfl,_⟩:=okWide_struct hs hv;obtain⟨fuel,hf⟩:=h;obtain⟨_,x,hx⟩:=hR H enc W base spare held fuel _ d p hf hw;exact⟨_,x,by simp[Value.cells],hx⟩
theorem nd{H:Type}{P:Program}{ts:List TypeId}{ds:List (DataW H)}(h:(DataW.weightsEach P ts ds).all (·<=reachBytes)=true){j:Nat}{t:TypeId}{d:DataW H}(ht:ts[j]?=some t)(hd:ds[j]?=some d):∀ n∈d.weights P t,n<=reachBytes:=
 λn hn=>by simpa using List.all_eq_true.1 h n (DataW.weights_mem_each ht hd n hn)
end
end Go.Proofs.YtadhigmjilijcaaGreatDoor
