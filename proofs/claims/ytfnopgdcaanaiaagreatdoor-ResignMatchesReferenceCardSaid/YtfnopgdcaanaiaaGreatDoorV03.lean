/- Parts of the proof. No condition. -/
import Derived.Lib.ConvBytes
import Derived.Laws.AppendOwnNone
import Derived.Test.YtfnopgdcaanaiaaGreatDoorProg
import Derived.Test.YtfnopgdcaanaiaaGreatDoorV01
set_option linter.all false
set_option maxRecDepth 100000
set_option maxHeartbeats 8000000
namespace Go.Proofs.YtfnopgdcaanaiaaGreatDoor
open Go.Proofs.Tryz
namespace Np
inductive Res (α:Type) where
 | ok (a:α) (r:List Tok)
 | err (e:Int) (r:List Tok)
deriving DecidableEq
structure Diag where
 err:Int
 pos:Int
deriving DecidableEq
end Np
section
open Go.RowKit
theorem RE{F:Fence}{n:Nat}{P:Program}(w:World){ops:Array Oper}{rest:List Oper}{o:Oper}{a:Act}{Q:Exit->Act->World->Prop}
 (hg:o.guard=none) (s x:Operand) (t:TypeId) (iB:o.op=Op.call { callee:=Callee.builtin Builtin.append,args:=#[s,x],argTypes:=#[t,t] })
 (base:Nat) (e:TypeId) (i:TypeInfo) (z:Value) (size bytes:Nat) (h1:P.underlying t=some (.slice e)) (h2:P.info? e=some i) (h3:i.zero=some z) (h4:i.size=size) (h5:i.bytes=bytes) (h6:z.cells.size=size) (h7:0<size)
 (v:Value) (k:Nat) (xs:List Value) (hs:a.eval s=v) (hown:w.ownsRow base e size v k xs) (ad:Addr) (m c:Nat) (news:List Value) (hx:a.eval x = .slice (some ad) m c) (hn:news.length=m * size)
 (hc:∀ j u,news[j]?=some u->w.cell? (ad.add j)=some u) (Wp:∀ u∈news,u.oneCell'=true) (b1:k+m<=maxLen) (b2:(k+m) * bytes<=140737488355328) (b3:base<=w.heap.size)
 (hK:∀ v' w',w'.ownsRow base e size v' (k+m) (xs++news)->w.grownBy w' v.ownBlock->(v'.ownBlock=v.ownBlock\/v'.ownBlock=some w.heap.size)->wpListIn F n P ops Q rest (a.put o.dst v') w') :
 wpListIn F n P ops Q (o::rest) a w:=by
 obtain⟨v',w',dh,r1,r2,_,r4⟩:=run_append_own_at (P:=P) w base t o.type e i z size bytes h1 h2 h3 h4 h5 h6 h7 v k xs hown ad m c news hn hc Wp b1 b2 b3;refine wpListIn_plain hg λK hK'=>⟨by simp[Oper.about,iB,resolve,Target.leads,Sem.run_pure],?_⟩;rw[Oper.semAt_plain F _ _ (by rw[iB];intro c hc';cases hc')];simp[execOp,iB,resolve,invoke,builtin,hs,hx,dh,Result.andThen];exact hK' _ _ (hK v' w' r1 r2 r4)
theorem PY{B:Nat}{S:Nat->Prop}{W W':World}{base:Nat}{e:TypeId}{size:Nat}{v:Value}{k:Nat}{xs:List Value}(h:W.ownsRow base e size v k xs)(hs:ItStep B S W W')(hS:∀ g,v.ownBlock=some g->S g):W'.ownsRow base e size v k xs:=by
 refine⟨h.1,?_⟩;rcases h.2 with hn | ⟨g,cap,cur,rfl,hb,hg,rest⟩
 ·exact .inl hn
 ·exact .inr ⟨g,cap,cur,rfl,hb,(hs.keep g (eQ.1 hg).1 (.inr (hS g rfl))).trans hg,rest⟩
theorem cX{W W':World}{base:Nat}{e:TypeId}{size:Nat}{v:Value}{k:Nat}{xs:List Value}(h:W.ownsRow base e size v k xs)(hs:∀ g,v.ownBlock=some g->W'.heap[g]?=W.heap[g]?):W'.ownsRow base e size v k xs:=by
 refine⟨h.1,?_⟩;rcases h.2 with hn | ⟨g,cap,cur,rfl,hb,hg,rest⟩
 ·exact .inl hn
 ·exact .inr ⟨g,cap,cur,rfl,hb,(hs g rfl).trans hg,rest⟩
theorem Cj{α:Type}{R:aPK α}{sz:Nat}{W:World}{base:Nat}{e:TypeId}{v:Value}{xs:List α}(enc:α->List Value)(hlen:∀ x∈xs,(enc x).length=sz)
 (h:W.ownsRow base e sz v xs.length (xs.flatMap enc)) (hl:xs.length<=140737488355328) (hR:∀ x∈xs,R W W.heap.size (enc x) x):SlR R sz W W.heap.size v xs:=by
 have IZ:∀ (l:List α) (i:Nat) (x:α) (j:Nat) (u:Value),(∀ y∈l,(enc y).length=sz)->l[i]?=some x->(enc x)[j]?=some u->(l.flatMap enc)[i * sz+j]?=some u:=by
  intro l
  induction l with
  | nil=>intro i x j u _ hi;simp at hi
  | cons y l ih=>
   intro i x j u eV hi hj;rw[List.flatMap_cons];have hy:(enc y).length=sz:=eV y (by simp)
   cases i with
   | zero=>
    simp at hi;subst hi;rw[List.getElem?_append_left (by have:=(cQ.1 hj).1;omega)];simpa using hj
   | succ i=>
    rw[oQ (by rw[hy,Nat.succ_mul];omega),hy]
    have:=ih i x j u (λy hy=>eV y (by simp[hy])) (by simpa using hi) hj
    rw[show (i+1) * sz+j - sz=i * sz+j by rw[Nat.succ_mul];omega];exact this
 rcases h.2 with ⟨rfl,h0⟩ | ⟨g,cap,cur,rfl,hb,hg,lA,_,_,Yq⟩
 ·have:xs = []:=rQ h0
  subst this;exact⟨none,0,rfl,by simp,by simp,λi x hx=>by simp at hx⟩
 ·refine⟨_,cap,rfl,lA,hl,λi x hx=>⟨g,0,enc x,rfl,(eQ.1 hg).1,hlen x (gQ hx),λj u hj=>?_,hR x (gQ hx)⟩⟩;have h1:=IZ xs i x j u hlen hx hj;have h2:=h.cells (g:=g) rfl _ _ h1;have mE:(⟨g,0,none⟩:Addr).add (i * sz+j)=⟨g,0+i * sz+j,none⟩:=by unfold Addr.add;split <;> simp_all
  rw[mE] at h2;exact h2
def iM(_:World)(_:Nat)(e:List Value)(x:Int):Prop:=e = [.int .i64 x]
theorem kj:dH iM:=λ_ _ _ _ _ h _=>h
theorem qT:eh iM:=λ_ _ _ _ _ h _=>h
theorem EC{α:Type}(f:α->Value)(l:List α):l.map f=l.flatMap λx=>[f x]:=by induction l <;> simp_all
theorem sF{W:World}{base:Nat}{e:TypeId}{size:Nat}{v:Value}{k:Nat}{xs:List Value}(h:W.ownsRow base e size v k xs):∃ A cap,v = .slice A k cap:=by
 rcases h.2 with ⟨rfl,rfl⟩ | ⟨g,cap,_,rfl,_⟩
 ·exact⟨none,0,rfl⟩
 ·exact⟨_,cap,rfl⟩
theorem EI{W:World}{base:Nat}{e:TypeId}{size:Nat}{v:Value}{k:Nat}{xs:List Value}(h:W.ownsRow base e size v k xs):∀ g,v.ownBlock=some g->base<=g/\g<W.heap.size:=h.lt
theorem UI{W w1:World}{lb:Nat}{t e:TypeId}{size:Nat}{v v':Value}{k m:Nat}{xs ys:List Value}{tmp:Obj}{S F:Nat->Prop}
 (hS:∀ i,S i↔F i\/i=lb\/v.ownBlock=some i) (hF:∀ i,F i->i<lb) (hv:Boxed W lb t v) (hrow:W.ownsRow (lb+1) e size v k xs)
 (kM:w1.ownsRow (lb+1) e size v' m ys) (oJ:(W.alloc tmp).grownBy w1 v.ownBlock) (hat:v'.ownBlock=v.ownBlock\/v'.ownBlock=some (W.alloc tmp).heap.size) :
 Boxed w1 lb t v/\Boxed (w1.setCell ⟨lb,0,none⟩ v') lb t v'/\(w1.setCell ⟨lb,0,none⟩ v').ownsRow (lb+1) e size v' m ys/\RdStep S W (w1.setCell ⟨lb,0,none⟩ v')/\
  (∀ i,(F i\/i=lb\/v'.ownBlock=some i)->S i\/W.heap.size<=i)/\(∀ i,(F i\/i=lb\/v'.ownBlock=some i)->i<(w1.setCell ⟨lb,0,none⟩ v').heap.size)/\
  (∀ i,i<lb->(w1.setCell ⟨lb,0,none⟩ v').heap[i]?=W.heap[i]?):=by
 have aa:=hv.lt;have hb:=EI hrow;have hb':=EI kM;have hne:some lb≠v.ownBlock:=λe=>by have:=(hb lb e.symm).1;omega
 have BW:Boxed w1 lb t v:=(hv.alloc tmp).kept oJ hne;have al:W.heap.size+1<=w1.heap.size:=by have:=oJ.size;simpa using this
 have qD:(w1.setCell ⟨lb,0,none⟩ v').heap.size=w1.heap.size:=by simp[World.setCell]
 refine⟨BW,BW.set v',cX kM (λg hg=>wQ _ _ _ _ (λe=>by have:=(hb' g hg).1;simp at e;omega)),?_,λi hi=>?_,λi hi=>?_,λi hi=>?_⟩
 ·refine RdStep.setCell (RdStep.grown ((RdStep.refl S W).alloc tmp) oJ (λk ek=>.inl ((hS k).2 (.inr (.inr ek))))) (.inl ((hS _).2 (.inr (.inl rfl)))) _
 ·rcases hi with hi | hi | hi
  ·exact .inl ((hS _).2 (.inl hi))
  ·exact .inl ((hS _).2 (.inr (.inl hi)))
  ·rcases hat with h | h
   ·rw[h] at hi;exact .inl ((hS _).2 (.inr (.inr hi)))
   ·rw[h] at hi;simp at hi;right;omega
 ·rw[qD];rcases hi with hi | hi | hi
  ·have:=hF i hi;omega
  ·omega
  ·exact (hb' i hi).2
 ·rw[wQ _ _ _ _ (by simp;omega),oJ.block i (by simp;omega) (λe=>by have:=(hb i e.symm).1;omega),Below.heap_alloc _ _ _ (by omega)]
structure Turned(b:Nat)(w w':World):Prop where
 os:w'.os=w.os
 tape:w'.tape=w.tape
 output:w'.output=w.output
 size:w'.heap.size=w.heap.size
 block:∀ i,i≠b->w'.heap[i]?=w.heap[i]?
theorem Turned.refl(b:Nat)(w:World):Turned b w w:=⟨rfl,rfl,rfl,rfl,λ_ _=>rfl⟩
theorem Turned.trans{b:Nat}{u v w:World}(h:Turned b u v)(k:Turned b v w):Turned b u w:=⟨k.os.trans h.os,k.tape.trans h.tape,k.output.trans h.output,k.size.trans h.size,λi hi=>(k.block i hi).trans (h.block i hi)⟩
theorem Turned.cell{b:Nat}{w w':World}(h:Turned b w w'){p:Addr}(hp:p.block≠b):w'.cell? p=w.cell? p:=by
 unfold World.cell?;rw[h.block _ hp]
theorem Turned.grown{b:Nat}{w w':World}(h:Turned b w w'):w.grownBy w' (some b):=⟨h.os,h.tape,h.output,by rw[h.size];exact bQ _,λi _ hne=>h.block i (λe=>hne (by rw[e]))⟩
theorem Turned.below{b n:Nat}{w w':World}(h:Turned b w w')(hn:n<=b):Below n w w':=⟨h.os,h.tape,h.output,by rw[h.size];exact bQ _,λi hi=>h.block i (by omega)⟩
def bI{α:Type}(R:aPK α)(sz:Nat)(e:TypeId)(base B:Nat)(w:World)(v:Value)(xs:List α):Prop:=
 ∃ rows:List (List Value),rows.length=xs.length/\w.ownsRow base e sz v xs.length rows.flatten/\∀ (i:Nat) (r:List Value) (x:α),rows[i]?=some r->xs[i]?=some x->r.length=sz/\R w B r x
theorem Dx{sz:Nat} : ∀ (rows:List (List Value)) (i j:Nat) (r:List Value) (u:Value),(∀ q∈rows,q.length=sz)->rows[i]?=some r->r[j]?=some u->rows.flatten[i * sz+j]?=some u:=by
 intro rows
 induction rows with
 | nil=>intro i j r u _ h;simp at h
 | cons q rows ih=>
  intro i j r u hq h hj;have hl:q.length=sz:=hq q (by simp);rw[List.flatten_cons]
  cases i with
  | zero=>
   simp at h;subst h;rw[List.getElem?_append_left (by have:=(cQ.1 hj).1;omega)];simpa using hj
  | succ i=>
   rw[oQ (by rw[hl,Nat.succ_mul];omega),hl,show (i+1) * sz+j - sz=i * sz+j by rw[Nat.succ_mul];omega];exact ih i j r u (λq hq'=>hq q (by simp[hq'])) (by simpa using h) hj
theorem Hf{sz:Nat} : ∀ (rows:List (List Value)),(∀ q∈rows,q.length=sz)->rows.flatten.length=rows.length * sz:=by
 intro rows
 induction rows with
 | nil=>intro _;simp
 | cons q rs ih=>
  intro h;rw[List.flatten_cons,List.length_append,ih (λx hx=>h x (by simp[hx])),h q (by simp),List.length_cons,Nat.succ_mul];omega
theorem bI.rows_len{α:Type}{R:aPK α}{sz B:Nat}{w:World}{xs:List α}{rows:List (List Value)}(hl:rows.length=xs.length)(h:∀ (i:Nat) (r:List Value) (x:α),rows[i]?=some r->xs[i]?=some x->r.length=sz/\R w B r x):∀ q∈rows,q.length=sz:=λq hq=>by
 obtain⟨i,hi,rfl⟩:=nQ.1 hq;exact (h i _ _ (aQ hi) (aQ (by omega))).1
theorem bI.slr{α:Type}{R:aPK α}{sz:Nat}{e:TypeId}{base B:Nat}{w:World}{v:Value}{xs:List α}(h:bI R sz e base B w v xs)(hm:eh R)(hB:B<=w.heap.size)(hl:xs.length<=140737488355328):SlR R sz w w.heap.size v xs:=by
 obtain⟨rows,h1,h2,h3⟩:=h;rcases h2.2 with ⟨rfl,h0⟩ | ⟨g,cap,cur,rfl,hb,hg,lA,_⟩
 ·have:xs = []:=rQ h0
  subst this;exact⟨none,0,rfl,by simp,by simp,λi x hx=>by simp at hx⟩
 ·refine⟨_,cap,rfl,lA,hl,λi x hx=>?_⟩;have hi:=(cQ.1 hx).1;have hr:=aQ (show i<rows.length by omega);obtain⟨h4,h5⟩:=h3 i _ x hr hx;refine⟨g,0,rows[i],rfl,(eQ.1 hg).1,h4,λj u hj=>?_,hm _ _ _ _ _ h5 hB⟩;have h6:=h2.cells (g:=g) rfl _ _ (Dx rows i j _ u (bI.rows_len h1 h3) hr hj);have mE:(⟨g,0,none⟩:Addr).add (i * sz+j)=⟨g,0+i * sz+j,none⟩:=by unfold Addr.add;split <;> simp_all
  rw[mE] at h6;exact h6
theorem bI.keep{α:Type}{R:aPK α}{sz:Nat}{e:TypeId}{base B:Nat}{w w':World}{v:Value}{xs:List α}(h:bI R sz e base B w v xs)(hk:dH R)(hb:Below w.heap.size w w')(hB:B<=w.heap.size):bI R sz e base B w' v xs:=by
 obtain⟨rows,h1,h2,h3⟩:=h;refine⟨rows,h1,cX h2 (λg hg=>hb.block g (h2.lt g hg).2),λi r x hr hx=>?_⟩;obtain⟨h4,h5⟩:=h3 i r x hr hx;exact⟨h4,hk _ _ _ _ _ h5 (hb.mono hB)⟩
theorem bI.empty{α:Type}{R:aPK α}{sz:Nat}{e:TypeId}{base B:Nat}(w:World)(hb:base<=w.heap.size):bI (α:=α) R sz e base B (w.alloc (.cells #[] e)) (.slice (some ⟨w.heap.size,0,none⟩) 0 0) []:=
 ⟨[],rfl,⟨by simp,.inr ⟨w.heap.size,0,#[],rfl,hb,heap_alloc_new _ _,bQ _,by simp[maxLen],by simp,by simp⟩⟩,λi r x hr=>by simp at hr⟩
theorem bI.nil{α:Type}{R:aPK α}{sz:Nat}{e:TypeId}{base B:Nat}(w:World):bI (α:=α) R sz e base B w (.slice none 0 0) []:=⟨[],rfl,⟨by simp,.inl ⟨rfl,rfl⟩⟩,λi r x hr=>by simp at hr⟩
theorem Q3{α:Type}{R:aPK α}{sz:Nat}{w:World}{B:Nat}{A:Option Addr}{n c:Nat}{ys:List α}(h:SlR R sz w B (.slice A n c) ys)(al:0<sz) :
 ∃ rows:List (List Value),rows.length=ys.length/\(∀ (i:Nat) (r:List Value) (x:α),rows[i]?=some r->ys[i]?=some x->r.length=sz/\R w B r x)/\(ys≠[]->∃ b o,A=some ⟨b,o,none⟩/\b<B/\∀ j u,rows.flatten[j]?=some u->w.cell? ((⟨b,o,none⟩:Addr).add j)=some u):=by
 obtain⟨A',c',hv,hc,hl,he⟩:=h
 cases hv
 have aP:∀ k,k<=ys.length->∃ rows:List (List Value),rows.length=k/\(∀ (i:Nat) (r:List Value) (x:α),rows[i]?=some r->ys[i]?=some x->r.length=sz/\R w B r x/\∃ b o,A=some ⟨b,o,none⟩/\b<B/\gG w b (o+i * sz) r):=by
  intro k
  induction k with
  | zero=>exact λ_=>⟨[],rfl,λi r x hr=>by simp at hr⟩
  | succ k ih=>
   intro hk;obtain⟨rows,h1,h2⟩:=ih (by omega);obtain⟨b,o,e,hA,hb,aY,hce,hr⟩:=he k _ (aQ (by omega:k<ys.length));refine⟨rows ++ [e],by simp[h1],λi r x hr' hx=>?_⟩;rcases Nat.lt_or_ge i rows.length with aa | pI
   ·rw[List.getElem?_append_left aa] at hr';exact h2 i r x hr' hx
   ·rw[oQ pI] at hr';have h0:i - rows.length=0:=by have:=(cQ.1 hr').1;simp at this;omega
    rw[h0] at hr';simp at hr';subst hr';obtain rfl:i=k:=by omega
    rw[aQ (by omega)] at hx;simp only[Option.some.injEq] at hx;subst hx;exact⟨aY,hr,b,o,hA,hb,hce⟩
 obtain⟨rows,h1,h2⟩:=aP ys.length (bQ _);refine⟨rows,h1,λi r x hr hx=>⟨(h2 i r x hr hx).1,(h2 i r x hr hx).2.1⟩,λhne=>?_⟩;have h0:0<ys.length:=Nat.pos_of_ne_zero (λe=>hne (rQ e));obtain⟨_,_,b,o,hA,hb,_⟩:=h2 0 _ _ (aQ (by omega)) (aQ h0);refine⟨b,o,hA,hb,λj u hj=>?_⟩;have hlen:∀ q∈rows,q.length=sz:=λq hq=>by
  obtain⟨i,hi,rfl⟩:=nQ.1 hq;exact (h2 i _ _ (aQ hi) (aQ (by omega))).1
 have yn:=Hf rows hlen;have j8:=(cQ.1 hj).1;have hi:j / sz<rows.length:=by rw[yn] at j8;exact Nat.div_lt_of_lt_mul (by rw[Nat.mul_comm];exact j8)
 obtain⟨h5,_,b',o',hA',_,hce⟩:=h2 (j / sz) _ _ (aQ hi) (aQ (by omega));rw[hA] at hA';simp only[Option.some.injEq,Addr.mk.injEq,and_true] at hA';obtain⟨rfl,rfl⟩:=hA';have Eb:j % sz<rows[j / sz].length:=by rw[h5];exact Nat.mod_lt _ al
 have h7:=Dx rows (j / sz) (j % sz) _ _ hlen (aQ hi) (aQ Eb);rw[Nat.div_add_mod' j sz,hj] at h7;simp only[Option.some.injEq] at h7;have h8:=hce (j % sz) _ (aQ Eb);rw[<-h7] at h8;have mE:(⟨b,o,none⟩:Addr).add j=⟨b,o+j,none⟩:=by unfold Addr.add;split <;> simp_all
 rw[mE,<-h8];congr 2
 have:=Nat.div_add_mod' j sz
 omega
section
variable {P:Program}
theorem QP{w:World}(base:Nat)(t ty e:TypeId)(i:TypeInfo)(size:Nat)(ht:P.underlying t=some (.slice e))(hi:P.info? e=some i)(v:Value)(n c:Nat)(xs:List Value)(hown:w.ownsRow base e size v n xs) :
 (Builtin.append_ #[t,t] ty #[v,.slice none 0 c]).run P w = .ok v w:=by
 rcases hown.2 with ⟨rfl,rfl⟩ | ⟨g,cap,cur,rfl,_,_,lA,_⟩
 ·simp[Builtin.append_,run_underlying ht,sizeOf,typeInfo,hi,Builtin.lenOf,Builtin.firstCells]
 ·simp[Builtin.append_,run_underlying ht,sizeOf,typeInfo,hi,Builtin.lenOf,Builtin.firstCells,lA,storeCells]
theorem Kv{α:Type}{R:aPK α}{sz:Nat}(w:World){ops:Array Oper}{rest:List Oper}{o:Oper}{a:Act}{Q:Exit->Act->World->Prop}(go:o.guard=none)(s x:Operand)(t:TypeId)
 (ho:o.op = .call { callee:=.builtin .append,args:=#[s,x],argTypes:=#[t,t] })
 (base B:Nat) (e:TypeId) (i:TypeInfo) (z:Value) (bytes:Nat) (ht:P.underlying t=some (.slice e)) (hi:P.info? e=some i) (hz:i.zero=some z) (lW:i.size=sz) (iP:i.bytes=bytes) (kg:z.cells.size=sz) (al:0<sz)
 (v:Value) (xs:List α) (hs:a.eval s=v) (hown:bI R sz e base B w v xs) (A:Option Addr) (c Bs:Nat) (ys:List α) (hx:a.eval x = .slice A ys.length c) (dy:SlR R sz w Bs (.slice A ys.length c) ys)
 (vX:∀ r y,R w Bs r y->∀ u∈r,u.oneCell'=true) (kE:xs.length+ys.length<=maxLen) (nt:(xs.length+ys.length) * bytes<=140737488355328) (dw:base<=w.heap.size) (pw:Bs<=B) (Nr:B<=base) (hk:dH R) (hm:eh R)
 (h:∀ v' w',bI R sz e base B w' v' (xs++ys)->Below base w w'->w.grownBy w' v.ownBlock->wpList P ops Q rest (a.put o.dst v') w'):wpList P ops Q (o::rest) a w:=by
 have rS:∀ (w':World) (v':Value) (rows rows':List (List Value)),Below base w w'->rows.length=xs.length->(∀ (i:Nat) (r:List Value) (x:α),rows[i]?=some r->xs[i]?=some x->r.length=sz/\R w B r x)->rows'.length=ys.length->
  (∀ (i:Nat) (r:List Value) (x:α),rows'[i]?=some r->ys[i]?=some x->r.length=sz/\R w Bs r x)->w'.ownsRow base e sz v' (xs.length+ys.length) (rows.flatten++rows'.flatten)->bI R sz e base B w' v' (xs++ys):=by
  intro w' v' rows rows' hb h1 h2 h3 h4 h5;refine⟨rows++rows',by simp[h1,h3],?_,λj r y hr hy=>?_⟩
  ·rw[List.length_append,List.flatten_append];exact h5
  ·rcases Nat.lt_or_ge j rows.length with aa | pI
   ·rw[List.getElem?_append_left aa] at hr;rw[List.getElem?_append_left (by omega)] at hy;obtain⟨h6,h7⟩:=h2 j r y hr hy;exact⟨h6,hk _ _ _ _ _ h7 (hb.mono Nr)⟩
   ·rw[oQ pI] at hr;rw[oQ (by omega),<-h1] at hy;obtain⟨h6,h7⟩:=h4 _ r y hr hy;exact⟨h6,hk _ _ _ _ _ (hm _ _ _ _ _ h7 pw) (hb.mono Nr)⟩
 obtain⟨rows,h1,h2,h3⟩:=hown;obtain⟨rows',h4,h5,h6⟩:=Q3 dy al;by_cases hy:ys = []
 ·subst hy;have pR:rows' = []:=rQ (by simpa using h4);subst pR
  cases A with
  | none=>
   have dh:=QP (P:=P) base t o.type e i sz ht hi v xs.length c rows.flatten h2;refine wpList_plain go λK hK=>?_;unfold Oper.wp;have hx':a.eval x = .slice none 0 c:=hx;simp[execOp,ho,resolve,invoke,builtin,hs,hx',dh,Result.andThen];refine hK _ _ (h v w (rS w v rows [] (vQ _ _) h1 h3 rfl (λj r y hr=>by simp at hr) (by simpa using h2)) (vQ _ _) ⟨rfl,rfl,rfl,bQ _,λ_ _ _=>rfl⟩)
  | some ad=>
   refine wpList_append_own_at w go s x t ho base e i z sz bytes ht hi hz lW iP kg al v xs.length rows.flatten hs h2 ad 0 c [] hx (by simp) (λj u hj=>by simp at hj) (λu hu=>by cases hu) (by simpa using kE) (by simpa using nt) dw ?_;intro v' w' ho' hg _ _;have hb:Below base w w':=(vQ _ _).grown hg dw (λk hk=>(h2.lt k hk).1);exact h v' w' (rS w' v' rows [] hb h1 h3 rfl (λj r y hr=>by simp at hr) (by simpa using ho')) hb hg
 ·obtain⟨b,o',rfl,bj,hcell⟩:=h6 hy;have hl:=bI.rows_len h4 h5;refine wpList_append_own_at w go s x t ho base e i z sz bytes ht hi hz lW iP kg al v xs.length rows.flatten hs h2 ⟨b,o',none⟩ ys.length c rows'.flatten hx (by rw[Hf rows' hl,h4]) hcell (λu hu=>?_) kE nt dw ?_
  ·obtain⟨r,hr,Jh⟩:=List.mem_flatten.1 hu;obtain⟨j,hj,rfl⟩:=nQ.1 hr;exact vX _ _ (h5 j _ _ (aQ hj) (aQ (by omega))).2 u Jh
  ·intro v' w' ho' hg _ _;have hb:Below base w w':=(vQ _ _).grown hg dw (λk hk=>(h2.lt k hk).1);exact h v' w' (rS w' v' rows rows' hb h1 h3 h4 h5 ho') hb hg
end
end
namespace Np
def Stop(y:List UInt8):Prop:=y = []\/∃ c r,y=c::r/\sC c=false
def Lx(x:List UInt8)(ts:List Tok)(free:Bool):Prop:=
 ∀ (y:List UInt8) (p k:Nat),(free=true\/Stop y)->k<=2000->
   (k+ts.length<=2000->∃ ts',ts'.map Dm=ts.map Dm/\oP (x++y) p k=(ts'++(oP y (p+x.length) (k+ts.length)).1,(oP y (p+x.length) (k+ts.length)).2))/\
   (2000<k+ts.length->(oP (x++y) p k).2.1=2)
theorem Lx.weaken{x:List UInt8}{ts:List Tok}{f:Bool}(h:Lx x ts f):Lx x ts false:=λy p k hy hk=>
 h y p k (.inr (by rcases hy with hy | hy;cases hy;exact hy)) hk
theorem ZD:∀ (s:List UInt8) (c:UInt8),c∈s->c=46\/∃ x∈aZ s,c∈x:=by
 intro s
 induction s with
 | nil=>intro c h;cases h
 | cons a r ih=>
  intro c hc;rw[aZ];by_cases ha:a=46
  ·rw[Qb ha];rcases List.mem_cons.1 hc with e | e
   ·exact .inl (e.trans ha)
   ·rcases ih c e with h | ⟨x,hx,DZ⟩
    ·exact .inl h
    ·exact .inr ⟨x,mQ _ hx,DZ⟩
  ·rw[Qc ha];have hne:=qV r
   cases hr:aZ r with
   | nil=>exact absurd hr hne
   | cons y ys=>
    rw[hr] at ih;rcases List.mem_cons.1 hc with e | e
    ·exact .inr ⟨a::y,by simp,by simp[e]⟩
    ·rcases ih c e with h | ⟨x,hx,DZ⟩
     ·exact .inl h
     ·rcases List.mem_cons.1 hx with rfl | hx
      ·exact .inr ⟨a::x,by simp,by simp[DZ]⟩
      ·exact .inr ⟨x,by simp[hx],DZ⟩
theorem Zb{c:UInt8}(h:mN c=true):sC c=true:=by
 unfold mN at h;have hl:∀ c:UInt8,qK c=true\/nK c=true->cls c=3:=by
  intro c h;have hne:¬ (c=32\/c=9\/c=10)/\c≠35:=by
   constructor
   ·rintro (rfl | rfl | rfl) <;> revert h <;> decide
   ·rintro rfl;revert h;decide
  unfold cls;rw[Qc hne.1,Qc hne.2,Qb (by rcases h with h | h <;> simp[h])]
 simp only[Bool.or_eq_true,beq_iff_eq] at h;unfold sC;rcases h with h | h
 ·rw[hl c h];rfl
 ·subst h;decide
theorem Zx{c:UInt8}(h:qK c=true\/nK c=true):cls c=3:=by
 have hne:¬ (c=32\/c=9\/c=10)/\c≠35:=by
  constructor
  ·rintro (rfl | rfl | rfl) <;> revert h <;> decide
  ·rintro rfl;revert h;decide
 unfold cls;rw[Qc hne.1,Qc hne.2,Qb (by rcases h with h | h <;> simp[h])]
theorem Zc{x:List UInt8}(h:cD x=true\/x = [42]):∀ c∈x,sC c=true:=by
 rcases h with h | rfl
 ·unfold cD at h;simp only[Bool.and_eq_true] at h;exact λc hc=>Zb (List.all_eq_true.1 h.2 c hc)
 ·intro c hc;simp at hc;subst hc;decide
theorem Zd{x:List UInt8}(h:cD x=true\/x = [42]):∃ c r,x=c::r/\cls c=3:=by
 rcases h with h | rfl
 ·unfold cD at h;simp only[Bool.and_eq_true,Qa,Bool.not_eq_true',beq_eq_false_iff_ne] at h
  cases x with
  | nil=>simp at h
  | cons c r=>
   refine⟨c,r,rfl,Zx ?_⟩;have h1:=List.all_eq_true.1 h.2 c (by simp);have h2:=h.1.1.2;simp only[List.head?_cons,ne_eq,Option.some.injEq] at h2;simp only[mN,Bool.or_eq_true,beq_iff_eq] at h1;rcases h1 with h1 | h1
   ·exact h1
   ·exact absurd h1 h2
 ·exact⟨42,[],rfl,by decide⟩
theorem J8:∀ (s:List UInt8),∃ h t,aZ s=h::t/\(∀ c r,h=c::r->∃ r',s=c::r'):=by
 intro s
 cases s with
 | nil=>exact⟨[],[],rfl,λc r h=>by cases h⟩
 | cons a r=>
  rw[aZ];by_cases ha:a=46
  ·rw[Qb ha];exact⟨[],_,rfl,λc r h=>by cases h⟩
  ·rw[Qc ha];have hne:=qV r
   cases hr:aZ r with
   | nil=>exact absurd hr hne
   | cons x xs=>exact⟨a::x,xs,rfl,λc r' h=>by cases h;exact⟨_,rfl⟩⟩
theorem wn{s:List UInt8}(h:aG s=true):s.length<=60/\(s = [46]\/∃ c r,s=c::r/\cls c=3/\s.all sC=true):=by
 unfold aG at h;split at h
 ·rename_i e;subst e;exact⟨by decide,.inl rfl⟩
 ·split at h
  ·cases h
  ·rename_i DB;have hg:=Nh _ _ _ h;have hl:∀ x∈aZ s,cD x=true\/x = [42]:=λx hx=>(hg x (List.mem_reverse.2 hx)).symm;obtain⟨a,t,e1,e2⟩:=J8 s;obtain⟨c,r,rfl,hc⟩:=Zd (hl a (by rw[e1];simp));obtain⟨r',rfl⟩:=e2 c r rfl;refine⟨by omega,.inr ⟨c,r',rfl,hc,List.all_eq_true.2 λb hb=>?_⟩⟩;rcases ZD _ b hb with rfl | ⟨x,hx,fR⟩
   ·decide
   ·exact Zc (hl x hx) b fR
theorem MU{k:Nat}(h:k<10):nK (UInt8.ofNat (48+k))=true/\(UInt8.ofNat (48+k)).toNat=48+k:=by
 have:k=0\/k=1\/k=2\/k=3\/k=4\/k=5\/k=6\/k=7\/k=8\/k=9:=by omega
 rcases this with rfl | rfl | rfl | rfl | rfl | rfl | rfl | rfl | rfl | rfl <;> exact⟨by decide,by decide⟩
theorem G9(n:Nat):(nk n).all nK=true/\nk n≠[]/\dec (nk n)=n/\(1<=n->(nk n).head?≠some 48)/\(n<10->(nk n).length=1):=by
 induction n using Nat.strongRecOn with
 | ind n ih=>
  rw[nk];split
  ·rename_i h;have hd:=MU h;refine⟨by rw[List.all_cons,hd.1];rfl,by simp,by show 10 * 0+((UInt8.ofNat (48+n)).toNat - 48)=n;rw[hd.2];omega,λh1=>?_,λ_=>rfl⟩;simp only[List.head?_cons,ne_eq,Option.some.injEq];intro e
   have:=Qd UInt8.toNat e
   rw[hd.2] at this;simp at this;omega
  ·rename_i h;obtain⟨i1,i2,i3,i4,_⟩:=ih (n / 10) (by omega);have hd:=MU (k:=n % 10) (by omega);refine⟨by rw[List.all_append,i1,List.all_cons,hd.1];rfl,by simp,?_,λ_=>?_,λh2=>absurd h2 h⟩
   ·rw[Vy,i3,hd.2];omega
   ·rw[W9 i2];exact i4 (by omega)
def cT(n:Int):List UInt8:=nk n.toNat
def tp(d:Datum):List (List UInt8):=[d.text,cT d.n,cT d.m]
def sG(g:Sig):List (List UInt8):=[g.zone,cT g.key,cT g.alg,cT g.frm,cT g.til,cT g.sum]
def Ak(s:Signed):List (List UInt8):=[s.set.name,cT s.set.type,cT s.set.life,cT s.set.data.length]++(s.set.data.flatMap tp++s.sigs.flatMap sG)
def gP(l:List (List UInt8)):List UInt8:=l.flatMap λf=>f ++ [47]
def jH(s:Signed):List UInt8:=gP (Ak s)
theorem Q0:∀ (x y r q:List UInt8),47∉x->47∉y->x++47::r=y++47::q->x=y/\r=q
 | [],[],r,q,_,_,h=>⟨rfl,by simpa using h⟩
 | [],b::y,r,q,_,hy,h=>by
   simp only[List.nil_append,List.cons_append,List.cons.injEq] at h;exact absurd (h.1 ▸ List.mem_cons_self) hy
 | a::x,[],r,q,hx,_,h=>by
   simp only[List.nil_append,List.cons_append,List.cons.injEq] at h;exact absurd (h.1 ▸ List.mem_cons_self) hx
 | a::x,b::y,r,q,hx,hy,h=>by
   simp only[List.cons_append,List.cons.injEq] at h;obtain⟨h1,h2⟩:=Q0 x y r q (λhm=>hx (mQ _ hm)) (λhm=>hy (mQ _ hm)) h.2;exact⟨by rw[h.1,h1],h2⟩
theorem Aj(f:List UInt8)(l:List (List UInt8)):gP (f::l)=f++47::gP l:=by simp[gP]
theorem MW:∀ (a b:List (List UInt8)),(∀ x∈a,47∉x)->(∀ x∈b,47∉x)->gP a=gP b->a=b
 | [],[],_,_,_=>rfl
 | [],f::b,_,_,h=>by rw[Aj] at h;simp[gP] at h
 | f::a,[],_,_,h=>by rw[Aj] at h;simp[gP] at h
 | f::a,g::b,ha,hb,h=>by
   rw[Aj,Aj] at h;obtain⟨h1,h2⟩:=Q0 f g _ _ (ha f (by simp)) (hb g (by simp)) h;rw[h1,MW a b (λx hx=>ha x (mQ _ hx)) (λx hx=>hb x (mQ _ hx)) h2]
theorem qp{a b:Int}(ha:0<=a)(hb:0<=b)(h:cT a=cT b):a=b:=by
 have h1:=(G9 a.toNat).2.2.1;have h2:=(G9 b.toNat).2.2.1;unfold cT at h;rw[h] at h1;omega
theorem qq(a:Int):47∉cT a:=λhm=>by
 have h1:=(G9 a.toNat).1
 have:=List.all_eq_true.1 h1 47 hm
 revert this;decide
structure Plain47(s:Signed):Prop where
 name:47∉s.set.name
 type:0<=s.set.type
 life:0<=s.set.life
 data:∀ d∈s.set.data,47∉d.text/\0<=d.n/\0<=d.m
 sigs:∀ g∈s.sigs,47∉g.zone/\0<=g.key/\0<=g.alg/\0<=g.frm/\0<=g.til/\0<=g.sum
theorem Plain47.fields{s:Signed}(h:Plain47 s):∀ x∈Ak s,47∉x:=λx hx=>by
 unfold Ak at hx;rcases List.mem_append.1 hx with hx | hx
 ·simp only[List.mem_cons,Qh,or_false] at hx;rcases hx with rfl | rfl | rfl | rfl
  ·exact h.name
  ·exact qq _
  ·exact qq _
  ·exact qq _
 ·rcases List.mem_append.1 hx with hx | hx
  ·obtain⟨d,hd,hx⟩:=List.mem_flatMap.1 hx;simp only[tp,List.mem_cons,Qh,or_false] at hx;rcases hx with rfl | rfl | rfl
   ·exact (h.data d hd).1
   ·exact qq _
   ·exact qq _
  ·obtain⟨g,hg,hx⟩:=List.mem_flatMap.1 hx;simp only[sG,List.mem_cons,Qh,or_false] at hx;rcases hx with rfl | rfl | rfl | rfl | rfl | rfl
   ·exact (h.sigs g hg).1
   ·exact qq _
   ·exact qq _
   ·exact qq _
   ·exact qq _
   ·exact qq _
theorem MR:∀ (a b:List Datum) (r q:List (List UInt8)),a.length=b.length->(∀ d∈a,0<=d.n/\0<=d.m)->(∀ d∈b,0<=d.n/\0<=d.m)->a.flatMap tp++r=b.flatMap tp++q->a=b/\r=q
 | [],[],r,q,_,_,_,h=>⟨rfl,by simpa using h⟩
 | [],_::_,_,_,hl,_,_,_=>by simp at hl
 | _::_,[],_,_,hl,_,_,_=>by simp at hl
 | x::a,y::b,r,q,hl,ha,hb,h=>by
   simp only[List.flatMap_cons,tp,List.cons_append,List.nil_append,List.cons.injEq] at h;obtain⟨h1,h2,h3,h4⟩:=h;obtain⟨h5,h6⟩:=MR a b r q (by simpa using hl) (λd hd=>ha d (mQ _ hd)) (λd hd=>hb d (mQ _ hd)) h4;have hx:=ha x (by simp);have hy:=hb y (by simp);have e:x=y:=by
    obtain⟨_,_,_⟩:=x;obtain⟨_,_,_⟩:=y;simp only at h1 h2 h3 hx hy;rw[h1,qp hx.1 hy.1 h2,qp hx.2 hy.2 h3]
   exact⟨by rw[e,h5],h6⟩
theorem QY:∀ (a b:List Sig),(∀ g∈a,0<=g.key/\0<=g.alg/\0<=g.frm/\0<=g.til/\0<=g.sum)->(∀ g∈b,0<=g.key/\0<=g.alg/\0<=g.frm/\0<=g.til/\0<=g.sum)->a.flatMap sG=b.flatMap sG->a=b
 | [],[],_,_,_=>rfl
 | [],_::_,_,_,h=>by simp[sG] at h
 | _::_,[],_,_,h=>by simp[sG] at h
 | x::a,y::b,ha,hb,h=>by
   simp only[List.flatMap_cons,sG,List.cons_append,List.nil_append,List.cons.injEq] at h;obtain⟨h1,h2,h3,h4,h5,h6,h7⟩:=h;have hx:=ha x (by simp);have hy:=hb y (by simp);have e:x=y:=by
    obtain⟨_,_,_,_,_,_⟩:=x;obtain⟨_,_,_,_,_,_⟩:=y;simp only at h1 h2 h3 h4 h5 h6 hx hy;rw[h1,qp hx.1 hy.1 h2,qp hx.2.1 hy.2.1 h3,qp hx.2.2.1 hy.2.2.1 h4,qp hx.2.2.2.1 hy.2.2.2.1 h5,qp hx.2.2.2.2 hy.2.2.2.2 h6]
   rw[e,QY a b (λg hg=>ha g (mQ _ hg)) (λg hg=>hb g (mQ _ hg)) h7]
theorem Px{s t:Signed}(hs:Plain47 s)(ht:Plain47 t)(h:jH s=jH t):s=t:=by
 have h:=MW _ _ hs.fields ht.fields h;unfold Ak at h;simp only[List.cons_append,List.nil_append,List.cons.injEq] at h;obtain⟨h1,h2,h3,h4,h5⟩:=h;have e4:=qp (by omega) (by omega) h4;obtain⟨h6,h7⟩:=MR _ _ _ _ (by omega) (λd hd=>(hs.data d hd).2) (λd hd=>(ht.data d hd).2) h5;have h8:=QY _ _ (λg hg=>(hs.sigs g hg).2) (λg hg=>(ht.sigs g hg).2) h7;have e2:=qp hs.type ht.type h2;have e3:=qp hs.life ht.life h3;obtain⟨⟨_,_,_,_⟩,_⟩:=s;obtain⟨⟨_,_,_,_⟩,_⟩:=t;simp only at h1 e2 e3 h6 h8;rw[h1,e2,e3,h6,h8]
end Np
section
open Go.RowKit
section
variable {P:Program} (w:World)
theorem aqQ(base:Nat)(t u ty e:TypeId)(i:TypeInfo)(ht:P.underlying t=some (.slice e))(hu:P.underlying u=some .string)(hi:P.info? e=some i)(hz:i.zero=some (.int .u8 0))
 (lW:i.size=1) (iP:i.bytes=1) (v:Value) (n:Nat) (xs:List Value) (hown:w.ownsRow base e 1 v n xs) (s:ByteArray) (kE:n+s.size<=maxLen) (nt:n+s.size<=140737488355328) (dw:base<=w.heap.size) :
 ∃ v' w',(Builtin.append_ #[t,u] ty #[v,.string s]).run P w = .ok v' w'/\w'.ownsRow base e 1 v' (n+s.size) (xs++Lib.strCells s)/\w.grownBy w' v.ownBlock/\(v'.ownBlock=v.ownBlock\/v'.ownBlock=some w.heap.size)/\(v' = .slice none 0 0↔v = .slice none 0 0/\s.size=0):=by
 obtain⟨v',w',dh,h2,h3,h4⟩:=Lib.run_append_own_string (P:=P) w base t u ty e i ht hu hi hz lW iP v n xs hown s kE nt dw;refine⟨v',w',dh,h2,h3,?_,h4⟩;have aUZ:n+s.size<=9223372036854775807:=by simp only[maxLen] at kE;omega
 rcases hown.2 with ⟨rfl,rfl⟩ | ⟨g,cap,cur,rfl,eT,hg,lA,gj,hcs,Yq⟩
 ·by_cases hm:s.size=0
  ·exact .inl (by rw[h4.2 ⟨rfl,hm⟩])
  ·have hr:=run_append_nil_string (P:=P) w t u ty e i (.int .u8 0) ht hu hi hz s (by omega) (by omega) (by rw[iP];omega);rw[hr] at dh;injection dh with h5 _
   exact .inr (by rw[<-h5];rfl)
 ·by_cases X9:n+s.size<=cap
  ·have hr:=Lib.run_append_room_string (P:=P) w t u ty e i ht hu hi lW g n cap cur hg s X9 (by omega);rw[hr] at dh;injection dh with h5 _
   exact .inl (by rw[<-h5];rfl)
  ·have holds:∀ j u,xs[j]?=some u->w.cell? ((⟨g,0,none⟩:Addr).add j)=some u:=hown.cells (g:=g) rfl;have hr:=Lib.run_append_grow_string (P:=P) w t u ty e i (.int .u8 0) ht hu hi hz ⟨g,0,none⟩ n cap xs (by rw[lW];exact hown.1) holds s (by omega) (by omega) (by rw[iP];exact growslice_fits (by omega) (by omega));rw[hr] at dh;injection dh with h5 _
   exact .inr (by rw[<-h5];rfl)
theorem aEK{ops:Array Oper}{rest:List Oper}{o:Oper}{a:Act}{Q:Exit->Act->World->Prop}(go:o.guard=none)(sl x:Operand)(t u:TypeId)
 (ho:o.op = .call { callee:=.builtin .append,args:=#[sl,x],argTypes:=#[t,u] })
 (base:Nat) (e:TypeId) (i:TypeInfo) (ht:P.underlying t=some (.slice e)) (hu:P.underlying u=some .string) (hi:P.info? e=some i) (hz:i.zero=some (.int .u8 0)) (lW:i.size=1) (iP:i.bytes=1)
 (v:Value) (n:Nat) (xs:List Value) (hs:a.eval sl=v) (hown:w.ownsRow base e 1 v n xs) (s:ByteArray) (hx:a.eval x = .string s) (kE:n+s.size<=maxLen) (nt:n+s.size<=140737488355328) (dw:base<=w.heap.size)
 (h:∀ v' w',w'.ownsRow base e 1 v' (n+s.size) (xs++Lib.strCells s)->w.grownBy w' v.ownBlock->(v'.ownBlock=v.ownBlock\/v'.ownBlock=some w.heap.size)->(v' = .slice none 0 0↔v = .slice none 0 0/\s.size=0)->wpList P ops Q rest (a.put o.dst v') w'):wpList P ops Q (o::rest) a w:=by
 obtain⟨v',w',hr,h2,h3,h4,h5⟩:=aqQ (P:=P) w base t u o.type e i ht hu hi hz lW iP v n xs hown s kE nt dw;refine wpList_plain go λK hK=>?_;unfold Oper.wp execOp;simp only[ho,resolve,invoke,builtin,Sem.run_bind,Sem.run_pure,Result.andThen_ok,List.map_toArray,List.map_cons,List.map_nil,hs,hx,hr];exact hK _ _ (h v' w' h2 h3 h4 h5)
end
theorem Tryz.infoByte:(prog.info? 5).map (λi=>(i.zero,i.size,i.bytes))=some (some (.int .u8 0),1,1):=by kernel_rfl
end
namespace Np
theorem Vz:∀ (k n:Nat),n<10 ^ (k+1)->(nk n).length<=k+1:=by
 intro k
 induction k with
 | zero=>intro n h;rw[nk,Qb (by simpa using h)];simp
 | succ k ih=>
  intro n h;rw[nk];split
  ·simp
  ·have:=ih (n / 10) (by rw[Nat.pow_succ] at h;omega)
   simp only[List.length_append,List.length_singleton];omega
end Np
section
open Go.RowKit
def fL(D:Nat->Prop)(w W:World):Prop:=w.heap.size<=W.heap.size/\∀ k,D k->k<w.heap.size/\W.heap[k]?=w.heap[k]?
theorem fL.refl{D:Nat->Prop}{w:World}(h:∀ k,D k->k<w.heap.size):fL D w w:=⟨bQ _,λk e=>⟨h k e,rfl⟩⟩
theorem fL.trans{D:Nat->Prop}{a b c:World}(h:fL D a b)(k:fL D b c):fL D a c:=⟨yQ h.1 k.1,λi e=>⟨(h.2 i e).1,((k.2 i e).2).trans (h.2 i e).2⟩⟩
theorem fL.of_below{D:Nat->Prop}{a b c:World}(h:fL D a b)(k:Below b.heap.size b c):fL D a c:=⟨yQ h.1 k.size,λi e=>⟨(h.2 i e).1,(k.block i (lQ (h.2 i e).1 h.1)).trans (h.2 i e).2⟩⟩
theorem fL.cell{D:Nat->Prop}{w W:World}(h:fL D w W){p:Addr}(hp:D p.block):W.cell? p=w.cell? p:=iQ (h.2 _ hp).2
theorem fL.round{D S:Nat->Prop}{a b c:World}(h:fL D a b)(k:RdStep S b c)(hS:∀ i,S i->¬ D i):fL D a c:=⟨yQ h.1 k.size,λi e=>⟨(h.2 i e).1,(k.keep i (lQ (h.2 i e).1 h.1) (λhs=>hS i hs e)).trans (h.2 i e).2⟩⟩
def C7{α:Type}(P:Program)(gf:FuncId)(mk:Value->Array Value)(encs:α->Array Value)(xs:List α)(Dr:Nat->Prop)(w:World):Prop:=
 ∀ (l:Nat) (J Jx:List α->(Nat->Prop)->World->Prop) (S:Nat->Prop) (W:World),fL Dr w W->
   fm W.heap.size J->fm W.heap.size Jx->
   (∀ pre x S1 W1,pre ++ [x] <+: xs->J pre S1 W1->(∀ k,S1 k->k<W1.heap.size)->W.heap.size<=W1.heap.size->
     YieldAt Fence.wide 0 P l (encs x) W1 (Da J Jx pre x S1 W1))->
   (∀ k,S k->¬ Dr k)->(∀ k,S k->k<W.heap.size)->J [] S W->
   CallsIn Fence.wide 0 P gf (mk (.func (.yield l) #[] #[])) W λe W'=>(∃ v,e = .returned v)/\
    ((∃ S',J xs S' W'/\(∀ k,S' k->S k\/W.heap.size<=k))\/(∃ pre S',pre <+: xs/\Jx pre S' W'/\(∀ k,S' k->S k\/W.heap.size<=k)))
theorem aDX{α:Type}{P:Program}{g:Operand}{ps:Array Tmp}{assign body:Code}{Q:Exit->Act->World->Prop}{a:Act}{w:World}
 {gf:FuncId} {first captured:Array Value} (hg:a.eval g = .func (.func gf) first captured) (eg:∀ args w,(callFunc gf args).run P w = .ok (.enter gf args) w)
 {mk:Value->Array Value} {encs:α->Array Value} {xs:List α} {Dr:Nat->Prop} {w0:World} (gK:∀ y,mk y=first ++ #[y]++captured)
 (hit:C7 P gf mk encs xs Dr w0) (bW:fL Dr w0 w) (fz:∀ x,(encs x).size=ps.size)
 (I:List α->(Nat->Prop)->World->Prop) (Ix:Code->List α->(Nat->Prop)->World->Prop) (A:List α->α->(Nat->Prop)->Act->World->Prop)
 (hI:fm w.heap.size I) (jg:∀ c,fm w.heap.size (Ix c)) (hA:∀ pre x S a' W W',A pre x S a' W->ItStep w.heap.size S W W'->A pre x S a' W')
 (S0:Nat->Prop) (pz:∀ k,S0 k->¬ Dr k) (kF:∀ k,S0 k->k<w.heap.size) (h0:I [] S0 w)
 (AK:∀ (l:Nat) (pre:List α) (x:α) (S:Nat->Prop) (W:World),pre ++ [x] <+: xs->I pre S W->(∀ k,S k->k<W.heap.size)->
   assign.wpIn (Fence.wide.inRound l) 0 P (Exit.then (λa₁ W₁=>∃ S',RdStep S W W₁/\(∀ k,S' k->S k\/W.heap.size<=k)/\(∀ k,S' k->k<W₁.heap.size)/\A pre x S' a₁ W₁) (λ_ _ _=>False))
    { tmps:=(ps.zip (encs x)).foldl (λt (p,v)=>t.setIfInBounds p v) a.tmps,defers:=[] } W)
 (AS:∀ (l:Nat) (pre:List α) (x:α) (S:Nat->Prop) (a₁:Act) (W:World),pre ++ [x] <+: xs->A pre x S a₁ W->(∀ k,S k->k<W.heap.size)->
   body.wpIn (Fence.wide.inRound l) 0 P (ni I Ix (pre ++ [x]) S W) a₁ W)
 (nv:∀ (D:Nat) (S:Nat->Prop) (W:World),w.heap.size<=D->¬ S D->(∀ k,S k->S0 k\/w.heap.size<=k)->I xs S W->W.heap[D]?=some (.deferred (some []))->
   Q .normal { a with defers:={ target:=.collected D,args:=#[] } :: a.defers } W)
 (lY:∀ (D:Nat) (c:Code) (pre:List α) (S:Nat->Prop) (W:World),w.heap.size<=D->¬ S D->(∀ k,S k->S0 k\/w.heap.size<=k)->pre <+: xs->Ix c pre S W->W.heap[D]?=some (.deferred (some []))->
   c.wpIn Fence.wide 0 P Q { a with defers:={ target:=.collected D,args:=#[] } :: a.defers } W) :
 (Code.rangeFunc g ps assign body).wpIn Fence.wide 0 P Q a w:=by
 refine wpIn_rangeFunc ?_;intro fn ed;show ∃ (l:Nat) (mark:List Deferred) (w₁:World) (d:Deferred) (w₁':World) (f:FuncId) (args:Array Value) (w₂:World),(Instr.enterLoop fn a.tmps ps assign body none).run P w = .ok (l,mark) w₁/\_;obtain⟨rec,eW⟩:∃ rec:LoopState->Option Code->Loop,rec=λst pe=>{ state:=st,pending:=pe,fn,tmps:=a.tmps,params:=ps,assign,body,defers:=w.heap.size }:=⟨_,rfl⟩;obtain⟨W1,an⟩:=aJZ ((w.alloc (.deferred (some []))).alloc (.loop (rec .ready none)));have al:W1.heap.size=w.heap.size+2:=by rw[<-an];simp
 have mC:W1.heap[w.heap.size+1]?=some (.loop (rec .ready none)):=by
  rw[<-an];have:=World.alloc_heap_new (w.alloc (.deferred (some []))) (.loop (rec .ready none));rwa [World.size_alloc] at this
 have At:W1.heap[w.heap.size]?=some (.deferred (some [])):=by
  rw[<-an];exact (Below.heap_alloc _ _ _ (by simp)).trans (World.alloc_heap_new w _)
 have py:I [] S0 W1:=by rw[<-an];exact hI _ _ _ _ (hI _ _ _ _ h0 (sD _)) (sD _)
 have aq:fL Dr w0 W1:=by
  rw[<-an];exact bW.of_below (((vQ _ w).alloc (bQ _) _).alloc (by simp) _)
 refine⟨w.heap.size+1,[{ target:=.collected w.heap.size,args:=#[] }],W1,{ target:=.fn (.func gf) captured,args:=first ++ #[.func (.yield (w.heap.size+1)) #[] #[]] },W1,gf,
  first ++ #[.func (.yield (w.heap.size+1)) #[] #[]]++captured,W1,?_,?_,?_,?_,λh=>by simp[Fence.wide] at h,?_⟩
 ·rw[<-an,eW];exact run_enterLoop_outer _ _ _ _ _
 ·simp only[resolve,hg];simp[go_sem]
 ·intro f' _;trivial
 ·simp[invoke,go_sem,eg]
 ·rw[<-gK];have key:=hit (w.heap.size+1)
   (λpre Si W=>∃ S:Nat->Prop,(∀ k,Si k↔S k\/k=w.heap.size+1)/\(¬ S w.heap.size)/\(¬ S (w.heap.size+1))/\(∀ k,S k->S0 k\/w.heap.size<=k)/\I pre S W/\W.heap[w.heap.size+1]?=some (.loop (rec .ready none))/\W.heap[w.heap.size]?=some (.deferred (some [])))
   (λpre Si W=>∃ (S:Nat->Prop) (c:Code),(∀ k,Si k↔S k\/k=w.heap.size+1)/\(¬ S w.heap.size)/\(¬ S (w.heap.size+1))/\(∀ k,S k->S0 k\/w.heap.size<=k)/\Ix c pre S W/\W.heap[w.heap.size+1]?=some (.loop (rec .done (some c)))/\W.heap[w.heap.size]?=some (.deferred (some [])))
   (λk=>S0 k\/k=w.heap.size+1) W1 aq ?_ ?_ ?_ ?_ ?_ ?_
  ·refine key.mono ?_;rintro e W2 ⟨⟨v,rfl⟩,(⟨S',⟨S,dg,hD,hL,aV,hi,hl,hk⟩,_⟩ | ⟨pre,S',iV,⟨S,c,dg,hD,hL,aV,hi,hl,hk⟩,_⟩)⟩
   ·refine⟨none,_,by have:=run_endLoop (P:=P) hl (by rw[eW];simp);rw[eW] at this;exact this,?_⟩;exact nv _ S _ (bQ _) hD aV (hI _ _ _ _ hi (jG _ (by omega) hL)) ((zQ (by omega)).trans hk)
   ·refine⟨some c,_,by have:=run_endLoop (P:=P) hl (by rw[eW];simp);rw[eW] at this;exact this,?_⟩;exact lY _ c pre S _ (bQ _) hD aV iV ((jg c) _ _ _ _ hi (jG _ (by omega) hL)) ((zQ (by omega)).trans hk)
  ·rintro pre Si A1 B1 ⟨S,dg,hD,hL,aV,hi,hl,hk⟩ az;have aa:w.heap.size+1<A1.heap.size:=(eQ.1 hl).1;exact⟨S,dg,hD,hL,aV,hI _ _ _ _ hi (az.weaken (by omega) (λk e=>(dg k).2 (.inl e))),(az.keep _ aa (.inl (by omega))).trans hl,(az.keep _ (by omega) (.inl (by omega))).trans hk⟩
  ·rintro pre Si A1 B1 ⟨S,c,dg,hD,hL,aV,hi,hl,hk⟩ az;have aa:w.heap.size+1<A1.heap.size:=(eQ.1 hl).1;exact⟨S,c,dg,hD,hL,aV,jg c _ _ _ _ hi (az.weaken (by omega) (λk e=>(dg k).2 (.inl e))),(az.keep _ aa (.inl (by omega))).trans hl,(az.keep _ (by omega) (.inl (by omega))).trans hk⟩
  ·
   rintro pre x Si W bg ⟨S,dg,hD,hL,aV,hi,hl,hk⟩ gh Ie;have aa:w.heap.size+1<W.heap.size:=(eQ.1 hl).1;have AF:∀ k,S k->k<W.heap.size:=λk e=>gh k ((dg k).2 (.inl e));have hy:=run_yield (P:=P) (args:=encs x) hl (by rw[eW];exact fz x);rw[eW] at hy;refine⟨fn,_,assign,body,hy,roundIn_of_wpIn ed (wpIn_mono (AK _ pre x S W bg hi AF) ?_)⟩;intro e a1 Wa hq
   cases e with
   | normal=>
    obtain⟨S1,eC,bh,BO,tt⟩:=hq;have tJ:¬ S1 w.heap.size:=λe=>by rcases bh _ e with e | e;exact hD e;omega
    have pM:¬ S1 (w.heap.size+1):=λe=>by rcases bh _ e with e | e;exact hL e;omega
    have tG:Wa.heap[w.heap.size+1]?=some (.loop (rec .ready none)):=(eC.keep _ aa hL).trans hl;have Br:Wa.heap[w.heap.size]?=some (.deferred (some [])):=(eC.keep _ (by omega) hD).trans hk;have tI:w.heap.size+1<Wa.heap.size:=(eQ.1 tG).1;refine⟨_,run_beginRound tG (by rw[eW]),?_⟩;have hb:=AS (w.heap.size+1) pre x S1 a1 (Wa.putObj (w.heap.size+1) (.loop { rec .ready none with state:=.busy })) bg (hA _ _ _ _ _ _ tt (jG _ (by omega) pM)) (λk e=>by simpa using BO k e);refine wpIn_mono hb ?_;have fin:∀ (jump:Option Code) (W3:World) (S3:Nat->Prop),RdStep S1 (Wa.putObj (w.heap.size+1) (.loop { rec .ready none with state:=.busy })) W3->(∀ k,S3 k->S1 k\/(Wa.putObj (w.heap.size+1) (.loop { rec .ready none with state:=.busy })).heap.size<=k)->(∀ k,S3 k->k<W3.heap.size)->
     (Instr.endRound (w.heap.size+1) jump).run P W3 = .ok (.bool jump.isNone) (W3.putObj (w.heap.size+1) (.loop (rec (if jump.isNone then .ready else .done) jump)))/\
     (W3.putObj (w.heap.size+1) (.loop (rec (if jump.isNone then .ready else .done) jump))).heap[w.heap.size+1]?=some (.loop (rec (if jump.isNone then .ready else .done) jump))/\
     (W3.putObj (w.heap.size+1) (.loop (rec (if jump.isNone then .ready else .done) jump))).heap[w.heap.size]?=some (.deferred (some []))/\
     ¬ S3 w.heap.size/\¬ S3 (w.heap.size+1)/\(∀ k,S3 k->S k\/W.heap.size<=k)/\
     RdStep Si W (W3.putObj (w.heap.size+1) (.loop (rec (if jump.isNone then .ready else .done) jump))):=λjump W3 S3 cZ dG da=>by
     have dJ:(Wa.putObj (w.heap.size+1) (.loop { rec .ready none with state:=.busy })).heap[w.heap.size+1]?=some (.loop { rec .ready none with state:=.busy }):=World.putObj_heap_same tI;have jj:(Wa.putObj (w.heap.size+1) (.loop { rec .ready none with state:=.busy })).heap[w.heap.size]?=some (.deferred (some [])):=(zQ (by omega)).trans Br;have nB:=(cZ.keep _ (by simpa using tI) pM).trans dJ;have mH:=(cZ.keep _ (by simp;omega) tJ).trans jj;have dX:=(eQ.1 nB).1
     have:=run_endRound (P:=P) jump nB
     rw[eW] at this |-;have lC:=cZ.size;have wb:=eC.size;simp only[World.putObj_size] at lC dG;refine⟨this,World.putObj_heap_same dX,(zQ (by omega)).trans mH,λe=>?_,λe=>?_,λk e=>?_,?_⟩
     ·rcases dG _ e with e | e;exact tJ e;omega
     ·rcases dG _ e with e | e;exact pM e;omega
     ·rcases dG _ e with e | e
      ·exact bh _ e
      ·right;omega
     ·refine⟨cZ.os.trans eC.os,cZ.tape.trans eC.tape,cZ.output.trans eC.output,by simp;omega,λk hk' tK=>?_⟩;have mI:k≠w.heap.size+1:=λe=>tK ((dg k).2 (.inr e));have tL:¬ S k:=λe=>tK ((dg k).2 (.inl e));have Bz:¬ S1 k:=λe=>by rcases bh _ e with e | e;exact tL e;omega
      exact (zQ mI).trans ((cZ.keep k (by simp;omega) Bz).trans ((zQ mI).trans (eC.keep k hk' tL)))
    have fin2:∀ (S3:Nat->Prop) (W3:World) (o:Obj),(∀ k,S3 k->k<W3.heap.size)->W.heap.size<=W3.heap.size->(∀ k,S3 k->S k\/W.heap.size<=k)->
     (∀ k,(S3 k\/k=w.heap.size+1)->Si k\/W.heap.size<=k)/\(∀ k,(S3 k\/k=w.heap.size+1)->k<(W3.putObj (w.heap.size+1) o).heap.size):=λS3 W3 o h1 h2 h3=>
     ⟨λk e=>by rcases e with e | e;exact (h3 k e).imp (λe'=>(dg k).2 (.inl e')) id;exact .inl ((dg k).2 (.inr e)),λk e=>by
      simp only[World.putObj_size];rcases e with e | e
      ·exact h1 k e
      ·omega⟩
    have sub3:∀ (S3:Nat->Prop),(∀ k,S3 k->S k\/W.heap.size<=k)->∀ k,S3 k->S0 k\/w.heap.size<=k:=λS3 h k e=>by
     rcases h k e with e | e
     ·exact aV k e
     ·right;omega
    rintro e a3 W3 hp
    cases e with
    | normal=>
     obtain⟨S3,cZ,dG,da,kI⟩:=hp;obtain⟨hr,kL,j9,iU,gq,dZ,aF⟩:=fin none W3 S3 cZ dG da;have al:W.heap.size<=W3.heap.size:=by simpa using aF.size
     refine⟨_,_,hr,λk=>S3 k\/k=w.heap.size+1,aF,(fin2 S3 W3 (.deferred none) da al dZ).1,(fin2 S3 W3 _ da al dZ).2,.inl ⟨rfl,S3,λ_=>Iff.rfl,iU,gq,sub3 S3 dZ,hI _ _ _ _ kI (jG _ (by omega) gq),kL,j9⟩⟩
    | ret=>
     obtain⟨S3,cZ,dG,da,kI⟩:=hp;obtain⟨hr,kL,j9,iU,gq,dZ,aF⟩:=fin (some .ret) W3 S3 cZ dG da;have al:W.heap.size<=W3.heap.size:=by simpa using aF.size
     refine⟨_,_,hr,λk=>S3 k\/k=w.heap.size+1,aF,(fin2 S3 W3 (.deferred none) da al dZ).1,(fin2 S3 W3 _ da al dZ).2,.inr ⟨rfl,S3,.ret,λ_=>Iff.rfl,iU,gq,sub3 S3 dZ,jg _ _ _ _ _ kI (jG _ (by omega) gq),kL,j9⟩⟩
    | exit id=>
     obtain⟨S3,cZ,dG,da,kI⟩:=hp;obtain⟨hr,kL,j9,iU,gq,dZ,aF⟩:=fin (some (.exit id)) W3 S3 cZ dG da;have al:W.heap.size<=W3.heap.size:=by simpa using aF.size
     refine⟨_,_,hr,λk=>S3 k\/k=w.heap.size+1,aF,(fin2 S3 W3 (.deferred none) da al dZ).1,(fin2 S3 W3 _ da al dZ).2,.inr ⟨rfl,S3,.exit id,λ_=>Iff.rfl,iU,gq,sub3 S3 dZ,jg _ _ _ _ _ kI (jG _ (by omega) gq),kL,j9⟩⟩
    | goto t=>exact hp.elim
    | panic ch=>exact hp.elim
    | outgrown=>exact hp.elim
   | ret=>exact hq.elim
   | exit id=>exact hq.elim
   | goto t=>exact hq.elim
   | panic ch=>exact hq.elim
   | outgrown=>exact hq.elim
  ·rintro k (e | rfl)
   ·exact pz k e
   ·exact λh=>by have h1:=(bW.2 _ h).1;have h2:=bW.1;omega
  ·rintro k (e | rfl)
   ·have:=kF k e;omega
   ·omega
  ·exact⟨S0,λ_=>Iff.rfl,λe=>by have:=kF _ e;omega,λe=>by have:=kF _ e;omega,λ_ e=>.inl e,py,mC,At⟩
theorem RD{α:Type}{P:Program}{g:Operand}{ps:Array Tmp}{assign body:Code}{Q:Exit->Act->World->Prop}{a:Act}{w:World}
 {gf:FuncId} {first captured:Array Value} (hg:a.eval g = .func (.func gf) first captured) (eg:∀ args w,(callFunc gf args).run P w = .ok (.enter gf args) w)
 {mk:Value->Array Value} {encs:α->Array Value} {xs:List α} {Dr:Nat->Prop} {w0:World} (gK:∀ y,mk y=first ++ #[y]++captured)
 (hit:C7 P gf mk encs xs Dr w0) (bW:fL Dr w0 w) (fz:∀ x,(encs x).size=ps.size)
 (I:List α->(Nat->Prop)->World->Prop) (Ix:Code->List α->(Nat->Prop)->World->Prop)
 (hI:fm w.heap.size I) (jg:∀ c,fm w.heap.size (Ix c))
 (S0:Nat->Prop) (pz:∀ k,S0 k->¬ Dr k) (kF:∀ k,S0 k->k<w.heap.size) (h0:I [] S0 w)
 (BN:∀ (l0:Nat) (pre:List α) (x:α) (S:Nat->Prop) (W:World),pre ++ [x] <+: xs->I pre S W->(∀ k,S k->k<W.heap.size)->
   assign.wpIn (Fence.wide.inRound l0) 0 P (Exit.then (λa₁ W₁=>∃ S',RdStep S W W₁/\(∀ k,S' k->S k\/W.heap.size<=k)/\(∀ k,S' k->k<W₁.heap.size)/\
    ∀ l W₂,ItStep w.heap.size S' W₁ W₂->body.wpIn (Fence.wide.inRound l) 0 P (ni I Ix (pre ++ [x]) S' W₂) a₁ W₂) (λ_ _ _=>False))
    { tmps:=(ps.zip (encs x)).foldl (λt (p,v)=>t.setIfInBounds p v) a.tmps,defers:=[] } W)
 (nv:∀ (D:Nat) (S:Nat->Prop) (W:World),w.heap.size<=D->¬ S D->(∀ k,S k->S0 k\/w.heap.size<=k)->I xs S W->W.heap[D]?=some (.deferred (some []))->
   Q .normal { a with defers:={ target:=.collected D,args:=#[] } :: a.defers } W)
 (lY:∀ (D:Nat) (c:Code) (pre:List α) (S:Nat->Prop) (W:World),w.heap.size<=D->¬ S D->(∀ k,S k->S0 k\/w.heap.size<=k)->pre <+: xs->Ix c pre S W->W.heap[D]?=some (.deferred (some []))->
   c.wpIn Fence.wide 0 P Q { a with defers:={ target:=.collected D,args:=#[] } :: a.defers } W) :
 (Code.rangeFunc g ps assign body).wpIn Fence.wide 0 P Q a w:=
 aDX hg eg gK hit bW fz I Ix (λpre x S a₁ W=>∀ l W₂,ItStep w.heap.size S W W₂->body.wpIn (Fence.wide.inRound l) 0 P (ni I Ix (pre ++ [x]) S W₂) a₁ W₂)
  hI jg (λ_ _ _ _ _ _ h hs l W₂ h2=>h l W₂ (hs.trans h2)) S0 pz kF h0 BN (λl _ _ _ _ W _ h _=>h l W (ItStep.refl _ _ _)) nv lY
end
section
section
variable {P:Program} {ops:Array Oper} {Q:Exit->Act->World->Prop} {n l:Nat}
theorem aoY{row:String}{args:Array Value}{w:World}{R:Value->World->Prop}(h:Rows P row args w R):RowsIn (Fence.wide.inRound l) n P row args w R:=by
 intro c cs _;obtain⟨v,w',r,s⟩:=h c cs;exact⟨v,w',r,stepsIn_wide.2 s⟩
theorem aDK{o:Oper}{a:Act}{K:Act->World->Prop}{w:World}(hd:∀ c,o.op≠.defer c)(AA:¬ LetsOut Q)(h:o.wp P a w K Q\/(o.asks P a w/\LetsOut Q)):o.wpIn (Fence.wide.inRound l) n P a w K Q:=by
 have h:=h.resolve_right (λe=>AA e.2);refine⟨λf _=>trivial,?_⟩;rw[Oper.semAt_eq _ _ _ hd];unfold Oper.wp at h;generalize (execOp a.eval o).run P w=r at *
 cases r with
 | ok x w'=>
  cases x <;> simp only[Oper.upon,Oper.uponIn] at h |- <;> first | exact h | exact h.elim | skip
  ·exact⟨λe=>by simp[Fence.wide] at e,CallsIn.inRound l (callsIn_wide.2 h)⟩
  ·exact⟨λe=>by simp[Fence.wide] at e,aoY h⟩
 | halt x w'=>cases x <;> simp only[Oper.upon,Oper.uponIn] at h |- <;> first | exact h | exact h.elim
theorem aDQ{md:Region.Mode}(hd:∀ (i:Nat) (o:Oper),ops[i]?=some o->∀ c,o.op≠.defer c)(AA:¬ LetsOut Q):∀ (f:Nat) {listed:Array Bool} {a:Act} {w:World},wpAny P md ops Q f listed a w->wpAnyIn (Fence.wide.inRound l) n P md ops Q f listed a w:=by
 intro f
 induction f with
 | zero=>exact λh=>h
 | succ f ih=>
  intro listed a w h;refine⟨h.1,λi hi=>?_⟩;have h2:=h.2 i hi;unfold wpOp at h2;unfold wpOpIn
  cases ho:ops[i]? with
  | none=>rw[ho] at h2;exact ih h2
  | some o=>
   rw[ho] at h2;dsimp only at h2 |-;split at h2
   ·rename_i hw;rw[Qb hw];refine Oper.wpIn_mono (λa w h=>ih h) (aDK (hd i o ho) AA h2)
   ·rename_i hw;rw[Qc hw];exact⟨λ_ _=>trivial,ih h2⟩
end
def JH(ops:Array Oper):Bool:=ops.all λo=>match o.op with | .defer _=>false | _=>true
theorem ZY{ops:Array Oper}(h:JH ops=true):∀ (i:Nat) (o:Oper),ops[i]?=some o->∀ c,o.op≠.defer c:=λi o ho c e=>by
 unfold JH at h;rw[Array.all_eq_true] at h;obtain⟨hi,hg⟩:=eQ.1 ho
 have:=h i hi
 rw[hg,e] at this
 cases this
section
variable {P:Program} {ops:Array Oper} {Q:Exit->Act->World->Prop} {n l id:Nat} {a:Act} {w:World}
theorem Ku(hd:JH ops=true)(hm:P.follows .mixedOrders=true)(AA:¬ LetsOut Q)(h:wpAny P .any ops Q ops.size (Array.replicate ops.size false) a w.drew):(Code.region id ops true).wpIn (Fence.wide.inRound l) n P Q a w:=
 wpIn_region_any hm (aDQ (ZY hd) AA _ h)
end
theorem Ff{F:Fence}{n:Nat}{P:Program}{c:Code}{Q:Exit->Act->World->Prop}{a:Act}{w:World}(h:∀ a0,a0=a->c.wpIn F n P Q a0 w):c.wpIn F n P Q a w:=h a rfl
section
variable {P:Program} {ops:Array Oper} {Q:Exit->Act->World->Prop} {n l:Nat}
end
end
end Go.Proofs.YtfnopgdcaanaiaaGreatDoor
