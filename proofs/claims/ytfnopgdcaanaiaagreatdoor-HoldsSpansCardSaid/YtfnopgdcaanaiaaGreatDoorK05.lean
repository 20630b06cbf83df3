/- Parts of the proof. No condition. -/
import Derived.Shelf.Small.Strs
import Derived.Test.YtfnopgdcaanaiaaGreatDoorProg
import Derived.OwnWalkIn
import Derived.Maps.AppendAt
import Derived.Lib.ConvBytes
import Derived.Laws.AppendOwnNone
import Derived.Lib.AppendStr
import Derived.Test.YtfnopgdcaanaiaaGreatDoorK01
set_option linter.all false
set_option maxRecDepth 100000
set_option maxHeartbeats 8000000
namespace Go.Proofs
open YtfnopgdcaanaiaaGreatDoor
open Go.Shelf
def Tryz.lays106_ren:Go.Shelf.Ren:=⟨fun | 106=>216 | 213=>299 | 265=>346 | n=>n,fun | 9=>9 | 3=>3 | n=>n,fun | n=>n⟩
theorem Tryz.lays106:Go.Proofs.Lays.n106 Tryz.prog Tryz.lays106_ren:={
 mixed:=by kernel_rfl
 f106:=Tryz.func216.trans (Qd some (by kernel_rfl))
 f213:=Tryz.func299.trans (Qd some (by kernel_rfl))
 f265:=Tryz.func346.trans (Qd some (by kernel_rfl))
 t3:=Tryz.underlying3
 a3:=Tryz.isAgg3
 z3:=Tryz.sizeOf3
 v3:=Tryz.zeroValue3
 t9:=Tryz.underlying9
 a9:=Tryz.isAgg9
 z9:=Tryz.sizeOf9
 v9:=Tryz.zeroValue9 }
open Go.RowKit in
theorem Tryz.strings_Compare(a b:ByteArray)(w:World) :
 Calls Tryz.prog 216 #[.string a,.string b] w λe w'=>e = .returned (.int .i64 (Lib.compareBytes a.data.toList b.data.toList))/\w'=w:=Any.strings_Compare Tryz.lays106 a b w
end Go.Proofs
namespace Go.Proofs.YtfnopgdcaanaiaaGreatDoor
open Go.Proofs.Tryz
section
open Go.RowKit
theorem gp{W W':World}{base:Nat}{e:TypeId}{size:Nat}{v:Value}{k:Nat}{xs:List Value}(h:W.ownsRow base e size v k xs)(hs:∀ g,v.ownBlock=some g->W'.heap[g]?=W.heap[g]?):W'.ownsRow base e size v k xs:=by
 refine⟨h.1,?_⟩;rcases h.2 with hn | ⟨g,cap,cur,rfl,hb,hg,rest⟩
 ·exact .inl hn
 ·exact .inr ⟨g,cap,cur,rfl,hb,(hs g rfl).trans hg,rest⟩
theorem JV{α:Type}{R:World->Nat->List Value->α->Prop}{sz:Nat}{W:World}{base:Nat}{e:TypeId}{v:Value}{xs:List α}(enc:α->List Value)(hlen:∀ x∈xs,(enc x).length=sz)
 (h:W.ownsRow base e sz v xs.length (xs.flatMap enc)) (hl:xs.length<=140737488355328) (hR:∀ x∈xs,R W W.heap.size (enc x) x):SlR R sz W W.heap.size v xs:=by
 have Ys:∀ (l:List α) (i:Nat) (x:α) (j:Nat) (u:Value),(∀ y∈l,(enc y).length=sz)->l[i]?=some x->(enc x)[j]?=some u->(l.flatMap enc)[i * sz+j]?=some u:=by
  intro l
  induction l with
  | nil=>intro i x j u _ hi;simp at hi
  | cons y l ih=>
   intro i x j u gk hi hj;rw[List.flatMap_cons];have hy:(enc y).length=sz:=gk y (by simp)
   cases i with
   | zero=>
    simp at hi;subst hi;rw[List.getElem?_append_left (by have:=(cQ.1 hj).1;omega)];simpa using hj
   | succ i=>
    rw[oQ (by rw[hy,Nat.succ_mul];omega),hy]
    have:=ih i x j u (λy hy=>gk y (by simp[hy])) (by simpa using hi) hj
    rw[show (i+1) * sz+j - sz=i * sz+j by rw[Nat.succ_mul];omega];exact this
 rcases h.2 with ⟨rfl,h0⟩ | ⟨g,cap,cur,rfl,hb,hg,mb,_,_,YX⟩
 ·have:xs = []:=rQ h0
  subst this;exact⟨none,0,rfl,by simp,by simp,λi x hx=>by simp at hx⟩
 ·refine⟨_,cap,rfl,mb,hl,λi x hx=>⟨g,0,enc x,rfl,(eQ.1 hg).1,hlen x (gQ hx),λj u hj=>?_,hR x (gQ hx)⟩⟩;have h1:=Ys xs i x j u hlen hx hj;have h2:=h.cells (g:=g) rfl _ _ h1;have nR:(⟨g,0,none⟩:Addr).add (i * sz+j)=⟨g,0+i * sz+j,none⟩:=by unfold Addr.add;split <;> simp_all
  rw[nR] at h2;exact h2
def gB(_:World)(_:Nat)(e:List Value)(x:Int):Prop:=e = [.int .i64 x]
theorem lG:dl gB:=λ_ _ _ _ _ h _=>h
theorem sj:dJ gB:=λ_ _ _ _ _ h _=>h
theorem PR{α:Type}(f:α->Value)(l:List α):l.map f=l.flatMap λx=>[f x]:=by induction l <;> simp_all
theorem yS{W:World}{base:Nat}{e:TypeId}{size:Nat}{v:Value}{k:Nat}{xs:List Value}(h:W.ownsRow base e size v k xs):∃ A cap,v = .slice A k cap:=by
 rcases h.2 with ⟨rfl,rfl⟩ | ⟨g,cap,_,rfl,_⟩
 ·exact⟨none,0,rfl⟩
 ·exact⟨_,cap,rfl⟩
structure Turned(b:Nat)(w w':World):Prop where
 os:w'.os=w.os
 tape:w'.tape=w.tape
 output:w'.output=w.output
 size:w'.heap.size=w.heap.size
 block:∀ i,i≠b->w'.heap[i]?=w.heap[i]?
theorem Turned.refl(b:Nat)(w:World):Turned b w w:=⟨rfl,rfl,rfl,rfl,λ_ _=>rfl⟩
theorem Turned.trans{b:Nat}{u v w:World}(h:Turned b u v)(k:Turned b v w):Turned b u w:=⟨k.os.trans h.os,k.tape.trans h.tape,k.output.trans h.output,k.size.trans h.size,λi hi=>(k.block i hi).trans (h.block i hi)⟩
theorem Turned.cell{b:Nat}{w w':World}(h:Turned b w w'){p:Addr}(hp:p.block≠b):w'.cell? p=w.cell? p:=by
 unfold World.cell?;rw[h.block _ hp]
theorem Turned.grown{b:Nat}{w w':World}(h:Turned b w w'):w.grownBy w' (some b):=⟨h.os,h.tape,h.output,by rw[h.size];exact bQ _,λi _ hne=>h.block i (λe=>hne (by rw[e]))⟩
theorem Turned.below{b n:Nat}{w w':World}(h:Turned b w w')(hn:n<=b):Below n w w':=⟨h.os,h.tape,h.output,by rw[h.size];exact bQ _,λi hi=>h.block i (by omega)⟩
def bn{α:Type}(R:World->Nat->List Value->α->Prop)(sz:Nat)(e:TypeId)(base B:Nat)(w:World)(v:Value)(xs:List α):Prop:=
 ∃ rows:List (List Value),rows.length=xs.length/\w.ownsRow base e sz v xs.length rows.flatten/\∀ (i:Nat) (r:List Value) (x:α),rows[i]?=some r->xs[i]?=some x->r.length=sz/\R w B r x
theorem DL{sz:Nat} : ∀ (rows:List (List Value)) (i j:Nat) (r:List Value) (u:Value),(∀ q∈rows,q.length=sz)->rows[i]?=some r->r[j]?=some u->rows.flatten[i * sz+j]?=some u:=by
 intro rows
 induction rows with
 | nil=>intro i j r u _ h;simp at h
 | cons q rows ih=>
  intro i j r u hq h hj;have hl:q.length=sz:=hq q (by simp);rw[List.flatten_cons]
  cases i with
  | zero=>
   simp at h;subst h;rw[List.getElem?_append_left (by have:=(cQ.1 hj).1;omega)];simpa using hj
  | succ i=>
   rw[oQ (by rw[hl,Nat.succ_mul];omega),hl,show (i+1) * sz+j - sz=i * sz+j by rw[Nat.succ_mul];omega];exact ih i j r u (λq hq'=>hq q (by simp[hq'])) (by simpa using h) hj
theorem Hv{sz:Nat} : ∀ (rows:List (List Value)),(∀ q∈rows,q.length=sz)->rows.flatten.length=rows.length * sz:=by
 intro rows
 induction rows with
 | nil=>intro _;simp
 | cons q rs ih=>
  intro h;rw[List.flatten_cons,List.length_append,ih (λx hx=>h x (by simp[hx])),h q (by simp),List.length_cons,Nat.succ_mul];omega
theorem bn.rows_len{α:Type}{R:World->Nat->List Value->α->Prop}{sz B:Nat}{w:World}{xs:List α}{rows:List (List Value)}(hl:rows.length=xs.length)(h:∀ (i:Nat) (r:List Value) (x:α),rows[i]?=some r->xs[i]?=some x->r.length=sz/\R w B r x):∀ q∈rows,q.length=sz:=λq hq=>by
 obtain⟨i,hi,rfl⟩:=nQ.1 hq;exact (h i _ _ (aQ hi) (aQ (by omega))).1
theorem bn.slr{α:Type}{R:World->Nat->List Value->α->Prop}{sz:Nat}{e:TypeId}{base B:Nat}{w:World}{v:Value}{xs:List α}(h:bn R sz e base B w v xs)(hm:dJ R)(hB:B<=w.heap.size)(hl:xs.length<=140737488355328):SlR R sz w w.heap.size v xs:=by
 obtain⟨rows,h1,h2,h3⟩:=h;rcases h2.2 with ⟨rfl,h0⟩ | ⟨g,cap,cur,rfl,hb,hg,mb,_⟩
 ·have:xs = []:=rQ h0
  subst this;exact⟨none,0,rfl,by simp,by simp,λi x hx=>by simp at hx⟩
 ·refine⟨_,cap,rfl,mb,hl,λi x hx=>?_⟩;have hi:=(cQ.1 hx).1;have hr:=aQ (show i<rows.length by omega);obtain⟨h4,h5⟩:=h3 i _ x hr hx;refine⟨g,0,rows[i],rfl,(eQ.1 hg).1,h4,λj u hj=>?_,hm _ _ _ _ _ h5 hB⟩;have h6:=h2.cells (g:=g) rfl _ _ (DL rows i j _ u (bn.rows_len h1 h3) hr hj);have nR:(⟨g,0,none⟩:Addr).add (i * sz+j)=⟨g,0+i * sz+j,none⟩:=by unfold Addr.add;split <;> simp_all
  rw[nR] at h6;exact h6
theorem bn.keep{α:Type}{R:World->Nat->List Value->α->Prop}{sz:Nat}{e:TypeId}{base B:Nat}{w w':World}{v:Value}{xs:List α}(h:bn R sz e base B w v xs)(hk:dl R)(hb:Below w.heap.size w w')(hB:B<=w.heap.size):bn R sz e base B w' v xs:=by
 obtain⟨rows,h1,h2,h3⟩:=h;refine⟨rows,h1,gp h2 (λg hg=>hb.block g (h2.lt g hg).2),λi r x hr hx=>?_⟩;obtain⟨h4,h5⟩:=h3 i r x hr hx;exact⟨h4,hk _ _ _ _ _ h5 (hb.mono hB)⟩
theorem bn.empty{α:Type}{R:World->Nat->List Value->α->Prop}{sz:Nat}{e:TypeId}{base B:Nat}(w:World)(hb:base<=w.heap.size):bn (α:=α) R sz e base B (w.alloc (.cells #[] e)) (.slice (some ⟨w.heap.size,0,none⟩) 0 0) []:=
 ⟨[],rfl,⟨by simp,.inr ⟨w.heap.size,0,#[],rfl,hb,heap_alloc_new _ _,bQ _,by simp[maxLen],by simp,by simp⟩⟩,λi r x hr=>by simp at hr⟩
theorem bn.nil{α:Type}{R:World->Nat->List Value->α->Prop}{sz:Nat}{e:TypeId}{base B:Nat}(w:World):bn (α:=α) R sz e base B w (.slice none 0 0) []:=⟨[],rfl,⟨by simp,.inl ⟨rfl,rfl⟩⟩,λi r x hr=>by simp at hr⟩
theorem Rf{α:Type}{R:World->Nat->List Value->α->Prop}{sz:Nat}{w:World}{B:Nat}{A:Option Addr}{n c:Nat}{ys:List α}(h:SlR R sz w B (.slice A n c) ys)(ap:0<sz) :
 ∃ rows:List (List Value),rows.length=ys.length/\(∀ (i:Nat) (r:List Value) (x:α),rows[i]?=some r->ys[i]?=some x->r.length=sz/\R w B r x)/\(ys≠[]->∃ b o,A=some ⟨b,o,none⟩/\b<B/\∀ j u,rows.flatten[j]?=some u->w.cell? ((⟨b,o,none⟩:Addr).add j)=some u):=by
 obtain⟨A',c',hv,hc,hl,he⟩:=h
 cases hv
 have aA:∀ k,k<=ys.length->∃ rows:List (List Value),rows.length=k/\(∀ (i:Nat) (r:List Value) (x:α),rows[i]?=some r->ys[i]?=some x->r.length=sz/\R w B r x/\∃ b o,A=some ⟨b,o,none⟩/\b<B/\ai w b (o+i * sz) r):=by
  intro k
  induction k with
  | zero=>exact λ_=>⟨[],rfl,λi r x hr=>by simp at hr⟩
  | succ k ih=>
   intro hk;obtain⟨rows,h1,h2⟩:=ih (by omega);obtain⟨b,o,e,hA,hb,bV,hce,hr⟩:=he k _ (aQ (by omega:k<ys.length));refine⟨rows ++ [e],by simp[h1],λi r x hr' hx=>?_⟩;rcases Nat.lt_or_ge i rows.length with aa | lZ
   ·rw[List.getElem?_append_left aa] at hr';exact h2 i r x hr' hx
   ·rw[oQ lZ] at hr';have h0:i - rows.length=0:=by have:=(cQ.1 hr').1;simp at this;omega
    rw[h0] at hr';simp at hr';subst hr';obtain rfl:i=k:=by omega
    rw[aQ (by omega)] at hx;simp only[Option.some.injEq] at hx;subst hx;exact⟨bV,hr,b,o,hA,hb,hce⟩
 obtain⟨rows,h1,h2⟩:=aA ys.length (bQ _);refine⟨rows,h1,λi r x hr hx=>⟨(h2 i r x hr hx).1,(h2 i r x hr hx).2.1⟩,λhne=>?_⟩;have h0:0<ys.length:=Nat.pos_of_ne_zero (λe=>hne (rQ e));obtain⟨_,_,b,o,hA,hb,_⟩:=h2 0 _ _ (aQ (by omega)) (aQ h0);refine⟨b,o,hA,hb,λj u hj=>?_⟩;have hlen:∀ q∈rows,q.length=sz:=λq hq=>by
  obtain⟨i,hi,rfl⟩:=nQ.1 hq;exact (h2 i _ _ (aQ hi) (aQ (by omega))).1
 have yl:=Hv rows hlen;have mP:=(cQ.1 hj).1;have hi:j / sz<rows.length:=by rw[yl] at mP;exact Nat.div_lt_of_lt_mul (by rw[Nat.mul_comm];exact mP)
 obtain⟨h5,_,b',o',hA',_,hce⟩:=h2 (j / sz) _ _ (aQ hi) (aQ (by omega));rw[hA] at hA';simp only[Option.some.injEq,Addr.mk.injEq,and_true] at hA';obtain⟨rfl,rfl⟩:=hA';have El:j % sz<rows[j / sz].length:=by rw[h5];exact Nat.mod_lt _ ap
 have h7:=DL rows (j / sz) (j % sz) _ _ hlen (aQ hi) (aQ El);rw[Nat.div_add_mod' j sz,hj] at h7;simp only[Option.some.injEq] at h7;have h8:=hce (j % sz) _ (aQ El);rw[<-h7] at h8;have nR:(⟨b,o,none⟩:Addr).add j=⟨b,o+j,none⟩:=by unfold Addr.add;split <;> simp_all
 rw[nR,<-h8];congr 2
 have:=Nat.div_add_mod' j sz
 omega
section
variable {P:Program}
theorem Q1{w:World}(base:Nat)(t ty e:TypeId)(i:TypeInfo)(size:Nat)(ht:P.underlying t=some (.slice e))(hi:P.info? e=some i)(v:Value)(n c:Nat)(xs:List Value)(hown:w.ownsRow base e size v n xs) :
 (Builtin.append_ #[t,t] ty #[v,.slice none 0 c]).run P w = .ok v w:=by
 rcases hown.2 with ⟨rfl,rfl⟩ | ⟨g,cap,cur,rfl,_,_,mb,_⟩
 ·simp[Builtin.append_,run_underlying ht,sizeOf,typeInfo,hi,Builtin.lenOf,Builtin.firstCells]
 ·simp[Builtin.append_,run_underlying ht,sizeOf,typeInfo,hi,Builtin.lenOf,Builtin.firstCells,mb,storeCells]
theorem Fr{α:Type}{R:World->Nat->List Value->α->Prop}{sz:Nat}(w:World){ops:Array Oper}{rest:List Oper}{o:Oper}{a:Act}{Q:Exit->Act->World->Prop}(iA:o.guard=none)(s x:Operand)(t:TypeId)
 (ho:o.op = .call { callee:=.builtin .append,args:=#[s,x],argTypes:=#[t,t] })
 (base B:Nat) (e:TypeId) (i:TypeInfo) (z:Value) (bytes:Nat) (ht:P.underlying t=some (.slice e)) (hi:P.info? e=some i) (hz:i.zero=some z) (lw:i.size=sz) (ia:i.bytes=bytes) (pp:z.cells.size=sz) (ap:0<sz)
 (v:Value) (xs:List α) (hs:a.eval s=v) (hown:bn R sz e base B w v xs) (A:Option Addr) (c Bs:Nat) (ys:List α) (hx:a.eval x = .slice A ys.length c) (da:SlR R sz w Bs (.slice A ys.length c) ys)
 (vX:∀ r y,R w Bs r y->∀ u∈r,u.oneCell'=true) (jY:xs.length+ys.length<=maxLen) (mM:(xs.length+ys.length) * bytes<=140737488355328) (dV:base<=w.heap.size) (oS:Bs<=B) (Nl:B<=base) (hk:dl R) (hm:dJ R)
 (h:∀ v' w',bn R sz e base B w' v' (xs++ys)->Below base w w'->w.grownBy w' v.ownBlock->wpList P ops Q rest (a.put o.dst v') w'):wpList P ops Q (o::rest) a w:=by
 have rF:∀ (w':World) (v':Value) (rows rows':List (List Value)),Below base w w'->rows.length=xs.length->(∀ (i:Nat) (r:List Value) (x:α),rows[i]?=some r->xs[i]?=some x->r.length=sz/\R w B r x)->rows'.length=ys.length->
  (∀ (i:Nat) (r:List Value) (x:α),rows'[i]?=some r->ys[i]?=some x->r.length=sz/\R w Bs r x)->w'.ownsRow base e sz v' (xs.length+ys.length) (rows.flatten++rows'.flatten)->bn R sz e base B w' v' (xs++ys):=by
  intro w' v' rows rows' hb h1 h2 h3 h4 h5;refine⟨rows++rows',by simp[h1,h3],?_,λj r y hr hy=>?_⟩
  ·rw[List.length_append,List.flatten_append];exact h5
  ·rcases Nat.lt_or_ge j rows.length with aa | lZ
   ·rw[List.getElem?_append_left aa] at hr;rw[List.getElem?_append_left (by omega)] at hy;obtain⟨h6,h7⟩:=h2 j r y hr hy;exact⟨h6,hk _ _ _ _ _ h7 (hb.mono Nl)⟩
   ·rw[oQ lZ] at hr;rw[oQ (by omega),<-h1] at hy;obtain⟨h6,h7⟩:=h4 _ r y hr hy;exact⟨h6,hk _ _ _ _ _ (hm _ _ _ _ _ h7 oS) (hb.mono Nl)⟩
 obtain⟨rows,h1,h2,h3⟩:=hown;obtain⟨rows',h4,h5,h6⟩:=Rf da ap;by_cases hy:ys = []
 ·subst hy;have mY:rows' = []:=rQ (by simpa using h4);subst mY
  cases A with
  | none=>
   have cU:=Q1 (P:=P) base t o.type e i sz ht hi v xs.length c rows.flatten h2;refine wpList_plain iA λK hK=>?_;unfold Oper.wp;have hx':a.eval x = .slice none 0 c:=hx;simp[execOp,ho,resolve,invoke,builtin,hs,hx',cU,Result.andThen];refine hK _ _ (h v w (rF w v rows [] (vQ _ _) h1 h3 rfl (λj r y hr=>by simp at hr) (by simpa using h2)) (vQ _ _) ⟨rfl,rfl,rfl,bQ _,λ_ _ _=>rfl⟩)
  | some ad=>
   refine wpList_append_own_at w iA s x t ho base e i z sz bytes ht hi hz lw ia pp ap v xs.length rows.flatten hs h2 ad 0 c [] hx (by simp) (λj u hj=>by simp at hj) (λu hu=>by cases hu) (by simpa using jY) (by simpa using mM) dV ?_;intro v' w' ho' hg _ _;have hb:Below base w w':=(vQ _ _).grown hg dV (λk hk=>(h2.lt k hk).1);exact h v' w' (rF w' v' rows [] hb h1 h3 rfl (λj r y hr=>by simp at hr) (by simpa using ho')) hb hg
 ·obtain⟨b,o',rfl,bU,hcell⟩:=h6 hy;have hl:=bn.rows_len h4 h5;refine wpList_append_own_at w iA s x t ho base e i z sz bytes ht hi hz lw ia pp ap v xs.length rows.flatten hs h2 ⟨b,o',none⟩ ys.length c rows'.flatten hx (by rw[Hv rows' hl,h4]) hcell (λu hu=>?_) jY mM dV ?_
  ·obtain⟨r,hr,Jo⟩:=List.mem_flatten.1 hu;obtain⟨j,hj,rfl⟩:=nQ.1 hr;exact vX _ _ (h5 j _ _ (aQ hj) (aQ (by omega))).2 u Jo
  ·intro v' w' ho' hg _ _;have hb:Below base w w':=(vQ _ _).grown hg dV (λk hk=>(h2.lt k hk).1);exact h v' w' (rF w' v' rows rows' hb h1 h3 h4 h5 ho') hb hg
end
section
variable {P:Program} (w:World)
theorem avK(base:Nat)(t u ty e:TypeId)(i:TypeInfo)(ht:P.underlying t=some (.slice e))(hu:P.underlying u=some .string)(hi:P.info? e=some i)(hz:i.zero=some (.int .u8 0))
 (lw:i.size=1) (ia:i.bytes=1) (v:Value) (n:Nat) (xs:List Value) (hown:w.ownsRow base e 1 v n xs) (s:ByteArray) (jY:n+s.size<=maxLen) (mM:n+s.size<=140737488355328) (dV:base<=w.heap.size) :
 ∃ v' w',(Builtin.append_ #[t,u] ty #[v,.string s]).run P w = .ok v' w'/\w'.ownsRow base e 1 v' (n+s.size) (xs++Lib.strCells s)/\w.grownBy w' v.ownBlock/\(v'.ownBlock=v.ownBlock\/v'.ownBlock=some w.heap.size)/\(v' = .slice none 0 0↔v = .slice none 0 0/\s.size=0):=by
 obtain⟨v',w',cU,h2,h3,h4⟩:=Lib.run_append_own_string (P:=P) w base t u ty e i ht hu hi hz lw ia v n xs hown s jY mM dV;refine⟨v',w',cU,h2,h3,?_,h4⟩;have aXK:n+s.size<=9223372036854775807:=by simp only[maxLen] at jY;omega
 rcases hown.2 with ⟨rfl,rfl⟩ | ⟨g,cap,cur,rfl,NL,hg,mb,fE,hcs,YX⟩
 ·by_cases hm:s.size=0
  ·exact .inl (by rw[h4.2 ⟨rfl,hm⟩])
  ·have hr:=run_append_nil_string (P:=P) w t u ty e i (.int .u8 0) ht hu hi hz s (by omega) (by omega) (by rw[ia];omega);rw[hr] at cU;injection cU with h5 _
   exact .inr (by rw[<-h5];rfl)
 ·by_cases YI:n+s.size<=cap
  ·have hr:=Lib.run_append_room_string (P:=P) w t u ty e i ht hu hi lw g n cap cur hg s YI (by omega);rw[hr] at cU;injection cU with h5 _
   exact .inl (by rw[<-h5];rfl)
  ·have holds:∀ j u,xs[j]?=some u->w.cell? ((⟨g,0,none⟩:Addr).add j)=some u:=hown.cells (g:=g) rfl;have hr:=Lib.run_append_grow_string (P:=P) w t u ty e i (.int .u8 0) ht hu hi hz ⟨g,0,none⟩ n cap xs (by rw[lw];exact hown.1) holds s (by omega) (by omega) (by rw[ia];exact growslice_fits (by omega) (by omega));rw[hr] at cU;injection cU with h5 _
   exact .inr (by rw[<-h5];rfl)
theorem aKQ{ops:Array Oper}{rest:List Oper}{o:Oper}{a:Act}{Q:Exit->Act->World->Prop}(iA:o.guard=none)(sl x:Operand)(t u:TypeId)
 (ho:o.op = .call { callee:=.builtin .append,args:=#[sl,x],argTypes:=#[t,u] })
 (base:Nat) (e:TypeId) (i:TypeInfo) (ht:P.underlying t=some (.slice e)) (hu:P.underlying u=some .string) (hi:P.info? e=some i) (hz:i.zero=some (.int .u8 0)) (lw:i.size=1) (ia:i.bytes=1)
 (v:Value) (n:Nat) (xs:List Value) (hs:a.eval sl=v) (hown:w.ownsRow base e 1 v n xs) (s:ByteArray) (hx:a.eval x = .string s) (jY:n+s.size<=maxLen) (mM:n+s.size<=140737488355328) (dV:base<=w.heap.size)
 (h:∀ v' w',w'.ownsRow base e 1 v' (n+s.size) (xs++Lib.strCells s)->w.grownBy w' v.ownBlock->(v'.ownBlock=v.ownBlock\/v'.ownBlock=some w.heap.size)->(v' = .slice none 0 0↔v = .slice none 0 0/\s.size=0)->wpList P ops Q rest (a.put o.dst v') w'):wpList P ops Q (o::rest) a w:=by
 obtain⟨v',w',hr,h2,h3,h4,h5⟩:=avK (P:=P) w base t u o.type e i ht hu hi hz lw ia v n xs hown s jY mM dV;refine wpList_plain iA λK hK=>?_;unfold Oper.wp execOp;simp only[ho,resolve,invoke,builtin,Sem.run_bind,Sem.run_pure,Result.andThen_ok,List.map_toArray,List.map_cons,List.map_nil,hs,hx,hr];exact hK _ _ (h v' w' h2 h3 h4 h5)
end
theorem Tryz.infoByte:(prog.info? 5).map (λi=>(i.zero,i.size,i.bytes))=some (some (.int .u8 0),1,1):=by kernel_rfl
def dU(D:Nat->Prop)(w W:World):Prop:=w.heap.size<=W.heap.size/\∀ k,D k->k<w.heap.size/\W.heap[k]?=w.heap[k]?
theorem dU.refl{D:Nat->Prop}{w:World}(h:∀ k,D k->k<w.heap.size):dU D w w:=⟨bQ _,λk e=>⟨h k e,rfl⟩⟩
theorem dU.trans{D:Nat->Prop}{a b c:World}(h:dU D a b)(k:dU D b c):dU D a c:=⟨yQ h.1 k.1,λi e=>⟨(h.2 i e).1,((k.2 i e).2).trans (h.2 i e).2⟩⟩
theorem dU.of_below{D:Nat->Prop}{a b c:World}(h:dU D a b)(k:Below b.heap.size b c):dU D a c:=⟨yQ h.1 k.size,λi e=>⟨(h.2 i e).1,(k.block i (lQ (h.2 i e).1 h.1)).trans (h.2 i e).2⟩⟩
theorem dU.cell{D:Nat->Prop}{w W:World}(h:dU D w W){p:Addr}(hp:D p.block):W.cell? p=w.cell? p:=iQ (h.2 _ hp).2
theorem dU.round{D S:Nat->Prop}{a b c:World}(h:dU D a b)(k:RdStep S b c)(hS:∀ i,S i->¬ D i):dU D a c:=⟨yQ h.1 k.size,λi e=>⟨(h.2 i e).1,(k.keep i (lQ (h.2 i e).1 h.1) (λhs=>hS i hs e)).trans (h.2 i e).2⟩⟩
def Ag{α:Type}(P:Program)(gf:FuncId)(mk:Value->Array Value)(encs:α->Array Value)(xs:List α)(Dr:Nat->Prop)(w:World):Prop:=
 ∀ (l:Nat) (J Jx:List α->(Nat->Prop)->World->Prop) (S:Nat->Prop) (W:World),dU Dr w W->
   fq W.heap.size J->fq W.heap.size Jx->
   (∀ pre x S1 W1,pre ++ [x] <+: xs->J pre S1 W1->(∀ k,S1 k->k<W1.heap.size)->W.heap.size<=W1.heap.size->
     YieldAt Fence.wide 0 P l (encs x) W1 (Ds J Jx pre x S1 W1))->
   (∀ k,S k->¬ Dr k)->(∀ k,S k->k<W.heap.size)->J [] S W->
   CallsIn Fence.wide 0 P gf (mk (.func (.yield l) #[] #[])) W λe W'=>(∃ v,e = .returned v)/\
    ((∃ S',J xs S' W'/\(∀ k,S' k->S k\/W.heap.size<=k))\/(∃ pre S',pre <+: xs/\Jx pre S' W'/\(∀ k,S' k->S k\/W.heap.size<=k)))
theorem aJK{α:Type}{P:Program}{g:Operand}{ps:Array Tmp}{assign body:Code}{Q:Exit->Act->World->Prop}{a:Act}{w:World}
 {gf:FuncId} {first captured:Array Value} (hg:a.eval g = .func (.func gf) first captured) (eg:∀ args w,(callFunc gf args).run P w = .ok (.enter gf args) w)
 {mk:Value->Array Value} {encs:α->Array Value} {xs:List α} {Dr:Nat->Prop} {w0:World} (fX:∀ y,mk y=first ++ #[y]++captured)
 (hit:Ag P gf mk encs xs Dr w0) (cC:dU Dr w0 w) (fY:∀ x,(encs x).size=ps.size)
 (I:List α->(Nat->Prop)->World->Prop) (Ix:Code->List α->(Nat->Prop)->World->Prop) (A:List α->α->(Nat->Prop)->Act->World->Prop)
 (hI:fq w.heap.size I) (iw:∀ c,fq w.heap.size (Ix c)) (hA:∀ pre x S a' W W',A pre x S a' W->ItStep w.heap.size S W W'->A pre x S a' W')
 (S0:Nat->Prop) (oU:∀ k,S0 k->¬ Dr k) (jZ:∀ k,S0 k->k<w.heap.size) (h0:I [] S0 w)
 (Bd:∀ (l:Nat) (pre:List α) (x:α) (S:Nat->Prop) (W:World),pre ++ [x] <+: xs->I pre S W->(∀ k,S k->k<W.heap.size)->
   assign.wpIn (Fence.wide.inRound l) 0 P (Exit.then (λa₁ W₁=>∃ S',RdStep S W W₁/\(∀ k,S' k->S k\/W.heap.size<=k)/\(∀ k,S' k->k<W₁.heap.size)/\A pre x S' a₁ W₁) (λ_ _ _=>False))
    { tmps:=(ps.zip (encs x)).foldl (λt (p,v)=>t.setIfInBounds p v) a.tmps,defers:=[] } W)
 (Bj:∀ (l:Nat) (pre:List α) (x:α) (S:Nat->Prop) (a₁:Act) (W:World),pre ++ [x] <+: xs->A pre x S a₁ W->(∀ k,S k->k<W.heap.size)->
   body.wpIn (Fence.wide.inRound l) 0 P (mF I Ix (pre ++ [x]) S W) a₁ W)
 (lu:∀ (D:Nat) (S:Nat->Prop) (W:World),w.heap.size<=D->¬ S D->(∀ k,S k->S0 k\/w.heap.size<=k)->I xs S W->W.heap[D]?=some (.deferred (some []))->
   Q .normal { a with defers:={ target:=.collected D,args:=#[] } :: a.defers } W)
 (iV:∀ (D:Nat) (c:Code) (pre:List α) (S:Nat->Prop) (W:World),w.heap.size<=D->¬ S D->(∀ k,S k->S0 k\/w.heap.size<=k)->pre <+: xs->Ix c pre S W->W.heap[D]?=some (.deferred (some []))->
   c.wpIn Fence.wide 0 P Q { a with defers:={ target:=.collected D,args:=#[] } :: a.defers } W) :
 (Code.rangeFunc g ps assign body).wpIn Fence.wide 0 P Q a w:=by
 refine wpIn_rangeFunc ?_;intro fn iT;show ∃ (l:Nat) (mark:List Deferred) (w₁:World) (d:Deferred) (w₁':World) (f:FuncId) (args:Array Value) (w₂:World),(Instr.enterLoop fn a.tmps ps assign body none).run P w = .ok (l,mark) w₁/\_;obtain⟨rec,eS⟩:∃ rec:LoopState->Option Code->Loop,rec=λst pe=>{ state:=st,pending:=pe,fn,tmps:=a.tmps,params:=ps,assign,body,defers:=w.heap.size }:=⟨_,rfl⟩;obtain⟨W1,an⟩:∃ W1,(w.alloc (.deferred (some []))).alloc (.loop (rec .ready none))=W1:=⟨_,rfl⟩;have ap:W1.heap.size=w.heap.size+2:=by rw[<-an];simp
 have g9:W1.heap[w.heap.size+1]?=some (.loop (rec .ready none)):=by
  rw[<-an];have:=World.alloc_heap_new (w.alloc (.deferred (some []))) (.loop (rec .ready none));rwa [World.size_alloc] at this
 have AQ:W1.heap[w.heap.size]?=some (.deferred (some [])):=by
  rw[<-an];exact (Below.heap_alloc _ _ _ (by simp)).trans (World.alloc_heap_new w _)
 have lW:I [] S0 W1:=by rw[<-an];exact hI _ _ _ _ (hI _ _ _ _ h0 (tW _)) (tW _)
 have aw:dU Dr w0 W1:=by
  rw[<-an];exact cC.of_below (((vQ _ w).alloc (bQ _) _).alloc (by simp) _)
 refine⟨w.heap.size+1,[{ target:=.collected w.heap.size,args:=#[] }],W1,{ target:=.fn (.func gf) captured,args:=first ++ #[.func (.yield (w.heap.size+1)) #[] #[]] },W1,gf,
  first ++ #[.func (.yield (w.heap.size+1)) #[] #[]]++captured,W1,?_,?_,?_,?_,λh=>by simp[Fence.wide] at h,?_⟩
 ·rw[<-an,eS];exact run_enterLoop_outer _ _ _ _ _
 ·simp only[resolve,hg];simp[go_sem]
 ·intro f' _;trivial
 ·simp[invoke,go_sem,eg]
 ·rw[<-fX];have key:=hit (w.heap.size+1)
   (λpre Si W=>∃ S:Nat->Prop,(∀ k,Si k↔S k\/k=w.heap.size+1)/\(¬ S w.heap.size)/\(¬ S (w.heap.size+1))/\(∀ k,S k->S0 k\/w.heap.size<=k)/\I pre S W/\W.heap[w.heap.size+1]?=some (.loop (rec .ready none))/\W.heap[w.heap.size]?=some (.deferred (some [])))
   (λpre Si W=>∃ (S:Nat->Prop) (c:Code),(∀ k,Si k↔S k\/k=w.heap.size+1)/\(¬ S w.heap.size)/\(¬ S (w.heap.size+1))/\(∀ k,S k->S0 k\/w.heap.size<=k)/\Ix c pre S W/\W.heap[w.heap.size+1]?=some (.loop (rec .done (some c)))/\W.heap[w.heap.size]?=some (.deferred (some [])))
   (λk=>S0 k\/k=w.heap.size+1) W1 aw ?_ ?_ ?_ ?_ ?_ ?_
  ·refine key.mono ?_;rintro e W2 ⟨⟨v,rfl⟩,(⟨S',⟨S,cJ,hD,hL,bd,hi,hl,hk⟩,_⟩ | ⟨pre,S',fI,⟨S,c,cJ,hD,hL,bd,hi,hl,hk⟩,_⟩)⟩
   ·refine⟨none,_,by have:=run_endLoop (P:=P) hl (by rw[eS];simp);rw[eS] at this;exact this,?_⟩;exact lu _ S _ (bQ _) hD bd (hI _ _ _ _ hi (iX _ (by omega) hL)) ((zQ (by omega)).trans hk)
   ·refine⟨some c,_,by have:=run_endLoop (P:=P) hl (by rw[eS];simp);rw[eS] at this;exact this,?_⟩;exact iV _ c pre S _ (bQ _) hD bd fI ((iw c) _ _ _ _ hi (iX _ (by omega) hL)) ((zQ (by omega)).trans hk)
  ·rintro pre Si A1 B1 ⟨S,cJ,hD,hL,bd,hi,hl,hk⟩ av;have aa:w.heap.size+1<A1.heap.size:=(eQ.1 hl).1;exact⟨S,cJ,hD,hL,bd,hI _ _ _ _ hi (av.weaken (by omega) (λk e=>(cJ k).2 (.inl e))),(av.keep _ aa (.inl (by omega))).trans hl,(av.keep _ (by omega) (.inl (by omega))).trans hk⟩
  ·rintro pre Si A1 B1 ⟨S,c,cJ,hD,hL,bd,hi,hl,hk⟩ av;have aa:w.heap.size+1<A1.heap.size:=(eQ.1 hl).1;exact⟨S,c,cJ,hD,hL,bd,iw c _ _ _ _ hi (av.weaken (by omega) (λk e=>(cJ k).2 (.inl e))),(av.keep _ aa (.inl (by omega))).trans hl,(av.keep _ (by omega) (.inl (by omega))).trans hk⟩
  ·
   rintro pre x Si W bw ⟨S,cJ,hD,hL,bd,hi,hl,hk⟩ eu In;have aa:w.heap.size+1<W.heap.size:=(eQ.1 hl).1;have AY:∀ k,S k->k<W.heap.size:=λk e=>eu k ((cJ k).2 (.inl e));have hy:=run_yield (P:=P) (args:=encs x) hl (by rw[eS];exact fY x);rw[eS] at hy;refine⟨fn,_,assign,body,hy,roundIn_of_wpIn iT (wpIn_mono (Bd _ pre x S W bw hi AY) ?_)⟩;intro e a1 Wa hq
   cases e with
   | normal=>
    obtain⟨S1,fJ,bl,B2,AK⟩:=hq;have tD:¬ S1 w.heap.size:=λe=>by rcases bl _ e with e | e;exact hD e;omega
    have pd:¬ S1 (w.heap.size+1):=λe=>by rcases bl _ e with e | e;exact hL e;omega
    have mS:Wa.heap[w.heap.size+1]?=some (.loop (rec .ready none)):=(fJ.keep _ aa hL).trans hl;have BF:Wa.heap[w.heap.size]?=some (.deferred (some [])):=(fJ.keep _ (by omega) hD).trans hk;have tC:w.heap.size+1<Wa.heap.size:=(eQ.1 mS).1;refine⟨_,run_beginRound mS (by rw[eS]),?_⟩;have hb:=Bj (w.heap.size+1) pre x S1 a1 (Wa.putObj (w.heap.size+1) (.loop { rec .ready none with state:=.busy })) bw (hA _ _ _ _ _ _ AK (iX _ (by omega) pd)) (λk e=>by simpa using B2 k e);refine wpIn_mono hb ?_;have fin:∀ (jump:Option Code) (W3:World) (S3:Nat->Prop),RdStep S1 (Wa.putObj (w.heap.size+1) (.loop { rec .ready none with state:=.busy })) W3->(∀ k,S3 k->S1 k\/(Wa.putObj (w.heap.size+1) (.loop { rec .ready none with state:=.busy })).heap.size<=k)->(∀ k,S3 k->k<W3.heap.size)->
     (Instr.endRound (w.heap.size+1) jump).run P W3 = .ok (.bool jump.isNone) (W3.putObj (w.heap.size+1) (.loop (rec (if jump.isNone then .ready else .done) jump)))/\
     (W3.putObj (w.heap.size+1) (.loop (rec (if jump.isNone then .ready else .done) jump))).heap[w.heap.size+1]?=some (.loop (rec (if jump.isNone then .ready else .done) jump))/\
     (W3.putObj (w.heap.size+1) (.loop (rec (if jump.isNone then .ready else .done) jump))).heap[w.heap.size]?=some (.deferred (some []))/\
     ¬ S3 w.heap.size/\¬ S3 (w.heap.size+1)/\(∀ k,S3 k->S k\/W.heap.size<=k)/\
     RdStep Si W (W3.putObj (w.heap.size+1) (.loop (rec (if jump.isNone then .ready else .done) jump))):=λjump W3 S3 cF cY cG=>by
     have dF:(Wa.putObj (w.heap.size+1) (.loop { rec .ready none with state:=.busy })).heap[w.heap.size+1]?=some (.loop { rec .ready none with state:=.busy }):=World.putObj_heap_same tC;have jw:(Wa.putObj (w.heap.size+1) (.loop { rec .ready none with state:=.busy })).heap[w.heap.size]?=some (.deferred (some [])):=(zQ (by omega)).trans BF;have mR:=(cF.keep _ (by simpa using tC) pd).trans dF;have l6:=(cF.keep _ (by simp;omega) tD).trans jw;have pa:=(eQ.1 mR).1
     have:=run_endRound (P:=P) jump mR
     rw[eS] at this |-;have kJ:=cF.size;have qf:=fJ.size;simp only[World.putObj_size] at kJ cY;refine⟨this,World.putObj_heap_same pa,(zQ (by omega)).trans l6,λe=>?_,λe=>?_,λk e=>?_,?_⟩
     ·rcases cY _ e with e | e;exact tD e;omega
     ·rcases cY _ e with e | e;exact pd e;omega
     ·rcases cY _ e with e | e
      ·exact bl _ e
      ·right;omega
     ·refine⟨cF.os.trans fJ.os,cF.tape.trans fJ.tape,cF.output.trans fJ.output,by simp;omega,λk hk' tE=>?_⟩;have l7:k≠w.heap.size+1:=λe=>tE ((cJ k).2 (.inr e));have tF:¬ S k:=λe=>tE ((cJ k).2 (.inl e));have BN:¬ S1 k:=λe=>by rcases bl _ e with e | e;exact tF e;omega
      exact (zQ l7).trans ((cF.keep k (by simp;omega) BN).trans ((zQ l7).trans (fJ.keep k hk' tF)))
    have fin2:∀ (S3:Nat->Prop) (W3:World) (o:Obj),(∀ k,S3 k->k<W3.heap.size)->W.heap.size<=W3.heap.size->(∀ k,S3 k->S k\/W.heap.size<=k)->
     (∀ k,(S3 k\/k=w.heap.size+1)->Si k\/W.heap.size<=k)/\(∀ k,(S3 k\/k=w.heap.size+1)->k<(W3.putObj (w.heap.size+1) o).heap.size):=λS3 W3 o h1 h2 h3=>
     ⟨λk e=>by rcases e with e | e;exact (h3 k e).imp (λe'=>(cJ k).2 (.inl e')) id;exact .inl ((cJ k).2 (.inr e)),λk e=>by
      simp only[World.putObj_size];rcases e with e | e
      ·exact h1 k e
      ·omega⟩
    have sub3:∀ (S3:Nat->Prop),(∀ k,S3 k->S k\/W.heap.size<=k)->∀ k,S3 k->S0 k\/w.heap.size<=k:=λS3 h k e=>by
     rcases h k e with e | e
     ·exact bd k e
     ·right;omega
    rintro e a3 W3 hp
    cases e with
    | normal=>
     obtain⟨S3,cF,cY,cG,kb⟩:=hp;obtain⟨hr,kc,jx,gF,fG,dt,aJ⟩:=fin none W3 S3 cF cY cG;have ap:W.heap.size<=W3.heap.size:=by simpa using aJ.size
     refine⟨_,_,hr,λk=>S3 k\/k=w.heap.size+1,aJ,(fin2 S3 W3 (.deferred none) cG ap dt).1,(fin2 S3 W3 _ cG ap dt).2,.inl ⟨rfl,S3,λ_=>Iff.rfl,gF,fG,sub3 S3 dt,hI _ _ _ _ kb (iX _ (by omega) fG),kc,jx⟩⟩
    | ret=>
     obtain⟨S3,cF,cY,cG,kb⟩:=hp;obtain⟨hr,kc,jx,gF,fG,dt,aJ⟩:=fin (some .ret) W3 S3 cF cY cG;have ap:W.heap.size<=W3.heap.size:=by simpa using aJ.size
     refine⟨_,_,hr,λk=>S3 k\/k=w.heap.size+1,aJ,(fin2 S3 W3 (.deferred none) cG ap dt).1,(fin2 S3 W3 _ cG ap dt).2,.inr ⟨rfl,S3,.ret,λ_=>Iff.rfl,gF,fG,sub3 S3 dt,iw _ _ _ _ _ kb (iX _ (by omega) fG),kc,jx⟩⟩
    | exit id=>
     obtain⟨S3,cF,cY,cG,kb⟩:=hp;obtain⟨hr,kc,jx,gF,fG,dt,aJ⟩:=fin (some (.exit id)) W3 S3 cF cY cG;have ap:W.heap.size<=W3.heap.size:=by simpa using aJ.size
     refine⟨_,_,hr,λk=>S3 k\/k=w.heap.size+1,aJ,(fin2 S3 W3 (.deferred none) cG ap dt).1,(fin2 S3 W3 _ cG ap dt).2,.inr ⟨rfl,S3,.exit id,λ_=>Iff.rfl,gF,fG,sub3 S3 dt,iw _ _ _ _ _ kb (iX _ (by omega) fG),kc,jx⟩⟩
    | goto t=>exact hp.elim
    | panic ch=>exact hp.elim
    | outgrown=>exact hp.elim
   | ret=>exact hq.elim
   | exit id=>exact hq.elim
   | goto t=>exact hq.elim
   | panic ch=>exact hq.elim
   | outgrown=>exact hq.elim
  ·rintro k (e | rfl)
   ·exact oU k e
   ·exact λh=>by have h1:=(cC.2 _ h).1;have h2:=cC.1;omega
  ·rintro k (e | rfl)
   ·have:=jZ k e;omega
   ·omega
  ·exact⟨S0,λ_=>Iff.rfl,λe=>by have:=jZ _ e;omega,λe=>by have:=jZ _ e;omega,λ_ e=>.inl e,lW,g9,AQ⟩
theorem Fp{α:Type}{P:Program}{g:Operand}{ps:Array Tmp}{assign body:Code}{Q:Exit->Act->World->Prop}{a:Act}{w:World}
 {gf:FuncId} {first captured:Array Value} (hg:a.eval g = .func (.func gf) first captured) (eg:∀ args w,(callFunc gf args).run P w = .ok (.enter gf args) w)
 {mk:Value->Array Value} {encs:α->Array Value} {xs:List α} {Dr:Nat->Prop} {w0:World} (fX:∀ y,mk y=first ++ #[y]++captured)
 (hit:Ag P gf mk encs xs Dr w0) (cC:dU Dr w0 w) (fY:∀ x,(encs x).size=ps.size)
 (I:List α->(Nat->Prop)->World->Prop) (Ix:Code->List α->(Nat->Prop)->World->Prop)
 (hI:fq w.heap.size I) (iw:∀ c,fq w.heap.size (Ix c))
 (S0:Nat->Prop) (oU:∀ k,S0 k->¬ Dr k) (jZ:∀ k,S0 k->k<w.heap.size) (h0:I [] S0 w)
 (B0:∀ (l0:Nat) (pre:List α) (x:α) (S:Nat->Prop) (W:World),pre ++ [x] <+: xs->I pre S W->(∀ k,S k->k<W.heap.size)->
   assign.wpIn (Fence.wide.inRound l0) 0 P (Exit.then (λa₁ W₁=>∃ S',RdStep S W W₁/\(∀ k,S' k->S k\/W.heap.size<=k)/\(∀ k,S' k->k<W₁.heap.size)/\
    ∀ l W₂,ItStep w.heap.size S' W₁ W₂->body.wpIn (Fence.wide.inRound l) 0 P (mF I Ix (pre ++ [x]) S' W₂) a₁ W₂) (λ_ _ _=>False))
    { tmps:=(ps.zip (encs x)).foldl (λt (p,v)=>t.setIfInBounds p v) a.tmps,defers:=[] } W)
 (lu:∀ (D:Nat) (S:Nat->Prop) (W:World),w.heap.size<=D->¬ S D->(∀ k,S k->S0 k\/w.heap.size<=k)->I xs S W->W.heap[D]?=some (.deferred (some []))->
   Q .normal { a with defers:={ target:=.collected D,args:=#[] } :: a.defers } W)
 (iV:∀ (D:Nat) (c:Code) (pre:List α) (S:Nat->Prop) (W:World),w.heap.size<=D->¬ S D->(∀ k,S k->S0 k\/w.heap.size<=k)->pre <+: xs->Ix c pre S W->W.heap[D]?=some (.deferred (some []))->
   c.wpIn Fence.wide 0 P Q { a with defers:={ target:=.collected D,args:=#[] } :: a.defers } W) :
 (Code.rangeFunc g ps assign body).wpIn Fence.wide 0 P Q a w:=
 aJK hg eg fX hit cC fY I Ix (λpre x S a₁ W=>∀ l W₂,ItStep w.heap.size S W W₂->body.wpIn (Fence.wide.inRound l) 0 P (mF I Ix (pre ++ [x]) S W₂) a₁ W₂)
  hI iw (λ_ _ _ _ _ _ h hs l W₂ h2=>h l W₂ (hs.trans h2)) S0 oU jZ h0 B0 (λl _ _ _ _ W _ h _=>h l W (ItStep.refl _ _ _)) lu iV
end
end Go.Proofs.YtfnopgdcaanaiaaGreatDoor
