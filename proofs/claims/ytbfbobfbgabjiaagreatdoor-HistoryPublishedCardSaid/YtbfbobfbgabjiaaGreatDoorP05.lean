/- Parts of the proof. No condition. -/
import Derived.Test.YtbfbobfbgabjiaaGreatDoorProg
import Derived.Shelf.Small.Strs
import Derived.OwnWalkIn
import Derived.Maps.AppendAt
import Derived.Lib.ConvBytes
import Derived.Laws.AppendOwnNone
import Derived.Lib.AppendStr
import Derived.Test.YtbfbobfbgabjiaaGreatDoorP01
set_option linter.all false
set_option maxRecDepth 100000
set_option maxHeartbeats 8000000
namespace Go.Proofs
open YtbfbobfbgabjiaaGreatDoor
open Go.Shelf
def Tryz.lays106_ren:Go.Shelf.Ren:=⟨fun | 106=>99 | 213=>161 | 265=>221 | n=>n,fun | 9=>9 | 3=>3 | n=>n,fun | n=>n⟩
theorem Tryz.lays106:Go.Proofs.Lays.n106 Tryz.prog Tryz.lays106_ren:={
 mixed:=by kernel_rfl
 f106:=Tryz.func99.trans (Qd some (by kernel_rfl))
 f213:=Tryz.func161.trans (Qd some (by kernel_rfl))
 f265:=Tryz.func221.trans (Qd some (by kernel_rfl))
 t3:=Tryz.underlying3
 a3:=Tryz.isAgg3
 z3:=Tryz.sizeOf3
 v3:=Tryz.zeroValue3
 t9:=Tryz.underlying9
 a9:=Tryz.isAgg9
 z9:=Tryz.sizeOf9
 v9:=Tryz.zeroValue9 }
open Go.RowKit in
theorem Tryz.strings_Compare(a b:ByteArray)(w:World) :
 Calls Tryz.prog 99 #[.string a,.string b] w λe w'=>e = .returned (.int .i64 (Lib.compareBytes a.data.toList b.data.toList))/\w'=w:=Any.strings_Compare Tryz.lays106 a b w
end Go.Proofs
namespace Go.Proofs.YtbfbobfbgabjiaaGreatDoor
open Go.Proofs.Tryz
section
open Go.RowKit
theorem fU{W W':World}{base:Nat}{e:TypeId}{size:Nat}{v:Value}{k:Nat}{xs:List Value}(h:W.ownsRow base e size v k xs)(hs:∀ g,v.ownBlock=some g->W'.heap[g]?=W.heap[g]?):W'.ownsRow base e size v k xs:=by
 refine⟨h.1,?_⟩;rcases h.2 with hn | ⟨g,cap,cur,rfl,hb,hg,rest⟩
 ·exact .inl hn
 ·exact .inr ⟨g,cap,cur,rfl,hb,(hs g rfl).trans hg,rest⟩
theorem KJ{α:Type}{R:World->Nat->List Value->α->Prop}{sz:Nat}{W:World}{base:Nat}{e:TypeId}{v:Value}{xs:List α}(enc:α->List Value)(hlen:∀ x∈xs,(enc x).length=sz)
 (h:W.ownsRow base e sz v xs.length (xs.flatMap enc)) (hl:xs.length<=140737488355328) (hR:∀ x∈xs,R W W.heap.size (enc x) x):SlR R sz W W.heap.size v xs:=by
 have Zf:∀ (l:List α) (i:Nat) (x:α) (j:Nat) (u:Value),(∀ y∈l,(enc y).length=sz)->l[i]?=some x->(enc x)[j]?=some u->(l.flatMap enc)[i * sz+j]?=some u:=by
  intro l
  induction l with
  | nil=>intro i x j u _ hi; simp at hi
  | cons y l ih=>
   intro i x j u gw hi hj;rw[List.flatMap_cons];have hy:(enc y).length=sz:=gw y (by simp)
   cases i with
   | zero=>
    simp at hi; subst hi;rw[List.getElem?_append_left (by have:=(cQ.1 hj).1; omega)];simpa using hj
   | succ i=>
    rw[oQ (by rw[hy,Nat.succ_mul]; omega),hy]
    have:=ih i x j u (λy hy=>gw y (by simp[hy])) (by simpa using hi) hj
    rw[show (i+1) * sz+j - sz=i * sz+j by rw[Nat.succ_mul]; omega];exact this
 rcases h.2 with ⟨rfl,h0⟩ | ⟨g,cap,cur,rfl,hb,hg,oH,_,_,ZJ⟩
 ·have:xs = []:=rQ h0
  subst this;exact⟨none,0,rfl,by simp,by simp,λi x hx=>by simp at hx⟩
 ·refine⟨_,cap,rfl,oH,hl,λi x hx=>⟨g,0,enc x,rfl,(eQ.1 hg).1,hlen x (gQ hx),λj u hj=>?_,hR x (gQ hx)⟩⟩;have h1:=Zf xs i x j u hlen hx hj;have h2:=h.cells (g:=g) rfl _ _ h1;have oC:(⟨g,0,none⟩:Addr).add (i * sz+j)=⟨g,0+i * sz+j,none⟩:=by unfold Addr.add; split <;> simp_all
  rw[oC] at h2;exact h2
def gJ(_:World)(_:Nat)(e:List Value)(x:Int):Prop:=e = [.int .i64 x]
theorem kR:dw gJ:=λ_ _ _ _ _ h _=>h
theorem sI:dN gJ:=λ_ _ _ _ _ h _=>h
theorem Qt{α:Type}(f:α->Value)(l:List α):l.map f=l.flatMap λx=>[f x]:=by induction l <;> simp_all
theorem yZ{W:World}{base:Nat}{e:TypeId}{size:Nat}{v:Value}{k:Nat}{xs:List Value}(h:W.ownsRow base e size v k xs):∃ A cap,v = .slice A k cap:=by
 rcases h.2 with ⟨rfl,rfl⟩ | ⟨g,cap,_,rfl,_⟩
 ·exact⟨none,0,rfl⟩
 ·exact⟨_,cap,rfl⟩
structure Turned(b:Nat)(w w':World):Prop where
 os:w'.os=w.os
 tape:w'.tape=w.tape
 output:w'.output=w.output
 size:w'.heap.size=w.heap.size
 block:∀ i,i≠b->w'.heap[i]?=w.heap[i]?
theorem Turned.refl(b:Nat)(w:World):Turned b w w:=⟨rfl,rfl,rfl,rfl,λ_ _=>rfl⟩
theorem Turned.trans{b:Nat}{u v w:World}(h:Turned b u v)(k:Turned b v w):Turned b u w:=⟨k.os.trans h.os,k.tape.trans h.tape,k.output.trans h.output,k.size.trans h.size,λi hi=>(k.block i hi).trans (h.block i hi)⟩
theorem Turned.cell{b:Nat}{w w':World}(h:Turned b w w'){p:Addr}(hp:p.block≠b):w'.cell? p=w.cell? p:=by
 unfold World.cell?;rw[h.block _ hp]
theorem Turned.grown{b:Nat}{w w':World}(h:Turned b w w'):w.grownBy w' (some b):=⟨h.os,h.tape,h.output,by rw[h.size]; exact bQ _,λi _ hne=>h.block i (λe=>hne (by rw[e]))⟩
theorem Turned.below{b n:Nat}{w w':World}(h:Turned b w w')(hn:n<=b):Below n w w':=⟨h.os,h.tape,h.output,by rw[h.size]; exact bQ _,λi hi=>h.block i (by omega)⟩
def bl{α:Type}(R:World->Nat->List Value->α->Prop)(sz:Nat)(e:TypeId)(base B:Nat)(w:World)(v:Value)(xs:List α):Prop:=
 ∃ rows:List (List Value),rows.length=xs.length/\w.ownsRow base e sz v xs.length rows.flatten/\∀ (i:Nat) (r:List Value) (x:α),rows[i]?=some r->xs[i]?=some x->r.length=sz/\R w B r x
theorem DR{sz:Nat} : ∀ (rows:List (List Value)) (i j:Nat) (r:List Value) (u:Value),(∀ q∈rows,q.length=sz)->rows[i]?=some r->r[j]?=some u->rows.flatten[i * sz+j]?=some u:=by
 intro rows
 induction rows with
 | nil=>intro i j r u _ h; simp at h
 | cons q rows ih=>
  intro i j r u hq h hj;have hl:q.length=sz:=hq q (by simp);rw[List.flatten_cons]
  cases i with
  | zero=>
   simp at h; subst h;rw[List.getElem?_append_left (by have:=(cQ.1 hj).1; omega)];simpa using hj
  | succ i=>
   rw[oQ (by rw[hl,Nat.succ_mul]; omega),hl,show (i+1) * sz+j - sz=i * sz+j by rw[Nat.succ_mul]; omega];exact ih i j r u (λq hq'=>hq q (by simp[hq'])) (by simpa using h) hj
theorem ID{sz:Nat} : ∀ (rows:List (List Value)),(∀ q∈rows,q.length=sz)->rows.flatten.length=rows.length * sz:=by
 intro rows
 induction rows with
 | nil=>intro _; simp
 | cons q rs ih=>
  intro h;rw[List.flatten_cons,List.length_append,ih (λx hx=>h x (by simp[hx])),h q (by simp),List.length_cons,Nat.succ_mul]; omega
theorem bl.rows_len{α:Type}{R:World->Nat->List Value->α->Prop}{sz B:Nat}{w:World}{xs:List α}{rows:List (List Value)}(hl:rows.length=xs.length)(h:∀ (i:Nat) (r:List Value) (x:α),rows[i]?=some r->xs[i]?=some x->r.length=sz/\R w B r x):∀ q∈rows,q.length=sz:=λq hq=>by
 obtain⟨i,hi,rfl⟩:=nQ.1 hq;exact (h i _ _ (aQ hi) (aQ (by omega))).1
theorem bl.slr{α:Type}{R:World->Nat->List Value->α->Prop}{sz:Nat}{e:TypeId}{base B:Nat}{w:World}{v:Value}{xs:List α}(h:bl R sz e base B w v xs)(hm:dN R)(hB:B<=w.heap.size)(hl:xs.length<=140737488355328):SlR R sz w w.heap.size v xs:=by
 obtain⟨rows,h1,h2,h3⟩:=h;rcases h2.2 with ⟨rfl,h0⟩ | ⟨g,cap,cur,rfl,hb,hg,oH,_⟩
 ·have:xs = []:=rQ h0
  subst this;exact⟨none,0,rfl,by simp,by simp,λi x hx=>by simp at hx⟩
 ·refine⟨_,cap,rfl,oH,hl,λi x hx=>?_⟩;have hi:=(cQ.1 hx).1;have hr:=aQ (show i<rows.length by omega);obtain⟨h4,h5⟩:=h3 i _ x hr hx;refine⟨g,0,rows[i],rfl,(eQ.1 hg).1,h4,λj u hj=>?_,hm _ _ _ _ _ h5 hB⟩;have h6:=h2.cells (g:=g) rfl _ _ (DR rows i j _ u (bl.rows_len h1 h3) hr hj);have oC:(⟨g,0,none⟩:Addr).add (i * sz+j)=⟨g,0+i * sz+j,none⟩:=by unfold Addr.add; split <;> simp_all
  rw[oC] at h6;exact h6
theorem bl.keep{α:Type}{R:World->Nat->List Value->α->Prop}{sz:Nat}{e:TypeId}{base B:Nat}{w w':World}{v:Value}{xs:List α}(h:bl R sz e base B w v xs)(hk:dw R)(hb:Below w.heap.size w w')(hB:B<=w.heap.size):bl R sz e base B w' v xs:=by
 obtain⟨rows,h1,h2,h3⟩:=h;refine⟨rows,h1,fU h2 (λg hg=>hb.block g (h2.lt g hg).2),λi r x hr hx=>?_⟩;obtain⟨h4,h5⟩:=h3 i r x hr hx;exact⟨h4,hk _ _ _ _ _ h5 (hb.mono hB)⟩
theorem bl.empty{α:Type}{R:World->Nat->List Value->α->Prop}{sz:Nat}{e:TypeId}{base B:Nat}(w:World)(hb:base<=w.heap.size):bl (α:=α) R sz e base B (w.alloc (.cells #[] e)) (.slice (some ⟨w.heap.size,0,none⟩) 0 0) []:=
 ⟨[],rfl,⟨by simp,.inr ⟨w.heap.size,0,#[],rfl,hb,heap_alloc_new _ _,bQ _,by simp[maxLen],by simp,by simp⟩⟩,λi r x hr=>by simp at hr⟩
theorem bl.nil{α:Type}{R:World->Nat->List Value->α->Prop}{sz:Nat}{e:TypeId}{base B:Nat}(w:World):bl (α:=α) R sz e base B w (.slice none 0 0) []:=⟨[],rfl,⟨by simp,.inl ⟨rfl,rfl⟩⟩,λi r x hr=>by simp at hr⟩
theorem aFX{α:Type}{R:World->Nat->List Value->α->Prop}{sz:Nat}{w:World}{B:Nat}{A:Option Addr}{n c:Nat}{ys:List α}(h:SlR R sz w B (.slice A n c) ys)(am:0<sz) :
 ∃ rows:List (List Value),rows.length=ys.length/\(∀ (i:Nat) (r:List Value) (x:α),rows[i]?=some r->ys[i]?=some x->r.length=sz/\R w B r x)/\(ys≠[]->∃ b o,A=some ⟨b,o,none⟩/\b<B/\∀ j u,rows.flatten[j]?=some u->w.cell? ((⟨b,o,none⟩:Addr).add j)=some u):=by
 obtain⟨A',c',hv,hc,hl,he⟩:=h
 cases hv
 have az:∀ k,k<=ys.length->∃ rows:List (List Value),rows.length=k/\(∀ (i:Nat) (r:List Value) (x:α),rows[i]?=some r->ys[i]?=some x->r.length=sz/\R w B r x/\∃ b o,A=some ⟨b,o,none⟩/\b<B/\cR w b (o+i * sz) r):=by
  intro k
  induction k with
  | zero=>exact λ_=>⟨[],rfl,λi r x hr=>by simp at hr⟩
  | succ k ih=>
   intro hk;obtain⟨rows,h1,h2⟩:=ih (by omega);obtain⟨b,o,e,hA,hb,br,hce,hr⟩:=he k _ (aQ (by omega:k<ys.length));refine⟨rows ++ [e],by simp[h1],λi r x hr' hx=>?_⟩;rcases Nat.lt_or_ge i rows.length with aa | qC
   ·rw[List.getElem?_append_left aa] at hr'; exact h2 i r x hr' hx
   ·rw[oQ qC] at hr';have h0:i - rows.length=0:=by have:=(cQ.1 hr').1; simp at this; omega
    rw[h0] at hr';simp at hr';subst hr';obtain rfl:i=k:=by omega
    rw[aQ (by omega)] at hx;simp only[Option.some.injEq] at hx;subst hx;exact⟨br,hr,b,o,hA,hb,hce⟩
 obtain⟨rows,h1,h2⟩:=az ys.length (bQ _);refine⟨rows,h1,λi r x hr hx=>⟨(h2 i r x hr hx).1,(h2 i r x hr hx).2.1⟩,λhne=>?_⟩;have h0:0<ys.length:=Nat.pos_of_ne_zero (λe=>hne (rQ e));obtain⟨_,_,b,o,hA,hb,_⟩:=h2 0 _ _ (aQ (by omega)) (aQ h0);refine⟨b,o,hA,hb,λj u hj=>?_⟩;have hlen:∀ q∈rows,q.length=sz:=λq hq=>by
  obtain⟨i,hi,rfl⟩:=nQ.1 hq;exact (h2 i _ _ (aQ hi) (aQ (by omega))).1
 have wt:=ID rows hlen;have nE:=(cQ.1 hj).1;have hi:j / sz<rows.length:=by rw[wt] at nE; exact Nat.div_lt_of_lt_mul (by rw[Nat.mul_comm]; exact nE)
 obtain⟨h5,_,b',o',hA',_,hce⟩:=h2 (j / sz) _ _ (aQ hi) (aQ (by omega));rw[hA] at hA';simp only[Option.some.injEq,Addr.mk.injEq,and_true] at hA';obtain⟨rfl,rfl⟩:=hA';have EA:j % sz<rows[j / sz].length:=by rw[h5]; exact Nat.mod_lt _ am
 have h7:=DR rows (j / sz) (j % sz) _ _ hlen (aQ hi) (aQ EA);rw[Nat.div_add_mod' j sz,hj] at h7;simp only[Option.some.injEq] at h7;have h8:=hce (j % sz) _ (aQ EA);rw[<-h7] at h8;have oC:(⟨b,o,none⟩:Addr).add j=⟨b,o+j,none⟩:=by unfold Addr.add; split <;> simp_all
 rw[oC,<-h8];congr 2
 have:=Nat.div_add_mod' j sz
 omega
section
variable {P:Program}
theorem Ri{w:World}(base:Nat)(t ty e:TypeId)(i:TypeInfo)(size:Nat)(ht:P.underlying t=some (.slice e))(hi:P.info? e=some i)(v:Value)(n c:Nat)(xs:List Value)(hown:w.ownsRow base e size v n xs) :
 (Builtin.append_ #[t,t] ty #[v,.slice none 0 c]).run P w = .ok v w:=by
 rcases hown.2 with ⟨rfl,rfl⟩ | ⟨g,cap,cur,rfl,_,_,oH,_⟩
 ·simp[Builtin.append_,run_underlying ht,sizeOf,typeInfo,hi,Builtin.lenOf,Builtin.firstCells]
 ·simp[Builtin.append_,run_underlying ht,sizeOf,typeInfo,hi,Builtin.lenOf,Builtin.firstCells,oH,storeCells]
theorem FO{α:Type}{R:World->Nat->List Value->α->Prop}{sz:Nat}(w:World){ops:Array Oper}{rest:List Oper}{o:Oper}{a:Act}{Q:Exit->Act->World->Prop}(iX:o.guard=none)(s x:Operand)(t:TypeId)
 (ho:o.op = .call { callee:=.builtin .append,args:=#[s,x],argTypes:=#[t,t] })
 (base B:Nat) (e:TypeId) (i:TypeInfo) (z:Value) (bytes:Nat) (ht:P.underlying t=some (.slice e)) (hi:P.info? e=some i) (hz:i.zero=some z) (l9:i.size=sz) (iE:i.bytes=bytes) (sD:z.cells.size=sz) (am:0<sz)
 (v:Value) (xs:List α) (hs:a.eval s=v) (hown:bl R sz e base B w v xs) (A:Option Addr) (c Bs:Nat) (ys:List α) (hx:a.eval x = .slice A ys.length c) (eX:SlR R sz w Bs (.slice A ys.length c) ys)
 (wP:∀ r y,R w Bs r y->∀ u∈r,u.oneCell'=true) (ku:xs.length+ys.length<=maxLen) (nw:(xs.length+ys.length) * bytes<=140737488355328) (ej:base<=w.heap.size) (ox:Bs<=B) (NZ:B<=base) (hk:dw R) (hm:dN R)
 (h:∀ v' w',bl R sz e base B w' v' (xs++ys)->Below base w w'->w.grownBy w' v.ownBlock->wpList P ops Q rest (a.put o.dst v') w'):wpList P ops Q (o::rest) a w:=by
 have rX:∀ (w':World) (v':Value) (rows rows':List (List Value)),Below base w w'->rows.length=xs.length->(∀ (i:Nat) (r:List Value) (x:α),rows[i]?=some r->xs[i]?=some x->r.length=sz/\R w B r x)->rows'.length=ys.length->
  (∀ (i:Nat) (r:List Value) (x:α),rows'[i]?=some r->ys[i]?=some x->r.length=sz/\R w Bs r x)->w'.ownsRow base e sz v' (xs.length+ys.length) (rows.flatten++rows'.flatten)->bl R sz e base B w' v' (xs++ys):=by
  intro w' v' rows rows' hb h1 h2 h3 h4 h5;refine⟨rows++rows',by simp[h1,h3],?_,λj r y hr hy=>?_⟩
  ·rw[List.length_append,List.flatten_append]; exact h5
  ·rcases Nat.lt_or_ge j rows.length with aa | qC
   ·rw[List.getElem?_append_left aa] at hr;rw[List.getElem?_append_left (by omega)] at hy;obtain⟨h6,h7⟩:=h2 j r y hr hy;exact⟨h6,hk _ _ _ _ _ h7 (hb.mono NZ)⟩
   ·rw[oQ qC] at hr;rw[oQ (by omega),<-h1] at hy;obtain⟨h6,h7⟩:=h4 _ r y hr hy;exact⟨h6,hk _ _ _ _ _ (hm _ _ _ _ _ h7 ox) (hb.mono NZ)⟩
 obtain⟨rows,h1,h2,h3⟩:=hown;obtain⟨rows',h4,h5,h6⟩:=aFX eX am;by_cases hy:ys = []
 ·subst hy;have l6:rows' = []:=rQ (by simpa using h4);subst l6
  cases A with
  | none=>
   have dp:=Ri (P:=P) base t o.type e i sz ht hi v xs.length c rows.flatten h2;refine wpList_plain iX λK hK=>?_;unfold Oper.wp;have hx':a.eval x = .slice none 0 c:=hx;simp[execOp,ho,resolve,invoke,builtin,hs,hx',dp,Result.andThen];refine hK _ _ (h v w (rX w v rows [] (vQ _ _) h1 h3 rfl (λj r y hr=>by simp at hr) (by simpa using h2)) (vQ _ _) ⟨rfl,rfl,rfl,bQ _,λ_ _ _=>rfl⟩)
  | some ad=>
   refine wpList_append_own_at w iX s x t ho base e i z sz bytes ht hi hz l9 iE sD am v xs.length rows.flatten hs h2 ad 0 c [] hx (by simp) (λj u hj=>by simp at hj) (λu hu=>by cases hu) (by simpa using ku) (by simpa using nw) ej ?_;intro v' w' ho' hg _ _;have hb:Below base w w':=(vQ _ _).grown hg ej (λk hk=>(h2.lt k hk).1);exact h v' w' (rX w' v' rows [] hb h1 h3 rfl (λj r y hr=>by simp at hr) (by simpa using ho')) hb hg
 ·obtain⟨b,o',rfl,bS,hcell⟩:=h6 hy;have hl:=bl.rows_len h4 h5;refine wpList_append_own_at w iX s x t ho base e i z sz bytes ht hi hz l9 iE sD am v xs.length rows.flatten hs h2 ⟨b,o',none⟩ ys.length c rows'.flatten hx (by rw[ID rows' hl,h4]) hcell (λu hu=>?_) ku nw ej ?_
  ·obtain⟨r,hr,JY⟩:=List.mem_flatten.1 hu;obtain⟨j,hj,rfl⟩:=nQ.1 hr;exact wP _ _ (h5 j _ _ (aQ hj) (aQ (by omega))).2 u JY
  ·intro v' w' ho' hg _ _;have hb:Below base w w':=(vQ _ _).grown hg ej (λk hk=>(h2.lt k hk).1);exact h v' w' (rX w' v' rows rows' hb h1 h3 h4 h5 ho') hb hg
end
section
variable {P:Program} (w:World)
theorem aBQ(base:Nat)(t u ty e:TypeId)(i:TypeInfo)(ht:P.underlying t=some (.slice e))(hu:P.underlying u=some .string)(hi:P.info? e=some i)(hz:i.zero=some (.int .u8 0))
 (l9:i.size=1) (iE:i.bytes=1) (v:Value) (n:Nat) (xs:List Value) (hown:w.ownsRow base e 1 v n xs) (s:ByteArray) (ku:n+s.size<=maxLen) (nw:n+s.size<=140737488355328) (ej:base<=w.heap.size) :
 ∃ v' w',(Builtin.append_ #[t,u] ty #[v,.string s]).run P w = .ok v' w'/\w'.ownsRow base e 1 v' (n+s.size) (xs++Lib.strCells s)/\w.grownBy w' v.ownBlock/\(v'.ownBlock=v.ownBlock\/v'.ownBlock=some w.heap.size)/\(v' = .slice none 0 0↔v = .slice none 0 0/\s.size=0):=by
 obtain⟨v',w',dp,h2,h3,h4⟩:=Lib.run_append_own_string (P:=P) w base t u ty e i ht hu hi hz l9 iE v n xs hown s ku nw ej;refine⟨v',w',dp,h2,h3,?_,h4⟩;have a2Y:n+s.size<=9223372036854775807:=by simp only[maxLen] at ku; omega
 rcases hown.2 with ⟨rfl,rfl⟩ | ⟨g,cap,cur,rfl,yt,hg,oH,fN,hcs,ZJ⟩
 ·by_cases hm:s.size=0
  ·exact .inl (by rw[h4.2 ⟨rfl,hm⟩])
  ·have hr:=run_append_nil_string (P:=P) w t u ty e i (.int .u8 0) ht hu hi hz s (by omega) (by omega) (by rw[iE]; omega);rw[hr] at dp;injection dp with h5 _
   exact .inr (by rw[<-h5]; rfl)
 ·by_cases Zu:n+s.size<=cap
  ·have hr:=Lib.run_append_room_string (P:=P) w t u ty e i ht hu hi l9 g n cap cur hg s Zu (by omega);rw[hr] at dp;injection dp with h5 _
   exact .inl (by rw[<-h5]; rfl)
  ·have holds:∀ j u,xs[j]?=some u->w.cell? ((⟨g,0,none⟩:Addr).add j)=some u:=hown.cells (g:=g) rfl;have hr:=Lib.run_append_grow_string (P:=P) w t u ty e i (.int .u8 0) ht hu hi hz ⟨g,0,none⟩ n cap xs (by rw[l9]; exact hown.1) holds s (by omega) (by omega) (by rw[iE]; exact growslice_fits (by omega) (by omega));rw[hr] at dp;injection dp with h5 _
   exact .inr (by rw[<-h5]; rfl)
theorem aPK{ops:Array Oper}{rest:List Oper}{o:Oper}{a:Act}{Q:Exit->Act->World->Prop}(iX:o.guard=none)(sl x:Operand)(t u:TypeId)
 (ho:o.op = .call { callee:=.builtin .append,args:=#[sl,x],argTypes:=#[t,u] })
 (base:Nat) (e:TypeId) (i:TypeInfo) (ht:P.underlying t=some (.slice e)) (hu:P.underlying u=some .string) (hi:P.info? e=some i) (hz:i.zero=some (.int .u8 0)) (l9:i.size=1) (iE:i.bytes=1)
 (v:Value) (n:Nat) (xs:List Value) (hs:a.eval sl=v) (hown:w.ownsRow base e 1 v n xs) (s:ByteArray) (hx:a.eval x = .string s) (ku:n+s.size<=maxLen) (nw:n+s.size<=140737488355328) (ej:base<=w.heap.size)
 (h:∀ v' w',w'.ownsRow base e 1 v' (n+s.size) (xs++Lib.strCells s)->w.grownBy w' v.ownBlock->(v'.ownBlock=v.ownBlock\/v'.ownBlock=some w.heap.size)->(v' = .slice none 0 0↔v = .slice none 0 0/\s.size=0)->wpList P ops Q rest (a.put o.dst v') w'):wpList P ops Q (o::rest) a w:=by
 obtain⟨v',w',hr,h2,h3,h4,h5⟩:=aBQ (P:=P) w base t u o.type e i ht hu hi hz l9 iE v n xs hown s ku nw ej;refine wpList_plain iX λK hK=>?_;unfold Oper.wp execOp;simp only[ho,resolve,invoke,builtin,Sem.run_bind,Sem.run_pure,Result.andThen_ok,List.map_toArray,List.map_cons,List.map_nil,hs,hx,hr];exact hK _ _ (h v' w' h2 h3 h4 h5)
end
theorem Tryz.infoByte:(prog.info? 5).map (λi=>(i.zero,i.size,i.bytes))=some (some (.int .u8 0),1,1):=by kernel_rfl
def fL(D:Nat->Prop)(w W:World):Prop:=w.heap.size<=W.heap.size/\∀ k,D k->k<w.heap.size/\W.heap[k]?=w.heap[k]?
theorem fL.refl{D:Nat->Prop}{w:World}(h:∀ k,D k->k<w.heap.size):fL D w w:=⟨bQ _,λk e=>⟨h k e,rfl⟩⟩
theorem fL.trans{D:Nat->Prop}{a b c:World}(h:fL D a b)(k:fL D b c):fL D a c:=⟨yQ h.1 k.1,λi e=>⟨(h.2 i e).1,((k.2 i e).2).trans (h.2 i e).2⟩⟩
theorem fL.of_below{D:Nat->Prop}{a b c:World}(h:fL D a b)(k:Below b.heap.size b c):fL D a c:=⟨yQ h.1 k.size,λi e=>⟨(h.2 i e).1,(k.block i (lQ (h.2 i e).1 h.1)).trans (h.2 i e).2⟩⟩
theorem fL.cell{D:Nat->Prop}{w W:World}(h:fL D w W){p:Addr}(hp:D p.block):W.cell? p=w.cell? p:=iQ (h.2 _ hp).2
theorem fL.round{D S:Nat->Prop}{a b c:World}(h:fL D a b)(k:RdStep S b c)(hS:∀ i,S i->¬ D i):fL D a c:=⟨yQ h.1 k.size,λi e=>⟨(h.2 i e).1,(k.keep i (lQ (h.2 i e).1 h.1) (λhs=>hS i hs e)).trans (h.2 i e).2⟩⟩
def Ia{α:Type}(P:Program)(gf:FuncId)(mk:Value->Array Value)(encs:α->Array Value)(xs:List α)(Dr:Nat->Prop)(w:World):Prop:=
 ∀ (l:Nat) (J Jx:List α->(Nat->Prop)->World->Prop) (S:Nat->Prop) (W:World),fL Dr w W->
   fE W.heap.size J->fE W.heap.size Jx->
   (∀ pre x S1 W1,pre ++ [x] <+: xs->J pre S1 W1->(∀ k,S1 k->k<W1.heap.size)->W.heap.size<=W1.heap.size->
     YieldAt Fence.wide 0 P l (encs x) W1 (Dv J Jx pre x S1 W1))->
   (∀ k,S k->¬ Dr k)->(∀ k,S k->k<W.heap.size)->J [] S W->
   CallsIn Fence.wide 0 P gf (mk (.func (.yield l) #[] #[])) W λe W'=>(∃ v,e = .returned v)/\
    ((∃ S',J xs S' W'/\(∀ k,S' k->S k\/W.heap.size<=k))\/(∃ pre S',pre <+: xs/\Jx pre S' W'/\(∀ k,S' k->S k\/W.heap.size<=k)))
theorem aPZ{α:Type}{P:Program}{g:Operand}{ps:Array Tmp}{assign body:Code}{Q:Exit->Act->World->Prop}{a:Act}{w:World}
 {gf:FuncId} {first captured:Array Value} (hg:a.eval g = .func (.func gf) first captured) (eg:∀ args w,(callFunc gf args).run P w = .ok (.enter gf args) w)
 {mk:Value->Array Value} {encs:α->Array Value} {xs:List α} {Dr:Nat->Prop} {w0:World} (gh:∀ y,mk y=first ++ #[y]++captured)
 (hit:Ia P gf mk encs xs Dr w0) (cV:fL Dr w0 w) (gi:∀ x,(encs x).size=ps.size)
 (I:List α->(Nat->Prop)->World->Prop) (Ix:Code->List α->(Nat->Prop)->World->Prop) (A:List α->α->(Nat->Prop)->Act->World->Prop)
 (hI:fE w.heap.size I) (iW:∀ c,fE w.heap.size (Ix c)) (hA:∀ pre x S a' W W',A pre x S a' W->ItStep w.heap.size S W W'->A pre x S a' W')
 (S0:Nat->Prop) (pt:∀ k,S0 k->¬ Dr k) (kw:∀ k,S0 k->k<w.heap.size) (h0:I [] S0 w)
 (Bu:∀ (l:Nat) (pre:List α) (x:α) (S:Nat->Prop) (W:World),pre ++ [x] <+: xs->I pre S W->(∀ k,S k->k<W.heap.size)->
   assign.wpIn (Fence.wide.inRound l) 0 P (Exit.then (λa₁ W₁=>∃ S',RdStep S W W₁/\(∀ k,S' k->S k\/W.heap.size<=k)/\(∀ k,S' k->k<W₁.heap.size)/\A pre x S' a₁ W₁) (λ_ _ _=>False))
    { tmps:=(ps.zip (encs x)).foldl (λt (p,v)=>t.setIfInBounds p v) a.tmps,defers:=[] } W)
 (By:∀ (l:Nat) (pre:List α) (x:α) (S:Nat->Prop) (a₁:Act) (W:World),pre ++ [x] <+: xs->A pre x S a₁ W->(∀ k,S k->k<W.heap.size)->
   body.wpIn (Fence.wide.inRound l) 0 P (nh I Ix (pre ++ [x]) S W) a₁ W)
 (nA:∀ (D:Nat) (S:Nat->Prop) (W:World),w.heap.size<=D->¬ S D->(∀ k,S k->S0 k\/w.heap.size<=k)->I xs S W->W.heap[D]?=some (.deferred (some []))->
   Q .normal { a with defers:={ target:=.collected D,args:=#[] } :: a.defers } W)
 (gR:∀ (D:Nat) (c:Code) (pre:List α) (S:Nat->Prop) (W:World),w.heap.size<=D->¬ S D->(∀ k,S k->S0 k\/w.heap.size<=k)->pre <+: xs->Ix c pre S W->W.heap[D]?=some (.deferred (some []))->
   c.wpIn Fence.wide 0 P Q { a with defers:={ target:=.collected D,args:=#[] } :: a.defers } W) :
 (Code.rangeFunc g ps assign body).wpIn Fence.wide 0 P Q a w:=by
 refine wpIn_rangeFunc ?_;intro fn jt;show ∃ (l:Nat) (mark:List Deferred) (w₁:World) (d:Deferred) (w₁':World) (f:FuncId) (args:Array Value) (w₂:World),(Instr.enterLoop fn a.tmps ps assign body none).run P w = .ok (l,mark) w₁/\_;obtain⟨rec,eV⟩:∃ rec:LoopState->Option Code->Loop,rec=λst pe=>{ state:=st,pending:=pe,fn,tmps:=a.tmps,params:=ps,assign,body,defers:=w.heap.size }:=⟨_,rfl⟩;obtain⟨W1,ai⟩:∃ W1,(w.alloc (.deferred (some []))).alloc (.loop (rec .ready none))=W1:=⟨_,rfl⟩;have am:W1.heap.size=w.heap.size+2:=by rw[<-ai]; simp
 have g9:W1.heap[w.heap.size+1]?=some (.loop (rec .ready none)):=by
  rw[<-ai]; have:=World.alloc_heap_new (w.alloc (.deferred (some []))) (.loop (rec .ready none)); rwa [World.size_alloc] at this
 have Bg:W1.heap[w.heap.size]?=some (.deferred (some [])):=by
  rw[<-ai]; exact (Below.heap_alloc _ _ _ (by simp)).trans (World.alloc_heap_new w _)
 have lS:I [] S0 W1:=by rw[<-ai]; exact hI _ _ _ _ (hI _ _ _ _ h0 (un _)) (un _)
 have ap:fL Dr w0 W1:=by
  rw[<-ai]; exact cV.of_below (((vQ _ w).alloc (bQ _) _).alloc (by simp) _)
 refine⟨w.heap.size+1,[{ target:=.collected w.heap.size,args:=#[] }],W1,{ target:=.fn (.func gf) captured,args:=first ++ #[.func (.yield (w.heap.size+1)) #[] #[]] },W1,gf,
  first ++ #[.func (.yield (w.heap.size+1)) #[] #[]]++captured,W1,?_,?_,?_,?_,λh=>by simp[Fence.wide] at h,?_⟩
 ·rw[<-ai,eV]; exact run_enterLoop_outer _ _ _ _ _
 ·simp only[resolve,hg];simp[go_sem]
 ·intro f' _; trivial
 ·simp[invoke,go_sem,eg]
 ·rw[<-gh];have key:=hit (w.heap.size+1)
   (λpre Si W=>∃ S:Nat->Prop,(∀ k,Si k↔S k\/k=w.heap.size+1)/\(¬ S w.heap.size)/\(¬ S (w.heap.size+1))/\(∀ k,S k->S0 k\/w.heap.size<=k)/\I pre S W/\W.heap[w.heap.size+1]?=some (.loop (rec .ready none))/\W.heap[w.heap.size]?=some (.deferred (some [])))
   (λpre Si W=>∃ (S:Nat->Prop) (c:Code),(∀ k,Si k↔S k\/k=w.heap.size+1)/\(¬ S w.heap.size)/\(¬ S (w.heap.size+1))/\(∀ k,S k->S0 k\/w.heap.size<=k)/\Ix c pre S W/\W.heap[w.heap.size+1]?=some (.loop (rec .done (some c)))/\W.heap[w.heap.size]?=some (.deferred (some [])))
   (λk=>S0 k\/k=w.heap.size+1) W1 ap ?_ ?_ ?_ ?_ ?_ ?_
  ·refine key.mono ?_;rintro e W2 ⟨⟨v,rfl⟩,(⟨S',⟨S,dg,hD,hL,bD,hi,hl,hk⟩,_⟩ | ⟨pre,S',iJ,⟨S,c,dg,hD,hL,bD,hi,hl,hk⟩,_⟩)⟩
   ·refine⟨none,_,by have:=run_endLoop (P:=P) hl (by rw[eV]; simp); rw[eV] at this; exact this,?_⟩;exact nA _ S _ (bQ _) hD bD (hI _ _ _ _ hi (jB _ (by omega) hL)) ((zQ (by omega)).trans hk)
   ·refine⟨some c,_,by have:=run_endLoop (P:=P) hl (by rw[eV]; simp); rw[eV] at this; exact this,?_⟩;exact gR _ c pre S _ (bQ _) hD bD iJ ((iW c) _ _ _ _ hi (jB _ (by omega) hL)) ((zQ (by omega)).trans hk)
  ·rintro pre Si A1 B1 ⟨S,dg,hD,hL,bD,hi,hl,hk⟩ aq;have aa:w.heap.size+1<A1.heap.size:=(eQ.1 hl).1;exact⟨S,dg,hD,hL,bD,hI _ _ _ _ hi (aq.weaken (by omega) (λk e=>(dg k).2 (.inl e))),(aq.keep _ aa (.inl (by omega))).trans hl,(aq.keep _ (by omega) (.inl (by omega))).trans hk⟩
  ·rintro pre Si A1 B1 ⟨S,c,dg,hD,hL,bD,hi,hl,hk⟩ aq;have aa:w.heap.size+1<A1.heap.size:=(eQ.1 hl).1;exact⟨S,c,dg,hD,hL,bD,iW c _ _ _ _ hi (aq.weaken (by omega) (λk e=>(dg k).2 (.inl e))),(aq.keep _ aa (.inl (by omega))).trans hl,(aq.keep _ (by omega) (.inl (by omega))).trans hk⟩
  ·
   rintro pre x Si W ck ⟨S,dg,hD,hL,bD,hi,hl,hk⟩ fG IW;have aa:w.heap.size+1<W.heap.size:=(eQ.1 hl).1;have Bo:∀ k,S k->k<W.heap.size:=λk e=>fG k ((dg k).2 (.inl e));have hy:=run_yield (P:=P) (args:=encs x) hl (by rw[eV]; exact gi x);rw[eV] at hy;refine⟨fn,_,assign,body,hy,roundIn_of_wpIn jt (wpIn_mono (Bu _ pre x S W ck hi Bo) ?_)⟩;intro e a1 Wa hq
   cases e with
   | normal=>
    obtain⟨S1,fR,aX,Cb,Bd⟩:=hq;have tT:¬ S1 w.heap.size:=λe=>by rcases aX _ e with e | e; exact hD e; omega
    have pI:¬ S1 (w.heap.size+1):=λe=>by rcases aX _ e with e | e; exact hL e; omega
    have tP:Wa.heap[w.heap.size+1]?=some (.loop (rec .ready none)):=(fR.keep _ aa hL).trans hl;have BQ:Wa.heap[w.heap.size]?=some (.deferred (some [])):=(fR.keep _ (by omega) hD).trans hk;have tS:w.heap.size+1<Wa.heap.size:=(eQ.1 tP).1;refine⟨_,run_beginRound tP (by rw[eV]),?_⟩;have hb:=By (w.heap.size+1) pre x S1 a1 (Wa.putObj (w.heap.size+1) (.loop { rec .ready none with state:=.busy })) ck (hA _ _ _ _ _ _ Bd (jB _ (by omega) pI)) (λk e=>by simpa using Cb k e);refine wpIn_mono hb ?_;have fin:∀ (jump:Option Code) (W3:World) (S3:Nat->Prop),RdStep S1 (Wa.putObj (w.heap.size+1) (.loop { rec .ready none with state:=.busy })) W3->(∀ k,S3 k->S1 k\/(Wa.putObj (w.heap.size+1) (.loop { rec .ready none with state:=.busy })).heap.size<=k)->(∀ k,S3 k->k<W3.heap.size)->
     (Instr.endRound (w.heap.size+1) jump).run P W3 = .ok (.bool jump.isNone) (W3.putObj (w.heap.size+1) (.loop (rec (if jump.isNone then .ready else .done) jump)))/\
     (W3.putObj (w.heap.size+1) (.loop (rec (if jump.isNone then .ready else .done) jump))).heap[w.heap.size+1]?=some (.loop (rec (if jump.isNone then .ready else .done) jump))/\
     (W3.putObj (w.heap.size+1) (.loop (rec (if jump.isNone then .ready else .done) jump))).heap[w.heap.size]?=some (.deferred (some []))/\
     ¬ S3 w.heap.size/\¬ S3 (w.heap.size+1)/\(∀ k,S3 k->S k\/W.heap.size<=k)/\
     RdStep Si W (W3.putObj (w.heap.size+1) (.loop (rec (if jump.isNone then .ready else .done) jump))):=λjump W3 S3 cX dC cY=>by
     have dm:(Wa.putObj (w.heap.size+1) (.loop { rec .ready none with state:=.busy })).heap[w.heap.size+1]?=some (.loop { rec .ready none with state:=.busy }):=World.putObj_heap_same tS;have kA:(Wa.putObj (w.heap.size+1) (.loop { rec .ready none with state:=.busy })).heap[w.heap.size]?=some (.deferred (some [])):=(zQ (by omega)).trans BQ;have nF:=(cX.keep _ (by simpa using tS) pI).trans dm;have mH:=(cX.keep _ (by simp; omega) tT).trans kA;have pG:=(eQ.1 nF).1
     have:=run_endRound (P:=P) jump nF
     rw[eV] at this |-;have lv:=cX.size;have so:=fR.size;simp only[World.putObj_size] at lv dC;refine⟨this,World.putObj_heap_same pG,(zQ (by omega)).trans mH,λe=>?_,λe=>?_,λk e=>?_,?_⟩
     ·rcases dC _ e with e | e; exact tT e; omega
     ·rcases dC _ e with e | e; exact pI e; omega
     ·rcases dC _ e with e | e
      ·exact aX _ e
      ·right; omega
     ·refine⟨cX.os.trans fR.os,cX.tape.trans fR.tape,cX.output.trans fR.output,by simp; omega,λk hk' tU=>?_⟩;have lX:k≠w.heap.size+1:=λe=>tU ((dg k).2 (.inr e));have tV:¬ S k:=λe=>tU ((dg k).2 (.inl e));have BW:¬ S1 k:=λe=>by rcases aX _ e with e | e; exact tV e; omega
      exact (zQ lX).trans ((cX.keep k (by simp; omega) BW).trans ((zQ lX).trans (fR.keep k hk' tV)))
    have fin2:∀ (S3:Nat->Prop) (W3:World) (o:Obj),(∀ k,S3 k->k<W3.heap.size)->W.heap.size<=W3.heap.size->(∀ k,S3 k->S k\/W.heap.size<=k)->
     (∀ k,(S3 k\/k=w.heap.size+1)->Si k\/W.heap.size<=k)/\(∀ k,(S3 k\/k=w.heap.size+1)->k<(W3.putObj (w.heap.size+1) o).heap.size):=λS3 W3 o h1 h2 h3=>
     ⟨λk e=>by rcases e with e | e; exact (h3 k e).imp (λe'=>(dg k).2 (.inl e')) id; exact .inl ((dg k).2 (.inr e)),λk e=>by
      simp only[World.putObj_size];rcases e with e | e
      ·exact h1 k e
      ·omega⟩
    have sub3:∀ (S3:Nat->Prop),(∀ k,S3 k->S k\/W.heap.size<=k)->∀ k,S3 k->S0 k\/w.heap.size<=k:=λS3 h k e=>by
     rcases h k e with e | e
     ·exact bD k e
     ·right; omega
    rintro e a3 W3 hp
    cases e with
    | normal=>
     obtain⟨S3,cX,dC,cY,ky⟩:=hp;obtain⟨hr,kB,j9,gO,fP,dR,bd⟩:=fin none W3 S3 cX dC cY;have am:W.heap.size<=W3.heap.size:=by simpa using bd.size
     refine⟨_,_,hr,λk=>S3 k\/k=w.heap.size+1,bd,(fin2 S3 W3 (.deferred none) cY am dR).1,(fin2 S3 W3 _ cY am dR).2,.inl ⟨rfl,S3,λ_=>Iff.rfl,gO,fP,sub3 S3 dR,hI _ _ _ _ ky (jB _ (by omega) fP),kB,j9⟩⟩
    | ret=>
     obtain⟨S3,cX,dC,cY,ky⟩:=hp;obtain⟨hr,kB,j9,gO,fP,dR,bd⟩:=fin (some .ret) W3 S3 cX dC cY;have am:W.heap.size<=W3.heap.size:=by simpa using bd.size
     refine⟨_,_,hr,λk=>S3 k\/k=w.heap.size+1,bd,(fin2 S3 W3 (.deferred none) cY am dR).1,(fin2 S3 W3 _ cY am dR).2,.inr ⟨rfl,S3,.ret,λ_=>Iff.rfl,gO,fP,sub3 S3 dR,iW _ _ _ _ _ ky (jB _ (by omega) fP),kB,j9⟩⟩
    | exit id=>
     obtain⟨S3,cX,dC,cY,ky⟩:=hp;obtain⟨hr,kB,j9,gO,fP,dR,bd⟩:=fin (some (.exit id)) W3 S3 cX dC cY;have am:W.heap.size<=W3.heap.size:=by simpa using bd.size
     refine⟨_,_,hr,λk=>S3 k\/k=w.heap.size+1,bd,(fin2 S3 W3 (.deferred none) cY am dR).1,(fin2 S3 W3 _ cY am dR).2,.inr ⟨rfl,S3,.exit id,λ_=>Iff.rfl,gO,fP,sub3 S3 dR,iW _ _ _ _ _ ky (jB _ (by omega) fP),kB,j9⟩⟩
    | goto t=>exact hp.elim
    | panic ch=>exact hp.elim
    | outgrown=>exact hp.elim
   | ret=>exact hq.elim
   | exit id=>exact hq.elim
   | goto t=>exact hq.elim
   | panic ch=>exact hq.elim
   | outgrown=>exact hq.elim
  ·rintro k (e | rfl)
   ·exact pt k e
   ·exact λh=>by have h1:=(cV.2 _ h).1; have h2:=cV.1; omega
  ·rintro k (e | rfl)
   ·have:=kw k e; omega
   ·omega
  ·exact⟨S0,λ_=>Iff.rfl,λe=>by have:=kw _ e; omega,λe=>by have:=kw _ e; omega,λ_ e=>.inl e,lS,g9,Bg⟩
theorem Lh{α:Type}{P:Program}{g:Operand}{ps:Array Tmp}{assign body:Code}{Q:Exit->Act->World->Prop}{a:Act}{w:World}
 {gf:FuncId} {first captured:Array Value} (hg:a.eval g = .func (.func gf) first captured) (eg:∀ args w,(callFunc gf args).run P w = .ok (.enter gf args) w)
 {mk:Value->Array Value} {encs:α->Array Value} {xs:List α} {Dr:Nat->Prop} {w0:World} (gh:∀ y,mk y=first ++ #[y]++captured)
 (hit:Ia P gf mk encs xs Dr w0) (cV:fL Dr w0 w) (gi:∀ x,(encs x).size=ps.size)
 (I:List α->(Nat->Prop)->World->Prop) (Ix:Code->List α->(Nat->Prop)->World->Prop)
 (hI:fE w.heap.size I) (iW:∀ c,fE w.heap.size (Ix c))
 (S0:Nat->Prop) (pt:∀ k,S0 k->¬ Dr k) (kw:∀ k,S0 k->k<w.heap.size) (h0:I [] S0 w)
 (Ca:∀ (l0:Nat) (pre:List α) (x:α) (S:Nat->Prop) (W:World),pre ++ [x] <+: xs->I pre S W->(∀ k,S k->k<W.heap.size)->
   assign.wpIn (Fence.wide.inRound l0) 0 P (Exit.then (λa₁ W₁=>∃ S',RdStep S W W₁/\(∀ k,S' k->S k\/W.heap.size<=k)/\(∀ k,S' k->k<W₁.heap.size)/\
    ∀ l W₂,ItStep w.heap.size S' W₁ W₂->body.wpIn (Fence.wide.inRound l) 0 P (nh I Ix (pre ++ [x]) S' W₂) a₁ W₂) (λ_ _ _=>False))
    { tmps:=(ps.zip (encs x)).foldl (λt (p,v)=>t.setIfInBounds p v) a.tmps,defers:=[] } W)
 (nA:∀ (D:Nat) (S:Nat->Prop) (W:World),w.heap.size<=D->¬ S D->(∀ k,S k->S0 k\/w.heap.size<=k)->I xs S W->W.heap[D]?=some (.deferred (some []))->
   Q .normal { a with defers:={ target:=.collected D,args:=#[] } :: a.defers } W)
 (gR:∀ (D:Nat) (c:Code) (pre:List α) (S:Nat->Prop) (W:World),w.heap.size<=D->¬ S D->(∀ k,S k->S0 k\/w.heap.size<=k)->pre <+: xs->Ix c pre S W->W.heap[D]?=some (.deferred (some []))->
   c.wpIn Fence.wide 0 P Q { a with defers:={ target:=.collected D,args:=#[] } :: a.defers } W) :
 (Code.rangeFunc g ps assign body).wpIn Fence.wide 0 P Q a w:=
 aPZ hg eg gh hit cV gi I Ix (λpre x S a₁ W=>∀ l W₂,ItStep w.heap.size S W W₂->body.wpIn (Fence.wide.inRound l) 0 P (nh I Ix (pre ++ [x]) S W₂) a₁ W₂)
  hI iW (λ_ _ _ _ _ _ h hs l W₂ h2=>h l W₂ (hs.trans h2)) S0 pt kw h0 Ca (λl _ _ _ _ W _ h _=>h l W (ItStep.refl _ _ _)) nA gR
end
end Go.Proofs.YtbfbobfbgabjiaaGreatDoor
